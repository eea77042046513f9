/- CompileReads, part 5 of its proof: declarations that the last part uses. -/
import Derived.Test.YtagbjlbohahcaaaGreatDoorR4
set_option maxHeartbeats 1000000
set_option maxRecDepth 4000
set_option linter.unusedSimpArgs false
set_option linter.unusedVariables false
set_option linter.unusedSectionVars false
namespace Go.Sx.Pe
open Go Go.Proofs Go.Sx.Pn
theorem anu:av Tryz.prog 119 (bC (fun a:bI×Nat=>[sH a.1,iA a.2]) (fun a=>acE a.1∧a.2<a.1.sgs.length) (fun a=>iP (aU a.1 a.2))):=by
 refine vF Tryz.func119 ?_
 rintro ⟨c,i⟩ hpre
 obtain ⟨hgd,hi⟩:=hpre
 have hgd:acE c:=hgd
 have hi:i<c.sgs.length:=hi
 have hs0:lu c:=hgd.1.1
 have h1:0≤c.act:=hs0.1.1
 have h6:c.act≤6:=hgd.1.2
 have h3:c.ins.length≤1000000:=hs0.2.1
 have h4:c.sgs.length≤1000000:=hs0.2.2
 have hlN:dG c=2*c.act+c.ins.length+c.sgs.length:=rfl
 have hsN:bW c=2*c.act+c.ins.length:=rfl
 refine iX (i) (c.sgs.length) ?_
 refine dR (.seq [0,1,3,2,4,5,6]) ?_
 refine cK (adU) (c) (by exact (ai rfl (ai (ai rfl (fun _ _=>rfl)) (ai (ai rfl (fun _ _=>rfl)) (ai (ai rfl (fun _ _=>rfl)) (ai rfl (fun _ _=>rfl))))))) (hs0) ?_
 refine ei _ (ai (ahs) (ei ((c,2*c.act.toNat+c.ins.length+i)) (ei [] (ai (a4 (ai (fun _=>Or.inl rfl) (ai nof (Or.inl rfl)))) (ai ?_ (ai (by exact trivial) (ai (arW hgd (by rw[hlN];omega)) ?_)))))))
 ·refine (ai (ai rfl (ai (ai rfl (fun _ _=>rfl)) (ai (ai rfl (fun _ _=>rfl)) (ai (ai rfl (fun _ _=>rfl)) (ai rfl (fun _ _=>rfl)))))) ?_)
  show IntKind.i64.wrap (bW c+(i:Int))=((2*c.act.toNat+c.ins.length+i:Nat):Int)
  rw[dF (by omega) (by omega),hsN];omega
 refine aW (p:=kZ c (2*c.act.toNat+c.ins.length+i)=0) (bn (by dsimp only;omega)) (fun n1=>?_) (fun n1=>?_)
 ·refine eN (iP (aU c i)) ?_
  rw[aU,if_pos n1]
  exact rfl
 have n1:¬¬kZ c (2*c.act.toNat+c.ins.length+i)=0:=fun h=>h n1
 refine ah (p:=(c.sgs.getD i ak).kd<0) (aA Iff.rfl) (fun g1=>?_) (fun g1=>?_)
 ·refine eN (iP (aU c i)) ?_
  rw[aU,if_neg n1,if_pos (.inl g1)]
  exact rfl
 refine ah (p:=3≤(c.sgs.getD i ak).kd) (fH Iff.rfl) (fun g2=>?_) (fun g2=>?_)
 ·refine eN (iP (aU c i)) ?_
  rw[aU,if_neg n1,if_pos (.inr g2)]
  exact rfl
 have n2:¬((c.sgs.getD i ak).kd<0∨3≤(c.sgs.getD i ak).kd):=fun h=>h.elim g1 g2
 refine dR (.seq [0,1,2,3,4,5]) ?_
 refine cK (ad4) (c) (by exact (ai rfl (ai (ai rfl (fun _ _=>rfl)) (ai (ai rfl (fun _ _=>rfl)) (ai (ai rfl (fun _ _=>rfl)) (ai rfl (fun _ _=>rfl))))))) (hs0) ?_
 refine cK (adL) (((c.sgs.getD i ak).on,dG c)) (by exact (ai (ai (iE (by simp only[zz,reduceCtorEq])) (ai (iE (by simp only[zz,reduceCtorEq])) (ai rfl (fun _ _=>rfl)))) rfl)) (trivial) ?_
 refine aW (p:=bg (c.sgs.getD i ak).on (dG c)=0) (bn (by dsimp only;omega)) (fun n3=>?_) (fun n3=>?_)
 ·refine eN (iP (aU c i)) ?_
  rw[aU,if_neg n1,if_neg n2,if_pos n3]
  exact rfl
 have n3:¬¬bg (c.sgs.getD i ak).on (dG c)=0:=fun h=>h n3
 refine dR (.seq [0,1,2,3,4,5,6,7]) ?_
 refine aC (b:=(c.sgs.getD i ak).kd==1) rfl (fun g3=>?_) (fun g3=>?_)
 ·have g3:(c.sgs.getD i ak).kd=1:=by simpa using g3
  refine dR (.seq [0,1,2,3,4,5]) ?_
  refine cK (ad4) (c) (by exact (ai rfl (ai (ai rfl (fun _ _=>rfl)) (ai (ai rfl (fun _ _=>rfl)) (ai (ai rfl (fun _ _=>rfl)) (ai rfl (fun _ _=>rfl))))))) (hs0) ?_
  refine cK (adL) (((c.sgs.getD i ak).off,dG c)) (by exact (ai (ai (iE (by simp only[zz,reduceCtorEq])) (ai (iE (by simp only[zz,reduceCtorEq])) (ai rfl (fun _ _=>rfl)))) rfl)) (trivial) ?_
  refine aW (p:=bg (c.sgs.getD i ak).off (dG c)=0) (bn (by dsimp only;omega)) (fun n4=>?_) (fun n4=>?_)
  ·refine eN (iP (aU c i)) ?_
   rw[aU,if_neg n1,if_neg n2,if_neg n3,if_pos ⟨g3,n4⟩]
   exact rfl
  have n4:¬((c.sgs.getD i ak).kd=1∧¬bg (c.sgs.getD i ak).off (dG c)=0):=fun h=>h.2 n4
  have hA:aU c i=if (c.sgs.getD i ak).kd=0∧rE c i=true then 9
   else if (c.sgs.getD i ak).kd=2∧((c.sgs.getD i ak).dl<1∨1000000<(c.sgs.getD i ak).dl) then 2
   else if (¬(c.sgs.getD i ak).kd=1∧(bM (c.sgs.getD i ak).off=false∨(c.sgs.getD i ak).ini=true))∨(¬(c.sgs.getD i ak).kd=2∧¬(c.sgs.getD i ak).dl=0) then 3 else 0:=by
   rw[aU,if_neg n1,if_neg n2,if_neg n3,if_neg n4]
  refine ah (p:=(c.sgs.getD i ak).kd=0) (by simp only[zz,reduceCtorEq]) (fun g5=>?_) (fun g5=>?_)
  ·refine cK (ajU) ((c,i)) (by exact (ai (ai rfl (ai (ai rfl (fun _ _=>rfl)) (ai (ai rfl (fun _ _=>rfl)) (ai (ai rfl (fun _ _=>rfl)) (ai rfl (fun _ _=>rfl)))))) rfl)) (⟨hgd.1,hgd.2.1,hi⟩) ?_
   refine aC (b:=rE c i) rfl (fun g6=>?_) (fun g6=>?_)
   ·refine eN (iP (aU c i)) ?_
    rw[hA,if_pos ⟨g5,g6⟩]
    exact rfl
   have n5:¬((c.sgs.getD i ak).kd=0∧rE c i=true):=fun h=>by rw[g6] at h;cases h.2
   refine aC (b:=(c.sgs.getD i ak).kd==2) rfl (fun g7=>?_) (fun g7=>?_)
   ·have g7:(c.sgs.getD i ak).kd=2:=by simpa using g7
    refine bL ((c.sgs.getD i ak).dl<1) (fun g8=>?_) fun g8=>?_
    ·refine eN (iP (aU c i)) ?_
     rw[hA,if_neg n5,if_pos ⟨g7,.inl g8⟩]
     exact rfl
    refine bL (1000000<(c.sgs.getD i ak).dl) (fun g9=>?_) fun g9=>?_
    ·refine eN (iP (aU c i)) ?_
     rw[hA,if_neg n5,if_pos ⟨g7,.inr g9⟩]
     exact rfl
    have n6:¬((c.sgs.getD i ak).kd=2∧((c.sgs.getD i ak).dl<1∨1000000<(c.sgs.getD i ak).dl)):=fun h=>h.2.elim g8 g9
    refine aC (b:=!((c.sgs.getD i ak).kd==1)) rfl (fun g10=>?_) (fun g10=>?_)
    ·have k1:¬(c.sgs.getD i ak).kd=1:=by simpa using g10
     refine cK (rA) ((c.sgs.getD i ak).off) (by exact (ai (iE (by simp only[zz,reduceCtorEq])) (ai (iE (by simp only[zz,reduceCtorEq])) (ai rfl (fun _ _=>rfl))))) (trivial) ?_
     refine aC (b:=!bM (c.sgs.getD i ak).off) rfl (fun g11=>?_) (fun g11=>?_)
     ·have g11:bM (c.sgs.getD i ak).off=false:=by simpa using g11
      refine eN (iP (aU c i)) ?_
      rw[hA,if_neg n5,if_neg n6,if_pos (.inl ⟨k1,.inl g11⟩)]
      exact rfl
     have g11:bM (c.sgs.getD i ak).off=true:=by simpa using g11
     refine aC (b:=(c.sgs.getD i ak).ini) rfl (fun g12=>?_) (fun g12=>?_)
     ·refine eN (iP (aU c i)) ?_
      rw[hA,if_neg n5,if_neg n6,if_pos (.inl ⟨k1,.inr g12⟩)]
      exact rfl
     have m7:¬(¬(c.sgs.getD i ak).kd=1∧(bM (c.sgs.getD i ak).off=false∨(c.sgs.getD i ak).ini=true)):=fun h=>h.2.elim (fun e=>by rw[g11] at e;cases e) (fun e=>by rw[g12] at e;cases e)
     refine aC (b:=!((c.sgs.getD i ak).kd==2)) rfl (fun g13=>?_) (fun g13=>?_)
     ·have g13:¬(c.sgs.getD i ak).kd=2:=by simpa using g13
      refine bN ((c.sgs.getD i ak).dl=0) (fun g14=>?_) fun g14=>?_
      ·refine eN (iP (aU c i)) ?_
       rw[hA,if_neg n5,if_neg n6,if_pos (.inr ⟨g13,g14⟩)]
       exact rfl
      ·refine eN (iP (aU c i)) ?_
       rw[hA,if_neg n5,if_neg n6,if_neg (fun h=>h.elim m7 fun h=>h.2 g14)]
       exact rfl
     ·have g13:(c.sgs.getD i ak).kd=2:=by simpa using g13
      refine eN (iP (aU c i)) ?_
      rw[hA,if_neg n5,if_neg n6,if_neg (fun h=>h.elim m7 fun h=>h.1 g13)]
      exact rfl
    ·have k1:(c.sgs.getD i ak).kd=1:=by simpa using g10
     have m7:¬(¬(c.sgs.getD i ak).kd=1∧(bM (c.sgs.getD i ak).off=false∨(c.sgs.getD i ak).ini=true)):=fun h=>h.1 k1
     refine aC (b:=!((c.sgs.getD i ak).kd==2)) rfl (fun g13=>?_) (fun g13=>?_)
     ·have g13:¬(c.sgs.getD i ak).kd=2:=by simpa using g13
      refine bN ((c.sgs.getD i ak).dl=0) (fun g14=>?_) fun g14=>?_
      ·refine eN (iP (aU c i)) ?_
       rw[hA,if_neg n5,if_neg n6,if_pos (.inr ⟨g13,g14⟩)]
       exact rfl
      ·refine eN (iP (aU c i)) ?_
       rw[hA,if_neg n5,if_neg n6,if_neg (fun h=>h.elim m7 fun h=>h.2 g14)]
       exact rfl
     ·have g13:(c.sgs.getD i ak).kd=2:=by simpa using g13
      refine eN (iP (aU c i)) ?_
      rw[hA,if_neg n5,if_neg n6,if_neg (fun h=>h.elim m7 fun h=>h.1 g13)]
      exact rfl
   ·have n6:¬((c.sgs.getD i ak).kd=2∧((c.sgs.getD i ak).dl<1∨1000000<(c.sgs.getD i ak).dl)):=fun h=>by rw[h.1] at g7;cases g7
    refine aC (b:=!((c.sgs.getD i ak).kd==1)) rfl (fun g10=>?_) (fun g10=>?_)
    ·have k1:¬(c.sgs.getD i ak).kd=1:=by simpa using g10
     refine cK (rA) ((c.sgs.getD i ak).off) (by exact (ai (iE (by simp only[zz,reduceCtorEq])) (ai (iE (by simp only[zz,reduceCtorEq])) (ai rfl (fun _ _=>rfl))))) (trivial) ?_
     refine aC (b:=!bM (c.sgs.getD i ak).off) rfl (fun g11=>?_) (fun g11=>?_)
     ·have g11:bM (c.sgs.getD i ak).off=false:=by simpa using g11
      refine eN (iP (aU c i)) ?_
      rw[hA,if_neg n5,if_neg n6,if_pos (.inl ⟨k1,.inl g11⟩)]
      exact rfl
     have g11:bM (c.sgs.getD i ak).off=true:=by simpa using g11
     refine aC (b:=(c.sgs.getD i ak).ini) rfl (fun g12=>?_) (fun g12=>?_)
     ·refine eN (iP (aU c i)) ?_
      rw[hA,if_neg n5,if_neg n6,if_pos (.inl ⟨k1,.inr g12⟩)]
      exact rfl
     have m7:¬(¬(c.sgs.getD i ak).kd=1∧(bM (c.sgs.getD i ak).off=false∨(c.sgs.getD i ak).ini=true)):=fun h=>h.2.elim (fun e=>by rw[g11] at e;cases e) (fun e=>by rw[g12] at e;cases e)
     refine aC (b:=!((c.sgs.getD i ak).kd==2)) rfl (fun g13=>?_) (fun g13=>?_)
     ·have g13:¬(c.sgs.getD i ak).kd=2:=by simpa using g13
      refine bN ((c.sgs.getD i ak).dl=0) (fun g14=>?_) fun g14=>?_
      ·refine eN (iP (aU c i)) ?_
       rw[hA,if_neg n5,if_neg n6,if_pos (.inr ⟨g13,g14⟩)]
       exact rfl
      ·refine eN (iP (aU c i)) ?_
       rw[hA,if_neg n5,if_neg n6,if_neg (fun h=>h.elim m7 fun h=>h.2 g14)]
       exact rfl
     ·have g13:(c.sgs.getD i ak).kd=2:=by simpa using g13
      refine eN (iP (aU c i)) ?_
      rw[hA,if_neg n5,if_neg n6,if_neg (fun h=>h.elim m7 fun h=>h.1 g13)]
      exact rfl
    ·have k1:(c.sgs.getD i ak).kd=1:=by simpa using g10
     have m7:¬(¬(c.sgs.getD i ak).kd=1∧(bM (c.sgs.getD i ak).off=false∨(c.sgs.getD i ak).ini=true)):=fun h=>h.1 k1
     refine aC (b:=!((c.sgs.getD i ak).kd==2)) rfl (fun g13=>?_) (fun g13=>?_)
     ·have g13:¬(c.sgs.getD i ak).kd=2:=by simpa using g13
      refine bN ((c.sgs.getD i ak).dl=0) (fun g14=>?_) fun g14=>?_
      ·refine eN (iP (aU c i)) ?_
       rw[hA,if_neg n5,if_neg n6,if_pos (.inr ⟨g13,g14⟩)]
       exact rfl
      ·refine eN (iP (aU c i)) ?_
       rw[hA,if_neg n5,if_neg n6,if_neg (fun h=>h.elim m7 fun h=>h.2 g14)]
       exact rfl
     ·have g13:(c.sgs.getD i ak).kd=2:=by simpa using g13
      refine eN (iP (aU c i)) ?_
      rw[hA,if_neg n5,if_neg n6,if_neg (fun h=>h.elim m7 fun h=>h.1 g13)]
      exact rfl
  ·have n5:¬((c.sgs.getD i ak).kd=0∧rE c i=true):=fun h=>g5 h.1
   refine aC (b:=(c.sgs.getD i ak).kd==2) rfl (fun g7=>?_) (fun g7=>?_)
   ·have g7:(c.sgs.getD i ak).kd=2:=by simpa using g7
    refine bL ((c.sgs.getD i ak).dl<1) (fun g8=>?_) fun g8=>?_
    ·refine eN (iP (aU c i)) ?_
     rw[hA,if_neg n5,if_pos ⟨g7,.inl g8⟩]
     exact rfl
    refine bL (1000000<(c.sgs.getD i ak).dl) (fun g9=>?_) fun g9=>?_
    ·refine eN (iP (aU c i)) ?_
     rw[hA,if_neg n5,if_pos ⟨g7,.inr g9⟩]
     exact rfl
    have n6:¬((c.sgs.getD i ak).kd=2∧((c.sgs.getD i ak).dl<1∨1000000<(c.sgs.getD i ak).dl)):=fun h=>h.2.elim g8 g9
    refine aC (b:=!((c.sgs.getD i ak).kd==1)) rfl (fun g10=>?_) (fun g10=>?_)
    ·have k1:¬(c.sgs.getD i ak).kd=1:=by simpa using g10
     refine cK (rA) ((c.sgs.getD i ak).off) (by exact (ai (iE (by simp only[zz,reduceCtorEq])) (ai (iE (by simp only[zz,reduceCtorEq])) (ai rfl (fun _ _=>rfl))))) (trivial) ?_
     refine aC (b:=!bM (c.sgs.getD i ak).off) rfl (fun g11=>?_) (fun g11=>?_)
     ·have g11:bM (c.sgs.getD i ak).off=false:=by simpa using g11
      refine eN (iP (aU c i)) ?_
      rw[hA,if_neg n5,if_neg n6,if_pos (.inl ⟨k1,.inl g11⟩)]
      exact rfl
     have g11:bM (c.sgs.getD i ak).off=true:=by simpa using g11
     refine aC (b:=(c.sgs.getD i ak).ini) rfl (fun g12=>?_) (fun g12=>?_)
     ·refine eN (iP (aU c i)) ?_
      rw[hA,if_neg n5,if_neg n6,if_pos (.inl ⟨k1,.inr g12⟩)]
      exact rfl
     have m7:¬(¬(c.sgs.getD i ak).kd=1∧(bM (c.sgs.getD i ak).off=false∨(c.sgs.getD i ak).ini=true)):=fun h=>h.2.elim (fun e=>by rw[g11] at e;cases e) (fun e=>by rw[g12] at e;cases e)
     refine aC (b:=!((c.sgs.getD i ak).kd==2)) rfl (fun g13=>?_) (fun g13=>?_)
     ·have g13:¬(c.sgs.getD i ak).kd=2:=by simpa using g13
      refine bN ((c.sgs.getD i ak).dl=0) (fun g14=>?_) fun g14=>?_
      ·refine eN (iP (aU c i)) ?_
       rw[hA,if_neg n5,if_neg n6,if_pos (.inr ⟨g13,g14⟩)]
       exact rfl
      ·refine eN (iP (aU c i)) ?_
       rw[hA,if_neg n5,if_neg n6,if_neg (fun h=>h.elim m7 fun h=>h.2 g14)]
       exact rfl
     ·have g13:(c.sgs.getD i ak).kd=2:=by simpa using g13
      refine eN (iP (aU c i)) ?_
      rw[hA,if_neg n5,if_neg n6,if_neg (fun h=>h.elim m7 fun h=>h.1 g13)]
      exact rfl
    ·have k1:(c.sgs.getD i ak).kd=1:=by simpa using g10
     have m7:¬(¬(c.sgs.getD i ak).kd=1∧(bM (c.sgs.getD i ak).off=false∨(c.sgs.getD i ak).ini=true)):=fun h=>h.1 k1
     refine aC (b:=!((c.sgs.getD i ak).kd==2)) rfl (fun g13=>?_) (fun g13=>?_)
     ·have g13:¬(c.sgs.getD i ak).kd=2:=by simpa using g13
      refine bN ((c.sgs.getD i ak).dl=0) (fun g14=>?_) fun g14=>?_
      ·refine eN (iP (aU c i)) ?_
       rw[hA,if_neg n5,if_neg n6,if_pos (.inr ⟨g13,g14⟩)]
       exact rfl
      ·refine eN (iP (aU c i)) ?_
       rw[hA,if_neg n5,if_neg n6,if_neg (fun h=>h.elim m7 fun h=>h.2 g14)]
       exact rfl
     ·have g13:(c.sgs.getD i ak).kd=2:=by simpa using g13
      refine eN (iP (aU c i)) ?_
      rw[hA,if_neg n5,if_neg n6,if_neg (fun h=>h.elim m7 fun h=>h.1 g13)]
      exact rfl
   ·have n6:¬((c.sgs.getD i ak).kd=2∧((c.sgs.getD i ak).dl<1∨1000000<(c.sgs.getD i ak).dl)):=fun h=>by rw[h.1] at g7;cases g7
    refine aC (b:=!((c.sgs.getD i ak).kd==1)) rfl (fun g10=>?_) (fun g10=>?_)
    ·have k1:¬(c.sgs.getD i ak).kd=1:=by simpa using g10
     refine cK (rA) ((c.sgs.getD i ak).off) (by exact (ai (iE (by simp only[zz,reduceCtorEq])) (ai (iE (by simp only[zz,reduceCtorEq])) (ai rfl (fun _ _=>rfl))))) (trivial) ?_
     refine aC (b:=!bM (c.sgs.getD i ak).off) rfl (fun g11=>?_) (fun g11=>?_)
     ·have g11:bM (c.sgs.getD i ak).off=false:=by simpa using g11
      refine eN (iP (aU c i)) ?_
      rw[hA,if_neg n5,if_neg n6,if_pos (.inl ⟨k1,.inl g11⟩)]
      exact rfl
     have g11:bM (c.sgs.getD i ak).off=true:=by simpa using g11
     refine aC (b:=(c.sgs.getD i ak).ini) rfl (fun g12=>?_) (fun g12=>?_)
     ·refine eN (iP (aU c i)) ?_
      rw[hA,if_neg n5,if_neg n6,if_pos (.inl ⟨k1,.inr g12⟩)]
      exact rfl
     have m7:¬(¬(c.sgs.getD i ak).kd=1∧(bM (c.sgs.getD i ak).off=false∨(c.sgs.getD i ak).ini=true)):=fun h=>h.2.elim (fun e=>by rw[g11] at e;cases e) (fun e=>by rw[g12] at e;cases e)
     refine aC (b:=!((c.sgs.getD i ak).kd==2)) rfl (fun g13=>?_) (fun g13=>?_)
     ·have g13:¬(c.sgs.getD i ak).kd=2:=by simpa using g13
      refine bN ((c.sgs.getD i ak).dl=0) (fun g14=>?_) fun g14=>?_
      ·refine eN (iP (aU c i)) ?_
       rw[hA,if_neg n5,if_neg n6,if_pos (.inr ⟨g13,g14⟩)]
       exact rfl
      ·refine eN (iP (aU c i)) ?_
       rw[hA,if_neg n5,if_neg n6,if_neg (fun h=>h.elim m7 fun h=>h.2 g14)]
       exact rfl
     ·have g13:(c.sgs.getD i ak).kd=2:=by simpa using g13
      refine eN (iP (aU c i)) ?_
      rw[hA,if_neg n5,if_neg n6,if_neg (fun h=>h.elim m7 fun h=>h.1 g13)]
      exact rfl
    ·have k1:(c.sgs.getD i ak).kd=1:=by simpa using g10
     have m7:¬(¬(c.sgs.getD i ak).kd=1∧(bM (c.sgs.getD i ak).off=false∨(c.sgs.getD i ak).ini=true)):=fun h=>h.1 k1
     refine aC (b:=!((c.sgs.getD i ak).kd==2)) rfl (fun g13=>?_) (fun g13=>?_)
     ·have g13:¬(c.sgs.getD i ak).kd=2:=by simpa using g13
      refine aW (p:=(c.sgs.getD i ak).dl=0) (by simp only[zz,reduceCtorEq]) (fun g14=>?_) (fun g14=>?_)
      ·refine eN (iP (aU c i)) ?_
       rw[hA,if_neg n5,if_neg n6,if_pos (.inr ⟨g13,g14⟩)]
       exact rfl
      ·refine eN (iP (aU c i)) ?_
       rw[hA,if_neg n5,if_neg n6,if_neg (fun h=>h.elim m7 fun h=>h.2 g14)]
       exact rfl
     ·have g13:(c.sgs.getD i ak).kd=2:=by simpa using g13
      refine eN (iP (aU c i)) ?_
      rw[hA,if_neg n5,if_neg n6,if_neg (fun h=>h.elim m7 fun h=>h.1 g13)]
      exact rfl
 ·have n4:¬((c.sgs.getD i ak).kd=1∧¬bg (c.sgs.getD i ak).off (dG c)=0):=fun h=>by rw[h.1] at g3;cases g3
  have hA:aU c i=if (c.sgs.getD i ak).kd=0∧rE c i=true then 9
   else if (c.sgs.getD i ak).kd=2∧((c.sgs.getD i ak).dl<1∨1000000<(c.sgs.getD i ak).dl) then 2
   else if (¬(c.sgs.getD i ak).kd=1∧(bM (c.sgs.getD i ak).off=false∨(c.sgs.getD i ak).ini=true))∨(¬(c.sgs.getD i ak).kd=2∧¬(c.sgs.getD i ak).dl=0) then 3 else 0:=by
   rw[aU,if_neg n1,if_neg n2,if_neg n3,if_neg n4]
  refine ah (p:=(c.sgs.getD i ak).kd=0) (by simp only[zz,reduceCtorEq]) (fun g5=>?_) (fun g5=>?_)
  ·refine cK (ajU) ((c,i)) (by exact (ai (ai rfl (ai (ai rfl (fun _ _=>rfl)) (ai (ai rfl (fun _ _=>rfl)) (ai (ai rfl (fun _ _=>rfl)) (ai rfl (fun _ _=>rfl)))))) rfl)) (⟨hgd.1,hgd.2.1,hi⟩) ?_
   refine aC (b:=rE c i) rfl (fun g6=>?_) (fun g6=>?_)
   ·refine eN (iP (aU c i)) ?_
    rw[hA,if_pos ⟨g5,g6⟩]
    exact rfl
   have n5:¬((c.sgs.getD i ak).kd=0∧rE c i=true):=fun h=>by rw[g6] at h;cases h.2
   refine aC (b:=(c.sgs.getD i ak).kd==2) rfl (fun g7=>?_) (fun g7=>?_)
   ·have g7:(c.sgs.getD i ak).kd=2:=by simpa using g7
    refine bL ((c.sgs.getD i ak).dl<1) (fun g8=>?_) fun g8=>?_
    ·refine eN (iP (aU c i)) ?_
     rw[hA,if_neg n5,if_pos ⟨g7,.inl g8⟩]
     exact rfl
    refine bL (1000000<(c.sgs.getD i ak).dl) (fun g9=>?_) fun g9=>?_
    ·refine eN (iP (aU c i)) ?_
     rw[hA,if_neg n5,if_pos ⟨g7,.inr g9⟩]
     exact rfl
    have n6:¬((c.sgs.getD i ak).kd=2∧((c.sgs.getD i ak).dl<1∨1000000<(c.sgs.getD i ak).dl)):=fun h=>h.2.elim g8 g9
    refine aC (b:=!((c.sgs.getD i ak).kd==1)) rfl (fun g10=>?_) (fun g10=>?_)
    ·have k1:¬(c.sgs.getD i ak).kd=1:=by simpa using g10
     refine cK (rA) ((c.sgs.getD i ak).off) (by exact (ai (iE (by simp only[zz,reduceCtorEq])) (ai (iE (by simp only[zz,reduceCtorEq])) (ai rfl (fun _ _=>rfl))))) (trivial) ?_
     refine aC (b:=!bM (c.sgs.getD i ak).off) rfl (fun g11=>?_) (fun g11=>?_)
     ·have g11:bM (c.sgs.getD i ak).off=false:=by simpa using g11
      refine eN (iP (aU c i)) ?_
      rw[hA,if_neg n5,if_neg n6,if_pos (.inl ⟨k1,.inl g11⟩)]
      exact rfl
     have g11:bM (c.sgs.getD i ak).off=true:=by simpa using g11
     refine aC (b:=(c.sgs.getD i ak).ini) rfl (fun g12=>?_) (fun g12=>?_)
     ·refine eN (iP (aU c i)) ?_
      rw[hA,if_neg n5,if_neg n6,if_pos (.inl ⟨k1,.inr g12⟩)]
      exact rfl
     have m7:¬(¬(c.sgs.getD i ak).kd=1∧(bM (c.sgs.getD i ak).off=false∨(c.sgs.getD i ak).ini=true)):=fun h=>h.2.elim (fun e=>by rw[g11] at e;cases e) (fun e=>by rw[g12] at e;cases e)
     refine aC (b:=!((c.sgs.getD i ak).kd==2)) rfl (fun g13=>?_) (fun g13=>?_)
     ·have g13:¬(c.sgs.getD i ak).kd=2:=by simpa using g13
      refine bN ((c.sgs.getD i ak).dl=0) (fun g14=>?_) fun g14=>?_
      ·refine eN (iP (aU c i)) ?_
       rw[hA,if_neg n5,if_neg n6,if_pos (.inr ⟨g13,g14⟩)]
       exact rfl
      ·refine eN (iP (aU c i)) ?_
       rw[hA,if_neg n5,if_neg n6,if_neg (fun h=>h.elim m7 fun h=>h.2 g14)]
       exact rfl
     ·have g13:(c.sgs.getD i ak).kd=2:=by simpa using g13
      refine eN (iP (aU c i)) ?_
      rw[hA,if_neg n5,if_neg n6,if_neg (fun h=>h.elim m7 fun h=>h.1 g13)]
      exact rfl
    ·have k1:(c.sgs.getD i ak).kd=1:=by simpa using g10
     have m7:¬(¬(c.sgs.getD i ak).kd=1∧(bM (c.sgs.getD i ak).off=false∨(c.sgs.getD i ak).ini=true)):=fun h=>h.1 k1
     refine aC (b:=!((c.sgs.getD i ak).kd==2)) rfl (fun g13=>?_) (fun g13=>?_)
     ·have g13:¬(c.sgs.getD i ak).kd=2:=by simpa using g13
      refine bN ((c.sgs.getD i ak).dl=0) (fun g14=>?_) fun g14=>?_
      ·refine eN (iP (aU c i)) ?_
       rw[hA,if_neg n5,if_neg n6,if_pos (.inr ⟨g13,g14⟩)]
       exact rfl
      ·refine eN (iP (aU c i)) ?_
       rw[hA,if_neg n5,if_neg n6,if_neg (fun h=>h.elim m7 fun h=>h.2 g14)]
       exact rfl
     ·have g13:(c.sgs.getD i ak).kd=2:=by simpa using g13
      refine eN (iP (aU c i)) ?_
      rw[hA,if_neg n5,if_neg n6,if_neg (fun h=>h.elim m7 fun h=>h.1 g13)]
      exact rfl
   ·have n6:¬((c.sgs.getD i ak).kd=2∧((c.sgs.getD i ak).dl<1∨1000000<(c.sgs.getD i ak).dl)):=fun h=>by rw[h.1] at g7;cases g7
    refine aC (b:=!((c.sgs.getD i ak).kd==1)) rfl (fun g10=>?_) (fun g10=>?_)
    ·have k1:¬(c.sgs.getD i ak).kd=1:=by simpa using g10
     refine cK (rA) ((c.sgs.getD i ak).off) (by exact (ai (iE (by simp only[zz,reduceCtorEq])) (ai (iE (by simp only[zz,reduceCtorEq])) (ai rfl (fun _ _=>rfl))))) (trivial) ?_
     refine aC (b:=!bM (c.sgs.getD i ak).off) rfl (fun g11=>?_) (fun g11=>?_)
     ·have g11:bM (c.sgs.getD i ak).off=false:=by simpa using g11
      refine eN (iP (aU c i)) ?_
      rw[hA,if_neg n5,if_neg n6,if_pos (.inl ⟨k1,.inl g11⟩)]
      exact rfl
     have g11:bM (c.sgs.getD i ak).off=true:=by simpa using g11
     refine aC (b:=(c.sgs.getD i ak).ini) rfl (fun g12=>?_) (fun g12=>?_)
     ·refine eN (iP (aU c i)) ?_
      rw[hA,if_neg n5,if_neg n6,if_pos (.inl ⟨k1,.inr g12⟩)]
      exact rfl
     have m7:¬(¬(c.sgs.getD i ak).kd=1∧(bM (c.sgs.getD i ak).off=false∨(c.sgs.getD i ak).ini=true)):=fun h=>h.2.elim (fun e=>by rw[g11] at e;cases e) (fun e=>by rw[g12] at e;cases e)
     refine aC (b:=!((c.sgs.getD i ak).kd==2)) rfl (fun g13=>?_) (fun g13=>?_)
     ·have g13:¬(c.sgs.getD i ak).kd=2:=by simpa using g13
      refine aW (p:=(c.sgs.getD i ak).dl=0) (by simp only[zz,reduceCtorEq]) (fun g14=>?_) (fun g14=>?_)
      ·refine eN (iP (aU c i)) ?_
       rw[hA,if_neg n5,if_neg n6,if_pos (.inr ⟨g13,g14⟩)]
       exact rfl
      ·refine eN (iP (aU c i)) ?_
       rw[hA,if_neg n5,if_neg n6,if_neg (fun h=>h.elim m7 fun h=>h.2 g14)]
       exact rfl
     ·have g13:(c.sgs.getD i ak).kd=2:=by simpa using g13
      refine eN (iP (aU c i)) ?_
      rw[hA,if_neg n5,if_neg n6,if_neg (fun h=>h.elim m7 fun h=>h.1 g13)]
      exact rfl
    ·have k1:(c.sgs.getD i ak).kd=1:=by simpa using g10
     have m7:¬(¬(c.sgs.getD i ak).kd=1∧(bM (c.sgs.getD i ak).off=false∨(c.sgs.getD i ak).ini=true)):=fun h=>h.1 k1
     refine aC (b:=!((c.sgs.getD i ak).kd==2)) rfl (fun g13=>?_) (fun g13=>?_)
     ·have g13:¬(c.sgs.getD i ak).kd=2:=by simpa using g13
      refine bN ((c.sgs.getD i ak).dl=0) (fun g14=>?_) fun g14=>?_
      ·refine eN (iP (aU c i)) ?_
       rw[hA,if_neg n5,if_neg n6,if_pos (.inr ⟨g13,g14⟩)]
       exact rfl
      ·refine eN (iP (aU c i)) ?_
       rw[hA,if_neg n5,if_neg n6,if_neg (fun h=>h.elim m7 fun h=>h.2 g14)]
       exact rfl
     ·have g13:(c.sgs.getD i ak).kd=2:=by simpa using g13
      refine eN (iP (aU c i)) ?_
      rw[hA,if_neg n5,if_neg n6,if_neg (fun h=>h.elim m7 fun h=>h.1 g13)]
      exact rfl
  ·have n5:¬((c.sgs.getD i ak).kd=0∧rE c i=true):=fun h=>g5 h.1
   refine aC (b:=(c.sgs.getD i ak).kd==2) rfl (fun g7=>?_) (fun g7=>?_)
   ·have g7:(c.sgs.getD i ak).kd=2:=by simpa using g7
    refine ah (p:=(c.sgs.getD i ak).dl<1) (aA Iff.rfl) (fun g8=>?_) (fun g8=>?_)
    ·refine eN (iP (aU c i)) ?_
     rw[hA,if_neg n5,if_pos ⟨g7,.inl g8⟩]
     exact rfl
    refine ah (p:=1000000<(c.sgs.getD i ak).dl) (aA Iff.rfl) (fun g9=>?_) (fun g9=>?_)
    ·refine eN (iP (aU c i)) ?_
     rw[hA,if_neg n5,if_pos ⟨g7,.inr g9⟩]
     exact rfl
    have n6:¬((c.sgs.getD i ak).kd=2∧((c.sgs.getD i ak).dl<1∨1000000<(c.sgs.getD i ak).dl)):=fun h=>h.2.elim g8 g9
    refine aC (b:=!((c.sgs.getD i ak).kd==1)) rfl (fun g10=>?_) (fun g10=>?_)
    ·have k1:¬(c.sgs.getD i ak).kd=1:=by simpa using g10
     refine cK (rA) ((c.sgs.getD i ak).off) (by exact (ai (iE (by simp only[zz,reduceCtorEq])) (ai (iE (by simp only[zz,reduceCtorEq])) (ai rfl (fun _ _=>rfl))))) (trivial) ?_
     refine aC (b:=!bM (c.sgs.getD i ak).off) rfl (fun g11=>?_) (fun g11=>?_)
     ·have g11:bM (c.sgs.getD i ak).off=false:=by simpa using g11
      refine eN (iP (aU c i)) ?_
      rw[hA,if_neg n5,if_neg n6,if_pos (.inl ⟨k1,.inl g11⟩)]
      exact rfl
     have g11:bM (c.sgs.getD i ak).off=true:=by simpa using g11
     refine aC (b:=(c.sgs.getD i ak).ini) rfl (fun g12=>?_) (fun g12=>?_)
     ·refine eN (iP (aU c i)) ?_
      rw[hA,if_neg n5,if_neg n6,if_pos (.inl ⟨k1,.inr g12⟩)]
      exact rfl
     have m7:¬(¬(c.sgs.getD i ak).kd=1∧(bM (c.sgs.getD i ak).off=false∨(c.sgs.getD i ak).ini=true)):=fun h=>h.2.elim (fun e=>by rw[g11] at e;cases e) (fun e=>by rw[g12] at e;cases e)
     refine aC (b:=!((c.sgs.getD i ak).kd==2)) rfl (fun g13=>?_) (fun g13=>?_)
     ·have g13:¬(c.sgs.getD i ak).kd=2:=by simpa using g13
      refine bN ((c.sgs.getD i ak).dl=0) (fun g14=>?_) fun g14=>?_
      ·refine eN (iP (aU c i)) ?_
       rw[hA,if_neg n5,if_neg n6,if_pos (.inr ⟨g13,g14⟩)]
       exact rfl
      ·refine eN (iP (aU c i)) ?_
       rw[hA,if_neg n5,if_neg n6,if_neg (fun h=>h.elim m7 fun h=>h.2 g14)]
       exact rfl
     ·have g13:(c.sgs.getD i ak).kd=2:=by simpa using g13
      refine eN (iP (aU c i)) ?_
      rw[hA,if_neg n5,if_neg n6,if_neg (fun h=>h.elim m7 fun h=>h.1 g13)]
      exact rfl
    ·have k1:(c.sgs.getD i ak).kd=1:=by simpa using g10
     have m7:¬(¬(c.sgs.getD i ak).kd=1∧(bM (c.sgs.getD i ak).off=false∨(c.sgs.getD i ak).ini=true)):=fun h=>h.1 k1
     refine aC (b:=!((c.sgs.getD i ak).kd==2)) rfl (fun g13=>?_) (fun g13=>?_)
     ·have g13:¬(c.sgs.getD i ak).kd=2:=by simpa using g13
      refine bN ((c.sgs.getD i ak).dl=0) (fun g14=>?_) fun g14=>?_
      ·refine eN (iP (aU c i)) ?_
       rw[hA,if_neg n5,if_neg n6,if_pos (.inr ⟨g13,g14⟩)]
       exact rfl
      ·refine eN (iP (aU c i)) ?_
       rw[hA,if_neg n5,if_neg n6,if_neg (fun h=>h.elim m7 fun h=>h.2 g14)]
       exact rfl
     ·have g13:(c.sgs.getD i ak).kd=2:=by simpa using g13
      refine eN (iP (aU c i)) ?_
      rw[hA,if_neg n5,if_neg n6,if_neg (fun h=>h.elim m7 fun h=>h.1 g13)]
      exact rfl
   ·have n6:¬((c.sgs.getD i ak).kd=2∧((c.sgs.getD i ak).dl<1∨1000000<(c.sgs.getD i ak).dl)):=fun h=>by rw[h.1] at g7;cases g7
    refine aC (b:=!((c.sgs.getD i ak).kd==1)) rfl (fun g10=>?_) (fun g10=>?_)
    ·have k1:¬(c.sgs.getD i ak).kd=1:=by simpa using g10
     refine cK (rA) ((c.sgs.getD i ak).off) (by exact (ai (iE (by simp only[zz,reduceCtorEq])) (ai (iE (by simp only[zz,reduceCtorEq])) (ai rfl (fun _ _=>rfl))))) (trivial) ?_
     refine aC (b:=!bM (c.sgs.getD i ak).off) rfl (fun g11=>?_) (fun g11=>?_)
     ·have g11:bM (c.sgs.getD i ak).off=false:=by simpa using g11
      refine eN (iP (aU c i)) ?_
      rw[hA,if_neg n5,if_neg n6,if_pos (.inl ⟨k1,.inl g11⟩)]
      exact rfl
     have g11:bM (c.sgs.getD i ak).off=true:=by simpa using g11
     refine aC (b:=(c.sgs.getD i ak).ini) rfl (fun g12=>?_) (fun g12=>?_)
     ·refine eN (iP (aU c i)) ?_
      rw[hA,if_neg n5,if_neg n6,if_pos (.inl ⟨k1,.inr g12⟩)]
      exact rfl
     have m7:¬(¬(c.sgs.getD i ak).kd=1∧(bM (c.sgs.getD i ak).off=false∨(c.sgs.getD i ak).ini=true)):=fun h=>h.2.elim (fun e=>by rw[g11] at e;cases e) (fun e=>by rw[g12] at e;cases e)
     refine aC (b:=!((c.sgs.getD i ak).kd==2)) rfl (fun g13=>?_) (fun g13=>?_)
     ·have g13:¬(c.sgs.getD i ak).kd=2:=by simpa using g13
      refine bN ((c.sgs.getD i ak).dl=0) (fun g14=>?_) fun g14=>?_
      ·refine eN (iP (aU c i)) ?_
       rw[hA,if_neg n5,if_neg n6,if_pos (.inr ⟨g13,g14⟩)]
       exact rfl
      ·refine eN (iP (aU c i)) ?_
       rw[hA,if_neg n5,if_neg n6,if_neg (fun h=>h.elim m7 fun h=>h.2 g14)]
       exact rfl
     ·have g13:(c.sgs.getD i ak).kd=2:=by simpa using g13
      refine eN (iP (aU c i)) ?_
      rw[hA,if_neg n5,if_neg n6,if_neg (fun h=>h.elim m7 fun h=>h.1 g13)]
      exact rfl
    ·have k1:(c.sgs.getD i ak).kd=1:=by simpa using g10
     have m7:¬(¬(c.sgs.getD i ak).kd=1∧(bM (c.sgs.getD i ak).off=false∨(c.sgs.getD i ak).ini=true)):=fun h=>h.1 k1
     refine aC (b:=!((c.sgs.getD i ak).kd==2)) rfl (fun g13=>?_) (fun g13=>?_)
     ·have g13:¬(c.sgs.getD i ak).kd=2:=by simpa using g13
      refine aW (p:=(c.sgs.getD i ak).dl=0) (by simp only[zz,reduceCtorEq]) (fun g14=>?_) (fun g14=>?_)
      ·refine eN (iP (aU c i)) ?_
       rw[hA,if_neg n5,if_neg n6,if_pos (.inr ⟨g13,g14⟩)]
       exact rfl
      ·refine eN (iP (aU c i)) ?_
       rw[hA,if_neg n5,if_neg n6,if_neg (fun h=>h.elim m7 fun h=>h.2 g14)]
       exact rfl
     ·have g13:(c.sgs.getD i ak).kd=2:=by simpa using g13
      refine eN (iP (aU c i)) ?_
      rw[hA,if_neg n5,if_neg n6,if_neg (fun h=>h.elim m7 fun h=>h.1 g13)]
      exact rfl
def aw8 (c:bI) (w:Nat):List Int:=if w=0 then c.pl else c.mi
def lK (c:bI) (x:Int):Bool:=decide (x<0)||decide (dG c≤x)
theorem am1:av Tryz.prog 120 (bC (fun c:bI=>[sH c]) (fun c=>lu c∧c.pl.length≤1000000∧c.mi.length≤1000000) (fun c=>iP (pW c))):=by
 refine vI [4000024] Tryz.func120 ?_
 rintro (c:bI) hpre
 obtain ⟨hs0,hp,hm⟩:=hpre
 have hp:c.pl.length≤1000000:=hp
 have hm:c.mi.length≤1000000:=hm
 refine bN ((c.pl.length:Int)=c.act) (fun h1=>?_) fun h1=>?_
 ·refine eN (iP (pW c)) ?_
  rw[pW,if_pos (show ¬((c.pl.length:Int)=c.act∧(c.mi.length:Int)=c.act) from fun h=>h1 h.1)]
  exact rfl
 refine bN ((c.mi.length:Int)=c.act) (fun h2=>?_) fun h2=>?_
 ·refine eN (iP (pW c)) ?_
  rw[pW,if_pos (show ¬((c.pl.length:Int)=c.act∧(c.mi.length:Int)=c.act) from fun h=>h2 h.2)]
  exact rfl
 have hA:pW c=if abC c c.pl||abC c c.mi then 6 else 0:=by unfold pW;rw[if_neg (fun h=>h ⟨h1,h2⟩)]
 refine fR (2) (fun w=>[(26,.s (iA w))]) (fun w=>[]) (fun w=>∀v,v<w→abC c (aw8 c v)=false) ?_ ?_ ?_ ?_
 ·exact (ai (ai (fun _=>rfl) (iE (by omega))) rfl)
 ·exact trivial
 ·exact fun v hv=>absurd hv (aeH _)
 intro (w:Nat) ⟨hw,hall⟩
 refine bL (w<2) (fun h3=>?_) fun h3=>?_
 ·rcases (show w=0∨w=1 by omega) with rfl | rfl
  ·refine ai (ai (by decide) (by decide)) ?_
   refine ai rfl ?_
   refine fR (c.pl.length) (fun k=>[(5,.s (iA k))]) (fun k=>[]) (fun k=>∀j,j<k→lK c (c.pl.getD j 0)=false) (by exact (ai (ai (fun _=>rfl) (iE (by omega))) rfl)) (by exact trivial) ?_ ?_
   ·exact fun j hj=>absurd hj (aeH _)
   intro (k:Nat) ⟨hk,hal⟩
   refine bL (k<c.pl.length) (fun h4=>?_) fun h4=>?_
   ·refine dR (.seq [0,1,2,3,4,5,6,7,8,9,10,11,12,13]) ?_
    refine iX (k) (c.pl.length) ?_
    refine ah (p:=c.pl.getD k 0<0) (aA Iff.rfl) (fun h5=>?_) (fun h5=>?_)
    ·refine eN (iP (pW c)) ?_
     rw[hA,if_pos (by rw[arQ];exact .inl (aoL.2 ⟨_,abu (bD 0 h4),by rw[decide_eq_true h5];rfl⟩))]
     exact rfl
    refine iX (k) (c.pl.length) ?_
    refine cK (ad4) (c) (by exact (ai rfl (ai (ai rfl (fun _ _=>rfl)) (ai (ai rfl (fun _ _=>rfl)) (ai (ai rfl (fun _ _=>rfl)) (ai rfl (fun _ _=>rfl))))))) (hs0) ?_
    refine ah (p:=dG c≤c.pl.getD k 0) (fH Iff.rfl) (fun h6=>?_) (fun h6=>?_)
    ·refine eN (iP (pW c)) ?_
     rw[hA,if_pos (by rw[arQ];exact .inl (aoL.2 ⟨_,abu (bD 0 h4),by rw[decide_eq_true h6,Bool.or_true]⟩))]
     exact rfl
    refine nX (k) (ai (ai (fun _=>rfl) (aG (by omega))) rfl) trivial ?_
    intro j hj
    by_cases e:j=k
    ·subst e;unfold lK;rw[decide_eq_false h5,decide_eq_false h6];rfl
    ·exact hal j (by omega)
   ·obtain rfl:k=c.pl.length:=by omega
    refine nX (0) (ai (ai (fun _=>rfl) (aG (by omega))) rfl) trivial ?_
    intro v hv
    by_cases e:v=0
    ·subst e
     show (c.pl).any (lK c)=false
     rw[atY]
     intro x hx
     obtain ⟨j,hj,rfl⟩:=arM hx
     have:=hal j hj
     rw[aaG,aaX hj] at this
     rw[show lK c (c.pl)[j]=false from this];decide
    ·exact hall v (by omega)
  ·refine ai (ai (by decide) (by decide)) ?_
   refine ai rfl ?_
   refine fR (c.mi.length) (fun k=>[(5,.s (iA k))]) (fun k=>[]) (fun k=>∀j,j<k→lK c (c.mi.getD j 0)=false) (by exact (ai (ai (fun _=>rfl) (iE (by omega))) rfl)) (by exact trivial) ?_ ?_
   ·exact fun j hj=>absurd hj (aeH _)
   intro (k:Nat) ⟨hk,hal⟩
   refine bL (k<c.mi.length) (fun h4=>?_) fun h4=>?_
   ·refine dR (.seq [0,1,2,3,4,5,6,7,8,9,10,11,12,13]) ?_
    refine iX (k) (c.mi.length) ?_
    refine ah (p:=c.mi.getD k 0<0) (aA Iff.rfl) (fun h5=>?_) (fun h5=>?_)
    ·refine eN (iP (pW c)) ?_
     rw[hA,if_pos (by rw[arQ];exact .inr (aoL.2 ⟨_,abu (bD 0 h4),by rw[decide_eq_true h5];rfl⟩))]
     exact rfl
    refine iX (k) (c.mi.length) ?_
    refine cK (ad4) (c) (by exact (ai rfl (ai (ai rfl (fun _ _=>rfl)) (ai (ai rfl (fun _ _=>rfl)) (ai (ai rfl (fun _ _=>rfl)) (ai rfl (fun _ _=>rfl))))))) (hs0) ?_
    refine ah (p:=dG c≤c.mi.getD k 0) (fH Iff.rfl) (fun h6=>?_) (fun h6=>?_)
    ·refine eN (iP (pW c)) ?_
     rw[hA,if_pos (by rw[arQ];exact .inr (aoL.2 ⟨_,abu (bD 0 h4),by rw[decide_eq_true h6,Bool.or_true]⟩))]
     exact rfl
    refine nX (k) (ai (ai (fun _=>rfl) (aG (by omega))) rfl) trivial ?_
    intro j hj
    by_cases e:j=k
    ·subst e;unfold lK;rw[decide_eq_false h5,decide_eq_false h6];rfl
    ·exact hal j (by omega)
   ·obtain rfl:k=c.mi.length:=by omega
    refine nX (1) (ai (ai (fun _=>rfl) (aG (by omega))) rfl) trivial ?_
    intro v hv
    by_cases e:v=1
    ·subst e
     show (c.mi).any (lK c)=false
     rw[atY]
     intro x hx
     obtain ⟨j,hj,rfl⟩:=arM hx
     have:=hal j hj
     rw[aaG,aaX hj] at this
     rw[show lK c (c.mi)[j]=false from this];decide
    ·exact hall v (by omega)
 ·obtain rfl:w=2:=by omega
  have e1:abC c c.pl=false:=hall 0 (by decide)
  have e2:abC c c.mi=false:=hall 1 (by decide)
  refine eN (iP (pW c)) ?_
  rw[hA,e1,e2,if_neg (show ¬(false||false)=true by decide)]
  exact rfl
theorem als:av Tryz.prog 68 (bC (fun c:bI=>[sH c]) (fun c=>amB c∧(c.ins.length≤1000000∧c.sgs.length≤1000000)∧(∀x∈c.ins,x.length≤1000000)∧∀x∈c.sgs,x.nm.length≤1000000) (fun c=>iP (bH c))):=by
 refine vF Tryz.func68 ?_
 rintro (c:bI) hpre
 obtain ⟨ho,⟨h3,h4⟩,hn⟩:=hpre
 have h3:c.ins.length≤1000000:=h3
 have h4:c.sgs.length≤1000000:=h4
 refine bL (c.act<1) (fun g1=>?_) fun g1=>?_
 ·refine eN (iP (bH c)) ?_
  rw[bH,if_pos (.inl g1)]
  exact rfl
 refine bL (6<c.act) (fun g2=>?_) fun g2=>?_
 ·refine eN (iP (bH c)) ?_
  rw[bH,if_pos (.inr g2)]
  exact rfl
 have n1:¬(c.act<1∨6<c.act):=fun h=>h.elim g1 g2
 refine bL (16<c.ins.length) (fun g3=>?_) fun g3=>?_
 ·refine eN (iP (bH c)) ?_
  rw[bH,if_neg n1,if_pos (.inl g3)]
  exact rfl
 refine bL (64<c.sgs.length) (fun g4=>?_) fun g4=>?_
 ·refine eN (iP (bH c)) ?_
  rw[bH,if_neg n1,if_pos (.inr g4)]
  exact rfl
 have n2:¬(16<c.ins.length∨64<c.sgs.length):=fun h=>h.elim g3 g4
 have hs0:lu c:=⟨⟨by omega,by omega⟩,h3,h4⟩
 have hgd:acE c:=⟨⟨hs0,by omega⟩,ho,hn⟩
 have hlN:dG c=2*c.act+c.ins.length+c.sgs.length:=rfl
 refine fR (c.ins.length) (fun k=>[(3,.s (iA k))]) (fun k=>[]) (fun k=>∀j,j<k→kZ c (2*c.act.toNat+j)=0) (by exact (ai (ai (fun _=>rfl) (iE (by omega))) rfl)) (by exact trivial) ?_ ?_
 ·exact fun j hj=>absurd hj (aeH _)
 intro (k:Nat) ⟨hk,hall⟩
 refine bL (k<c.ins.length) (fun g5=>?_) fun g5=>?_
 ·refine ei _ (ai (ahs) (ei ((c,2*c.act.toNat+k)) (ei [] (ai (a4 (ai (fun _=>Or.inl rfl) (ai nof (Or.inl rfl)))) (ai ?_ (ai (by exact trivial) (ai (arW hgd (by rw[hlN];omega)) ?_)))))))
  ·refine (ai (ai rfl (ai (ai rfl (fun _ _=>rfl)) (ai (ai rfl (fun _ _=>rfl)) (ai (ai rfl (fun _ _=>rfl)) (ai rfl (fun _ _=>rfl)))))) ?_)
   show IntKind.i64.wrap (IntKind.i64.wrap (2*c.act)+(k:Int))=((2*c.act.toNat+k:Nat):Int)
   rw[dF (n:=2*c.act) (by omega) (by omega),dF (by omega) (by omega)];omega
  refine aW (p:=kZ c (2*c.act.toNat+k)=0) (bn (by dsimp only;omega)) (fun g6=>?_) (fun g6=>?_)
  ·have e:=dO (f:=fun i=>kZ c (2*c.act.toNat+i)) g5 hall g6
   refine eN (iP (bH c)) ?_
   rw[bH,if_neg n1,if_neg n2,if_pos (show ¬dB (fun i=>kZ c (2*c.act.toNat+i)) c.ins.length=0 by rw[e];exact g6),e]
   exact rfl
  refine nX (k) (ai (ai (fun _=>rfl) (aG (by omega))) rfl) trivial ?_
  intro j hj
  by_cases e:j=k
  ·rw[e];exact g6
  ·exact hall j (by omega)
 obtain rfl:k=c.ins.length:=by omega
 have n3:¬¬dB (fun i=>kZ c (2*c.act.toNat+i)) c.ins.length=0:=fun h=>h (gU hall)
 refine fR (c.sgs.length) (fun k=>[(5,.s (iA k))]) (fun k=>[]) (fun k=>∀j,j<k→aU c j=0) (by exact (ai (ai (fun _=>rfl) (iE (by omega))) rfl)) (by exact trivial) ?_ ?_
 ·exact fun j hj=>absurd hj (aeH _)
 intro (k:Nat) ⟨hk,hall2⟩
 refine bL (k<c.sgs.length) (fun g5=>?_) fun g5=>?_
 ·refine cK (anu) ((c,k)) (by exact (ai (ai rfl (ai (ai rfl (fun _ _=>rfl)) (ai (ai rfl (fun _ _=>rfl)) (ai (ai rfl (fun _ _=>rfl)) (ai rfl (fun _ _=>rfl)))))) rfl)) (⟨hgd,g5⟩) ?_
  refine aW (p:=aU c k=0) (bn (by dsimp only;omega)) (fun g6=>?_) (fun g6=>?_)
  ·have e:=dO (f:=aU c) g5 hall2 g6
   refine eN (iP (bH c)) ?_
   rw[bH,if_neg n1,if_neg n2,if_neg n3,if_pos (show ¬dB (aU c) c.sgs.length=0 by rw[e];exact g6),e]
   exact rfl
  refine nX (k) (ai (ai (fun _=>rfl) (aG (by omega))) rfl) trivial ?_
  intro j hj
  by_cases e:j=k
  ·rw[e];exact g6
  ·exact hall2 j (by omega)
 obtain rfl:k=c.sgs.length:=by omega
 have n4:¬¬dB (aU c) c.sgs.length=0:=fun h=>h (gU hall2)
 refine cK (am1) (c) (by exact (ai rfl (ai (ai rfl (fun _ _=>rfl)) (ai (ai rfl (fun _ _=>rfl)) (ai (ai rfl (fun _ _=>rfl)) (ai rfl (fun _ _=>rfl))))))) (⟨hs0,ho.2⟩) ?_
 refine eN (iP (bH c)) ?_
 rw[bH,if_neg n1,if_neg n2,if_neg n3,if_neg n4]
 exact rfl
def oH (c:bI) (s:dw):Prop:=(s.en.length:Int)=c.act∧(s.va.length:Int)=c.act∧s.inp.length=c.ins.length∧s.vl.length=c.sgs.length∧s.ti.length=c.sgs.length
instance (c:bI) (s:dw):Decidable (oH c s):=by unfold oH;infer_instance
def ig (most x:Int):Bool:=decide (x<0)||decide (most≤x)
def pU (c:bI) (s:dw) (i:Nat):Bool:=if (c.sgs.getD i ak).kd==2 then !(s.vl.getD i false==(s.ti.getD i 0==2)) else !(s.ti.getD i 0==0)
def eZ (c:bI) (s:dw):Int:=if ¬oH c s then 8 else if s.en.any (ig 4)=true then 1 else if s.ti.any (ig 3)=true then 1 else if (List.range s.ti.length).any (pU c s)=true then 14 else 0
def aaM (s:dw):Prop:=s.en.length≤1000000∧s.ti.length≤1000000
theorem aei {l:List Int} {m:Int} {k:Nat} (h:k<l.length) (hb:ig m (l.getD k 0)=true):l.any (ig m)=true:=aoL.2 ⟨_,abu (bD 0 h),hb⟩
theorem abG {l:List Int} {m:Int} (h:∀k,k<l.length→ig m (l.getD k 0)=false):¬l.any (ig m)=true:=by
 rw[Bool.not_eq_true,atY]
 intro x hx
 obtain ⟨k,hk,rfl⟩:=arM hx
 have:=h k hk
 rw[aaG,aaX hk] at this
 rw[show ig m l[k]=false from this];decide
theorem aqT:av Tryz.prog 134 (bC (fun a:bI×dw=>[sH a.1,kE a.2]) (fun a=>aaM a.2) (fun a=>iP (eZ a.1 a.2))):=by
 refine vF Tryz.func134 ?_
 rintro ⟨c,s⟩ hpre
 obtain ⟨hen,hti⟩:=hpre
 have hen:s.en.length≤1000000:=hen
 have hti:s.ti.length≤1000000:=hti
 refine aW (p:=(s.en.length:Int)=c.act) (bn (by dsimp only;omega)) (fun s1=>?_) (fun s1=>?_)
 ·refine eN (iP (eZ c s)) ?_
  rw[eZ,if_pos (show ¬oH c s from fun h=>s1 h.1)]
  exact rfl
 refine aW (p:=(s.va.length:Int)=c.act) (bn (by dsimp only;omega)) (fun s2=>?_) (fun s2=>?_)
 ·refine eN (iP (eZ c s)) ?_
  rw[eZ,if_pos (show ¬oH c s from fun h=>s2 h.2.1)]
  exact rfl
 refine aW (p:=s.inp.length=c.ins.length) (bn (by dsimp only;omega)) (fun s3=>?_) (fun s3=>?_)
 ·refine eN (iP (eZ c s)) ?_
  rw[eZ,if_pos (show ¬oH c s from fun h=>s3 h.2.2.1)]
  exact rfl
 refine aW (p:=s.vl.length=c.sgs.length) (bn (by dsimp only;omega)) (fun s4=>?_) (fun s4=>?_)
 ·refine eN (iP (eZ c s)) ?_
  rw[eZ,if_pos (show ¬oH c s from fun h=>s4 h.2.2.2.1)]
  exact rfl
 refine aW (p:=s.ti.length=c.sgs.length) (bn (by dsimp only;omega)) (fun s5=>?_) (fun s5=>?_)
 ·refine eN (iP (eZ c s)) ?_
  rw[eZ,if_pos (show ¬oH c s from fun h=>s5 h.2.2.2.2)]
  exact rfl
 have n1:¬¬oH c s:=fun h=>h ⟨s1,s2,s3,s4,s5⟩
 refine fR (s.en.length) (fun k=>[(5,.s (iA k))]) (fun k=>[]) (fun k=>∀j,j<k→ig 4 (s.en.getD j 0)=false) (by exact (ai (ai (fun _=>rfl) (iE (by omega))) rfl)) (by exact trivial) ?_ ?_
 ·exact fun j hj=>absurd hj (aeH _)
 intro (k:Nat) ⟨hk,hall1⟩
 refine ah (p:=k<s.en.length) (aA (by dsimp only;omega)) (fun g1=>?_) (fun g1=>?_)
 ·refine iX (k) (s.en.length) ?_
  refine ah (p:=s.en.getD k 0<0) (aA Iff.rfl) (fun g2=>?_) (fun g2=>?_)
  ·refine eN (iP (eZ c s)) ?_
   rw[eZ,if_neg n1,if_pos (aei g1 (show ig 4 (s.en.getD k 0)=true by unfold ig;rw[decide_eq_true g2];rfl))]
   exact rfl
  refine iX (k) (s.en.length) ?_
  refine ah (p:=4≤s.en.getD k 0) (fH Iff.rfl) (fun g3=>?_) (fun g3=>?_)
  ·refine eN (iP (eZ c s)) ?_
   rw[eZ,if_neg n1,if_pos (aei g1 (show ig 4 (s.en.getD k 0)=true by unfold ig;rw[decide_eq_true g3,Bool.or_true]))]
   exact rfl
  refine nX (k) (ai (ai (fun _=>rfl) (aG (by omega))) rfl) trivial ?_
  intro j hj
  by_cases e:j=k
  ·rw[e];unfold ig;rw[decide_eq_false g2,decide_eq_false g3];rfl
  ·exact hall1 j (by omega)
 obtain rfl:k=s.en.length:=by omega
 refine fR (s.ti.length) (fun k=>[(6,.s (iA k))]) (fun k=>[]) (fun k=>∀j,j<k→ig 3 (s.ti.getD j 0)=false) (by exact (ai (ai (fun _=>rfl) (iE (by omega))) rfl)) (by exact trivial) ?_ ?_
 ·exact fun j hj=>absurd hj (aeH _)
 intro (k:Nat) ⟨hk,hall2⟩
 refine ah (p:=k<s.ti.length) (aA (by dsimp only;omega)) (fun g1=>?_) (fun g1=>?_)
 ·refine iX (k) (s.ti.length) ?_
  refine ah (p:=s.ti.getD k 0<0) (aA Iff.rfl) (fun g2=>?_) (fun g2=>?_)
  ·refine eN (iP (eZ c s)) ?_
   rw[eZ,if_neg n1,if_neg (abG hall1),if_pos (aei g1 (show ig 3 (s.ti.getD k 0)=true by unfold ig;rw[decide_eq_true g2];rfl))]
   exact rfl
  refine iX (k) (s.ti.length) ?_
  refine ah (p:=3≤s.ti.getD k 0) (fH Iff.rfl) (fun g3=>?_) (fun g3=>?_)
  ·refine eN (iP (eZ c s)) ?_
   rw[eZ,if_neg n1,if_neg (abG hall1),if_pos (aei g1 (show ig 3 (s.ti.getD k 0)=true by unfold ig;rw[decide_eq_true g3,Bool.or_true]))]
   exact rfl
  refine nX (k) (ai (ai (fun _=>rfl) (aG (by omega))) rfl) trivial ?_
  intro j hj
  by_cases e:j=k
  ·rw[e];unfold ig;rw[decide_eq_false g2,decide_eq_false g3];rfl
  ·exact hall2 j (by omega)
 obtain rfl:k=s.ti.length:=by omega
 have hA:eZ c s=if (List.range s.ti.length).any (pU c s)=true then 14 else 0:=by unfold eZ;rw[if_neg n1,if_neg (abG hall1),if_neg (abG hall2)]
 refine fR (s.ti.length) (fun k=>[(7,.s (iA k))]) (fun k=>[]) (fun k=>∀j,j<k→pU c s j=false) (by exact (ai (ai (fun _=>rfl) (iE (by omega))) rfl)) (by exact trivial) ?_ ?_
 ·exact fun j hj=>absurd hj (aeH _)
 intro (k:Nat) ⟨hk,hall3⟩
 refine ah (p:=k<s.ti.length) (aA (by dsimp only;omega)) (fun g1=>?_) (fun g1=>?_)
 ·refine iX (k) (c.sgs.length) ?_
  refine dR (.seq [0,1,2,3,4,5,6,7,8,9,10,11,12,13,14,15,16,17,18,19,20,21,22,23,24,25,26]) ?_
  refine aC (b:=!((c.sgs.getD k ak).kd==2)) rfl (fun g2=>?_) (fun g2=>?_)
  ·have g2:((c.sgs.getD k ak).kd==2)=false:=by simpa using g2
   refine iX (k) (s.ti.length) ?_
   refine aC (b:=s.ti.getD k 0 != 0) rfl (fun g3=>?_) (fun g3=>?_)
   ·refine eN (iP (eZ c s)) ?_
    rw[hA,if_pos (uO g1 (show pU c s k=true by unfold pU;rw[g2,if_neg (by decide)];exact g3))]
    exact rfl
   refine aC (b:=(c.sgs.getD k ak).kd==2) rfl (fun g4=>?_) (fun g4=>?_)
   ·rw[g2] at g4;cases g4
   ·refine nX (k) (ai (ai (fun _=>rfl) (aG (by omega))) rfl) trivial ?_
    intro j hj
    by_cases e:j=k
    ·subst e;unfold pU;rw[g2,if_neg (by decide)];exact g3
    ·exact hall3 j (by omega)
  ·have g2:((c.sgs.getD k ak).kd==2)=true:=by simpa using g2
   refine aC (b:=(c.sgs.getD k ak).kd==2) rfl (fun g4=>?_) (fun g4=>?_)
   ·refine iX (k) (s.vl.length) ?_
    refine iX (k) (s.ti.length) ?_
    refine aC (b:=!(s.vl.getD k false==(s.ti.getD k 0==2))) rfl (fun g5=>?_) (fun g5=>?_)
    ·refine eN (iP (eZ c s)) ?_
     rw[hA,if_pos (uO g1 (show pU c s k=true by unfold pU;rw[if_pos g2];exact g5))]
     exact rfl
    ·refine nX (k) (ai (ai (fun _=>rfl) (aG (by omega))) rfl) trivial ?_
     intro j hj
     by_cases e:j=k
     ·subst e;unfold pU;rw[if_pos g2];exact g5
     ·exact hall3 j (by omega)
   ·rw[g2] at g4;cases g4
 obtain rfl:k=s.ti.length:=by omega
 refine eN (iP (eZ c s)) ?_
 rw[hA,if_neg (show ¬(List.range s.ti.length).any (pU c s)=true by rw[any_none hall3];decide)]
 exact rfl
theorem nJ:av Tryz.prog 123 (bC (fun c:bI=>[sH c]) lu (fun c=>iP (bW c))):=by
 refine vF Tryz.func123 ?_
 rintro (c:bI) hpre
 obtain ⟨⟨h1,h2⟩,h3,h4⟩:=hpre
 have h1:0≤c.act:=h1
 have h2:c.act≤1000:=h2
 have h3:c.ins.length≤1000000:=h3
 refine ai (ai (fun _=>trivial) ?_) trivial
 show IntKind.i64.wrap (IntKind.i64.wrap (2*c.act)+(c.ins.length:Int))=bW c
 rw[dF (n:=2*c.act) (by omega) (by omega),dF (by omega) (by omega)];rfl
theorem aaE:av Tryz.prog 77 (bC (fun c:bI=>[sH c]) lu (fun c=>iP (dG c))):=by
 refine vF Tryz.func77 ?_
 rintro (c:bI) hpre
 have hs0:lu c:=hpre
 obtain ⟨⟨h1,h2⟩,h3,h4⟩:=hpre
 have h1:0≤c.act:=h1
 have h2:c.act≤1000:=h2
 have h3:c.ins.length≤1000000:=h3
 have h4:c.sgs.length≤1000000:=h4
 refine dR (.seq [0,2,3,4,1,5,6]) ?_
 refine cK (nJ) (c) (by exact (ai rfl (ai (ai rfl (fun _ _=>rfl)) (ai (ai rfl (fun _ _=>rfl)) (ai (ai rfl (fun _ _=>rfl)) (ai rfl (fun _ _=>rfl))))))) (hs0) ?_
 refine ai (ai (fun _=>trivial) ?_) trivial
 show IntKind.i64.wrap (bW c+(c.sgs.length:Int))=dG c
 rw[dF (by unfold bW;omega) (by unfold bW;omega)];rfl
theorem aff:av Tryz.prog 183 (bC (fun x:Ex=>[jK x]) (fun _=>True) (fun x=>bP (bM x))):=by
 refine vF Tryz.func183 ?_
 rintro (x:Ex) hpre
 refine aC (b:=x.op==0) rfl (fun h1=>?_) (fun h1=>?_)
 ·refine aC (b:=x.idx==0) rfl (fun h2=>?_) (fun h2=>?_)
  ·refine eN (bP (bM x)) ?_
   rw[show bM x=(((x.args.length:Nat):Int)==0) by unfold bM;rw[h1,h2];cases x.args<;>rfl]
   exact rfl
  ·refine eN (bP (bM x)) ?_
   rw[show bM x=false by unfold bM;rw[h2];simp]
   exact rfl
 ·refine eN (bP (bM x)) ?_
  rw[show bM x=false by unfold bM;rw[h1];simp]
  exact rfl
theorem anS:av Tryz.prog 127 (bC (fun a:bI×Nat=>[sH a.1,iA a.2]) aje (fun a=>sP (eH a.1 a.2))):=by
 refine vF Tryz.func127 ?_
 rintro ⟨c,n⟩ hpre
 obtain ⟨hs,h6,hn⟩:=hpre
 have hs0:=hs
 obtain ⟨⟨h1,h2⟩,h3,h4⟩:=hs
 have h1:0≤c.act:=h1
 have h6:c.act≤6:=h6
 have h3:c.ins.length≤1000000:=h3
 have h4:c.sgs.length≤1000000:=h4
 have hn:(n:Int)<2*c.act+c.ins.length+c.sgs.length:=hn
 refine cK (nJ) (c) (by exact (ai rfl (ai (ai rfl (fun _ _=>rfl)) (ai (ai rfl (fun _ _=>rfl)) (ai (ai rfl (fun _ _=>rfl)) (ai rfl (fun _ _=>rfl))))))) (hs0) ?_
 refine ah (p:=(n:Int)<2*c.act) (by exact aA (by rw[dF (n:=2*c.act) (by omega) (by omega)])) (fun g1=>?_) (fun g1=>?_)
 ·have hq:IntKind.i64.wrap ((n:Int).tdiv 2)=((n / 2:Nat):Int):=by rw[show ((n:Int).tdiv 2)=((n / 2:Nat):Int) from rfl];exact yS (by omega)
  have hr:((n:Int).tmod 2)=((n % 2:Nat):Int):=rfl
  have hx:IntKind.i32.wrap (IntKind.i64.wrap (97+IntKind.i64.wrap ((n:Int).tdiv 2)))=((97+n / 2:Nat):Int):=by
   rw[hq,dF (by omega) (by omega)]
   have:n / 2<6:=by omega
   generalize n / 2=q at *
   match q,this with
   | 0,_=>rfl | 1,_=>rfl | 2,_=>rfl | 3,_=>rfl | 4,_=>rfl | 5,_=>rfl
  have hy:IntKind.i32.wrap (IntKind.i64.wrap (48+(n:Int).tmod 2))=((48+n % 2:Nat):Int):=by
   rw[hr,dF (by omega) (by omega)]
   have:n % 2<2:=by omega
   generalize n % 2=q at *
   match q,this with
   | 0,_=>rfl | 1,_=>rfl
  refine ai (by decide) ?_
  refine ai (by rw[hx];omega) ?_
  refine ai (by decide) ?_
  refine ai (by rw[hy];omega) ?_
  refine ai (by show ((2:Nat):Int)≤9223372036854775807;decide) ?_
  refine ai (ai (fun _=>trivial) ?_) trivial
  show (⟨#[UInt8.ofNat (IntKind.i32.wrap (IntKind.i64.wrap (97+IntKind.i64.wrap ((n:Int).tdiv 2)))).toNat]⟩:ByteArray)++⟨#[UInt8.ofNat (IntKind.i32.wrap (IntKind.i64.wrap (48+(n:Int).tmod 2))).toNat]⟩=strOf (eH c n)
  rw[hx,hy]
  unfold eH
  rw[if_pos g1,aeI,aeI];rfl
 refine ah (p:=(n:Int)<bW c) (by exact aA Iff.rfl) (fun g2=>?_) (fun g2=>?_)
 ·have hd:IntKind.i64.wrap ((n:Int)-IntKind.i64.wrap (2*c.act))=((n-2*c.act.toNat:Nat):Int):=by
   rw[dF (n:=2*c.act) (by omega) (by omega),dF (by omega) (by omega)];omega
  have g3:(n:Int)<2*c.act+c.ins.length:=g2
  refine ai (ai (by rw[hd];exact abw _) (by rw[hd];show ((n-2*c.act.toNat:Nat):Int)<(c.ins.length:Int);omega)) ?_
  refine ai rfl ?_
  refine ai (ai (fun _=>trivial) ?_) trivial
  show strOf (c.ins.getD (IntKind.i64.wrap ((n:Int)-IntKind.i64.wrap (2*c.act))).toNat [])=strOf (eH c n)
  unfold eH
  rw[hd,if_neg g1,if_pos g2,aeI]
 ·have hN:bW c=2*c.act+c.ins.length:=rfl
  have hd:IntKind.i64.wrap ((n:Int)-bW c)=((n-2*c.act.toNat-c.ins.length:Nat):Int):=by
   rw[hN,dF (by omega) (by omega)];omega
  refine ai (ai (by rw[hd];exact abw _) (by rw[hd];show ((n-2*c.act.toNat-c.ins.length:Nat):Int)<(c.sgs.length:Int);omega)) ?_
  refine ai rfl ?_
  refine ai (ai (fun _=>trivial) ?_) trivial
  show strOf (c.sgs.getD (IntKind.i64.wrap ((n:Int)-bW c)).toNat ak).nm=strOf (eH c n)
  unfold eH
  rw[hd,if_neg g1,if_neg g2,aeI]
def aqu (m:Int):PV:=.fn 190 [.pt [iP m] 0]
theorem apD:av Tryz.prog 189 (bC (fun m:Int=>[iA m]) (fun _=>True) (fun m=>aqu m)):=by
 refine vF Tryz.func189 ?_
 rintro (m:Int) hpre
 refine ai (ai (fun _=>trivial) ?_) trivial
 exact (ai rfl rfl)
theorem asF:av Tryz.prog 190 (bC (fun a:Int×Int=>[iA a.2,.p false (.pt [iP a.1] 0)]) (fun _=>True) (fun a=>bP (ig a.1 a.2))):=by
 refine vF Tryz.func190 ?_
 rintro ⟨m,x⟩ hpre
 refine bL (x<0) (fun h1=>?_) fun h1=>?_
 ·refine eN (bP (ig m x)) ?_
  rw[show ig m x=true by unfold ig;rw[decide_eq_true h1];rfl]
  exact rfl
 ·refine eN (bP (ig m x)) ?_
  rw[show ig m x=decide (m≤x) by unfold ig;rw[decide_eq_false h1];rfl]
  exact rfl
theorem ari:av Tryz.prog 187 (bC (fun a:Int×List Int=>[isA a.2,.p false (aqu a.1)]) (fun a=>a.2.length≤1000000) (fun a=>iP (jG (ig a.1) a.2))):=by
 refine vF Tryz.func187 ?_
 rintro ⟨m,l⟩ hpre
 have hl:l.length≤1000000:=hpre
 refine fR (l.length) (fun k=>[(8,.s (iA k))]) (fun k=>[]) (fun k=>∀y∈l.take k,ig m y=false) (by exact (ai (ai (fun _=>rfl) (iE (by omega))) rfl)) (by exact trivial) ?_ ?_
 ·exact fun y hy=>absurd hy (by simp)
 intro (k:Nat) ⟨hk,hall⟩
 refine ah (p:=k<l.length) (aA (by dsimp only;omega)) (fun h1=>?_) (fun h1=>?_)
 ·refine iX (k) (l.length) ?_
  refine cK (asF) ((m,l.getD k 0)) (by exact (ai (iE (by simp only[zz,reduceCtorEq])) (ai rfl rfl))) (trivial) ?_
  refine aC (b:=ig m (l.getD k 0)) rfl (fun h2=>?_) (fun h2=>?_)
  ·refine eN (iP (jG (ig m) l)) ?_
   rw[rY (d:=0) h1 h2 hall]
   exact rfl
  refine nX (k) (ai (ai (fun _=>rfl) (aG (by omega))) rfl) trivial ?_
  intro y hy
  rw[aR 0 h1] at hy
  rcases acT.1 hy with hy | hy
  ·exact hall y hy
  ·simp only[aes] at hy;subst hy;exact h2
 ·obtain rfl:k=l.length:=by omega
  rw[acS] at hall
  refine eN (iP (jG (ig m) l)) ?_
  rw[uy hall]
  exact rfl
theorem aiW:av Tryz.prog 130 (bC (fun a:Int×List Int=>[isA a.2,.p false (aqu a.1)]) (fun a=>a.2.length≤1000000) (fun a=>bP (a.2.any (ig a.1)))):=by
 refine vF Tryz.func130 ?_
 rintro ⟨m,l⟩ hpre
 refine cK (ari) ((m,l)) (by exact (ai (ai rfl (fun _ _=>rfl)) (ai rfl rfl))) (hpre) ?_
 refine eN (bP (l.any (ig m))) ?_
 rw[(qU (ig m) l).symm]
 exact rfl
theorem aqN:av Tryz.prog 135 (bC (fun a:bI×dw=>[sH a.1,kE a.2]) (fun a=>aaM a.2) (fun a=>iP (eZ a.1 a.2))):=by
 refine vF Tryz.func135 ?_
 rintro ⟨c,s⟩ hpre
 obtain ⟨hen,hti⟩:=hpre
 have hen:s.en.length≤1000000:=hen
 have hti:s.ti.length≤1000000:=hti
 refine aW (p:=(s.en.length:Int)=c.act) (bn (by dsimp only;omega)) (fun s1=>?_) (fun s1=>?_)
 ·refine eN (iP (eZ c s)) ?_
  rw[eZ,if_pos (show ¬oH c s from fun h=>s1 h.1)]
  exact rfl
 refine aW (p:=(s.va.length:Int)=c.act) (bn (by dsimp only;omega)) (fun s2=>?_) (fun s2=>?_)
 ·refine eN (iP (eZ c s)) ?_
  rw[eZ,if_pos (show ¬oH c s from fun h=>s2 h.2.1)]
  exact rfl
 refine aW (p:=s.inp.length=c.ins.length) (bn (by dsimp only;omega)) (fun s3=>?_) (fun s3=>?_)
 ·refine eN (iP (eZ c s)) ?_
  rw[eZ,if_pos (show ¬oH c s from fun h=>s3 h.2.2.1)]
  exact rfl
 refine aW (p:=s.vl.length=c.sgs.length) (bn (by dsimp only;omega)) (fun s4=>?_) (fun s4=>?_)
 ·refine eN (iP (eZ c s)) ?_
  rw[eZ,if_pos (show ¬oH c s from fun h=>s4 h.2.2.2.1)]
  exact rfl
 refine aW (p:=s.ti.length=c.sgs.length) (bn (by dsimp only;omega)) (fun s5=>?_) (fun s5=>?_)
 ·refine eN (iP (eZ c s)) ?_
  rw[eZ,if_pos (show ¬oH c s from fun h=>s5 h.2.2.2.2)]
  exact rfl
 have n1:¬¬oH c s:=fun h=>h ⟨s1,s2,s3,s4,s5⟩
 refine dR (.seq [0,1,2,3,4,5,6,7,8,9,10,11]) ?_
 refine cK (apD) ((4:Int)) (by exact rfl) (trivial) ?_
 refine cK (aiW) (((4:Int),s.en)) (by exact (ai (ai rfl (fun _ _=>rfl)) (ai rfl rfl))) (hen) ?_
 refine aC (b:=s.en.any (ig 4)) rfl (fun h1=>?_) (fun h1=>?_)
 ·refine eN (iP (eZ c s)) ?_
  rw[eZ,if_neg n1,if_pos h1]
  exact rfl
 have n2:¬s.en.any (ig 4)=true:=by rw[h1];decide
 refine cK (apD) ((3:Int)) (by exact rfl) (trivial) ?_
 refine cK (aiW) (((3:Int),s.ti)) (by exact (ai (ai rfl (fun _ _=>rfl)) (ai rfl rfl))) (hti) ?_
 refine aC (b:=s.ti.any (ig 3)) rfl (fun h2=>?_) (fun h2=>?_)
 ·refine eN (iP (eZ c s)) ?_
  rw[eZ,if_neg n1,if_neg n2,if_pos h2]
  exact rfl
 have hA:eZ c s=if (List.range s.ti.length).any (pU c s)=true then 14 else 0:=by unfold eZ;rw[if_neg n1,if_neg n2,if_neg (show ¬s.ti.any (ig 3)=true by rw[h2];decide)]
 refine fR (s.ti.length) (fun k=>[(65,.s (iA k))]) (fun k=>[]) (fun k=>∀j,j<k→pU c s j=false) (by exact (ai (ai (fun _=>rfl) (iE (by omega))) rfl)) (by exact trivial) ?_ ?_
 ·exact fun j hj=>absurd hj (aeH _)
 intro (k:Nat) ⟨hk,hall3⟩
 refine ah (p:=k<s.ti.length) (aA (by dsimp only;omega)) (fun g1=>?_) (fun g1=>?_)
 ·refine iX (k) (s.ti.length) ?_
  refine iX (k) (c.sgs.length) ?_
  refine aC (b:=!((c.sgs.getD k ak).kd==2)) rfl (fun g2=>?_) (fun g2=>?_)
  ·have g2:((c.sgs.getD k ak).kd==2)=false:=by simpa using g2
   refine aC (b:=s.ti.getD k 0 != 0) rfl (fun g3=>?_) (fun g3=>?_)
   ·refine eN (iP (eZ c s)) ?_
    rw[hA,if_pos (uO g1 (show pU c s k=true by unfold pU;rw[g2,if_neg (by decide)];exact g3))]
    exact rfl
   refine aC (b:=(c.sgs.getD k ak).kd==2) rfl (fun g4=>?_) (fun g4=>?_)
   ·rw[g2] at g4;cases g4
   ·refine nX (k) (ai (ai (fun _=>rfl) (aG (by omega))) rfl) trivial ?_
    intro j hj
    by_cases e:j=k
    ·subst e;unfold pU;rw[g2,if_neg (by decide)];exact g3
    ·exact hall3 j (by omega)
  ·have g2:((c.sgs.getD k ak).kd==2)=true:=by simpa using g2
   refine aC (b:=(c.sgs.getD k ak).kd==2) rfl (fun g4=>?_) (fun g4=>?_)
   ·refine iX (k) (s.vl.length) ?_
    refine aC (b:=!(s.vl.getD k false==(s.ti.getD k 0==2))) rfl (fun g5=>?_) (fun g5=>?_)
    ·refine eN (iP (eZ c s)) ?_
     rw[hA,if_pos (uO g1 (show pU c s k=true by unfold pU;rw[if_pos g2];exact g5))]
     exact rfl
    ·refine nX (k) (ai (ai (fun _=>rfl) (aG (by omega))) rfl) trivial ?_
     intro j hj
     by_cases e:j=k
     ·subst e;unfold pU;rw[if_pos g2];exact g5
     ·exact hall3 j (by omega)
   ·rw[g2] at g4;cases g4
 obtain rfl:k=s.ti.length:=by omega
 refine eN (iP (eZ c s)) ?_
 rw[hA,if_neg (show ¬(List.range s.ti.length).any (pU c s)=true by rw[any_none hall3];decide)]
 exact rfl
def jE (c:aB) (m:List Bool) (l:List Int):List Bool:=l.foldl (fun m i=>eB m (c.trs.getD i.toNat bf).fr false) m
theorem akY (c:aB) (m:List Bool) (l:List Int) (i:Int):jE c m (l++[i])=eB (jE c m l) (c.trs.getD i.toNat bf).fr false:=by unfold jE;rw[awy];rfl
theorem xY (c:aB):∀(l:List Int) (m:List Bool),(jE c m l).length=m.length
 | [],_=>rfl
 | i :: l,m=>by
  show (jE c (eB m (c.trs.getD i.toNat bf).fr false) l).length=_
  rw[xY c l,mh]
def adJ (c:aB) (a:List Bool) (l:List Int):List Bool:=kS c (jE c a l) l
def vP (l:List Bool):LV:=.rw 4 1 l.length (fun k=>[bP (l.getD k false)])
theorem jR {m:List Bool} {j:Nat} (hj:j<m.length) (b:Bool):∀k,ji (fun k=>[bP (m.getD k false)]) j 0 [bP b] k=[bP ((m.set j b).getD k false)]:=by
 intro k
 unfold ji
 rw[aaG (l:=m.set j b),axD]
 by_cases h:k=j
 ·rw[if_pos h,if_pos h.symm,if_pos hj];rfl
 ·rw[if_neg h,if_neg (fun e=>h e.symm),←aaG]
theorem qB {a b:List Bool} {n:Nat} {f g:Nat→List PV} (hn:n=a.length) (hf:∀k,k<a.length→f k=[bP (a.getD k false)]) (hg:∀k,k<b.length→g k=[bP (b.getD k false)]):∀k,k<(a++b).length→aY n f g k=[bP ((a++b).getD k false)]:=by
 intro k hk
 subst hn
 unfold aY
 by_cases h:k<a.length
 ·rw[if_pos h,hf k h,aaG,aaG,aoj h]
 ·have hb:k-a.length<b.length:=by rw[aaJ] at hk;omega
  rw[if_neg h,hg _ hb,aaG,aaG,ahS (by omega)]
theorem len2 {x y:PV}:∀k,k<2→(aT 1 [x,y] k).length=1:=fun k hk=>by
 match k,hk with
 | 0,_=>rfl | 1,_=>rfl
theorem am8 (x y:Bool):∀k,k<[x,y].length→aT 1 [bP x,bP y] k=[bP ([x,y].getD k false)]:=fun k hk=>by
 match k,hk with
 | 0,_=>rfl | 1,_=>rfl
def ag6 (x:Int):List Bool:=[x==0,x==2]
def eP (l:List Int):List Bool:=l.flatMap ag6
theorem acd {l:List Int} {k:Nat} (h:k<l.length):eP (l.take (k+1))=eP (l.take k)++ag6 (l.getD k 0):=by rw[aR 0 h];unfold eP;rw[List.flatMap_append];simp
theorem uM:∀l:List Int,(eP l).length=2*l.length
 | []=>rfl
 | x :: l=>by
  have:=uM l
  unfold eP at this ⊢
  rw[List.flatMap_cons,aaJ,this]
  simp[ag6];omega
def dn (s:dw):List Bool:=(eP s.en++s.inp)++s.vl
def acC (s:dw):Prop:=s.en.length≤100000∧s.inp.length≤100000∧s.vl.length≤100000
theorem anz:av Tryz.prog 78 (bO (fun s:dw=>[kE s]) acC (fun s=>iR (dn s))):=by
 refine vF Tryz.func78 ?_
 rintro (s:dw) hpre
 obtain ⟨h1,h2,h3⟩:=hpre
 have h1:s.en.length≤100000:=h1
 have h2:s.inp.length≤100000:=h2
 have h3:s.vl.length≤100000:=h3
 refine fR (s.en.length) (fun k=>[(9,.s (iA k)),(3,vP (eP (s.en.take k)))]) (fun k=>[]) (fun k=>True) ?_ ?_ ?_ ?_
 ·exact (ai (ai (ai (fun _=>rfl) (iE (by omega))) rfl) rfl)
 ·exact trivial
 ·trivial
 intro (k:Nat) ⟨hk,_⟩
 have hl:(eP (s.en.take k)).length≤200000:=by rw[uM,al5];omega
 refine bL (k<s.en.length) (fun g1=>?_) fun g1=>?_
 ·refine iX (k) (s.en.length) ?_
  have e:=acd g1
  refine ai (mxL (n:=(eP (s.en.take k)).length+2) (by omega) (by decide)) (ai len2 ?_)
  refine nX (k) (ai (ai (ai (fun _=>rfl) (aG (by omega))) rfl) (ai rfl (ai rfl (ai ?_ ?_)))) trivial trivial
  ·rw[e,aaJ];rfl
  ·rw[e];exact fun q hq=>qB (a:=eP (s.en.take k)) (b:=ag6 (s.en.getD k 0)) rfl (fun _ _=>rfl) (am8 _ _) q (by rw[aaJ];exact hq)
 obtain rfl:k=s.en.length:=by omega
 have et:s.en.take s.en.length=s.en:=acS
 refine dR (.one 0 (.one 1 (.one 2 (.one 4 (.rd 5 [3] (.one 3 (.one 6 (.one 7 .done)))))))) ?_
 refine ai (mxL (n:=(eP (s.en.take s.en.length)).length+s.inp.length) (by omega) (by decide)) (ai (fun _ _=>rfl) ?_)
 refine ai (mxL (n:=(eP (s.en.take s.en.length)).length+s.inp.length+s.vl.length) (by omega) (by decide)) (ai (fun _ _=>rfl) ?_)
 have eV:dn s=(eP (s.en.take s.en.length)++s.inp)++s.vl:=by rw[et];rfl
 refine eF (iR (dn s)) ?_
 rw[eV]
 refine (ai ?_ ?_)
 ·show (eP (s.en.take s.en.length)).length+s.inp.length+s.vl.length=_
  rw[aaJ,aaJ]
 ·intro j hj
  exact qB (a:=eP (s.en.take s.en.length)++s.inp) (b:=s.vl) (by rw[aaJ]) (fun i hi=>qB (a:=eP (s.en.take s.en.length)) (b:=s.inp) rfl (fun _ _=>rfl) (fun _ _=>rfl) i hi) (fun _ _=>rfl) j (by rw[aaJ,aaJ];exact hj)
theorem yw:av Tryz.prog 133 (bO (fun a:bI×dw=>[sH a.1,kE a.2]) (fun a=>acC a.2∧(a.2.en.length:Int)=a.1.act) (fun a=>iR (dn a.2))):=by
 refine vF Tryz.func133 ?_
 rintro ⟨c,s⟩ hpre
 obtain ⟨⟨h1,h2,h3⟩,h4⟩:=hpre
 have h1:s.en.length≤100000:=h1
 have h2:s.inp.length≤100000:=h2
 have h3:s.vl.length≤100000:=h3
 have h4:(s.en.length:Int)=c.act:=h4
 refine fR (s.en.length) (fun k=>[(6,.s (iA k)),(5,vP (eP (s.en.take k)))]) (fun k=>[]) (fun k=>True) ?_ ?_ ?_ ?_
 ·exact (ai (ai (ai (fun _=>rfl) (iE (by omega))) rfl) rfl)
 ·exact trivial
 ·trivial
 intro (k:Nat) ⟨hk,_⟩
 have hl:(eP (s.en.take k)).length≤200000:=by rw[uM,al5];omega
 refine ah (p:=k<s.en.length) (by exact aA (show (k:Int)<c.act↔_ by omega)) (fun g1=>?_) (fun g1=>?_)
 ·refine dR (.seq [0,1,2,3,4,5,6,7,8,9,10,11,12,13,14,15]) ?_
  refine iX (k) (s.en.length) ?_
  refine iX (k) (s.en.length) ?_
  have e:=acd g1
  refine ai (mxL (n:=(eP (s.en.take k)).length+2) (by omega) (by decide)) (ai len2 ?_)
  refine nX (k) (ai (ai (ai (fun _=>rfl) (aG (by omega))) rfl) (ai rfl (ai rfl (ai ?_ ?_)))) trivial trivial
  ·rw[e,aaJ];rfl
  ·rw[e];exact fun q hq=>qB (a:=eP (s.en.take k)) (b:=ag6 (s.en.getD k 0)) rfl (fun _ _=>rfl) (am8 _ _) q (by rw[aaJ];exact hq)
 obtain rfl:k=s.en.length:=by omega
 have et:s.en.take s.en.length=s.en:=acS
 refine ai (mxL (n:=(eP (s.en.take s.en.length)).length+s.inp.length) (by omega) (by decide)) (ai (fun _ _=>rfl) ?_)
 refine ai (mxL (n:=(eP (s.en.take s.en.length)).length+s.inp.length+s.vl.length) (by omega) (by decide)) (ai (fun _ _=>rfl) ?_)
 have eV:dn s=(eP (s.en.take s.en.length)++s.inp)++s.vl:=by rw[et];rfl
 refine eF (iR (dn s)) ?_
 rw[eV]
 refine (ai ?_ ?_)
 ·show (eP (s.en.take s.en.length)).length+s.inp.length+s.vl.length=_
  rw[aaJ,aaJ]
 ·intro j hj
  exact qB (a:=eP (s.en.take s.en.length)++s.inp) (b:=s.vl) (by rw[aaJ]) (fun i hi=>qB (a:=eP (s.en.take s.en.length)) (b:=s.inp) rfl (fun _ _=>rfl) (fun _ _=>rfl) i hi) (fun _ _=>rfl) j (by rw[aaJ,aaJ];exact hj)
def oV (s:dw):Bool:=decide (s.en.length≤40)&&(decide (s.va.length≤40)&&(decide (s.inp.length≤200)&&(decide (s.vl.length≤200)&&decide (s.ti.length≤200))))
theorem atz:av Tryz.prog 25 (bC (fun s:dw=>[kE s]) (fun _=>True) (fun s=>bP (oV s))):=by
 refine vF Tryz.func25 ?_
 rintro (s:dw) hpre
 refine bG (s.en.length≤40) (fun h1=>?_) fun h1=>?_
 ·refine bG (s.va.length≤40) (fun h2=>?_) fun h2=>?_
  ·refine bG (s.inp.length≤200) (fun h3=>?_) fun h3=>?_
   ·refine bG (s.vl.length≤200) (fun h4=>?_) fun h4=>?_
    ·refine eN (bP (oV s)) ?_
     rw[show oV s=decide (((s.ti.length:Nat):Int)≤200) by unfold oV;rw[decide_eq_true h1,decide_eq_true h2,decide_eq_true h3,decide_eq_true h4,aer,aer,aer,aer,decide_eq_decide];omega]
     exact rfl
    ·refine eN (bP (oV s)) ?_
     rw[show oV s=false by unfold oV;simp[h1,h2,h3,h4]]
     exact rfl
   ·refine eN (bP (oV s)) ?_
    rw[show oV s=false by unfold oV;simp[h1,h2,h3]]
    exact rfl
  ·refine eN (bP (oV s)) ?_
   rw[show oV s=false by unfold oV;simp[h1,h2]]
   exact rfl
 ·refine eN (bP (oV s)) ?_
  rw[show oV s=false by unfold oV;simp[h1]]
  exact rfl
def mW (c:bI) (s:dw):Int:=if ¬bH c=0 then bH c else eZ c s
def ae5 (c:bI):Prop:=amB c∧(c.ins.length≤1000000∧c.sgs.length≤1000000)∧(∀x∈c.ins,x.length≤1000000)∧∀x∈c.sgs,x.nm.length≤1000000
theorem aos:av Tryz.prog 74 (bC (fun a:bI×dw=>[sH a.1,kE a.2]) (fun a=>ae5 a.1∧aaM a.2) (fun a=>iP (mW a.1 a.2))):=by
 refine vF Tryz.func74 ?_
 rintro ⟨c,s⟩ hpre
 obtain ⟨hc,hs⟩:=hpre
 refine cK (als) (c) (by exact (ai rfl (ai (ai rfl (fun _ _=>rfl)) (ai (ai rfl (fun _ _=>rfl)) (ai (ai rfl (fun _ _=>rfl)) (ai rfl (fun _ _=>rfl))))))) (hc) ?_
 refine bN (bH c=0) (fun h1=>?_) fun h1=>?_
 ·refine eN (iP (mW c s)) ?_
  rw[mW,if_pos h1]
  exact rfl
 refine cK (aqT) ((c,s)) (by exact (ai (ai rfl (ai (ai rfl (fun _ _=>rfl)) (ai (ai rfl (fun _ _=>rfl)) (ai (ai rfl (fun _ _=>rfl)) (ai rfl (fun _ _=>rfl)))))) (ai (ai rfl (fun _ _=>rfl)) (ai (ai rfl (fun _ _=>rfl)) (ai (ai rfl (fun _ _=>rfl)) (ai (ai rfl (fun _ _=>rfl)) (ai rfl (fun _ _=>rfl)))))))) (hs) ?_
 refine eN (iP (mW c s)) ?_
 rw[mW,if_neg (fun h=>h h1)]
 exact rfl
def aJ (c:aB):Int:=2*c.act+c.ins.length
def fK (c:aB):Nat→Nat
 | 0=>0
 | k+1=>fK c k+if 0<(c.sts.getD k st0).wt then 1 else 0
theorem lq (c:aB):∀k,fK c k≤k
 | 0=>acM _
 | k+1=>by have:=lq c k;rw[fK];split<;>omega
theorem rD:av Tryz.prog 106 (bC (fun c:aB=>[iG c]) oO (fun c=>iP (aJ c))):=by
 refine vF Tryz.func106 ?_
 rintro (c:aB) hpre
 obtain ⟨h1,h2,h3,h4⟩:=hpre
 have h1:0≤c.act:=h1
 have h2:c.act≤1000:=h2
 have h3:c.ins.length≤1000000:=h3
 refine ai (ai (fun _=>trivial) ?_) trivial
 show IntKind.i64.wrap (IntKind.i64.wrap (2*c.act)+(c.ins.length:Int))=aJ c
 rw[dF (n:=2*c.act) (by omega) (by omega),dF (by omega) (by omega)];rfl
def mU (c:aB) (k:Nat):Int:=aJ c+k
theorem rZ:av Tryz.prog 53 (bC (fun a:aB×Nat=>[iG a.1,iA a.2]) (fun a=>oO a.1∧a.2≤1000000) (fun a=>iP (mU a.1 a.2))):=by
 refine vF Tryz.func53 ?_
 rintro ⟨c,k⟩ hpre
 obtain ⟨hs,hk⟩:=hpre
 have hk:k≤1000000:=hk
 have h1:0≤c.act:=hs.1
 have h2:c.act≤1000:=hs.2.1
 have h3:c.ins.length≤1000000:=hs.2.2.1
 refine cK (rD) (c) (by exact (ai rfl (ai (ai rfl (fun _ _=>rfl)) (ai (ai rfl (fun _ _=>rfl)) (ai rfl (fun _ _=>rfl)))))) (hs) ?_
 refine ai (ai (fun _=>trivial) ?_) trivial
 show IntKind.i64.wrap (aJ c+(k:Int))=mU c k
 rw[dF (by unfold aJ;omega) (by unfold aJ;omega)];rfl
def lZ (c:aB) (i:Nat):Int:=aJ c+c.sts.length+i+fK c c.sts.length
theorem ae6:av Tryz.prog 162 (bC (fun a:aB×Nat=>[iG a.1,iA a.2]) (fun a=>oO a.1∧a.2≤1000000) (fun a=>iP (lZ a.1 a.2))):=by
 refine vF Tryz.func162 ?_
 rintro ⟨c,i⟩ hpre
 obtain ⟨hs,hi⟩:=hpre
 have hi:i≤1000000:=hi
 have h1:0≤c.act:=hs.1
 have h2:c.act≤1000:=hs.2.1
 have h3:c.ins.length≤1000000:=hs.2.2.1
 have h4:c.sts.length≤1000000:=hs.2.2.2
 have hb:aJ c=2*c.act+c.ins.length:=rfl
 refine dR (.seq [0,2,3,4,6,1,5,7,8]) ?_
 refine cK (rD) (c) (by exact (ai rfl (ai (ai rfl (fun _ _=>rfl)) (ai (ai rfl (fun _ _=>rfl)) (ai rfl (fun _ _=>rfl)))))) (hs) ?_
 have hw:IntKind.i64.wrap (IntKind.i64.wrap (aJ c+(c.sts.length:Int))+(i:Int))=aJ c+c.sts.length+i:=by
  rw[dF (n:=aJ c+(c.sts.length:Int)) (by omega) (by omega),dF (by omega) (by omega)]
 refine fR (c.sts.length) (fun k=>[(6,.s (iA k)),(5,.s (iA (aJ c+c.sts.length+i+fK c k)))]) (fun k=>[]) (fun k=>True) ?_ ?_ ?_ ?_
 ·refine (ai (ai (ai (fun _=>rfl) (iE (by omega))) rfl) (ai (ai (fun _=>rfl) ?_) rfl))
  show IntKind.i64.wrap (IntKind.i64.wrap (aJ c+(c.sts.length:Int))+(i:Int))=_
  rw[hw];show _=aJ c+c.sts.length+i+((0:Nat):Int);omega
 ·exact trivial
 ·trivial
 intro (k:Nat) ⟨hk,_⟩
 have ht:=lq c k
 refine ah (p:=k<c.sts.length) (aA (by dsimp only;omega)) (fun g1=>?_) (fun g1=>?_)
 ·refine iX (k) (c.sts.length) ?_
  refine ah (p:=0<(c.sts.getD k st0).wt) (aA Iff.rfl) (fun g2=>?_) (fun g2=>?_)
  ·have e:fK c (k+1)=fK c k+1:=by rw[fK,if_pos g2]
   refine nX (k) (ai (ai (ai (fun _=>rfl) (aG (by omega))) rfl) (ai (ai (fun _=>rfl) ?_) rfl)) trivial trivial
   show IntKind.i64.wrap (aJ c+c.sts.length+i+fK c k+1)=_
   rw[e,dF (by omega) (by omega)];omega
  ·have e:fK c (k+1)=fK c k:=by rw[fK,if_neg g2,axo]
   refine nX (k) (ai (ai (ai (fun _=>rfl) (aG (by omega))) rfl) (ai (ai nof (iE (by omega))) rfl)) trivial trivial
   all_goals rw[e]
 ·obtain rfl:k=c.sts.length:=by omega
  refine eN _ ?_
  exact (iE (by simp only[zz,reduceCtorEq];rfl))
theorem amG:av Tryz.prog 165 (bC (fun a:List Int×List Int=>[isA a.1,isA a.2]) (fun a=>a.1.length≤1000000∧a.2.length≤1000000) (fun a=>bP (oz a.1 a.2))):=by
 refine vF Tryz.func165 ?_
 rintro ⟨l,m⟩ hpre
 obtain ⟨hl,hm⟩:=hpre
 have hl:l.length≤1000000:=hl
 refine fR (l.length) (fun k=>[(5,.s (iA k))]) (fun k=>[]) (fun k=>∀y∈l.take k,gX m y=false) (by exact (ai (ai (fun _=>rfl) (iE (by omega))) rfl)) (by exact trivial) ?_ ?_
 ·exact fun y hy=>absurd hy (by simp)
 intro (k:Nat) ⟨hk,hall⟩
 refine ah (p:=k<l.length) (aA (by dsimp only;omega)) (fun h1=>?_) (fun h1=>?_)
 ·refine iX (k) (l.length) ?_
  refine cK (aeU) ((m,l.getD k 0)) (by exact (ai (ai rfl (fun _ _=>rfl)) (iE (by simp only[zz,reduceCtorEq])))) (hm) ?_
  refine aC (b:=gX m (l.getD k 0)) rfl (fun h2=>?_) (fun h2=>?_)
  ·refine eN (bP (oz l m)) ?_
   rw[show oz l m=true from aoL.2 ⟨_,abu (bD 0 h1),h2⟩]
   exact rfl
  refine nX (k) (ai (ai (fun _=>rfl) (aG (by omega))) rfl) trivial ?_
  intro y hy
  rw[aR 0 h1] at hy
  rcases acT.1 hy with hy | hy
  ·exact hall y hy
  ·simp only[aes] at hy;subst hy;exact h2
 ·obtain rfl:k=l.length:=by omega
  rw[acS] at hall
  refine eN (bP (oz l m)) ?_
  rw[show oz l m=false from atY.2 fun y hy=>by rw[hall y hy];decide]
  exact rfl
def skB (x y:Sk):Bool:=x.1==y.1&&x.2==y.2
def uS (l:List Sk) (x:Sk):Bool:=l.any fun y=>skB x y
def arP (a:List Sk×Sk):Prop:=a.1.length≤1000000
theorem atd:av Tryz.prog 79 (bC (fun a:List Sk×Sk=>[anc a.1,skA a.2]) arP (fun a=>iP (jG (fun y=>skB a.2 y) a.1))):=by
 refine vF Tryz.func79 ?_
 rintro (a:List Sk×Sk) hpre
 have hl:a.1.length≤1000000:=hpre
 refine fR (a.1.length) (fun k=>[(8,.s (iA k))]) (fun k=>[]) (fun k=>∀y∈a.1.take k,skB a.2 y=false) (by exact (ai (ai (fun _=>rfl) (iE (by omega))) rfl)) (by exact trivial) ?_ ?_
 ·exact fun y hy=>absurd hy (by simp)
 intro (k:Nat) ⟨hk,hall⟩
 refine bL (k<a.1.length) (fun h1=>?_) fun h1=>?_
 ·refine dR (.seq [0,1,2,3,4,5]) ?_
  refine iX (k) (a.1.length) ?_
  refine ah (p:=skB a.2 (a.1.getD k bY)=true) (by (show ((a.2.1==(a.1.getD k bY).1)&&((a.2.2==(a.1.getD k bY).2)&&true))=true↔_;rw[Bool.and_true];exact Iff.rfl)) (fun h2=>?_) (fun h2=>?_)
  ·refine eN (iP (jG (fun y=>skB a.2 y) a.1)) ?_
   rw[rY (d:=bY) h1 h2 hall]
   exact rfl
  refine nX (k) (ai (ai (fun _=>rfl) (aG (by omega))) rfl) trivial ?_
  intro y hy
  rw[aR bY h1] at hy
  rcases acT.1 hy with hy | hy
  ·exact hall y hy
  ·simp only[aes] at hy;subst hy;simpa using h2
 ·obtain rfl:k=a.1.length:=by omega
  rw[acS] at hall
  refine eN (iP (jG (fun y=>skB a.2 y) a.1)) ?_
  rw[uy hall]
  exact rfl
theorem asT:av Tryz.prog 41 (bC (fun a:List Sk×Sk=>[anc a.1,skA a.2]) arP (fun a=>bP (uS a.1 a.2))):=by
 refine vF Tryz.func41 ?_
 rintro (a:List Sk×Sk) hpre
 refine cK (atd) (a) (by exact (ai (ai rfl (fun _ _=>rfl)) (ai rfl rfl))) (hpre) ?_
 refine eN (bP (uS a.1 a.2)) ?_
 rw[show uS a.1 a.2=decide (0≤jG (fun y=>skB a.2 y) a.1) from (qU (fun y=>skB a.2 y) a.1).symm]
 exact rfl
def sI (c:aB) (k:Nat):Int:=if (c.sts.getD k st0).wt=0 then -1099511627776 else aJ c+c.sts.length+fK c k
def bZ (c:aB):Nat→List Int
 | 0=>[]
 | k+1=>bZ c k++[sI c k]
theorem p9 (c:aB):∀k,(bZ c k).length=k
 | 0=>rfl
 | k+1=>by rw[bZ,aaJ,p9 c k];rfl
def adl (c:aB):Prop:=oO c∧∀x∈c.sts,0≤x.wt
theorem af5:av Tryz.prog 54 (bO (fun c:aB=>[iG c]) adl (fun c=>fT (bZ c c.sts.length))):=by
 refine vF Tryz.func54 ?_
 rintro (c:aB) hpre
 obtain ⟨hs,hw0⟩:=hpre
 have h1:0≤c.act:=hs.1
 have h2:c.act≤1000:=hs.2.1
 have h3:c.ins.length≤1000000:=hs.2.2.1
 have h4:c.sts.length≤1000000:=hs.2.2.2
 have hb:aJ c=2*c.act+c.ins.length:=rfl
 refine dR (.seq [0,2,3,4,1,5,6]) ?_
 refine cK (rD) (c) (by exact (ai rfl (ai (ai rfl (fun _ _=>rfl)) (ai (ai rfl (fun _ _=>rfl)) (ai rfl (fun _ _=>rfl)))))) (hs) ?_
 refine fR (c.sts.length) (fun k=>[(5,.s (iA k)),(4,isR (bZ c k)),(3,.s (iA (aJ c+c.sts.length+fK c k)))]) (fun k=>[]) (fun k=>True) ?_ ?_ ?_ ?_
 ·refine (ai (ai (ai (fun _=>rfl) (iE (by omega))) rfl) (ai rfl (ai (ai (fun _=>rfl) ?_) rfl)))
  show IntKind.i64.wrap (aJ c+(c.sts.length:Int))=aJ c+c.sts.length+((0:Nat):Int)
  rw[dF (by omega) (by omega)];omega
 ·exact trivial
 ·trivial
 intro (k:Nat) ⟨hk,_⟩
 have ht:=lq c k
 have hl:=p9 c k
 refine bL (k<c.sts.length) (fun g1=>?_) fun g1=>?_
 ·refine iX (k) (c.sts.length) ?_
  have hw:=hw0 _ (abu (bD st0 g1))
  refine ah (p:=(c.sts.getD k st0).wt=0) (by simp only[zz,reduceCtorEq]) (fun g2=>?_) (fun g2=>?_)
  ·have e1:bZ c (k+1)=bZ c k++[-1099511627776]:=by rw[bZ];unfold sI;rw[if_pos g2]
   have e2:fK c (k+1)=fK c k:=by rw[fK,if_neg (by omega),axo]
   refine ai (mxL (n:=(bZ c k).length+1) (by omega) (by decide)) (ai (dW 1 rfl) ?_)
   refine nX (k) (ai (ai (ai (fun _=>rfl) (aG (by omega))) rfl) (ai (ai rfl (ai rfl (ai ?_ ?_))) (ai (ai nof (iE (by omega))) rfl))) trivial trivial
   ·rw[e1,aaJ];rfl
   ·rw[e1];exact dS _ _
   all_goals rw[e2]
  ·have e1:bZ c (k+1)=bZ c k++[aJ c+c.sts.length+fK c k]:=by rw[bZ];unfold sI;rw[if_neg g2]
   have e2:fK c (k+1)=fK c k+1:=by rw[fK,if_pos (by omega)]
   refine ai (mxL (n:=(bZ c k).length+1) (by omega) (by decide)) (ai (dW 1 rfl) ?_)
   refine nX (k) (ai (ai (ai (fun _=>rfl) (aG (by omega))) rfl) (ai (ai rfl (ai rfl (ai ?_ ?_))) (ai (ai (fun _=>rfl) ?_) rfl))) trivial trivial
   ·rw[e1,aaJ];rfl
   ·rw[e1];exact dS _ _
   ·show IntKind.i64.wrap (aJ c+c.sts.length+fK c k+1)=_
    rw[e2,dF (by omega) (by omega)];omega
 ·obtain rfl:k=c.sts.length:=by omega
  refine ai (ai (fun _=>(by exact (fun _ _=>rfl))) ?_) trivial
  exact (ai rfl (fun _ _=>rfl))
def wE (c:aB) (fr:Bool) (i:Nat):List Int:=if fr then (c.trs.getD i bf).fr else (c.trs.getD i bf).to
def gP (c:aB) (s:Int) (fr:Bool):Nat→List Int
 | 0=>[]
 | i+1=>if gX (wE c fr i) s then gP c s fr i++[lZ c i] else gP c s fr i
theorem lQ (c:aB) (s:Int) (fr:Bool):∀k,(gP c s fr k).length≤k
 | 0=>acM _
 | k+1=>by
  have:=lQ c s fr k
  rw[gP];split
  ·rw[aaJ];simp;omega
  ·omega
def aoQ (a:aB×Int×Bool):Prop:=oO a.1∧jr a.1∧a.1.trs.length≤1000000
theorem kL:av Tryz.prog 99 (bO (fun a:aB×Int×Bool=>[iG a.1,iA a.2.1,bA a.2.2]) aoQ (fun a=>fT (gP a.1 a.2.1 a.2.2 a.1.trs.length))):=by
 refine vF Tryz.func99 ?_
 rintro ⟨c,s,fr⟩ hpre
 obtain ⟨hs,ho,ht⟩:=hpre
 have ht:c.trs.length≤1000000:=ht
 refine fR (c.trs.length) (fun k=>[(8,.s (iA k)),(7,isR (gP c s fr k))]) (fun k=>[]) (fun k=>True) ?_ ?_ ?_ ?_
 ·exact (ai (ai (ai (fun _=>rfl) (iE (by omega))) rfl) rfl)
 ·exact trivial
 ·trivial
 intro (k:Nat) ⟨hk,_⟩
 have hl:=lQ c s fr k
 refine ah (p:=k<c.trs.length) (aA (by dsimp only;omega)) (fun g1=>?_) (fun g1=>?_)
 ·refine iX (k) (c.trs.length) ?_
  have hto:=nG ho g1
  refine aC (b:=fr) rfl (fun g2=>?_) (fun g2=>?_)
  ·subst g2
   refine iX (k) (c.trs.length) ?_
   refine cK (aeU) (((c.trs.getD k bf).fr,s)) (by exact (ai (ai rfl (fun _ _=>rfl)) rfl)) (hto.1) ?_
   refine aC (b:=gX (c.trs.getD k bf).fr s) rfl (fun g3=>?_) (fun g3=>?_)
   ·refine cK (ae6) ((c,k)) (by exact (ai (ai rfl (ai (ai rfl (fun _ _=>rfl)) (ai (ai rfl (fun _ _=>rfl)) (ai rfl (fun _ _=>rfl))))) rfl)) (⟨hs,by show k≤1000000;omega⟩) ?_
    have e1:gP c s true (k+1)=gP c s true k++[lZ c k]:=by rw[gP,if_pos (show gX (wE c true k) s=true from g3)]
    refine ai (mxL (n:=(gP c s true k).length+1) (by omega) (by decide)) (ai (dW 1 rfl) ?_)
    refine nX (k) (ai (ai (ai (fun _=>rfl) (aG (by omega))) rfl) (ai rfl (ai rfl (ai ?_ ?_)))) trivial trivial
    ·rw[e1,aaJ];rfl
    ·rw[e1];exact dS _ _
   ·have e1:gP c s true (k+1)=gP c s true k:=by rw[gP,if_neg (show ¬gX (wE c true k) s=true by rw[show gX (wE c true k) s=false from g3];decide)]
    refine nX (k) (ai (ai (ai (fun _=>rfl) (aG (by omega))) rfl) (ai rfl (ai rfl (ai ?_ ?_)))) trivial trivial
    ·rw[e1]
    ·rw[e1];exact fun _ _=>rfl
  ·subst g2
   refine cK (aeU) (((c.trs.getD k bf).to,s)) (by exact (ai (ai rfl (fun _ _=>rfl)) rfl)) (hto.2.1) ?_
   refine aC (b:=gX (c.trs.getD k bf).to s) rfl (fun g3=>?_) (fun g3=>?_)
   ·refine cK (ae6) ((c,k)) (by exact (ai (ai rfl (ai (ai rfl (fun _ _=>rfl)) (ai (ai rfl (fun _ _=>rfl)) (ai rfl (fun _ _=>rfl))))) rfl)) (⟨hs,by show k≤1000000;omega⟩) ?_
    have e1:gP c s false (k+1)=gP c s false k++[lZ c k]:=by rw[gP,if_pos (show gX (wE c false k) s=true from g3)]
    refine ai (mxL (n:=(gP c s false k).length+1) (by omega) (by decide)) (ai (dW 1 rfl) ?_)
    refine nX (k) (ai (ai (ai (fun _=>rfl) (aG (by omega))) rfl) (ai rfl (ai rfl (ai ?_ ?_)))) trivial trivial
    ·rw[e1,aaJ];rfl
    ·rw[e1];exact dS _ _
   ·have e1:gP c s false (k+1)=gP c s false k:=by rw[gP,if_neg (show ¬gX (wE c false k) s=true by rw[show gX (wE c false k) s=false from g3];decide)]
    refine nX (k) (ai (ai (ai (fun _=>rfl) (aG (by omega))) rfl) (ai rfl (ai rfl (ai ?_ ?_)))) trivial trivial
    ·rw[e1]
    ·rw[e1];exact fun _ _=>rfl
 ·obtain rfl:k=c.trs.length:=by omega
  refine ai (ai (fun _=>(by exact (fun _ _=>rfl))) ?_) trivial
  exact (ai rfl (fun _ _=>rfl))
def dZ (c:aB) (x:Sk):Nat→List Int
 | 0=>[]
 | k+1=>if uS (c.sts.getD k st0).st x then dZ c x k++[mU c k] else dZ c x k
theorem uq (c:aB) (x:Sk):∀k,(dZ c x k).length≤k
 | 0=>acM _
 | k+1=>by
  have:=uq c x k
  rw[dZ];split
  ·rw[aaJ];simp;omega
  ·omega
def uU (c:aB) (x:Sk) (k j:Nat):List Int:=if uS ((c.sts.getD k st0).st.take j) x then dZ c x k++[mU c k] else dZ c x k
theorem amj {x y:Sk}:skB x y=true↔y=x:=by
 unfold skB
 rw[abx,beq_iff_eq,beq_iff_eq]
 constructor
 ·rintro ⟨h1,h2⟩;exact Prod.ext h1.symm h2.symm
 ·rintro rfl;exact ⟨rfl,rfl⟩
theorem aaV {l:List Sk} {x:Sk}:uS l x=true↔x∈l:=by
 unfold uS
 rw[aoL]
 constructor
 ·rintro ⟨y,hy,h⟩;rw[←amj.1 h];exact hy
 ·exact fun h=>⟨x,h,amj.2 rfl⟩
theorem aqm {l:List Sk} (hn:l.Nodup) {j:Nat} (hj:j<l.length):uS (l.take j) (l.getD j bY)=false:=by
 rw[awH]
 intro h
 have h:=aaV.1 h
 have e:l=l.take j++l.getD j bY :: l.drop (j+1):=by
  have h2:l.getD j bY=l[j]:=by rw[aaG,aaX hj];rfl
  rw[h2,←axv hj,axu]
 rw[e,List.nodup_append] at hn
 exact hn.2.2 _ h _ (auQ ..) rfl
def an1 (a:aB×Sk):Prop:=oO a.1∧jr a.1∧∀y∈a.1.sts,y.st.Nodup
theorem sj:av Tryz.prog 105 (bO (fun a:aB×Sk=>[iG a.1,skA a.2]) an1 (fun a=>fT (dZ a.1 a.2 a.1.sts.length))):=by
 refine vF Tryz.func105 ?_
 rintro ⟨c,x⟩ hpre
 obtain ⟨hs,ho,hn⟩:=hpre
 have h4:c.sts.length≤1000000:=hs.2.2.2
 refine fR (c.sts.length) (fun k=>[(6,.s (iA k)),(5,isR (dZ c x k))]) (fun k=>[]) (fun k=>True) ?_ ?_ ?_ ?_
 ·exact (ai (ai (ai (fun _=>rfl) (iE (by omega))) rfl) rfl)
 ·exact trivial
 ·trivial
 intro (k:Nat) ⟨hk,_⟩
 have hl:=uq c x k
 refine ah (p:=k<c.sts.length) (aA (by dsimp only;omega)) (fun g1=>?_) (fun g1=>?_)
 ·refine iX (k) (c.sts.length) ?_
  have hm:=abu (bD st0 g1)
  have hlo:=ho.1 _ hm
  have hnd:=hn _ hm
  have e0:uU c x k 0=dZ c x k:=by unfold uU;rw[List.take_zero];rfl
  refine fR ((c.sts.getD k st0).st.length) (fun j=>[(23,.s (iA j)),(5,isR (uU c x k j))]) (fun j=>[]) (fun j=>True) ?_ ?_ ?_ ?_
  ·exact (ai (ai (ai (fun _=>rfl) (iE (by omega))) rfl) (ai rfl (ai rfl (ai rfl (fun _ _=>rfl)))))
   all_goals rw[e0]
   all_goals exact fun _ _=>rfl
  ·exact trivial
  ·trivial
  intro (j:Nat) ⟨hj,_⟩
  refine ah (p:=j<(c.sts.getD k st0).st.length) (by simp only[zz,reduceCtorEq];omega) (fun g2=>?_) (fun g2=>?_)
  ·refine iX (j) ((c.sts.getD k st0).st.length) ?_
   refine ah (p:=(c.sts.getD k st0).st.getD j bY=x) (by (show ((((c.sts.getD k st0).st.getD j bY).1==x.1)&&((((c.sts.getD k st0).st.getD j bY).2==x.2)&&true))=true↔_;rw[Bool.and_true,abx,beq_iff_eq,beq_iff_eq];exact ⟨fun h=>Prod.ext h.1 h.2,fun h=>by rw[h];exact ⟨rfl,rfl⟩⟩)) (fun g3=>?_) (fun g3=>?_)
   ·have e1:uU c x k j=dZ c x k:=by
     have:=aqm hnd g2
     rw[g3] at this
     unfold uU;rw[this,if_neg (by decide)]
    have e2:uU c x k (j+1)=dZ c x k++[mU c k]:=by
     unfold uU
     rw[if_pos (aaV.2 (by rw[aR bY g2,g3];simp))]
    refine cK (rZ) ((c,k)) (by exact (ai (ai rfl (ai (ai rfl (fun _ _=>rfl)) (ai (ai rfl (fun _ _=>rfl)) (ai rfl (fun _ _=>rfl))))) rfl)) (⟨hs,by show k≤1000000;omega⟩) ?_
    refine ai (ai (by show (uU c x k j).length+1≤maxLen;rw[e1];unfold maxLen;omega) (by show ((uU c x k j).length+1)*8≤140737488355328;rw[e1];omega)) (ai (dW 1 rfl) ?_)
    refine nX (j) (ai (ai (ai (fun _=>rfl) (aG (by omega))) rfl) (ai rfl (ai rfl (ai ?_ ?_)))) trivial trivial
    ·rw[e2,e1,aaJ];rfl
    ·rw[e2,e1];exact dS _ _
   ·have e2:uU c x k (j+1)=uU c x k j:=by
     have:uS ((c.sts.getD k st0).st.take (j+1)) x=uS ((c.sts.getD k st0).st.take j) x:=by
      rw[auc,aaV,aaV,aR bY g2,acT,aes]
      exact ⟨fun h=>h.elim id fun h=>absurd h.symm g3,.inl⟩
     unfold uU;rw[this]
    refine nX (j) (ai (ai (ai (fun _=>rfl) (aG (by omega))) rfl) (ai rfl (ai rfl (ai ?_ ?_)))) trivial trivial
    ·rw[e2]
    ·rw[e2];exact fun _ _=>rfl
  ·have ej:uU c x k j=dZ c x (k+1):=by
    unfold uU
    rw[avB (by omega),dZ]
   refine nX (k) (ai (ai (ai (fun _=>rfl) (aG (by omega))) rfl) (ai rfl (ai rfl (ai ?_ ?_)))) trivial trivial
   ·rw[ej]
   ·rw[ej];exact fun _ _=>rfl
 ·obtain rfl:k=c.sts.length:=by omega
  refine ai (ai (fun _=>(by exact (fun _ _=>rfl))) ?_) trivial
  exact (ai rfl (fun _ _=>rfl))
theorem adF:∀n,n<1000→(dec n).length≤3:=by decide +kernel
theorem nM:av Tryz.prog 97 (bC (fun a:List UInt8×Nat=>[sA a.1,iA a.2]) (fun a=>a.1.length≤1000∧a.2<1000) (fun a=>sP (a.1++dec a.2))):=by
 refine vF Tryz.func97 ?_
 rintro ⟨s,n⟩ hpre
 obtain ⟨hs,hn⟩:=hpre
 have hn:n<1000:=hn
 have hs:s.length≤1000:=hs
 refine cK (aqC) (n) (by exact rfl) ((by show n<1000000000000;omega)) ?_
 have hd:=adF n hn
 refine ai (by show ((((strOf s).size+(strOf (dec n)).size:Nat)):Int)≤9223372036854775807;rw[cO,cO];omega) ?_
 refine ai (ai (fun _=>trivial) ?_) trivial
 show strOf s++strOf (dec n)=strOf (s++dec n)
 rw[uW]
def frI (c:aB) (i:Int):List Int:=(c.trs.getD i.toNat bf).fr
def frr (c:aB) (out:List Int) (i:Int):List Int:=if out.all (fun k=>!oz (frI c i) (frI c k)) then out++[i] else out
def auV (c:aB) (l:List Int):List Int:=l.foldl (frr c) []
theorem ajd (c:aB):∀(l out:List Int),(l.foldl (frr c) out).length≤out.length+l.length∧∀x∈l.foldl (frr c) out,x∈out∨x∈l
 | [],out=>⟨by simp,fun x h=>.inl h⟩
 | i :: l,out=>by
  obtain ⟨h1,h2⟩:=ajd c l (frr c out i)
  have h3:(frr c out i).length≤out.length+1:=by unfold frr;split<;>simp
  refine ⟨by rw[awz,arJ];omega,fun x hx=>?_⟩
  rcases h2 x hx with h | h
  ·unfold frr at h
   split at h
   ·rcases acT.1 h with h | h
    ·exact .inl h
    ·exact .inr (by simp at h;simp[h])
   ·exact .inl h
  ·exact .inr (asb _ h)
def aat (c:aB) (a v:List Bool):List Int:=auV c (ko (pE c a v) c.trs.length)
def aju (c:aB) (a v:List Bool):PV:=if mZ c a v=0 then .tup [iR (adJ c a (aat c a v)),fT (aat c a v),iP 0] else .tup [iR [],fT [],iP (mZ c a v)]
structure lG where
 act:Int
 sts:List Stp
def sqK (s:lG):List PV:=[iP s.act,abb s.sts]
def sqA (s:lG):SV:=.p false (.agg (sqK s))
def ckE (l:List Sk) (k:Nat):Int:=if (l.getD k bY).1<0∨6≤(l.getD k bY).1 then 2 else if 0<k∧(l.getD k bY).1=(l.getD (k-1) bY).1 then 7 else if 0<k∧(l.getD k bY).1<(l.getD (k-1) bY).1 then 9 else 0
def nk (x:Stp):Int:=if x.st.length=0 then 13 else if 6<x.st.length then 5 else if ¬dB (ckE x.st) x.st.length=0 then dB (ckE x.st) x.st.length else if x.wt<0∨1000000<x.wt then 2 else 0
def aq6 (x:Int):Bool:=decide (0≤x)&&decide (x<6)
theorem ajL {x:Int}:aq6 x=true↔0≤x∧x<6:=by unfold aq6;rw[abx,decide_eq_true_iff,decide_eq_true_iff]
theorem apA:av Tryz.prog 250 (bC (fun x:Int=>[iA x]) (fun _=>True) (fun x=>bP (decide (0≤x)&&decide (x<6)))):=by
 refine vF Tryz.func250 ?_
 rintro (x:Int) hpre
 refine bG (0≤x) (fun h1=>?_) fun h1=>?_
 ·refine eN (bP (decide (0≤x)&&decide (x<6))) ?_
  rw[decide_eq_true h1,aer]
  exact rfl
 ·refine eN (bP (decide (0≤x)&&decide (x<6))) ?_
  rw[decide_eq_false h1,apT]
  exact rfl
def aa0 (l:List Sk) (k:Nat):Int:=if k=0 then -1 else (l.getD (k-1) bY).1
def aw4:Spec:=bC (fun x:Stp=>[stA x]) (fun _=>True) (fun x=>iP (nk x))
theorem auh:av Tryz.prog 198 aw4:=by
 refine vF Tryz.func198 ?_
 rintro (x:Stp) hpre
 refine bE (x.st.length=0) (fun h1=>?_) fun h1=>?_
 ·refine eN (iP (nk x)) ?_
  rw[nk,if_pos h1]
  exact rfl
 refine bL (6<x.st.length) (fun h2=>?_) fun h2=>?_
 ·refine eN (iP (nk x)) ?_
  rw[nk,if_neg h1,if_pos h2]
  exact rfl
 have hA:∀e,dB (ckE x.st) x.st.length=e→¬e=0→nk x=e:=fun e h h0=>by unfold nk;rw[if_neg h1,if_neg h2,if_pos (by rw[h];exact h0),h]
 refine fR (x.st.length) (fun k=>[(19,.s (iA k)),(4,.s (iA (aa0 x.st k)))]) (fun k=>[]) (fun k=>∀j,j<k→ckE x.st j=0) (by exact (ai (ai (ai (fun _=>rfl) (iE (by omega))) rfl) (ai (ai (fun _=>rfl) (iE rfl)) rfl))) (by exact trivial) ?_ ?_
 ·exact fun j hj=>absurd hj (aeH _)
 intro (k:Nat) ⟨hk,hall⟩
 refine bL (k<x.st.length) (fun h3=>?_) fun h3=>?_
 ·refine iX (k) (x.st.length) ?_
  refine cK (apA) ((x.st.getD k bY).1) (by exact (iE (by simp only[zz,reduceCtorEq]))) (trivial) ?_
  refine aC (b:=!aq6 (x.st.getD k bY).1) rfl (fun h4=>?_) (fun h4=>?_)
  ·have h4:¬(0≤(x.st.getD k bY).1∧(x.st.getD k bY).1<6):=by rw[←ajL];simpa using h4
   have e:ckE x.st k=2:=by unfold ckE;rw[if_pos (by omega)]
   refine eN (iP (nk x)) ?_
   rw[hA 2 ((dO h3 hall (by rw[e];decide)).trans e) (by decide)]
   exact rfl
  have h4:0≤(x.st.getD k bY).1∧(x.st.getD k bY).1<6:=by rw[←ajL];simpa using h4
  refine ah (p:=(x.st.getD k bY).1=aa0 x.st k) (by simp only[zz,reduceCtorEq]) (fun h5=>?_) (fun h5=>?_)
  ·have hk0:0<k:=by
    rcases auo k with e | e
    ·subst e;unfold aa0 at h5;rw[if_pos rfl] at h5;omega
    ·exact e
   have h5:(x.st.getD k bY).1=(x.st.getD (k-1) bY).1:=by unfold aa0 at h5;rwa [if_neg (by omega)] at h5
   have e:ckE x.st k=7:=by unfold ckE;rw[if_neg (by omega),if_pos ⟨hk0,h5⟩]
   refine eN (iP (nk x)) ?_
   rw[hA 7 ((dO h3 hall (by rw[e];decide)).trans e) (by decide)]
   exact rfl
  refine ah (p:=(x.st.getD k bY).1<aa0 x.st k) (aA Iff.rfl) (fun h6=>?_) (fun h6=>?_)
  ·have hk0:0<k:=by
    rcases auo k with e | e
    ·subst e;unfold aa0 at h6;rw[if_pos rfl] at h6;omega
    ·exact e
   have h6:(x.st.getD k bY).1<(x.st.getD (k-1) bY).1:=by unfold aa0 at h6;rwa [if_neg (by omega)] at h6
   have e:ckE x.st k=9:=by unfold ckE;rw[if_neg (by omega),if_neg (by omega),if_pos ⟨hk0,h6⟩]
   refine eN (iP (nk x)) ?_
   rw[hA 9 ((dO h3 hall (by rw[e];decide)).trans e) (by decide)]
   exact rfl
  refine nX (k) (ai (ai (ai (fun _=>rfl) (aG (by omega))) rfl) (ai (ai nof (iE (by simp only[zz,reduceCtorEq];rfl))) rfl)) trivial ?_
  intro j hj
  by_cases hjk:j=k
  ·subst hjk
   unfold aa0 at h5 h6
   unfold ckE
   rw[if_neg (by omega)]
   by_cases e0:j=0
   ·rw[if_neg (by omega),if_neg (by omega)]
   ·rw[if_neg e0] at h5 h6
    rw[if_neg (fun h=>h5 h.2),if_neg (fun h=>h6 h.2)]
  ·exact hall j (by omega)
 ·obtain rfl:k=x.st.length:=by omega
  have e2:dB (ckE x.st) x.st.length=0:=gU hall
  have hB:nk x=if x.wt<0∨1000000<x.wt then 2 else 0:=by unfold nk;rw[if_neg h1,if_neg h2,if_neg (fun h=>h e2)]
  refine bL (x.wt<0) (fun h7=>?_) fun h7=>?_
  ·refine eN (iP (nk x)) ?_
   rw[hB,if_pos (.inl h7)]
   exact rfl
  refine bL (1000000<x.wt) (fun h8=>?_) fun h8=>?_
  ·refine eN (iP (nk x)) ?_
   rw[hB,if_pos (.inr h8)]
   exact rfl
  ·refine eN (iP (nk x)) ?_
   rw[hB,if_neg (by omega)]
   exact rfl
theorem ai0 {m:List Bool} {j:Nat} (hj:j<m.length) (b:Bool) (k:Nat):vS (mD m) j (bP b) k=mD (m.set j b) k:=by
 unfold vS mD
 rw[aaG,aaG,axD]
 by_cases h:k=j
 ·rw[if_pos h,if_pos h.symm,if_pos hj];rfl
 ·rw[if_neg h,if_neg (fun e=>h e.symm)]
def okS (n:Nat) (l:List Sk):Prop:=∀y∈l,0≤y.1∧y.1<(n:Int)
theorem afI {n:Nat} {l:List Sk} (h:okS n l) {k:Nat} (hk:k<l.length):0≤(l.getD k bY).1∧(l.getD k bY).1<(n:Int):=h _ (abu (bD bY hk))
def xQ (m:List Bool) (l:List Sk):List Bool:=l.foldl (fun m y=>m.set y.1.toNat y.2) m
theorem anR (m:List Bool) (l:List Sk) (y:Sk):xQ m (l++[y])=(xQ m l).set y.1.toNat y.2:=by unfold xQ;rw[awy];rfl
theorem ae8:∀(l:List Sk) (m:List Bool),(xQ m l).length=m.length
 | [],_=>rfl
 | y :: l,m=>by
  show (xQ (m.set y.1.toNat y.2) l).length=_
  rw[ae8 l,apr]
theorem aav {x:Stp} (h:nk x=0):(0<x.st.length∧x.st.length≤6)∧okS 6 x.st∧0≤x.wt∧x.wt≤1000000:=by
 unfold nk at h
 split at h
 ·cases h
 rename_i h1
 split at h
 ·cases h
 rename_i h2
 split at h
 ·rename_i h3;exact absurd h h3
 rename_i h3
 split at h
 ·cases h
 rename_i h4
 refine ⟨⟨by omega,by omega⟩,fun y hy=>?_,by omega,by omega⟩
 obtain ⟨i,hi,rfl⟩:=arM hy
 have h5:=qj (alF.1 h3) i hi
 unfold ckE at h5
 have hg:x.st.getD i bY=x.st[i]:=by rw[aaG,aaX hi];rfl
 rw[hg] at h5
 split at h5
 ·cases h5
 ·omega
def enP (m:List Bool):PV:=.arr 6 (mD m)
def enA (m:List Bool):SV:=.p false (enP m)
def enO (m:List Bool):Ob:=.arr 196 6 (mD m)
def aiC (act:Int) (l:List Sk):Bool:=l.any fun y=>decide (act≤y.1)
def atE (m:List Bool) (l:List Sk):Bool:=l.any fun y=>kQ m y.1==y.2
def sM (act:Int) (x:Stp) (m:List Bool):Int:=if ¬nk x=0 then nk x else if aiC act x.st then 6 else if atE m x.st then 14 else 0
theorem atf:av Tryz.prog 144 (bC (fun a:lG×Stp×List Bool=>[sqA a.1,stA a.2.1,enA a.2.2]) (fun a=>a.1.act≤6) (fun a=>iP (sM a.1.act a.2.1 a.2.2))):=by
 refine vF Tryz.func144 ?_
 rintro ⟨s,x,m⟩ hpre
 have ha:s.act≤6:=hpre
 refine cK (auh) (x) (by exact (ai (ai rfl (fun _ _=>rfl)) rfl)) (trivial) ?_
 refine bN (nk x=0) (fun h1=>?_) fun h1=>?_
 ·refine eN (iP (sM s.act x m)) ?_
  rw[sM,if_pos h1]
  exact rfl
 obtain ⟨⟨_,h6⟩,hx,_⟩:=aav h1
 refine fR (x.st.length) (fun k=>[(20,.s (iA k))]) (fun k=>[]) (fun k=>∀y∈x.st.take k,decide (s.act≤y.1)=false) (by exact (ai (ai (fun _=>rfl) (iE (by omega))) rfl)) (by exact trivial) ?_ ?_
 ·exact fun y hy=>absurd hy (by simp)
 intro (k:Nat) ⟨hk,hall⟩
 refine ah (p:=k<x.st.length) (aA (by dsimp only;omega)) (fun h2=>?_) (fun h2=>?_)
 ·refine iX (k) (x.st.length) ?_
  refine ah (p:=s.act≤(x.st.getD k bY).1) (fH Iff.rfl) (fun h3=>?_) (fun h3=>?_)
  ·have e:aiC s.act x.st=true:=af8 (d:=bY) h2 (decide_eq_true h3)
   refine eN (iP (sM s.act x m)) ?_
   rw[sM,if_neg (fun h=>h h1),if_pos e]
   exact rfl
  refine nX (k) (ai (ai (fun _=>rfl) (aG (by omega))) rfl) trivial ?_
  intro y hy
  rw[aR bY h2] at hy
  rcases acT.1 hy with hy | hy
  ·exact hall y hy
  ·simp only[aes] at hy;subst hy;exact decide_eq_false h3
 ·obtain rfl:k=x.st.length:=by omega
  rw[acS] at hall
  have eo:aiC s.act x.st=false:=atY.2 (fun y hy=>by rw[hall y hy];decide)
  refine fR (x.st.length) (fun j=>[(33,.s (iA j))]) (fun j=>[]) (fun j=>∀y∈x.st.take j,(kQ m y.1==y.2)=false) (by exact (ai (ai (fun _=>rfl) (iE (by omega))) rfl)) (by exact trivial) ?_ ?_
  ·exact fun y hy=>absurd hy (by simp)
  intro (j:Nat) ⟨hj,hal⟩
  refine ah (p:=j<x.st.length) (aA (by dsimp only;omega)) (fun h4=>?_) (fun h4=>?_)
  ·refine iX (j) (x.st.length) ?_
   have hxj:=afI hx h4
   refine dR (.seq [0,1,2,3,4,5,6]) ?_
   refine ai hxj ?_
   refine ai (by show 0+(x.st.getD j bY).1.toNat*1<6;omega) ?_
   refine ah (p:=(kQ m (x.st.getD j bY).1==(x.st.getD j bY).2)=true) (by (show (m.getD (0+(x.st.getD j bY).1.toNat*1) false==(x.st.getD j bY).2)=true↔_;rw[auZ,ahv];exact Iff.rfl)) (fun h5=>?_) (fun h5=>?_)
   ·have e:atE m x.st=true:=af8 (d:=bY) h4 h5
    refine eN (iP (sM s.act x m)) ?_
    rw[sM,if_neg (fun h=>h h1),if_neg (by rw[eo];decide),if_pos e]
    exact rfl
   refine nX (j) (ai (ai (fun _=>rfl) (aG (by omega))) rfl) trivial ?_
   intro y hy
   rw[aR bY h4] at hy
   rcases acT.1 hy with hy | hy
   ·exact hal y hy
   ·simp only[aes] at hy;subst hy;exact awH.2 h5
  ·obtain rfl:j=x.st.length:=by omega
   rw[acS] at hal
   have e:atE m x.st=false:=atY.2 (fun y hy=>by rw[hal y hy];decide)
   refine eN (iP (sM s.act x m)) ?_
   rw[sM,if_neg (fun h=>h h1),if_neg (by rw[eo];decide),if_neg (by rw[e];decide)]
   exact rfl
theorem apx:av Tryz.prog 145 (bO (fun a:List Bool×Stp=>[enA a.1,stA a.2]) (fun a=>a.1.length≤6∧okS a.1.length a.2.st∧a.2.st.length≤1000000) (fun a=>enP (xQ a.1 a.2.st))):=by
 refine vF Tryz.func145 ?_
 rintro ⟨m,x⟩ hpre
 obtain ⟨hm,hx,hl⟩:=hpre
 have hm:m.length≤6:=hm
 have hx:okS m.length x.st:=hx
 have hl:x.st.length≤1000000:=hl
 refine fR (x.st.length) (fun k=>[(10,.s (iA k))]) (fun k=>[⟨0,196,[.ob (enO (xQ m (x.st.take k)))]⟩]) (fun k=>True) ?_ ?_ ?_ ?_
 ·exact (ai (ai (fun _=>rfl) (iE (by omega))) rfl)
 ·exact (ai (ai rfl (ai rfl (fun _ _=>rfl))) trivial)
 ·trivial
 intro (k:Nat) ⟨hk,_⟩
 refine ah (p:=k<x.st.length) (aA (by dsimp only;omega)) (fun h1=>?_) (fun h1=>?_)
 ·refine iX (k) (x.st.length) ?_
  have hxk:=afI hx h1
  refine ai (by show 0≤(x.st.getD k bY).1∧(x.st.getD k bY).1<6;omega) ?_
  refine ai (by show 0+(x.st.getD k bY).1.toNat*1<6;omega) ?_
  refine nX (k) (ai (ai (fun _=>rfl) (aG (by omega))) rfl) (ai (ai rfl (ai rfl ?_)) trivial) trivial
  intro q hq
  show vS (mD (xQ m (x.st.take k))) (0+(x.st.getD k bY).1.toNat*1) (bP (x.st.getD k bY).2) q=mD (xQ m (x.st.take (k+1))) q
  rw[ahv,auZ,ai0 (by rw[ae8];omega),aR bY h1,anR]
 ·obtain rfl:k=x.st.length:=by omega
  rw[acS]
  refine ai (ai (fun _=>(by exact (fun _ _=>rfl))) ?_) trivial
  exact (ai rfl (fun _ _=>rfl))
def zeroE (act:Int):List Bool:=List.replicate act.toNat false
def kI (act:Int) (l:List Stp) (k:Nat):List Bool:=(l.take k).foldl (fun m x=>xQ m x.st) (zeroE act)
def nZ (act:Int) (l:List Stp) (k:Nat):List Bool:=(l.take k).foldl (fun m x=>eB m (x.st.map (·.1)) true) (zeroE act)
theorem alo {act:Int} {l:List Stp} {k:Nat} (h:k<l.length):kI act l (k+1)=xQ (kI act l k) (l.getD k st0).st:=by unfold kI;rw[aR st0 h,awy];rfl
theorem amR {act:Int} {l:List Stp} {k:Nat} (h:k<l.length):nZ act l (k+1)=eB (nZ act l k) ((l.getD k st0).st.map (·.1)) true:=by unfold nZ;rw[aR st0 h,awy];rfl
theorem adD {α β:Type} {f:List β→α→List β} (hf:∀m x,(f m x).length=m.length):∀(l:List α) (m:List β),(l.foldl f m).length=m.length
 | [],_=>rfl
 | x :: l,m=>by rw[awz,adD hf l,hf]
theorem anl (act:Int) (l:List Stp) (k:Nat):(kI act l k).length=act.toNat:=by
 refine (adD (f:=fun m (x:Stp)=>xQ m x.st) (fun m x=>ae8 x.st m) (l.take k) (zeroE act)).trans ?_
 unfold zeroE;rw[apo]
theorem an0 (act:Int) (l:List Stp) (k:Nat):(nZ act l k).length=act.toNat:=by
 refine (adD (f:=fun m (x:Stp)=>eB m (x.st.map (·.1)) true) (fun m x=>mh true (x.st.map (·.1)) m) (l.take k) (zeroE act)).trans ?_
 unfold zeroE;rw[apo]
def acH (s:lG):Int:=dB (fun k=>sM s.act (s.sts.getD k st0) (kI s.act s.sts k)) s.sts.length
def ng (s:lG):Int:=
 if s.act<1∨6<s.act then 2 else if s.sts.length=0 then 13 else if 64<s.sts.length then 5 else if ¬acH s=0 then acH s
 else if (kI s.act s.sts s.sts.length).any id=true then 9 else if ((nZ s.act s.sts s.sts.length).any fun y=>false==y)=true then 13 else 0
theorem avS:∀{m:List Bool},m.length≤6→(!((m.getD 0 false==false)&&((m.getD 1 false==false)&&((m.getD 2 false==false)&&((m.getD 3 false==false)&&((m.getD 4 false==false)&&((m.getD 5 false==false)&&true)))))))=m.any id
 | [],_=>rfl
 | [a],_=>by cases a<;>rfl
 | [a,b],_=>by cases a<;>cases b<;>rfl
 | [a,b,c],_=>by cases a<;>cases b<;>cases c<;>rfl
 | [a,b,c,d],_=>by cases a<;>cases b<;>cases c<;>cases d<;>rfl
 | [a,b,c,d,e],_=>by cases a<;>cases b<;>cases c<;>cases d<;>cases e<;>rfl
 | [a,b,c,d,e,f],_=>by cases a<;>cases b<;>cases c<;>cases d<;>cases e<;>cases f<;>rfl
 | _ :: _ :: _ :: _ :: _ :: _ :: _ :: _,h=>by simp at h
theorem atL (l:List Sk) {j:Nat} (h:j<l.length):(l.map (·.1)).getD j 0=(l.getD j bY).1:=by
 rw[aaG,aaG,alW,aaX h];rfl
theorem aji {act:Int} {x:Stp} {m:List Bool} (h:sM act x m=0):nk x=0∧∀y∈x.st,0≤y.1∧y.1<act:=by
 unfold sM at h
 split at h
 ·rename_i h1;exact absurd h h1
 rename_i h1
 have h1:=alF.1 h1
 split at h
 ·cases h
 rename_i h2
 refine ⟨h1,fun y hy=>⟨((aav h1).2.1 y hy).1,?_⟩⟩
 have:aiC act x.st=false:=by simpa using h2
 have:=atY.1 this y hy
 simpa using this
theorem agc:∀k,k<6→nV (vals (List.replicate 6 (.bool false))) k=mD [] k:=fun k hk=>by
 match k,hk with
 | 0,_=>rfl | 1,_=>rfl | 2,_=>rfl | 3,_=>rfl | 4,_=>rfl | 5,_=>rfl
theorem ajv (act:Int) (k:Nat):mD (zeroE act) k=mD [] k:=by
 unfold mD zeroE
 rw[aaG,axl]
 split<;>rfl
theorem apw:av Tryz.prog 89 (bC (fun s:lG=>[sqA s]) (fun _=>True) (fun s=>iP (ng s))):=by
 refine vF Tryz.func89 ?_
 rintro (s:lG) hpre
 refine bL (s.act<1) (fun h1=>?_) fun h1=>?_
 ·refine eN (iP (ng s)) ?_
  rw[ng,if_pos (.inl h1)]
  exact rfl
 refine bL (6<s.act) (fun h2=>?_) fun h2=>?_
 ·refine eN (iP (ng s)) ?_
  rw[ng,if_pos (.inr h2)]
  exact rfl
 have e0:¬(s.act<1∨6<s.act):=fun h=>h.elim h1 h2
 refine bE (s.sts.length=0) (fun h3=>?_) fun h3=>?_
 ·refine eN (iP (ng s)) ?_
  rw[ng,if_neg e0,if_pos h3]
  exact rfl
 refine bL (64<s.sts.length) (fun h4=>?_) fun h4=>?_
 ·refine eN (iP (ng s)) ?_
  rw[ng,if_neg e0,if_neg h3,if_pos h4]
  exact rfl
 have hA:ng s=if ¬acH s=0 then acH s else if (kI s.act s.sts s.sts.length).any id=true then 9 else if ((nZ s.act s.sts s.sts.length).any fun y=>false==y)=true then 13 else 0:=by
  unfold ng;rw[if_neg e0,if_neg h3,if_neg h4]
 refine fR (s.sts.length) (fun k=>[(32,.s (iA k))]) (fun k=>[⟨1,196,[.ob (enO (kI s.act s.sts k))]⟩,⟨2,196,[.ob (enO (nZ s.act s.sts k))]⟩]) (fun k=>∀j,j<k→sM s.act (s.sts.getD j st0) (kI s.act s.sts j)=0) ?_ ?_ ?_ ?_
 ·exact (ai (ai (fun _=>rfl) (iE (by omega))) rfl)
 ·refine (ai (ai rfl (ai rfl ?_)) (ai (ai rfl (ai rfl ?_)) trivial))
  ·exact fun q hq=>(agc q hq).trans (ajv s.act q).symm
  ·exact fun q hq=>(agc q hq).trans (ajv s.act q).symm
 ·exact fun j hj=>absurd hj (aeH _)
 intro (k:Nat) ⟨hk,hall⟩
 have hel:=anl s.act s.sts k
 have hml:=an0 s.act s.sts k
 refine bL (k<s.sts.length) (fun h5=>?_) fun h5=>?_
 ·refine iX (k) (s.sts.length) ?_
  refine cK (atf) ((s,s.sts.getD k st0,kI s.act s.sts k)) (by exact (ai (ai rfl (ai rfl (fun _ _=>rfl))) (ai (ai (ai rfl (fun _ _=>rfl)) (iE (by simp only[zz,reduceCtorEq]))) (ai rfl (fun _ _=>rfl))))) ((by show s.act≤6;omega)) ?_
  refine aW (p:=sM s.act (s.sts.getD k st0) (kI s.act s.sts k)=0) (bn (by dsimp only;omega)) (fun h6=>?_) (fun h6=>?_)
  ·have e:acH s=sM s.act (s.sts.getD k st0) (kI s.act s.sts k):=dO (f:=fun k=>sM s.act (s.sts.getD k st0) (kI s.act s.sts k)) h5 hall h6
   refine eN (iP (ng s)) ?_
   rw[hA,if_pos (show ¬acH s=0 by rw[e];exact h6),e]
   exact rfl
  obtain ⟨hck,hso⟩:=aji h6
  have h6l:=(aav hck).1.2
  have hokS:okS s.act.toNat (s.sts.getD k st0).st:=fun y hy=>by have:=hso y hy;omega
  refine cK ((nD apx (kI s.act s.sts k,s.sts.getD k st0) ⟨by show (kI s.act s.sts k).length≤6;omega,by show okS (kI s.act s.sts k).length _;rw[hel];exact hokS,by show (s.sts.getD k st0).st.length≤1000000;omega⟩ (r:=enP (kI s.act s.sts (k+1))) (by rw[alo h5]))) (()) (by exact (ai (ai rfl (fun _ _=>rfl)) (ai (ai rfl (fun _ _=>rfl)) (iE (by simp only[zz,reduceCtorEq]))))) (trivial) ?_
  refine fR ((s.sts.getD k st0).st.length) (fun j=>[(49,.s (iA j))]) (fun j=>[⟨2,196,[.ob (enO (eB (nZ s.act s.sts k) (((s.sts.getD k st0).st.map (·.1)).take j) true))]⟩]) (fun j=>True) ?_ ?_ ?_ ?_
  ·exact (ai (ai (fun _=>rfl) (iE (by omega))) rfl)
  ·exact (ai (ai rfl (ai rfl (fun _ _=>rfl))) trivial)
  ·trivial
  intro (j:Nat) ⟨hj,_⟩
  refine ah (p:=j<(s.sts.getD k st0).st.length) (by simp only[zz,reduceCtorEq];omega) (fun h7=>?_) (fun h7=>?_)
  ·refine iX (j) ((s.sts.getD k st0).st.length) ?_
   have hxj:=afI hokS h7
   refine ai (by show 0≤((s.sts.getD k st0).st.getD j bY).1∧((s.sts.getD k st0).st.getD j bY).1<6;omega) ?_
   refine ai (by show 0+((s.sts.getD k st0).st.getD j bY).1.toNat*1<6;omega) ?_
   refine nX (j) (ai (ai (fun _=>rfl) (aG (by omega))) rfl) (ai (ai rfl (ai rfl ?_)) trivial) trivial
   intro q hq
   show vS (mD (eB (nZ s.act s.sts k) (((s.sts.getD k st0).st.map (·.1)).take j) true)) (0+((s.sts.getD k st0).st.getD j bY).1.toNat*1) (bP true) q=mD (eB (nZ s.act s.sts k) (((s.sts.getD k st0).st.map (·.1)).take (j+1)) true) q
   have eg:=atL (s.sts.getD k st0).st h7
   rw[ahv,auZ,ai0 (by rw[mh];omega),aR 0 (by rw[ai1];exact h7),abP,eg]
  ·obtain rfl:j=(s.sts.getD k st0).st.length:=by omega
   have e9:eB (nZ s.act s.sts k) (((s.sts.getD k st0).st.map (·.1)).take (s.sts.getD k st0).st.length) true=nZ s.act s.sts (k+1):=by
    rw[amR h5,avB (by rw[ai1];exact acM _)]
   refine nX (k) (ai (ai (fun _=>rfl) (aG (by omega))) rfl) (ai (ai rfl (ai rfl (fun _ _=>rfl))) (ai (ai rfl (ai rfl ?_)) trivial)) ?_
   ·exact fun q hq=>by rw[←e9]
   ·intro i hi
    by_cases e:i=k
    ·subst e;exact h6
    ·exact hall i (by omega)
 ·obtain rfl:k=s.sts.length:=by omega
  have e1:acH s=0:=gU hall
  refine ah (p:=(kI s.act s.sts s.sts.length).any id=true) (by (rw[←avS (m:=kI s.act s.sts s.sts.length) (by omega)];first | done | exact Iff.rfl)) (fun h8=>?_) (fun h8=>?_)
  ·refine eN (iP (ng s)) ?_
   rw[hA,if_neg (fun h=>h e1),if_pos h8]
   exact rfl
  refine ai (ai (by decide) (ai (by show 0≤s.act;omega) (by show s.act≤6;omega))) ?_
  refine ei _ (ai (atw) (ei ((nZ s.act s.sts s.sts.length,false)) (ei [] (ai (ai rfl (ai rfl (ai rfl (ai rfl (ai (fun _=>Or.inl rfl) (ai (fun _=>ai rfl rfl) (Or.inl rfl))))))) (ai ?_ (ai (by exact trivial) (ai ((by show (nZ s.act s.sts s.sts.length).length≤1000000;omega)) ?_)))))))
  ·refine (ai (ai rfl (ai ?_ ?_)) rfl)
   ·show s.act.toNat-(0:Int).toNat=(nZ s.act s.sts s.sts.length).length
    rw[hml];rfl
   ·intro q hq
    show [mD (nZ s.act s.sts s.sts.length) ((0:Int).toNat+q)]=_
    rw[show (0:Int).toNat+q=q by simp];rfl
  refine aC (b:=(nZ s.act s.sts s.sts.length).any fun y=>false==y) rfl (fun h9=>?_) (fun h9=>?_)
  ·refine eN (iP (ng s)) ?_
   rw[hA,if_neg (fun h=>h e1),if_neg h8,if_pos h9]
   exact rfl
  ·refine eN (iP (ng s)) ?_
   rw[hA,if_neg (fun h=>h e1),if_neg h8,if_neg (by rw[h9];decide)]
   exact rfl
def fV (n:Int):Ex:=.node 1 n []
def qG (n:Int):List PV:=[iP 1,iP n,.val (.slice none 0 0)]
def mR (y:Sk):Int:=2*y.1+if y.2 then 1 else 0
def agX (l:List Sk):Ex:=match l with
 | [y]=>fV (mR y)
 | l=>.node 3 0 (l.map fun y=>fV (mR y))
def acw (l:List Sk) (k:Nat):List PV:=qG (mR (l.getD k bY))
abbrev C3 := PV × PV × PV
def q9 (c:C3):List PV:=[c.1,c.2.1,c.2.2]
def pV (n:Int):C3:=(iP 1,iP n,.val (.slice none 0 0))
def o8 (l:List Sk):C3:=(if l.length=1 then iP 1 else iP 3,if l.length=1 then iP (mR (l.getD 0 bY)) else iP 0,if l.length=1 then .val (.slice none 0 0) else .seq l.length (acw l))
def afa (l:List Sk):List PV:=q9 (o8 l)
theorem aiQ {l:List Sk} (h:l.length=1):afa l=qG (mR (l.getD 0 bY)):=by unfold afa q9 o8;simp only[h,if_true];rfl
theorem ahO {l:List Sk} (h:¬l.length=1):afa l=[iP 3,iP 0,.seq l.length (acw l)]:=by unfold afa q9 o8;simp only[h,if_false]
theorem tu:av Tryz.prog 91 (bC (fun n:Int=>[iA n]) (fun _=>True) (fun n=>.agg (qG n))):=by
 refine vF Tryz.func91 ?_
 rintro (n:Int) hpre
 refine eN _ ?_
 exact (ai rfl (ai rfl rfl))
theorem qC:av Tryz.prog 102 (bC (fun n:Int=>[iA n]) (fun _=>True) (fun n=>.agg (qG n))):=by
 refine vF Tryz.func102 ?_
 rintro (n:Int) hpre
 refine eN _ ?_
 exact (ai rfl (ai rfl rfl))
def ajR (l:List Sk):Prop:=l.length≤1000∧okS 6 l
theorem auU {l:List Sk} (h:ajR l) {k:Nat} (hk:k<l.length):0≤(l.getD k bY).1∧(l.getD k bY).1<6:=by
 have:=afI h.2 hk;omega
def awI (l:List Sk) (k:Nat):LV:=.rw 90 3 k (acw l)
theorem ajQ (l:List Sk) (k:Nat):∀j,j<k+1→aY k (acw l) (aT 3 (qG (mR (l.getD k bY)))) j=acw l j:=by
 intro j hj
 unfold aY
 by_cases h:j<k
 ·rw[if_pos h]
 ·obtain rfl:j=k:=by omega
  rw[if_neg h,avt];rfl
theorem ajY:av Tryz.prog 93 (bO (fun l:List Sk=>[anc l]) (fun l=>ajR l∧0<l.length) (fun l=>.agg (afa l))):=by
 refine vF Tryz.func93 ?_
 rintro (l:List Sk) hpre
 obtain ⟨hs,hp⟩:=hpre
 have hl:l.length≤1000:=hs.1
 refine fR (l.length) (fun k=>[(9,.s (iA k)),(3,awI l k)]) (fun k=>[]) (fun k=>True) (by exact (ai (ai (ai (fun _=>rfl) (iE (by omega))) rfl) rfl)) (by exact trivial) ?_ ?_
 ·trivial
 intro (k:Nat) ⟨hk,_⟩
 refine bL (k<l.length) (fun h1=>?_) fun h1=>?_
 ·refine iX (k) (l.length) ?_
  have hx:=auU hs h1
  have hw:IntKind.i64.wrap (2*(l.getD k bY).1)=2*(l.getD k bY).1:=dF (by omega) (by omega)
  refine aC (b:=(l.getD k bY).2) rfl (fun h2=>?_) (fun h2=>?_)
  ·refine ei _ (ai (tu) (ei (mR (l.getD k bY)) (ei [] (ai (a4 (ai (fun _=>Or.inl rfl) (ai nof (Or.inl rfl)))) (ai ?_ (ai (by exact trivial) (ai (trivial) ?_)))))))
   ·show IntKind.i64.wrap (IntKind.i64.wrap (2*(l.getD k bY).1)+1)=mR (l.getD k bY)
    rw[hw,dF (by omega) (by omega)];unfold mR;rw[h2];rfl
   refine ai (mxL (n:=k+1) (by omega) (by decide)) (ai (lt1 rfl) ?_)
   refine nX (k) (ai (ai (ai (fun _=>rfl) (aG (by omega))) rfl) (ai rfl (ai rfl (ai rfl ?_)))) trivial trivial
   exact ajQ l k
  ·refine ei _ (ai (tu) (ei (mR (l.getD k bY)) (ei [] (ai (a4 (ai (fun _=>Or.inl rfl) (ai nof (Or.inl rfl)))) (ai ?_ (ai (by exact trivial) (ai (trivial) ?_)))))))
   ·show IntKind.i64.wrap (2*(l.getD k bY).1)=mR (l.getD k bY)
    rw[hw];unfold mR;rw[h2];simp
   refine ai (mxL (n:=k+1) (by omega) (by decide)) (ai (lt1 rfl) ?_)
   refine nX (k) (ai (ai (ai (fun _=>rfl) (aG (by omega))) rfl) (ai rfl (ai rfl (ai rfl ?_)))) trivial trivial
   exact ajQ l k
 ·obtain rfl:k=l.length:=by omega
  refine bE (l.length=1) (fun h3=>?_) fun h3=>?_
  ·refine ai (ai (by decide) (by show (0:Int)<(l.length:Int);omega)) ?_
   refine ai (by show 0<l.length;omega) ?_
   refine eF (.agg (afa l)) ?_
   rw[aiQ h3]
   exact (ai rfl (ai (iE rfl) rfl))
  ·refine eF (.agg (afa l)) ?_
   rw[ahO h3]
   exact (ai rfl (ai rfl (ai rfl (fun _ _=>rfl))))
def aai (act:Int) (p:List (Stp×C3)) (x:Stp):List (Stp×C3):=
 if 0<x.wt then (p++[(⟨x.st,0⟩,o8 x.st)])++[(⟨[],x.wt⟩,pV (2*act+1+((p.length+1:Nat):Int)))] else p++[(⟨x.st,0⟩,o8 x.st)]
def at6 (act:Int):List (Stp×C3):=[(⟨[],0⟩,pV (2*act))]
def eX (s:lG) (k:Nat):List (Stp×C3):=(s.sts.take k).foldl (aai s.act) (at6 s.act)
theorem ahK {s:lG} {k:Nat} (h:k<s.sts.length):eX s (k+1)=aai s.act (eX s k) (s.sts.getD k st0):=by unfold eX;rw[aR st0 h,awy];rfl
theorem aqU (act:Int) (p:List (Stp×C3)) (x:Stp):(aai act p x).length≤p.length+2∧p.length<(aai act p x).length:=by
 unfold aai
 split
 ·simp only[aaJ,arJ,axS];omega
 ·simp only[aaJ,arJ,axS];omega
theorem ajD (s:lG):∀k,k≤s.sts.length→(eX s k).length≤2*k+1∧0<(eX s k).length
 | 0,_=>⟨by show (at6 s.act).length≤1;exact acM _,by show 0<1;decide⟩
 | k+1,h=>by
  obtain ⟨h1,h2⟩:=ajD s k (by omega)
  obtain ⟨h3,h4⟩:=aqU s.act (eX s k) (s.sts.getD k st0)
  rw[ahK (by omega)];omega
abbrev SC := Stp × C3
def u7:SC:=(st0,(iP 0,iP 0,.val (.slice none 0 0)))
def zn (x:Stp):List PV:=[if x.st=[] then .val (.slice none 0 0) else adq x.st,iP x.wt]
def ae0:PV:=.seq 1 (aT 1 [.val (.string (strOf [115,116,97,114,116]))])
def apZ (act:Int) (ins:PV) (st tr:SV):Ob:=.cells 39 [iA act,.p false ins,st,tr]
def aqf (s:SV):Ob:=.cells 88 [s]
def avE (p:List SC):Ob:=.row 98 2 p.length (fun k=>zn (p.getD k u7).1)
def aub (p:List SC):Ob:=.row 90 3 p.length (fun k=>q9 (p.getD k u7).2)
def jd:SV:=.p false (.val (.slice none 0 0))
structure aeO where
 act:Int
 p:List SC
 s0:PV
 wt:Int
 e0:PV
 e1:PV
 e2:PV
 x:SC
def aeO.ok (a:aeO):Prop:=a.p.length≤1000∧zn a.x.1=[a.s0,iP a.wt]∧q9 a.x.2=[a.e0,a.e1,a.e2]
def asR (a:aeO):List SV:=[.p false (.agg [a.s0,iP a.wt]),.p false (.agg [a.e0,a.e1,a.e2]),.own 0 0,.own 1 0]
def auC (n:Bool) (a:aeO):Prop:=a.ok∧(n=true→a.p=[])
def av1:Bool→aeO→List Ob
 | true,a=>[apZ a.act ae0 jd jd,aqf jd]
 | false,a=>[apZ a.act ae0 (.row 2) jd,aqf (.row 3),avE a.p,aub a.p]
def avC (a:aeO):List Ob:=[apZ a.act ae0 (.row 2) jd,aqf (.row 3),avE (a.p++[a.x]),aub (a.p++[a.x])]
def au3 (n:Bool):yQ:={ A:=aeO,fix:=2,args:=asR,objs:=av1 n,pre:=auC n,res:=fun _=>.tup [],objs':=avC,inl:=[4000009,4000013] }
theorem ze (f:SC→List PV) (p:List SC) (x:SC) {g:Nat→List PV} (hg:g 0=f x):∀k,k<p.length+1→aY p.length (fun k=>f (p.getD k u7)) g k=f ((p++[x]).getD k u7):=by
 intro k hk
 unfold aY
 by_cases h:k<p.length
 ·rw[if_pos h]
  show f (p.getD k u7)=_
  rw[aaG,aaG,aoj h]
 ·obtain rfl:k=p.length:=by omega
  rw[if_neg h,avt,hg,aaG,ahS (acM _),avt];rfl
theorem afW:tH Tryz.prog 90 (au3 false):=by
 refine vG Tryz.func90 ?_
 rintro ⟨act,p,s0,wt,e0,e1,e2,x⟩ hpre
 obtain ⟨⟨hp,hx,he⟩,_⟩:=hpre
 have hp:p.length≤1000:=hp
 have hx:zn x.1=[s0,iP wt]:=hx
 have he:q9 x.2=[e0,e1,e2]:=he
 refine dR (.one 0 (.one 1 (.one 2 (.rd 5 [4] (.rd 6 [4] (.alt 3 (.alt 4 (.one 9 (.one 7 (.one 8 (.one 10 (.one 11 .done))))) (.alt 7 (.one 4 (.one 9 (.one 8 (.one 10 (.one 11 .done))))) .stop)) (.alt 7 (.one 3 (.one 4 (.one 9 (.one 8 (.one 10 (.one 11 .done)))))) .stop))))))) ?_
 refine ai ?_ (ai ?_ trivial)
 ·refine ai ?_ (ai ?_ trivial)
  ·refine ai (mxL (n:=p.length+1) (by omega) (by decide)) (ai (lt1 rfl) ?_)
   refine ai (mxL (n:=p.length+1) (by omega) (by decide)) (ai (lt1 rfl) ?_)
   refine ei [0,1,6,7] (ai (ai rfl (ai rfl rfl)) (ai trivial ?_))
   refine (ai (ai rfl (ai rfl (ai (ai rfl (fun _ _=>rfl)) (ai rfl rfl)))) (ai (ai rfl rfl) (ai (ai rfl (ai rfl (ai ?_ ?_))) (ai rfl (ai rfl (ai ?_ ?_))))))
   ·show p.length+1=(p++[x]).length;rw[aaJ];rfl
   ·exact fun k hk=>ze (fun q=>zn q.1) p x (g:=aT 2 [s0,iP wt]) hx.symm k (by have hk:k<(p++[x]).length:=hk;rwa [aaJ] at hk)
   ·show p.length+1=(p++[x]).length;rw[aaJ];rfl
   ·exact fun k hk=>ze (fun q=>q9 q.2) p x (g:=aT 3 [e0,e1,e2]) he.symm k (by have hk:k<(p++[x]).length:=hk;rwa [aaJ] at hk)
  ·refine ai (mxL (n:=p.length+1) (by omega) (by decide)) (ai (lt1 rfl) ?_)
   refine ai (mxL (n:=p.length+1) (by omega) (by decide)) (ai (lt1 rfl) ?_)
   refine ei [0,1,6,7] (ai (ai rfl (ai rfl rfl)) (ai trivial ?_))
   refine (ai (ai rfl (ai rfl (ai (ai rfl (fun _ _=>rfl)) (ai rfl rfl)))) (ai (ai rfl rfl) (ai (ai rfl (ai rfl (ai ?_ ?_))) (ai rfl (ai rfl (ai ?_ ?_))))))
   ·show p.length+1=(p++[x]).length;rw[aaJ];rfl
   ·exact fun k hk=>ze (fun q=>zn q.1) p x (g:=aT 2 [s0,iP wt]) hx.symm k (by have hk:k<(p++[x]).length:=hk;rwa [aaJ] at hk)
   ·show p.length+1=(p++[x]).length;rw[aaJ];rfl
   ·exact fun k hk=>ze (fun q=>q9 q.2) p x (g:=aT 3 [e0,e1,e2]) he.symm k (by have hk:k<(p++[x]).length:=hk;rwa [aaJ] at hk)
 ·refine ai (mxL (n:=p.length+1) (by omega) (by decide)) (ai (lt1 rfl) ?_)
  refine ai (mxL (n:=p.length+1) (by omega) (by decide)) (ai (lt1 rfl) ?_)
  refine ei [0,1,6,7] (ai (ai rfl (ai rfl rfl)) (ai trivial ?_))
  refine (ai (ai rfl (ai rfl (ai (ai rfl (fun _ _=>rfl)) (ai rfl rfl)))) (ai (ai rfl rfl) (ai (ai rfl (ai rfl (ai ?_ ?_))) (ai rfl (ai rfl (ai ?_ ?_))))))
  ·show p.length+1=(p++[x]).length;rw[aaJ];rfl
  ·exact fun k hk=>ze (fun q=>zn q.1) p x (g:=aT 2 [s0,iP wt]) hx.symm k (by have hk:k<(p++[x]).length:=hk;rwa [aaJ] at hk)
  ·show p.length+1=(p++[x]).length;rw[aaJ];rfl
  ·exact fun k hk=>ze (fun q=>q9 q.2) p x (g:=aT 3 [e0,e1,e2]) he.symm k (by have hk:k<(p++[x]).length:=hk;rwa [aaJ] at hk)
theorem atM:tH Tryz.prog 90 (au3 true):=by
 refine vG Tryz.func90 ?_
 rintro ⟨act,p,s0,wt,e0,e1,e2,x⟩ hpre
 obtain ⟨⟨hp,hx,he⟩,hn⟩:=hpre
 obtain rfl:p=[]:=hn rfl
 have hx:zn x.1=[s0,iP wt]:=hx
 have he:q9 x.2=[e0,e1,e2]:=he
 refine dR (.one 0 (.one 1 (.one 2 (.rd 5 [4] (.rd 6 [4] (.alt 3 (.alt 4 (.one 9 (.one 7 (.one 8 (.one 10 (.one 11 .done))))) (.alt 7 (.one 4 (.one 9 (.one 8 (.one 10 (.one 11 .done))))) .stop)) (.alt 7 (.one 3 (.one 4 (.one 9 (.one 8 (.one 10 (.one 11 .done)))))) .stop))))))) ?_
 refine ai ?_ (ai ?_ trivial)
 ·refine ai ?_ (ai ?_ trivial)
  ·refine ai (ai (by decide) (by decide)) (ai (lt1 rfl) ?_)
   refine ai (ai (by decide) (by decide)) (ai (lt1 rfl) ?_)
   refine ei [0,1,4,5] (ai (ai rfl (ai rfl rfl)) (ai trivial ?_))
   refine (ai (ai rfl (ai rfl (ai (ai rfl (fun _ _=>rfl)) (ai rfl rfl)))) (ai (ai rfl rfl) (ai (ai rfl (ai rfl (ai rfl ?_))) (ai rfl (ai rfl (ai rfl ?_))))))
   ·intro k hk
    have hk:k<1:=hk
    obtain rfl:k=0:=by omega
    exact hx.symm
   ·intro k hk
    have hk:k<1:=hk
    obtain rfl:k=0:=by omega
    exact he.symm
  ·refine ai (ai (by decide) (by decide)) (ai (lt1 rfl) ?_)
   refine ai (ai (by decide) (by decide)) (ai (lt1 rfl) ?_)
   refine ei [0,1,4,5] (ai (ai rfl (ai rfl rfl)) (ai trivial ?_))
   refine (ai (ai rfl (ai rfl (ai (ai rfl (fun _ _=>rfl)) (ai rfl rfl)))) (ai (ai rfl rfl) (ai (ai rfl (ai rfl (ai rfl ?_))) (ai rfl (ai rfl (ai rfl ?_))))))
   ·intro k hk
    have hk:k<1:=hk
    obtain rfl:k=0:=by omega
    exact hx.symm
   ·intro k hk
    have hk:k<1:=hk
    obtain rfl:k=0:=by omega
    exact he.symm
 ·refine ai (ai (by decide) (by decide)) (ai (lt1 rfl) ?_)
  refine ai (ai (by decide) (by decide)) (ai (lt1 rfl) ?_)
  refine ei [0,1,4,5] (ai (ai rfl (ai rfl rfl)) (ai trivial ?_))
  refine (ai (ai rfl (ai rfl (ai (ai rfl (fun _ _=>rfl)) (ai rfl rfl)))) (ai (ai rfl rfl) (ai (ai rfl (ai rfl (ai rfl ?_))) (ai rfl (ai rfl (ai rfl ?_))))))
  ·intro k hk
   have hk:k<1:=hk
   obtain rfl:k=0:=by omega
   exact hx.symm
  ·intro k hk
   have hk:k<1:=hk
   obtain rfl:k=0:=by omega
   exact he.symm
def av3:Spec:=bC (fun l:List (Sk)=>[anc l]) (fun l=>l.length≤1000000) (fun l=>adq l)
theorem as6:av Tryz.prog 92 av3:=by
 refine vF Tryz.func92 ?_
 rintro (l:List (Sk)) hpre
 have hl:l.length≤1000000:=hpre
 intro b hb
 refine iB (fun h1=>?_) (fun h1=>?_)
 ·have h1:l.length=0:=hb h1
  refine eN (adq l) ?_
  rw[axn.1 h1]
  exact rfl
 ·refine ai (mxL (n:=0+l.length) (by omega) (by decide)) (ai (fun _ _=>rfl) ?_)
  refine ai (ai (fun _ k hk=>by rw[abX k hk];rfl) ?_) trivial
  refine (ai ?_ (fun _ _=>rfl))
  exact ahv _
def toN (k n:Nat):Int:=(((k+1) % n:Nat):Int)
def aed (p:List SC) (k:Nat):List PV:=[.seq 1 (aT 1 [iP (k:Int)]),.seq 1 (aT 1 [iP (toN k p.length)]),(p.getD k u7).2.1,(p.getD k u7).2.2.1,(p.getD k u7).2.2.2]
def aw2 (p:List SC) (k:Nat):LV:=.rw 101 5 k (aed p)
def aiy (act:Int) (p:List SC):PV:=.agg [iP act,ae0,.seq p.length (fun k=>zn (p.getD k u7).1),.seq p.length (aed p)]
def tO (s:lG):Int:=if ¬ng s=0 then ng s else if 24<(eX s s.sts.length).length then 5 else 0
def ofRaw (s:lG):PV:=if tO s=0 then .tup [aiy s.act (eX s s.sts.length),iP 0] else .tup [.agg [iP 0,.val (.slice none 0 0),.val (.slice none 0 0),.val (.slice none 0 0)],iP (tO s)]
theorem alT (p:List SC) (k:Nat) {g:Nat→List PV} (hg:g 0=aed p k):∀j,j<k+1→aY k (aed p) g j=aed p j:=by
 intro j hj
 unfold aY
 by_cases h:j<k
 ·rw[if_pos h]
 ·obtain rfl:j=k:=by omega
  rw[if_neg h,avt,hg]
theorem seq_ok {s:lG} (h:ng s=0):(1≤s.act∧s.act≤6)∧s.sts.length≤64∧∀x∈s.sts,nk x=0:=by
 unfold ng at h
 split at h
 ·cases h
 rename_i h1
 split at h
 ·cases h
 split at h
 ·cases h
 rename_i h3
 split at h
 ·rename_i h4;exact absurd h h4
 rename_i h4
 refine ⟨by omega,by omega,fun x hx=>?_⟩
 obtain ⟨k,hk,rfl⟩:=arM hx
 have:=qj (alF.1 h4) k hk
 rw[show s.sts.getD k st0=s.sts[k] by rw[aaG,aaX hk];rfl] at this
 exact (aji this).1
set_option maxHeartbeats 16000000 in
theorem ak5:av Tryz.prog 49 (bO (fun s:lG=>[sqA s]) (fun _=>True) ofRaw):=by
 refine vI [90,3000020,4000077,4000084] Tryz.func49 ?_
 rintro (s:lG) hpre
 refine cK (apw) (s) (by exact (ai rfl (ai rfl (fun _ _=>rfl)))) (trivial) ?_
 refine bN (ng s=0) (fun h1=>?_) fun h1=>?_
 ·have e:tO s=ng s:=if_pos h1
  refine eF (ofRaw s) ?_
  rw[ofRaw,e,if_neg h1]
  exact (ai (ai rfl (ai rfl (ai rfl rfl))) rfl)
 obtain ⟨⟨ha1,ha6⟩,h64,hck⟩:=seq_ok h1
 have hw2:IntKind.i64.wrap (2*s.act)=2*s.act:=dF (by omega) (by omega)
 refine ei _ (ai (tu) (ei (2*s.act) (ei [] (ai (a4 (ai (fun _=>Or.inl rfl) (ai nof (Or.inl rfl)))) (ai ?_ (ai (by exact trivial) (ai (trivial) ?_)))))))
 ·exact hw2
 refine gI (atM) (⟨s.act,[],.val (.slice none 0 0),0,iP 1,iP (2*s.act),.val (.slice none 0 0),(⟨[],0⟩,pV (2*s.act))⟩) [3,4] (by exact (ai (ai rfl rfl) (ai (ai rfl (ai (iE (by omega)) rfl)) (ai (ai rfl rfl) (ai rfl rfl))))) (by exact (ai (ai rfl (ai rfl (ai (ai rfl (fun _ _=>rfl)) (ai rfl rfl)))) (ai rfl rfl))) (⟨⟨alr _,rfl,rfl⟩,fun _=>rfl⟩) ?_
 have hL:=ajD s
 refine fR (s.sts.length) (fun k=>[(34,.s (iA k))]) (fun k=>[⟨3,39,[.s (iA s.act),.s (.p false ae0),.rw 98 2 (eX s k).length (fun j=>zn ((eX s k).getD j u7).1),.s jd]⟩,⟨4,88,[.rw 90 3 (eX s k).length (fun j=>q9 ((eX s k).getD j u7).2)]⟩]) (fun k=>True) ?_ ?_ ?_ ?_
 ·exact (ai (ai (fun _=>rfl) (iE (by omega))) rfl)
 ·exact (ai (ai (ai (ai nof rfl) rfl) (ai (ai (ai nof (ai rfl (fun _ _=>rfl))) rfl) (ai (ai rfl (ai rfl (ai rfl (fun _ _=>rfl)))) (ai (ai nof rfl) rfl)))) (ai (ai rfl (ai rfl (ai rfl (fun _ _=>rfl)))) trivial))
 ·trivial
 intro (k:Nat) ⟨hk,_⟩
 obtain ⟨hk1,hk2⟩:=hL k hk
 refine bL (k<s.sts.length) (fun h2=>?_) fun h2=>?_
 ·refine iX (k) (s.sts.length) ?_
  have hm:=abu (bD st0 h2)
  obtain ⟨⟨hx0,hx6⟩,hxs,hxw⟩:=aav (hck _ hm)
  have hsm:ajR (s.sts.getD k st0).st:=⟨by omega,hxs⟩
  have hst:=ahK h2
  have hne:(s.sts.getD k st0).st≠[]:=fun e=>by rw[e] at hx0;simp at hx0
  refine dR (.one 0 (.one 1 (.one 2 (.one 5 (.one 6 (.one 3 (.one 4 (.one 7 (.wr 8 .done))))))))) ?_
  refine cK (as6) ((s.sts.getD k st0).st) (by exact (ai rfl (fun _ _=>rfl))) ((by show (s.sts.getD k st0).st.length≤1000000;omega)) ?_
  by_cases h1l:(s.sts.getD k st0).st.length=1
  ·have ee:=aiQ h1l
   refine cK ((nD ajY (s.sts.getD k st0).st ⟨hsm,hx0⟩ (r:=.agg [iP 1,iP (mR ((s.sts.getD k st0).st.getD 0 bY)),.val (.slice none 0 0)]) (congrArg PV.agg ee))) (()) (by exact (ai rfl (fun _ _=>rfl))) (trivial) ?_
   refine gI (afW) (⟨s.act,eX s k,adq (s.sts.getD k st0).st,0,iP 1,iP (mR ((s.sts.getD k st0).st.getD 0 bY)),.val (.slice none 0 0),(⟨(s.sts.getD k st0).st,0⟩,o8 (s.sts.getD k st0).st)⟩) [3,4,7,8] (by exact (ai (ai (ai rfl (fun _ _=>rfl)) rfl) (ai (ai rfl (ai rfl rfl)) (ai (ai rfl rfl) (ai rfl rfl))))) (by exact (ai (ai rfl (ai rfl (ai (ai rfl (fun _ _=>rfl)) (ai rfl rfl)))) (ai (ai rfl rfl) (ai (ai rfl (ai rfl (ai rfl (fun _ _=>rfl)))) (ai rfl (ai rfl (ai rfl (fun _ _=>rfl)))))))) (⟨⟨by show (eX s k).length≤1000;omega,by show zn ⟨(s.sts.getD k st0).st,0⟩=_;unfold zn;rw[if_neg hne],ee⟩,fun h=>by cases h⟩) ?_
   refine ah (p:=0<(s.sts.getD k st0).wt) (aA Iff.rfl) (fun h3=>?_) (fun h3=>?_)
   ·have e:eX s (k+1)=(eX s k++[(⟨(s.sts.getD k st0).st,0⟩,o8 (s.sts.getD k st0).st)])++[(⟨[],(s.sts.getD k st0).wt⟩,pV (2*s.act+1+(((eX s k).length+1:Nat):Int)))]:=by rw[hst];unfold aai;rw[if_pos h3]
    have hpl:(eX s k++[((⟨(s.sts.getD k st0).st,0⟩:Stp),o8 (s.sts.getD k st0).st)]).length=(eX s k).length+1:=by rw[aaJ];rfl
    refine dR (.one 0 (.one 1 (.one 2 (.one 3 (.one 4 (.one 5 (.one 6 (.one 7 (.one 8 (.one 9 (.one 10 (.wr 11 .done)))))))))))) ?_
    refine ei _ (ai (tu) (ei (2*s.act+1+(((eX s k).length+1:Nat):Int)) (ei [] (ai (a4 (ai (fun _=>Or.inl rfl) (ai nof (Or.inl rfl)))) (ai ?_ (ai (by exact trivial) (ai (trivial) ?_)))))))
    ·show IntKind.i64.wrap (IntKind.i64.wrap (IntKind.i64.wrap (2*s.act)+1)+(((eX s k++[((⟨(s.sts.getD k st0).st,0⟩:Stp),o8 (s.sts.getD k st0).st)]).length:Nat):Int))=_
     rw[hpl,hw2,dF (n:=2*s.act+1) (by omega) (by omega),dF (by omega) (by omega)]
    refine gI (afW) (⟨s.act,eX s k++[(⟨(s.sts.getD k st0).st,0⟩,o8 (s.sts.getD k st0).st)],.val (.slice none 0 0),(s.sts.getD k st0).wt,iP 1,iP (2*s.act+1+(((eX s k).length+1:Nat):Int)),.val (.slice none 0 0),(⟨[],(s.sts.getD k st0).wt⟩,pV (2*s.act+1+(((eX s k).length+1:Nat):Int)))⟩) [3,4,10,11] (by exact (ai (ai rfl (iE (by simp only[zz,reduceCtorEq]))) (ai (ai rfl (ai rfl rfl)) (ai (ai rfl rfl) (ai rfl rfl))))) (by exact (ai (ai rfl (ai rfl (ai (ai rfl (fun _ _=>rfl)) (ai rfl rfl)))) (ai (ai rfl rfl) (ai (ai rfl (ai rfl (ai rfl (fun _ _=>rfl)))) (ai rfl (ai rfl (ai rfl (fun _ _=>rfl)))))))) (⟨⟨by show (eX s k++[((⟨(s.sts.getD k st0).st,0⟩:Stp),o8 (s.sts.getD k st0).st)]).length≤1000;rw[hpl];omega,rfl,rfl⟩,fun h=>by cases h⟩) ?_
    refine nX (k) (ai (ai (fun _=>rfl) (aG (by omega))) rfl) (ai (ai (ai (ai nof rfl) rfl) (ai (ai (ai nof (ai rfl (fun _ _=>rfl))) rfl) (ai (ai rfl (ai rfl (ai ?_ ?_))) (ai (ai nof rfl) rfl)))) (ai (ai rfl (ai rfl (ai ?_ ?_))) trivial)) trivial
    all_goals rw[e]
    ·exact fun _ _=>rfl
    ·exact fun _ _=>rfl
   ·have e:eX s (k+1)=eX s k++[(⟨(s.sts.getD k st0).st,0⟩,o8 (s.sts.getD k st0).st)]:=by rw[hst];unfold aai;rw[if_neg h3]
    refine nX (k) (ai (ai (fun _=>rfl) (aG (by omega))) rfl) (ai (ai (ai (ai nof rfl) rfl) (ai (ai (ai nof (ai rfl (fun _ _=>rfl))) rfl) (ai (ai rfl (ai rfl (ai ?_ ?_))) (ai (ai nof rfl) rfl)))) (ai (ai rfl (ai rfl (ai ?_ ?_))) trivial)) trivial
    all_goals rw[e]
    ·exact fun _ _=>rfl
    ·exact fun _ _=>rfl
  ·have ee:=ahO h1l
   refine cK ((nD ajY (s.sts.getD k st0).st ⟨hsm,hx0⟩ (r:=.agg [iP 3,iP 0,.seq (s.sts.getD k st0).st.length (acw (s.sts.getD k st0).st)]) (congrArg PV.agg ee))) (()) (by exact (ai rfl (fun _ _=>rfl))) (trivial) ?_
   refine gI (afW) (⟨s.act,eX s k,adq (s.sts.getD k st0).st,0,iP 3,iP 0,.seq (s.sts.getD k st0).st.length (acw (s.sts.getD k st0).st),(⟨(s.sts.getD k st0).st,0⟩,o8 (s.sts.getD k st0).st)⟩) [3,4,7,8] (by exact (ai (ai (ai rfl (fun _ _=>rfl)) rfl) (ai (ai rfl (ai rfl (ai rfl (fun _ _=>rfl)))) (ai (ai rfl rfl) (ai rfl rfl))))) (by exact (ai (ai rfl (ai rfl (ai (ai rfl (fun _ _=>rfl)) (ai rfl rfl)))) (ai (ai rfl rfl) (ai (ai rfl (ai rfl (ai rfl (fun _ _=>rfl)))) (ai rfl (ai rfl (ai rfl (fun _ _=>rfl)))))))) (⟨⟨by show (eX s k).length≤1000;omega,by show zn ⟨(s.sts.getD k st0).st,0⟩=_;unfold zn;rw[if_neg hne],ee⟩,fun h=>by cases h⟩) ?_
   refine ah (p:=0<(s.sts.getD k st0).wt) (aA Iff.rfl) (fun h3=>?_) (fun h3=>?_)
   ·have e:eX s (k+1)=(eX s k++[(⟨(s.sts.getD k st0).st,0⟩,o8 (s.sts.getD k st0).st)])++[(⟨[],(s.sts.getD k st0).wt⟩,pV (2*s.act+1+(((eX s k).length+1:Nat):Int)))]:=by rw[hst];unfold aai;rw[if_pos h3]
    have hpl:(eX s k++[((⟨(s.sts.getD k st0).st,0⟩:Stp),o8 (s.sts.getD k st0).st)]).length=(eX s k).length+1:=by rw[aaJ];rfl
    refine dR (.one 0 (.one 1 (.one 2 (.one 3 (.one 4 (.one 5 (.one 6 (.one 7 (.one 8 (.one 9 (.one 10 (.wr 11 .done)))))))))))) ?_
    refine ei _ (ai (tu) (ei (2*s.act+1+(((eX s k).length+1:Nat):Int)) (ei [] (ai (a4 (ai (fun _=>Or.inl rfl) (ai nof (Or.inl rfl)))) (ai ?_ (ai (by exact trivial) (ai (trivial) ?_)))))))
    ·show IntKind.i64.wrap (IntKind.i64.wrap (IntKind.i64.wrap (2*s.act)+1)+(((eX s k++[((⟨(s.sts.getD k st0).st,0⟩:Stp),o8 (s.sts.getD k st0).st)]).length:Nat):Int))=_
     rw[hpl,hw2,dF (n:=2*s.act+1) (by omega) (by omega),dF (by omega) (by omega)]
    refine gI (afW) (⟨s.act,eX s k++[(⟨(s.sts.getD k st0).st,0⟩,o8 (s.sts.getD k st0).st)],.val (.slice none 0 0),(s.sts.getD k st0).wt,iP 1,iP (2*s.act+1+(((eX s k).length+1:Nat):Int)),.val (.slice none 0 0),(⟨[],(s.sts.getD k st0).wt⟩,pV (2*s.act+1+(((eX s k).length+1:Nat):Int)))⟩) [3,4,10,11] (by exact (ai (ai rfl (iE (by simp only[zz,reduceCtorEq]))) (ai (ai rfl (ai rfl rfl)) (ai (ai rfl rfl) (ai rfl rfl))))) (by exact (ai (ai rfl (ai rfl (ai (ai rfl (fun _ _=>rfl)) (ai rfl rfl)))) (ai (ai rfl rfl) (ai (ai rfl (ai rfl (ai rfl (fun _ _=>rfl)))) (ai rfl (ai rfl (ai rfl (fun _ _=>rfl)))))))) (⟨⟨by show (eX s k++[((⟨(s.sts.getD k st0).st,0⟩:Stp),o8 (s.sts.getD k st0).st)]).length≤1000;rw[hpl];omega,rfl,rfl⟩,fun h=>by cases h⟩) ?_
    refine nX (k) (ai (ai (fun _=>rfl) (aG (by omega))) rfl) (ai (ai (ai (ai nof rfl) rfl) (ai (ai (ai nof (ai rfl (fun _ _=>rfl))) rfl) (ai (ai rfl (ai rfl (ai ?_ ?_))) (ai (ai nof rfl) rfl)))) (ai (ai rfl (ai rfl (ai ?_ ?_))) trivial)) trivial
    all_goals rw[e]
    ·exact fun _ _=>rfl
    ·exact fun _ _=>rfl
   ·have e:eX s (k+1)=eX s k++[(⟨(s.sts.getD k st0).st,0⟩,o8 (s.sts.getD k st0).st)]:=by rw[hst];unfold aai;rw[if_neg h3]
    refine nX (k) (ai (ai (fun _=>rfl) (aG (by omega))) rfl) (ai (ai (ai (ai nof rfl) rfl) (ai (ai (ai nof (ai rfl (fun _ _=>rfl))) rfl) (ai (ai rfl (ai rfl (ai ?_ ?_))) (ai (ai nof rfl) rfl)))) (ai (ai rfl (ai rfl (ai ?_ ?_))) trivial)) trivial
    all_goals rw[e]
    ·exact fun _ _=>rfl
    ·exact fun _ _=>rfl
 ·obtain rfl:k=s.sts.length:=by omega
  refine bL (24<(eX s s.sts.length).length) (fun h4=>?_) fun h4=>?_
  ·have e:tO s=5:=by unfold tO;rw[if_neg (fun h=>h h1),if_pos h4]
   refine eF (ofRaw s) ?_
   rw[ofRaw,e,if_neg (show ¬(5:Int)=0 by decide)]
   exact (ai (ai rfl (ai rfl (ai rfl rfl))) rfl)
  have e0:tO s=0:=by unfold tO;rw[if_neg (fun h=>h h1),if_neg h4]
  have hA:ofRaw s=.tup [aiy s.act (eX s s.sts.length),iP 0]:=by unfold ofRaw;rw[if_pos e0]
  have hp0:=(hL s.sts.length (acM _)).2
  clear hL
  generalize eX s s.sts.length=p at *
  refine fR (p.length) (fun k=>[(71,.s (iA k))]) (fun k=>[⟨3,39,[.s (iA s.act),.s (.p false ae0),.rw 98 2 p.length (fun j=>zn (p.getD j u7).1),aw2 p k]⟩]) (fun k=>True) ?_ ?_ ?_ ?_
  ·exact (ai (ai (fun _=>rfl) (iE (by omega))) rfl)
  ·exact (ai (ai (ai (ai nof rfl) rfl) (ai (ai (ai nof (ai rfl (fun _ _=>rfl))) rfl) (ai (ai rfl (ai rfl (ai rfl (fun _ _=>rfl)))) rfl))) trivial)
  ·trivial
  intro (k:Nat) ⟨hk,_⟩
  refine bL (k<p.length) (fun h5=>?_) fun h5=>?_
  ·have hw1:IntKind.i64.wrap ((k:Int)+1)=((k+1:Nat):Int):=aG (by omega)
   refine dR (.one 0 (.one 1 (.one 2 (.one 4 (.one 5 (.one 6 (.one 7 (.one 8 (.one 9 (.one 11 (.one 12 (.one 13 (.one 14 (.alt 3 (.one 10 (.one 15 (.one 16 (.one 17 (.one 18 (.one 19 .done)))))) (.alt 10 (.one 3 (.one 15 (.one 16 (.one 17 (.one 18 (.one 19 .done)))))) .stop))))))))))))))) ?_
   refine ai (by show ¬(p.length:Int)=0;omega) ?_
   refine ai (ai (abw _) (by show (k:Int)<(p.length:Int);omega)) ?_
   refine ai (by show k<p.length;exact h5) ?_
   refine ai ?_ (ai ?_ trivial)
   ·refine ai (mxL (n:=k+1) (by omega) (by decide)) (ai (fun j hj=>by
     have hj:j<1:=hj
     obtain rfl:j=0:=by omega
     rfl) ?_)
    refine nX (k) (ai (ai (fun _=>rfl) (aG (by omega))) rfl) (ai (ai (ai (ai nof rfl) rfl) (ai (ai (ai nof (ai rfl (fun _ _=>rfl))) rfl) (ai (ai rfl (ai rfl (ai rfl (fun _ _=>rfl)))) (ai rfl (ai rfl (ai rfl ?_)))))) trivial) trivial
    refine alT p k ?_
    show [PV.seq 1 (aT 1 [iP (k:Int)]),.seq 1 (aT 1 [iP ((IntKind.i64.wrap ((k:Int)+1)).tmod (p.length:Int))]),(p.getD k u7).2.1,(p.getD k u7).2.2.1,(p.getD k u7).2.2.2]=_
    rw[hw1];rfl
   ·refine ai (mxL (n:=k+1) (by omega) (by decide)) (ai (fun j hj=>by
     have hj:j<1:=hj
     obtain rfl:j=0:=by omega
     rfl) ?_)
    refine nX (k) (ai (ai (fun _=>rfl) (aG (by omega))) rfl) (ai (ai (ai (ai nof rfl) rfl) (ai (ai (ai nof (ai rfl (fun _ _=>rfl))) rfl) (ai (ai rfl (ai rfl (ai rfl (fun _ _=>rfl)))) (ai rfl (ai rfl (ai rfl ?_)))))) trivial) trivial
    refine alT p k ?_
    show [PV.seq 1 (aT 1 [iP (k:Int)]),.seq 1 (aT 1 [iP ((IntKind.i64.wrap ((k:Int)+1)).tmod (p.length:Int))]),(p.getD k u7).2.1,(p.getD k u7).2.2.1,(p.getD k u7).2.2.2]=_
    rw[hw1];rfl
  ·obtain rfl:k=p.length:=by omega
   refine eF (ofRaw s) ?_
   rw[hA]
   exact (ai (ai rfl (ai (ai rfl (fun _ _=>rfl)) (ai (ai rfl (fun _ _=>rfl)) (ai rfl (fun _ _=>rfl))))) rfl)
theorem ato {m:List Bool}:∀{l:List Int} {k:Int},0≤k→(∀x∈l,0≤x)→kQ (eB m l false) k=(kQ m k&&!gX l k):=by
 intro l
 induction l generalizing m with
 | nil=>intro k _ _;simp[eB,gX]
 | cons x l ih=>
  intro k hk hl
  have hx:0≤x:=hl x (by simp)
  show kQ (eB (m.set x.toNat false) l false) k=_
  rw[ih hk fun y hy=>hl y (by simp[hy])]
  have h1:kQ (m.set x.toNat false) k=(kQ m k&&!(k==x)):=by
   unfold kQ
   rw[aaG,aaG,axD]
   by_cases e:k=x
   ·subst e
    rw[if_pos rfl]
    by_cases h:k.toNat<m.length
    ·rw[if_pos h];simp
    ·rw[if_neg h];simp
   ·rw[if_neg (by omega),beq_eq_false_iff_ne.2 e];simp
  rw[h1]
  unfold gX
  rw[axF]
  cases kQ m k<;>cases (k==x)<;>simp
def nonneg (l:List Int):Prop:=∀x∈l,0≤x
theorem abM {c:aB} {k:Int} (hk:0≤k):∀{out:List Int} {m:List Bool},(∀i∈out,nonneg (frI c i))→kQ (jE c m out) k=(kQ m k&&out.all fun i=>!gX (frI c i) k)
 | [],m,_=>by simp[jE]
 | i :: out,m,h=>by
  show kQ (jE c (eB m (c.trs.getD i.toNat bf).fr false) out) k=_
  rw[abM hk (fun j hj=>h j (by simp[hj])),ato (l:=(c.trs.getD i.toNat bf).fr) hk (h i (by simp)),List.all_cons,Bool.and_assoc];rfl
theorem atg {c:aB} {m:List Bool} {out l:List Int} (hl:nonneg l) (h:∀i∈out,nonneg (frI c i)) (ha:allM m l=true):allM (jE c m out) l=out.all fun i=>!oz l (frI c i):=by
 unfold allM at ha ⊢
 rw[auc,aoP,aoP]
 rw[aoP] at ha
 constructor
 ·intro h1 i hi
  rw[ao0]
  unfold oz
  rw[atY]
  intro k hk
  have h2:=h1 k hk
  rw[abM (hl k hk) h,abx,aoP] at h2
  have:=h2.2 i hi
  rw[ao0] at this
  rw[this];decide
 ·intro h1 k hk
  rw[abM (hl k hk) h,ha k hk,aer,aoP]
  intro i hi
  have h2:=h1 i hi
  rw[ao0] at h2 ⊢
  unfold oz at h2
  rw[atY] at h2
  simpa using h2 k hk
theorem ahq {c:aB} {m:List Bool}:∀(l out:List Int),(∀i∈l,nonneg (frI c i)∧allM m (frI c i)=true)→(∀i∈out,nonneg (frI c i)) →
  l.foldl (nS c) (jE c m out,out)=(jE c m (l.foldl (frr c) out),l.foldl (frr c) out)
 | [],out,_,_=>rfl
 | i :: l,out,h1,h2=>by
  obtain ⟨g1,g2⟩:=h1 i (by simp)
  have e:=atg (c:=c) (m:=m) (out:=out) g1 h2 g2
  have hs:nS c (jE c m out,out) i=(jE c m (frr c out i),frr c out i):=by
   unfold nS frr
   show (if allM (jE c m out) (frI c i)=true then _ else _)=_
   rw[e]
   by_cases hc:(out.all fun k=>!oz (frI c i) (frI c k))=true
   ·rw[if_pos hc,if_pos hc,akY]
   ·rw[if_neg hc,if_neg hc]
  rw[awz,hs,awz]
  refine ahq l _ (fun j hj=>h1 j (by simp[hj])) fun j hj=>?_
  unfold frr at hj
  split at hj
  ·rcases acT.1 hj with hj | hj
   ·exact h2 j hj
   ·simp at hj;subst hj;exact g1
  ·exact h2 j hj
theorem ac9 {z:List Bool} (b:Bool):∀{l:List Int} {a:List Bool},oU a.length l→eB (a++z) l b=eB a l b++z
 | [],a,_=>rfl
 | x :: l,a,h=>by
  have hx:=h x (by simp)
  show eB ((a++z).set x.toNat b) l b=eB (a.set x.toNat b) l b++z
  rw[List.set_append_left _ _ (by omega)]
  exact ac9 b (by rw[apr];exact fun y hy=>h y (by simp[hy]))
theorem afH {c:aB} {z:List Bool}:∀{F:List Int} {a:List Bool},(∀i∈F,oU a.length (c.trs.getD i.toNat bf).fr)→jE c (a++z) F=jE c a F++z
 | [],a,_=>rfl
 | i :: F,a,h=>by
  show jE c (eB (a++z) (c.trs.getD i.toNat bf).fr false) F=jE c (eB a (c.trs.getD i.toNat bf).fr false) F++z
  rw[ac9 _ (h i (by simp))]
  exact afH (by rw[mh];exact fun y hy=>h y (by simp[hy]))
theorem ahT {c:aB} {z:List Bool}:∀{F:List Int} {a:List Bool},(∀i∈F,oU a.length (c.trs.getD i.toNat bf).to)→kS c (a++z) F=kS c a F++z
 | [],a,_=>rfl
 | i :: F,a,h=>by
  show kS c (eB (a++z) (c.trs.getD i.toNat bf).to true) F=kS c (eB a (c.trs.getD i.toNat bf).to true) F++z
  rw[ac9 _ (h i (by simp))]
  exact ahT (by rw[mh];exact fun y hy=>h y (by simp[hy]))
theorem aoo {c:aB} {a v:List Bool} (h0:mZ c a v=0):(uV c a v).2=aat c a v∧(kS c (uV c a v).1 (uV c a v).2).take c.sts.length=adJ c a (aat c a v):=by
 obtain ⟨g1,-⟩:=alI h0
 obtain ⟨hc,hal,-⟩:=aac g1
 have hmem:∀i∈ko (pE c a v) c.trs.length,(oU c.sts.length (c.trs.getD i.toNat bf).fr∧oU c.sts.length (c.trs.getD i.toNat bf).to)∧allM a (frI c i)=true:=fun i hi=>by
  obtain ⟨j,h1,h2,h3⟩:=ab4 hi
  subst h2
  obtain ⟨q1,q2,-⟩:=tC hc h1
  unfold pE at h3
  rw[abx] at h3
  exact ⟨⟨by rw[aeI];exact q1.2,by rw[aeI];exact q2.2⟩,by unfold frI;rw[aeI];exact h3.1⟩
 have hF:uV c a v=(jE c (rG a) (aat c a v),aat c a v):=by
  have:=ahq (c:=c) (m:=rG a) (ko (pE c a v) c.trs.length) [] (fun i hi=>⟨fun x hx=>((hmem i hi).1.1 x hx).1,by rw[ajN];exact (hmem i hi).2⟩) (by simp)
  exact this
 have hin:∀i∈aat c a v,i∈ko (pE c a v) c.trs.length:=fun i hi=>by
  rcases (ajd c (ko (pE c a v) c.trs.length) []).2 i hi with h | h
  ·simp at h
  ·exact h
 rw[hF]
 refine ⟨rfl,?_⟩
 show (kS c (jE c (rG a) (aat c a v)) (aat c a v)).take c.sts.length=_
 unfold rG adJ
 rw[afH (fun i hi=>by rw[hal];exact (hmem i (hin i hi)).1.1),ahT (fun i hi=>by rw[xY,hal];exact (hmem i (hin i hi)).1.2)]
 rw[List.take_left' (by rw[aaC,xY,hal])]
theorem amP (c:aB) (a v:List Bool):yV c a v=aju c a v:=by
 unfold yV aju
 by_cases h:mZ c a v=0
 ·obtain ⟨h1,h2⟩:=aoo h
  rw[if_pos h,if_pos h,h2,h1]
 ·rw[if_neg h,if_neg h]
theorem aqD {u u' v v':PV} (h1:gB u u') (h2:gB v v'):bS [u,v] [u',v']:=by
 refine ⟨rfl,fun k s s' hs hs'=>?_⟩
 match k with
 | 0=>cases hs;cases hs';exact h1
 | 1=>cases hs;cases hs';exact h2
 | k+2=>simp at hs
theorem axa {n:Nat} {f:Nat→List PV} {l:List Int} (hn:n=l.length) (hf:∀k,k<n→f k=[iP (l.getD k 0)]):gB (.seq n f) (fT l):=by
 subst hn
 refine .seq _ _ _ (fun j hj=>by rw[hf j hj]) fun j k s s' hj hs hs'=>?_
 rw[hf j hj] at hs
 have hs':[iP (l.getD j 0)][k]?=some s':=hs'
 rw[hs] at hs';cases hs';exact .refl _
def toC (x:Ex):C3:=(iP x.op,iP x.idx,if x.op=1 then .val (.slice none 0 0) else .seq x.args.length (fun k=>qG (x.args.getD k bK).idx))
theorem atr (n:Int):pV n=toC (fV n):=rfl
theorem alB (l:List Sk):o8 l=toC (agX l):=by
 match l with
 | [y]=>rfl
 | []=>
  show (iP 3,iP 0,PV.seq 0 (acw []))=(iP 3,iP 0,PV.seq 0 (fun k=>qG (([]:List Ex).getD k bK).idx))
  exact congrArg (fun f:Nat→List PV=>((iP 3,iP 0,PV.seq 0 f):C3)) (funext fun k=>by cases k<;>rfl)
 | a :: b :: l=>
  show (iP 3,iP 0,PV.seq (a :: b :: l).length (acw (a :: b :: l)))=(iP 3,iP 0,PV.seq ((a :: b :: l).map fun y=>fV (mR y)).length (fun k=>qG (((a :: b :: l).map fun y=>fV (mR y)).getD k bK).idx))
  rw[ai1]
  refine congrArg (fun f:Nat→List PV=>((iP 3,iP 0,PV.seq (a :: b :: l).length f):C3)) (funext fun k=>?_)
  show qG (mR ((a :: b :: l).getD k bY))=_
  rw[aaG,aaG,alW]
  cases (a :: b :: l)[k]?<;>rfl
def okX (x:Ex):Prop:=(x.op=1∧x.args=[])∨(x.op=3∧∀y∈x.args,y.op=1∧y.args=[])
theorem alK (n:Int):okX (fV n):=.inl ⟨rfl,rfl⟩
theorem alv (l:List Sk):okX (agX l):=by
 match l with
 | [y]=>exact .inl ⟨rfl,rfl⟩
 | []=>exact .inr ⟨rfl,fun y hy=>by simp[agX] at hy⟩
 | a :: b :: l=>
  refine .inr ⟨rfl,fun y hy=>?_⟩
  obtain ⟨z,_,rfl⟩:=auA.1 hy
  exact ⟨rfl,rfl⟩
abbrev SX := Stp × Ex
def sx0:SX:=(st0,fV 0)
def afk (act:Int) (p:List SX) (x:Stp):List SX:=
 if 0<x.wt then (p++[(⟨x.st,0⟩,agX x.st)])++[(⟨[],x.wt⟩,fV (2*act+1+((p.length+1:Nat):Int)))] else p++[(⟨x.st,0⟩,agX x.st)]
def aax (s:lG):List SX:=s.sts.foldl (afk s.act) [(⟨[],0⟩,fV (2*s.act))]
def agL (q:SX):SC:=(q.1,toC q.2)
theorem akJ (s:lG):eX s s.sts.length=(aax s).map agL:=by
 have key:∀(l:List Stp) (p:List SX),l.foldl (aai s.act) (p.map agL)=(l.foldl (afk s.act) p).map agL:=by
  intro l
  induction l with
  | nil=>intro p;rfl
  | cons x l ih=>
   intro p
   rw[awz,awz,←ih]
   congr 1
   unfold aai afk
   rw[ai1]
   split
   ·rw[apk,apk,alB,atr];rfl
   ·rw[apk,alB];rfl
 have:=key s.sts [(⟨[],0⟩,fV (2*s.act))]
 unfold eX
 rw[acS]
 exact this
theorem asg (s:lG):∀q∈aax s,okX q.2:=by
 have key:∀(l:List Stp) (p:List SX),(∀q∈p,okX q.2)→∀q∈l.foldl (afk s.act) p,okX q.2:=by
  intro l
  induction l with
  | nil=>intro p h;exact h
  | cons x l ih=>
   intro p h
   rw[awz]
   refine ih _ fun q hq=>?_
   unfold afk at hq
   split at hq
   ·rcases acT.1 hq with hq | hq
    ·rcases acT.1 hq with hq | hq
     ·exact h q hq
     ·simp only[aes] at hq;subst hq;exact alv _
    ·simp only[aes] at hq;subst hq;exact alK _
   ·rcases acT.1 hq with hq | hq
    ·exact h q hq
    ·simp only[aes] at hq;subst hq;exact alv _
 exact key s.sts _ fun q hq=>by simp only[aes] at hq;subst hq;exact alK _
def aoX:List UInt8:=[115,116,97,114,116]
def aeP (p:List SX) (k:Nat):sF:=⟨[(k:Int)],[toN k p.length],(p.getD k sx0).2⟩
def chX (act:Int) (p:List SX):aB:=⟨act,[aoX],p.map (·.1),(List.range p.length).map (aeP p)⟩
def ofC (s:lG):aB:=if tO s=0 then chX s.act (aax s) else ⟨0,[],[],[]⟩
theorem aH {a b:PV} {l m:List PV} (h:gB a b) (hl:bS l m):bS (a :: l) (b :: m):=by
 refine ⟨by simp[hl.1],fun k s s' hs hs'=>?_⟩
 match k with
 | 0=>cases hs;cases hs';exact h
 | k+1=>exact hl.2 k s s' (by simpa using hs) (by simpa using hs')
theorem sD:bS [] []:=⟨rfl,fun k s s' hs _=>by simp at hs⟩
theorem iT {n:Nat} {f g:Nat→List PV} (h:∀k,k<n→bS (f k) (g k)):gB (.seq n f) (.seq n g):=
 .seq n f g (fun j hj=>(h j hj).1) fun j k s s' hj hs hs'=>(h j hj).2 k s s' hs hs'
theorem mI {l m:List PV} (h:bS l m):gB (.agg l) (.agg m):=.agg l m h.1 h.2
theorem wC {l m:List PV} (h:bS l m):gB (.tup l) (.tup m):=.tup l m h.1 h.2
theorem apN (x:Int):gB (.seq 1 (aT 1 [iP x])) (fT [x]):=axa rfl fun j hj=>by
 obtain rfl:j=0:=by omega
 rfl
theorem avv {x:Ex} (h:okX x):bS (q9 (toC x)) (kN x):=by
 refine aH (.refl _) (aH (.refl _) (aH ?_ sD))
 show gB (if x.op=1 then .val (.slice none 0 0) else .seq x.args.length (fun k=>qG (x.args.getD k bK).idx)) (.seq x.args.length (jI x.args))
 rcases h with ⟨h1,h2⟩ | ⟨h1,h2⟩
 ·rw[if_pos h1,h2];exact .nil _
 ·rw[if_neg (by rw[h1];decide)]
  refine iT fun k hk=>?_
  have hy:=h2 _ (abu (bD bK hk))
  show bS (qG (x.args.getD k bK).idx) (jI x.args k)
  unfold jI qG
  rw[hy.1,hy.2]
  exact aH (.refl _) (aH (.refl _) (aH (.nil _) sD))
theorem avf:gB ae0 (xV [aoX]):=iT fun k hk=>by
 obtain rfl:k=0:=by omega
 exact bS.rfl' _
theorem aur (x:Stp):bS (zn x) (stK x):=by
 refine aH ?_ (aH (.refl _) sD)
 split
 ·rename_i h;rw[h];exact .nil _
 ·exact .refl _
theorem aiZ (p:List SX) {k:Nat} (hk:k<p.length):(p.map agL).getD k u7=agL (p.getD k sx0):=by
 rw[aaG,aaG,alW,aaX hk];rfl
theorem aru (act:Int) {p:List SX} (h:∀q∈p,okX q.2):gB (aiy act (p.map agL)) (chP (chX act p)):=by
 unfold aiy chP chK chX
 rw[ai1]
 refine mI (aH (.refl _) (aH avf (aH ?_ (aH ?_ sD))))
 ·show gB _ (.seq (p.map (·.1)).length (fun k=>stK ((p.map (·.1)).getD k st0)))
  rw[ai1]
  refine iT fun k hk=>?_
  rw[aiZ p hk]
  have:(p.map (·.1)).getD k st0=(p.getD k sx0).1:=by
   rw[aaG,aaG,alW,aaX hk];rfl
  rw[this]
  exact aur _
 ·show gB _ (.seq ((List.range p.length).map (aeP p)).length (fun k=>trK (((List.range p.length).map (aeP p)).getD k bf)))
  rw[ai1,auf]
  refine iT fun k hk=>?_
  have e1:((List.range p.length).map (aeP p)).getD k bf=aeP p k:=by
   rw[aaG,alW,axy hk];rfl
  rw[e1]
  unfold aed
  rw[aiZ p hk,ai1]
  have h3:=avv (h _ (abu (bD sx0 hk)))
  exact aH (apN _) (aH (apN _) h3)
theorem aqY (s:lG):gB (ofRaw s) (.tup [chP (ofC s),iP (tO s)]):=by
 unfold ofRaw ofC
 by_cases h:tO s=0
 ·rw[if_pos h,if_pos h,h,akJ]
  exact wC (aH (aru _ (asg s)) (aH (.refl _) sD))
 ·rw[if_neg h,if_neg h]
  refine wC (aH ?_ (aH (.refl _) sD))
  exact mI (aH (.refl _) (aH (.nil _) (aH (.nil _) (aH (.nil _) sD))))
def ofP (s:lG):PV:=.tup [chP (ofC s),iP (tO s)]
theorem acW:av Tryz.prog 49 (bO (fun s:lG=>[sqA s]) (fun _=>True) ofP):=gW ak5 fun s _=>aqY s
theorem oC {u v:PV} (h:gB u v):bS [u] [v]:=aH h sD
theorem tJ (x:Ex):bS (kN x) [iP x.op,iP x.idx,.seq x.args.length (zu x.args)]:=
 aH (.refl _) (aH (.refl _) (oC (iT fun k hk=>bS.of (auF _ k hk))))
def mP (x:Ex):Ex:=.node 2 0 [x]
def vD (x y:Ex):Ex:=.node 3 0 [x,y]
theorem agO:av Tryz.prog 101 (bO (fun x:Ex=>[jK x]) (fun _=>True) (fun x=>qM (mP x))):=by
 have h:av Tryz.prog 101 (bO (fun x:Ex=>[jK x]) (fun _=>True) (fun x=>.agg [iP 2,iP 0,.seq 1 (aT 3 (kN x))])):=by
  refine vI [4000004] Tryz.func101 ?_
  rintro (x:Ex) hpre
  refine ai (ai (fun h=>absurd (show false=true from h) (by decide)) ?_) trivial
  exact (ai rfl (ai rfl (ai rfl (fun _ _=>rfl))))
 refine gW h fun x _=>mI (aH (.refl _) (aH (.refl _) (oC (iT fun k hk=>?_))))
 obtain rfl:k=0:=by omega
 exact tJ x
theorem ag0:av Tryz.prog 100 (bO (fun a:Ex×Ex=>[jK a.1,jK a.2]) (fun _=>True) (fun a=>qM (vD a.1 a.2))):=by
 have h:av Tryz.prog 100 (bO (fun a:Ex×Ex=>[jK a.1,jK a.2]) (fun _=>True) (fun a=>.agg [iP 3,iP 0,.seq 2 (aT 3 (kN a.1++kN a.2))])):=by
  refine vI [4000007] Tryz.func100 ?_
  rintro (a:Ex×Ex) hpre
  refine ai (ai (fun h=>absurd (show false=true from h) (by decide)) ?_) trivial
  exact (ai rfl (ai rfl (ai rfl (fun _ _=>rfl))))
 refine gW h fun a _=>mI (aH (.refl _) (aH (.refl _) (oC (iT fun k hk=>?_))))
 rcases (show k=0∨k=1 by omega) with rfl | rfl
 ·exact tJ a.1
 ·exact tJ a.2
def aF (l:List Int):Ex:=if l.length=0 then .node 0 0 [] else if l.length=1 then fV (l.getD 0 0) else .node 4 0 (l.map fV)
def ajh (l:List Int) (k:Nat):List PV:=qG (l.getD k 0)
theorem ajq (l:List Int) (k:Nat):∀j,j<k+1→aY k (ajh l) (aT 3 (qG (l.getD k 0))) j=ajh l j:=by
 intro j hj
 unfold aY
 by_cases h:j<k
 ·rw[if_pos h]
 ·obtain rfl:j=k:=by omega
  rw[if_neg h,avt];rfl
def oJ (l:List Int):PV:=if l.length=0 then .agg [iP 0,iP 0,.val (.slice none 0 0)] else if l.length=1 then .agg (qG (l.getD 0 0)) else .agg [iP 4,iP 0,.seq l.length (ajh l)]
theorem ao2:av Tryz.prog 160 (bC (fun b:Bool=>[bA b]) (fun b=>b=false) (fun _=>.agg [iP 0,iP 0,.val (.slice none 0 0)])):=by
 refine vF Tryz.func160 ?_
 rintro (b:Bool) hpre
 have hb:b=false:=hpre
 refine aC (b:=b) rfl (fun h=>?_) (fun h=>?_)
 ·rw[hb] at h;cases h
 ·refine eN _ ?_
  exact (ai rfl (ai rfl rfl))
def avq (l:List Int) (k:Nat):LV:=.rw 90 3 k (ajh l)
theorem aoM:av Tryz.prog 98 (bO (fun l:List Int=>[isA l]) (fun l=>l.length≤1000000) oJ):=by
 refine vF Tryz.func98 ?_
 rintro (l:List Int) hpre
 have hl:l.length≤1000000:=hpre
 refine bE (l.length=0) (fun h1=>?_) fun h1=>?_
 ·refine cK (ao2) (false) (by exact rfl) (rfl) ?_
  refine eF (oJ l) ?_
  rw[oJ,if_pos h1]
  exact (ai rfl (ai rfl rfl))
 refine bE (l.length=1) (fun h2=>?_) fun h2=>?_
 ·refine ai (ai (by decide) (by show (0:Int)<(l.length:Int);omega)) ?_
  refine ai rfl ?_
  refine cK (qC) (l.getD 0 0) (by exact (iE rfl)) (trivial) ?_
  refine eF (oJ l) ?_
  rw[oJ,if_neg h1,if_pos h2]
  exact (ai rfl (ai rfl rfl))
 refine fR (l.length) (fun k=>[(4,.s (iA k))]) (fun k=>[⟨1,90,[.s (iA 4),.s (iA 0),avq l k]⟩]) (fun k=>True) ?_ ?_ ?_ ?_
 ·exact (ai (ai (fun _=>rfl) (iE (by omega))) rfl)
 ·exact (ai (ai (ai (ai (fun _=>rfl) rfl) rfl) (ai (ai (ai (fun _=>rfl) rfl) rfl) rfl)) trivial)
 ·trivial
 intro (k:Nat) ⟨hk,_⟩
 refine bL (k<l.length) (fun h3=>?_) fun h3=>?_
 ·refine dR (.seq [0,1,2,3,4,5,6,7,8,9,10]) ?_
  refine iX (k) (l.length) ?_
  skip
  refine cK (qC) (l.getD k 0) (by exact (iE (by simp only[zz,reduceCtorEq]))) (trivial) ?_
  refine ai (mxL (n:=k+1) (by omega) (by decide)) (ai (lt1 rfl) ?_)
  refine nX (k) (ai (ai (fun _=>rfl) (aG (by omega))) rfl) (ai (ai (ai (ai nof rfl) rfl) (ai (ai (ai nof rfl) rfl) (ai rfl (ai rfl (ai rfl ?_))))) trivial) trivial
  exact ajq l k
 ·obtain rfl:k=l.length:=by omega
  refine eF (oJ l) ?_
  rw[oJ,if_neg h1,if_neg h2]
  exact (ai rfl (ai rfl (ai rfl (fun _ _=>rfl))))
theorem al1 (l:List Int):gB (oJ l) (qM (aF l)):=by
 unfold oJ aF
 by_cases h1:l.length=0
 ·rw[if_pos h1,if_pos h1]
  exact mI (aH (.refl _) (aH (.refl _) (oC (.nil _))))
 rw[if_neg h1,if_neg h1]
 by_cases h2:l.length=1
 ·rw[if_pos h2,if_pos h2]
  exact mI (aH (.refl _) (aH (.refl _) (oC (.nil _))))
 rw[if_neg h2,if_neg h2]
 refine mI (aH (.refl _) (aH (.refl _) (oC ?_)))
 show gB (.seq l.length (ajh l)) (.seq (l.map fV).length (jI (l.map fV)))
 rw[ai1]
 refine iT fun k hk=>?_
 have e:(l.map fV).getD k bK=fV (l.getD k 0):=by
  rw[aaG,aaG,alW,aaX hk];rfl
 show bS (qG (l.getD k 0)) (jI (l.map fV) k)
 unfold jI
 rw[e]
 exact aH (.refl _) (aH (.refl _) (oC (.nil _)))
theorem lS:av Tryz.prog 98 (bO (fun l:List Int=>[isA l]) (fun l=>l.length≤1000000) (fun l=>qM (aF l))):=gW aoM fun l _=>al1 l
theorem jL:av Tryz.prog 208 (bC (fun n:Int=>[iA n]) (fun _=>True) (fun n=>.agg (qG n))):=by
 refine vF Tryz.func208 ?_
 rintro (n:Int) hpre
 refine eN _ ?_
 exact (ai rfl (ai rfl rfl))
theorem aoA:av Tryz.prog 157 (bO (fun l:List Int=>[isA l]) (fun l=>l.length≤1000000) oJ):=by
 refine vF Tryz.func157 ?_
 rintro (l:List Int) hpre
 have hl:l.length≤1000000:=hpre
 refine bE (l.length=0) (fun h1=>?_) fun h1=>?_
 ·skip
  refine eF (oJ l) ?_
  rw[oJ,if_pos h1]
  exact (ai rfl (ai rfl rfl))
 refine bE (l.length=1) (fun h2=>?_) fun h2=>?_
 ·refine ai (ai (by decide) (by show (0:Int)<(l.length:Int);omega)) ?_
  refine ai rfl ?_
  refine cK (jL) (l.getD 0 0) (by exact (iE rfl)) (trivial) ?_
  refine eF (oJ l) ?_
  rw[oJ,if_neg h1,if_pos h2]
  exact (ai rfl (ai rfl rfl))
 refine fR (l.length) (fun k=>[(20,.s (iA k))]) (fun k=>[⟨1,90,[.s (iA 4),.s (iA 0),avq l k]⟩]) (fun k=>True) ?_ ?_ ?_ ?_
 ·exact (ai (ai (fun _=>rfl) (iE (by omega))) rfl)
 ·exact (ai (ai (ai (ai (fun _=>rfl) rfl) rfl) (ai (ai (ai (fun _=>rfl) rfl) rfl) rfl)) trivial)
 ·trivial
 intro (k:Nat) ⟨hk,_⟩
 refine bL (k<l.length) (fun h3=>?_) fun h3=>?_
 ·skip
  refine iX (k) (l.length) ?_
  refine dR (.seq [0,1,2,3,4,5,6,7]) ?_
  refine cK (jL) (l.getD k 0) (by exact (iE (by simp only[zz,reduceCtorEq]))) (trivial) ?_
  refine ai (mxL (n:=k+1) (by omega) (by decide)) (ai (lt1 rfl) ?_)
  refine nX (k) (ai (ai (fun _=>rfl) (aG (by omega))) rfl) (ai (ai (ai (ai nof rfl) rfl) (ai (ai (ai nof rfl) rfl) (ai rfl (ai rfl (ai rfl ?_))))) trivial) trivial
  exact ajq l k
 ·obtain rfl:k=l.length:=by omega
  refine eF (oJ l) ?_
  rw[oJ,if_neg h1,if_neg h2]
  exact (ai rfl (ai rfl (ai rfl (fun _ _=>rfl))))
theorem qP:av Tryz.prog 157 (bO (fun l:List Int=>[isA l]) (fun l=>l.length≤1000000) (fun l=>qM (aF l))):=gW aoA fun l _=>al1 l
theorem alx:av Tryz.prog 207 (bO (fun x:Ex=>[jK x]) (fun _=>True) (fun x=>qM (mP x))):=by
 have h:av Tryz.prog 207 (bO (fun x:Ex=>[jK x]) (fun _=>True) (fun x=>.agg [iP 2,iP 0,.seq 1 (aT 3 (kN x))])):=by
  refine vI [4000004] Tryz.func207 ?_
  rintro (x:Ex) hpre
  refine ai (ai (fun h=>absurd (show false=true from h) (by decide)) ?_) trivial
  exact (ai rfl (ai rfl (ai rfl (fun _ _=>rfl))))
 refine gW h fun x _=>mI (aH (.refl _) (aH (.refl _) (oC (iT fun k hk=>?_))))
 obtain rfl:k=0:=by omega
 exact tJ x
theorem abz:av Tryz.prog 206 (bO (fun a:Nat×(Nat→List PV)=>[.p false (.seq a.1 a.2)]) (fun _=>True) (fun a=>.agg [iP 3,iP 0,.seq a.1 a.2])):=by
 refine vF Tryz.func206 ?_
 rintro (a:Nat×(Nat→List PV)) hpre
 refine ai (ai (fun h=>absurd (show false=true from h) (by decide)) ?_) trivial
 exact (ai rfl (ai rfl (ai rfl (fun _ _=>rfl))))
mutual
def dI (l:List Ex):Ex→Ex
 | .node o i ys=>if o=1 then l.getD i.toNat bK else .node o i (acB l ys)
def acB (l:List Ex):List Ex→List Ex
 | []=>[]
 | x :: ys=>dI l x :: acB l ys
end
theorem ah7 (l:List Ex):∀ys,acB l ys=ys.map (dI l)
 | []=>rfl
 | x :: ys=>by rw[acB,ah7 l ys];rfl
theorem asM (l:List Ex) (x:Ex):dI l x=if x.op=1 then l.getD x.idx.toNat bK else .node x.op x.idx (x.args.map (dI l)):=by
 cases x with
 | node o i ys=>rw[dI,ah7]
theorem apm {a b c:PV} (h:gB a b) (h2:gB b c):gB a c:=by
 have lst:∀{l m n:List PV},l.length=m.length→m.length=n.length→(∀(k:Nat) (s s':PV),l[k]?=some s→m[k]?=some s'→∀{c},gB s' c→gB s c)→(∀(k:Nat) (s s':PV),m[k]?=some s→n[k]?=some s'→gB s s')→∀(k:Nat) (s s':PV),l[k]?=some s→n[k]?=some s'→gB s s':=by
  intro l m n h1 h2 ih he k s s' hs hs'
  obtain ⟨t,ht⟩:=xE h2 hs'
  exact ih k s t hs ht (he k t s' ht hs')
 induction h generalizing c with
 | refl d=>exact h2
 | nil f=>cases h2 with
  | refl=>exact .nil f
  | seq _ _ g=>exact .nil g
 | seq n f g hl he ih=>cases h2 with
  | refl=>exact .seq n f g hl he
  | seq _ _ g' hl' he'=>exact .seq n f g' (fun j hj=>(hl j hj).trans (hl' j hj)) fun j k s s' hj hs hs'=>lst (hl j hj) (hl' j hj) (fun k s s' h1 h2 _ h3=>ih j k s s' hj h1 h2 h3) (fun k s s' h1 h2=>he' j k s s' hj h1 h2) k s s' hs hs'
 | pt l l' o hl he ih=>cases h2 with
  | refl=>exact .pt l l' o hl he
  | pt _ l2 _ hl' he'=>exact .pt l l2 o (hl.trans hl') (lst hl hl' (fun k s s' h1 h2 _ h3=>ih k s s' h1 h2 h3) he')
 | agg l l' hl he ih=>cases h2 with
  | refl=>exact .agg l l' hl he
  | agg _ l2 hl' he'=>exact .agg l l2 (hl.trans hl') (lst hl hl' (fun k s s' h1 h2 _ h3=>ih k s s' h1 h2 h3) he')
 | tup l l' hl he ih=>cases h2 with
  | refl=>exact .tup l l' hl he
  | tup _ l2 hl' he'=>exact .tup l l2 (hl.trans hl') (lst hl hl' (fun k s s' h1 h2 _ h3=>ih k s s' h1 h2 h3) he')
theorem ads {a b c:List PV} (h:bS a b) (h2:bS b c):bS a c:=by
 refine ⟨h.1.trans h2.1,fun k s s' hs hs'=>?_⟩
 obtain ⟨t,ht⟩:=xE h2.1 hs'
 exact apm (h.2 k s t hs ht) (h2.2 k t s' ht hs')
def vQ (l:List Ex) (k:Nat):List PV:=kN (l.getD k bK)
def exU (l:List Ex):LV:=.rws 90 3 l.length (vQ l)
theorem afK (l:List Ex):gB (.seq l.length (vQ l)) (.seq l.length (jI l)):=iT fun k hk=>tJ _
theorem gZ {l:List Ex} {x:Ex} {n:Nat} {f g:Nat→List PV} (hn:n=l.length) (hf:∀k,k<l.length→f k=vQ l k) (hg:bS (g 0) (kN x)):∀k,k<n+1→bS (aY n f g k) (vQ (l++[x]) k):=by
 intro k hk
 subst hn
 unfold aY vQ
 by_cases h:k<l.length
 ·rw[if_pos h,hf k h,aaG,aoj h]
  exact .of (by unfold vQ;rw[aaG])
 ·have:k=l.length:=by omega
  subst this
  rw[if_neg h,avt,aaG,ahS (acM _),avt]
  exact hg
theorem nI (n:Int):bS (qG n) (kN (fV n)):=aH (.refl _) (aH (.refl _) (oC (.nil _)))
theorem ab8 {x:Ex} {l:List Ex} (h:x.args=l):gB (.agg [iP x.op,iP x.idx,.seq l.length (vQ l)]) (qM x):=by
 subst h
 exact mI (aH (.refl _) (aH (.refl _) (oC (afK _))))
abbrev aa9 := Ex × List Ex
def adK (a:aa9):Prop:=kD a.2.length a.1∧a.1.size≤1000000
def avA (n:Nat):Spec:=bO (fun a:aa9=>[jK a.1,.p false (afg a.2)]) (fun a=>adK a∧a.1.size≤n) (fun a=>qM (dI a.2 a.1))
def sN (a:aa9):PV:=if a.1.op=1 then qM (a.2.getD a.1.idx.toNat bK) else .agg [iP a.1.op,iP a.1.idx,.seq a.1.args.length (vQ (a.1.args.map (dI a.2)))]
def av8 (n:Nat):Spec:=bO (fun a:aa9=>[jK a.1,.p false (afg a.2)]) (fun a=>adK a∧a.1.size≤n) sN
theorem al8 (a:aa9):gB (sN a) (qM (dI a.2 a.1)):=by
 unfold sN
 rw[asM]
 split
 ·exact .refl _
 ·have:=ab8 (x:=.node a.1.op a.1.idx (a.1.args.map (dI a.2))) rfl
  rw[ai1] at this
  exact this
theorem aqb (n:Nat) (ih:av Tryz.prog 163 (avA n)):av Tryz.prog 163 (av8 (n+1)):=by
 refine vF Tryz.func163 ?_
 rintro ⟨x,l⟩ hpre
 obtain ⟨⟨hg,hs⟩,hn⟩:=hpre
 have hg:kD l.length x:=hg
 have hs:x.size≤1000000:=hs
 have hn:x.size≤n+1:=hn
 have hsz:=x.size_eq
 have hal:=pK x.args
 obtain ⟨hn0,hga⟩:=(rz _ _).1 hg
 obtain ⟨_,_,hx1,hx2⟩:=vB hn0
 refine ah (p:=x.op=1) (sW (by dsimp only;omega)) (fun h1=>?_) (fun h1=>?_)
 ·have hx3:x.idx<l.length:=by
   rw[h1] at hx2
   unfold vJ at hx2
   rw[if_neg (by decide),if_pos rfl] at hx2;omega
  refine ai (ai hx1 hx3) ?_
  refine ai rfl ?_
  refine eF (sN (x,l)) ?_
  rw[sN,if_pos h1]
  exact (ai rfl (ai rfl (ai rfl (xX _))))
 ·refine fR (x.args.length) (fun k=>[(6,.s (iA k))]) (fun k=>[⟨2,90,[.s (iA x.op),.s (iA x.idx),exU ((x.args.take k).map (dI l))]⟩]) (fun k=>True) ?_ ?_ ?_ ?_
  ·exact (ai (ai (fun _=>rfl) (iE (by omega))) rfl)
  ·exact (ai (ai (ai (ai nof rfl) rfl) (ai (ai (ai nof rfl) rfl) rfl)) trivial)
  ·trivial
  intro (k:Nat) ⟨hk,_⟩
  have hl:((x.args.take k).map (dI l)).length=k:=by rw[ai1,al5];omega
  refine ah (p:=k<x.args.length) (aA (by dsimp only;omega)) (fun h2=>?_) (fun h2=>?_)
  ·refine dR (.seq [0,1,2,3,4,5,6,7,8,9,10,11,12]) ?_
   refine iX (k) (x.args.length) ?_
   have hm:=abu (bD bK h2)
   have hms:=jy hm
   refine cK (ih) ((x.args.getD k bK,l)) (by exact (ai (ai (iE (by simp only[zz,reduceCtorEq])) (ai (iE (by simp only[zz,reduceCtorEq])) (ai rfl (xX _)))) (ai rfl (fun _ _=>rfl)))) (⟨⟨hga _ hm,by show (x.args.getD k bK).size≤1000000;omega⟩,by show (x.args.getD k bK).size≤n;omega⟩) ?_
   have e:(x.args.take (k+1)).map (dI l)=(x.args.take k).map (dI l)++[dI l (x.args.getD k bK)]:=by rw[aR bK h2,apk];rfl
   refine ai (mxL (n:=((x.args.take k).map (dI l)).length+1) (by omega) (by decide)) (ai (lt1 rfl) ?_)
   refine nX (k) (ai (ai (fun _=>rfl) (aG (by omega))) rfl) (ai (ai (ai (ai nof rfl) rfl) (ai (ai (ai nof rfl) rfl) (ai rfl (ai rfl (ai ?_ ?_))))) trivial) trivial
   ·rw[e,aaJ];rfl
   ·rw[e];exact gZ rfl (fun _ _=>rfl) (.of rfl)
  ·obtain rfl:k=x.args.length:=by omega
   have et:x.args.take x.args.length=x.args:=acS
   refine eF (sN (x,l)) ?_
   rw[sN,if_neg h1]
   refine (ai rfl (ai rfl (ai ?_ ?_)))
   ·show ((x.args.take x.args.length).map (dI l)).length=x.args.length
    omega
   ·intro j _
    show vQ ((x.args.take x.args.length).map (dI l)) j=vQ (x.args.map (dI l)) j
    rw[et]
theorem ar2:∀n,av Tryz.prog 163 (avA n)
 | 0=>⟨⟨_,Tryz.func163,rfl,rfl⟩,fun a hp=>absurd hp.2 (by have:=size_pos a.1;show ¬a.1.size≤0;omega)⟩
 | n+1=>gW (aqb n (ar2 n)) fun a _=>al8 a
theorem at5:av Tryz.prog 163 (bO (fun a:aa9=>[jK a.1,.p false (afg a.2)]) adK (fun a=>qM (dI a.2 a.1))):=nL (fun a=>a.1.size) ar2
def auB (a b:C3):List PV:=[iP 3,iP 0,.seq 2 (aT 3 (q9 a++q9 b))]
def arF (a:C3):List PV:=[iP 2,iP 0,.seq 1 (aT 3 (q9 a))]
theorem aql:av Tryz.prog 101 (bO (fun a:C3=>[.p false (.agg (q9 a))]) (fun _=>True) (fun a=>.agg (arF a))):=by
 refine vI [4000004] Tryz.func101 ?_
 rintro ⟨a,b,c⟩ hpre
 refine ai (ai (fun h=>absurd (show false=true from h) (by decide)) ?_) trivial
 exact (ai rfl (ai rfl (ai rfl (fun _ _=>rfl))))
theorem ap7:av Tryz.prog 207 (bO (fun a:C3=>[.p false (.agg (q9 a))]) (fun _=>True) (fun a=>.agg (arF a))):=by
 refine vI [4000004] Tryz.func207 ?_
 rintro ⟨a,b,c⟩ hpre
 refine ai (ai (fun h=>absurd (show false=true from h) (by decide)) ?_) trivial
 exact (ai rfl (ai rfl (ai rfl (fun _ _=>rfl))))
theorem aqK:av Tryz.prog 100 (bO (fun a:C3×C3=>[.p false (.agg (q9 a.1)),.p false (.agg (q9 a.2))]) (fun _=>True) (fun a=>.agg (auB a.1 a.2))):=by
 refine vI [4000007] Tryz.func100 ?_
 rintro ⟨⟨a,b,c⟩,⟨d,e,f⟩⟩ hpre
 refine ai (ai (fun h=>absurd (show false=true from h) (by decide)) ?_) trivial
 exact (ai rfl (ai rfl (ai rfl (fun _ _=>rfl))))
theorem ag5 (a b:Int):bS (auB (pV a) (pV b)) (kN (vD (fV a) (fV b))):=by
 refine aH (.refl _) (aH (.refl _) (oC (iT fun k hk=>?_)))
 rcases (show k=0∨k=1 by omega) with rfl | rfl
 ·exact ads (nI a) (tJ _)
 ·exact ads (nI b) (tJ _)
theorem alR (a:Int):bS (arF (pV a)) (kN (mP (fV a))):=by
 refine aH (.refl _) (aH (.refl _) (oC (iT fun k hk=>?_)))
 obtain rfl:k=0:=by omega
 exact ads (nI a) (tJ _)
def acj (c:aB) (k:Nat):Ex:=if (c.sts.getD k st0).wt=0 then fV (mU c k) else vD (fV (mU c k)) (fV (sI c k))
def sJ (n:Nat):List Ex:=(List.range n).map fun j:Nat=>fV (j:Int)
def mO (c:aB) (k:Nat):List Ex:=sJ (aJ c).toNat++(List.range k).map (acj c)
def relE (c:aB):List Ex:=mO c c.sts.length
theorem uJ (n:Nat):sJ (n+1)=sJ n++[fV (n:Int)]:=by unfold sJ;rw[avy,apk];rfl
theorem abS (n:Nat):(sJ n).length=n:=by unfold sJ;rw[ai1,auf]
theorem kM (c:aB) (k:Nat):mO c (k+1)=mO c k++[acj c k]:=by unfold mO;rw[avy,apk,ava];rfl
theorem zq (c:aB) (k:Nat):(mO c k).length=(aJ c).toNat+k:=by unfold mO;rw[aaJ,abS,ai1,auf]
theorem vW (c:aB):∀n k,k<n→(bZ c n).getD k 0=sI c k
 | 0,k,h=>by omega
 | n+1,k,h=>by
  rw[bZ,aaG]
  have hl:=p9 c n
  by_cases e:k<n
  ·rw[aoj (by omega),←aaG];exact vW c n k e
  ·obtain rfl:k=n:=by omega
   rw[ahS (by omega),hl,avt];rfl
theorem xq {c:aB} (hs:oO c) {k:Nat}:sI c k=-1099511627776↔(c.sts.getD k st0).wt=0:=by
 unfold sI
 have h1:=hs.1
 have hb:aJ c=2*c.act+c.ins.length:=rfl
 split
 ·rename_i h;exact ⟨fun _=>h,fun _=>rfl⟩
 ·rename_i h;constructor
  ·intro e;omega
  ·intro e;exact absurd e h
theorem aiU:av Tryz.prog 164 (bO (fun c:aB=>[iG c]) adl (fun c=>afg (relE c))):=by
 have h:av Tryz.prog 164 (bO (fun c:aB=>[iG c]) adl (fun c=>.seq (relE c).length (vQ (relE c)))):=by
  refine vF Tryz.func164 ?_
  rintro (c:aB) hpre
  have hcp:adl c:=hpre
  obtain ⟨hs,hw0⟩:=hpre
  have h1:0≤c.act:=hs.1
  have h2:c.act≤1000:=hs.2.1
  have h3:c.ins.length≤1000000:=hs.2.2.1
  have h4:c.sts.length≤1000000:=hs.2.2.2
  have hb:aJ c=2*c.act+c.ins.length:=rfl
  refine fR ((aJ c).toNat) (fun k=>[(4,.s (iA k)),(3,exU (sJ k))]) (fun k=>[]) (fun k=>True) ?_ ?_ ?_ ?_
  ·exact (ai (ai (ai (fun _=>rfl) (iE (by omega))) rfl) rfl)
  ·exact trivial
  ·trivial
  intro (k:Nat) ⟨hk,_⟩
  have hl:=abS k
  refine cK (rD) (c) (by exact (ai rfl (ai (ai rfl (fun _ _=>rfl)) (ai (ai rfl (fun _ _=>rfl)) (ai rfl (fun _ _=>rfl)))))) (hs) ?_
  refine bL (k<(aJ c).toNat) (fun g1=>?_) fun g1=>?_
  ·refine cK (qC) ((k:Int)) (by exact rfl) (trivial) ?_
   refine ai (mxL (n:=(sJ k).length+1) (by omega) (by decide)) (ai (lt1 rfl) ?_)
   refine nX (k) (ai (ai (ai (fun _=>rfl) (aG (by omega))) rfl) (ai rfl (ai rfl (ai ?_ ?_)))) trivial trivial
   ·rw[uJ,aaJ];rfl
   ·rw[uJ];exact gZ rfl (fun _ _=>rfl) (nI _)
  obtain rfl:k=(aJ c).toNat:=by omega
  refine cK (af5) (c) (by exact (ai rfl (ai (ai rfl (fun _ _=>rfl)) (ai (ai rfl (fun _ _=>rfl)) (ai rfl (fun _ _=>rfl)))))) (hcp) ?_
  have e0:mO c 0=sJ (aJ c).toNat:=arR _
  refine fR (c.sts.length) (fun k=>[(6,.s (iA k)),(3,exU (mO c k))]) (fun k=>[]) (fun k=>True) ?_ ?_ ?_ ?_
  ·refine (ai (ai (ai (fun _=>rfl) (iE (by omega))) rfl) (ai rfl (ai rfl (ai ?_ ?_))))
   ·rw[e0]
   ·rw[e0];exact fun _ _=>.of rfl
  ·exact trivial
  ·trivial
  intro (k:Nat) ⟨hk,_⟩
  have hl:=zq c k
  have hcl:=p9 c c.sts.length
  refine bL (k<c.sts.length) (fun g2=>?_) fun g2=>?_
  ·refine cK (rZ) ((c,k)) (by exact (ai (ai rfl (ai (ai rfl (fun _ _=>rfl)) (ai (ai rfl (fun _ _=>rfl)) (ai rfl (fun _ _=>rfl))))) rfl)) (⟨hs,by show k≤1000000;omega⟩) ?_
   refine cK (qC) (mU c k) (by exact rfl) (trivial) ?_
   refine iX (k) ((bZ c c.sts.length).length) ?_
   have hck:=vW c c.sts.length k g2
   refine aW (p:=(c.sts.getD k st0).wt=0) (by exact bn (by show ¬(bZ c c.sts.length).getD k 0=-1099511627776↔_;rw[hck];exact not_congr (xq hs))) (fun g3=>?_) (fun g3=>?_)
   ·refine dR (.seq [0,1,2,3,4,5,6,7]) ?_
    refine iX (k) ((bZ c c.sts.length).length) ?_
    refine cK (qC) ((bZ c c.sts.length).getD k 0) (by exact (iE (by simp only[zz,reduceCtorEq]))) (trivial) ?_
    refine cK (aqK) ((pV (mU c k),pV ((bZ c c.sts.length).getD k 0))) (by exact (ai (ai rfl (ai rfl rfl)) (ai rfl (ai rfl rfl)))) (trivial) ?_
    refine ai (mxL (n:=(mO c k).length+1) (by omega) (by decide)) (ai (lt1 rfl) ?_)
    refine nX (k) (ai (ai (ai (fun _=>rfl) (aG (by omega))) rfl) (ai rfl (ai rfl (ai ?_ ?_)))) trivial trivial
    ·rw[kM,aaJ];rfl
    ·rw[kM];exact gZ rfl (fun _ _=>rfl) (by rw[acj,if_neg g3];exact (by rw[←hck];exact ag5 _ _))
   ·refine ai (mxL (n:=(mO c k).length+1) (by omega) (by decide)) (ai (lt1 rfl) ?_)
    refine nX (k) (ai (ai (ai (fun _=>rfl) (aG (by omega))) rfl) (ai rfl (ai rfl (ai ?_ ?_)))) trivial trivial
    ·rw[kM,aaJ];rfl
    ·rw[kM];exact gZ rfl (fun _ _=>rfl) (by rw[acj,if_pos g3];exact nI _)
  ·obtain rfl:k=c.sts.length:=by omega
   refine ai (ai (fun h=>absurd (show false=true from h) (by decide)) ?_) trivial
   exact (ai rfl (fun _ _=>rfl))
 exact gW h fun c _=>afK _
abbrev fu (c : aB) (i : Nat) : List Int := (c.trs.getD i bf).fr
abbrev sG (c : aB) (i : Nat) : Ex := (c.trs.getD i bf).wh
def p8 (c:aB) (i k:Nat):List Ex:=((fu c i).take k).map fun f=>fV (mU c f.toNat)
def abZ (c:aB) (i:Nat):Nat→List Ex
 | 0=>[]
 | k+1=>if oz (fu c i) (fu c k) then abZ c i k++[mP (fV (lZ c k))] else abZ c i k
def akO (c:aB) (i:Nat):List Ex:=p8 c i (fu c i).length++[dI (relE c) (sG c i)]
def kF (c:aB) (i k:Nat):List Ex:=akO c i++abZ c i k
def nu (c:aB) (i:Nat):Ex:=.node 3 0 (kF c i i)
theorem uD {c:aB} {i k:Nat} (h:k<(fu c i).length):p8 c i (k+1)=p8 c i k++[fV (mU c ((fu c i).getD k 0).toNat)]:=by
 unfold p8;rw[aR 0 h,apk];rfl
theorem wz {c:aB} {i k:Nat} (h:k≤(fu c i).length):(p8 c i k).length=k:=by
 unfold p8;rw[ai1,al5];omega
theorem acz (c:aB) (i:Nat):∀k,(abZ c i k).length≤k
 | 0=>acM _
 | k+1=>by
  have:=acz c i k
  rw[abZ];split
  ·rw[aaJ];simp;omega
  ·omega
theorem ab9 {c:aB} {i k:Nat} (h:oz (fu c i) (fu c k)=true):kF c i (k+1)=kF c i k++[mP (fV (lZ c k))]:=by
 unfold kF;rw[abZ,if_pos h,ava]
theorem alQ {c:aB} {i k:Nat} (h:oz (fu c i) (fu c k)=false):kF c i (k+1)=kF c i k:=by
 unfold kF;rw[abZ,if_neg (by rw[h];decide)]
def jP (c:aB):Prop:=bV c=0∧jr c
theorem aoR {c:aB} (h:jP c):∀x∈c.sts,0≤x.wt:=fun x hx=>by
 obtain ⟨h1,_,_,_,h5,_⟩:=mG h.1
 obtain ⟨k,hk,rfl⟩:=arM hx
 have h5:=h5 k hk
 rw[show c.sts.getD k st0=c.sts[k] by rw[aaG,aaX hk];rfl] at h5
 unfold gQ at h5
 split at h5
 ·rename_i h6;exact absurd h5 h6
 ·split at h5
  ·cases h5
  ·omega
theorem al6 {c:aB} (h:jP c):adl c:=⟨iJ h.1,aoR h⟩
theorem atc {c:aB} (h:jP c) {i:Nat} (hi:i<c.trs.length):adK (sG c i,relE c):=by
 obtain ⟨_,_,h3⟩:=tC h.1 hi
 obtain ⟨_,_,hg⟩:=gN.1 h3
 have hs:=iJ h.1
 have h1:0≤c.act:=hs.1
 have hl:=zq c c.sts.length
 have hb:aJ c=2*c.act+c.ins.length:=rfl
 have hv:lF c=2*c.act+c.ins.length+c.sts.length:=rfl
 refine ⟨?_,(nG h.2 hi).2.2⟩
 show kD (((relE c).length:Nat):Int) (sG c i)
 have e:(((relE c).length:Nat):Int)=lF c:=by unfold relE;rw[hl];omega
 rw[e];exact hg
def akL (a:aB×Nat):Prop:=jP a.1∧a.2<a.1.trs.length
set_option maxHeartbeats 4000000 in
theorem aa1:av Tryz.prog 103 (bO (fun a:aB×Nat=>[iG a.1,iA a.2]) akL (fun a=>qM (nu a.1 a.2))):=by
 have h:av Tryz.prog 103 (bO (fun a:aB×Nat=>[iG a.1,iA a.2]) akL (fun a=>.agg [iP 3,iP 0,.seq (kF a.1 a.2 a.2).length (vQ (kF a.1 a.2 a.2))])):=by
  refine vF Tryz.func103 ?_
  rintro ⟨c,i⟩ hpre
  obtain ⟨hc,hi⟩:=hpre
  have hc:jP c:=hc
  have hi:i<c.trs.length:=hi
  have hs:=iJ hc.1
  obtain ⟨_,_,_,h32,_⟩:=mG hc.1
  obtain ⟨⟨hfr,_⟩,_⟩:=tC hc.1 hi
  have hto:=nG hc.2 hi
  have hfl:(fu c i).length≤1000000:=hto.1
  refine iX (i) (c.trs.length) ?_
  refine fR ((fu c i).length) (fun k=>[(19,.s (iA k))]) (fun k=>[⟨3,90,[.s (iA 3),.s (iA 0),exU (p8 c i k)]⟩]) (fun k=>True) ?_ ?_ ?_ ?_
  ·exact (ai (ai (fun _=>rfl) (iE (by omega))) rfl)
  ·exact (ai (ai (ai (ai (fun _=>rfl) rfl) rfl) (ai (ai (ai (fun _=>rfl) rfl) rfl) rfl)) trivial)
  ·trivial
  intro (k:Nat) ⟨hk,_⟩
  have hl:=wz hk
  refine ah (p:=k<(fu c i).length) (by exact aA (show ((k:Nat):Int)<(((fu c i).length:Nat):Int)↔_ by omega)) (fun h1=>?_) (fun h1=>?_)
  ·refine iX (k) ((fu c i).length) ?_
   have hx:0≤(fu c i).getD k 0∧(fu c i).getD k 0<24:=yY hfr h1
   refine dR (.seq [0,1,2,3,4,5,6,7,8,9]) ?_
   refine ei _ (ai (rZ) (ei ((c,((fu c i).getD k 0).toNat)) (ei [] (ai (a4 (ai (fun _=>Or.inl rfl) (ai nof (Or.inl rfl)))) (ai ?_ (ai (by exact trivial) (ai (⟨hs,by show ((fu c i).getD k 0).toNat≤1000000;omega⟩) ?_)))))))
   ·refine (ai (ai rfl (ai (ai rfl (fun _ _=>rfl)) (ai (ai rfl (fun _ _=>rfl)) (ai rfl (fun _ _=>rfl))))) ?_)
    show (fu c i).getD k 0=((((fu c i).getD k 0).toNat:Nat):Int)
    omega
   refine cK (qC) (mU c ((fu c i).getD k 0).toNat) (by exact rfl) (trivial) ?_
   refine ai (mxL (n:=(p8 c i k).length+1) (by omega) (by decide)) (ai (lt1 rfl) ?_)
   refine nX (k) (ai (ai (fun _=>rfl) (aG (by omega))) rfl) (ai (ai (ai (ai nof rfl) rfl) (ai (ai (ai nof rfl) rfl) (ai rfl (ai rfl (ai ?_ ?_))))) trivial) trivial
   ·rw[uD h1,aaJ];rfl
   ·rw[uD h1];exact gZ rfl (fun _ _=>rfl) (nI _)
  obtain rfl:k=(fu c i).length:=by omega
  refine dR (.seq [0,1,2,3,4,5,6,7,8,9,10]) ?_
  refine cK (aiU) (c) (by exact (ai rfl (ai (ai rfl (fun _ _=>rfl)) (ai (ai rfl (fun _ _=>rfl)) (ai rfl (fun _ _=>rfl)))))) (al6 hc) ?_
  refine cK (at5) ((sG c i,relE c)) (by exact (ai (ai (iE (by simp only[zz,reduceCtorEq])) (ai (iE (by simp only[zz,reduceCtorEq])) (ai rfl (fun _ _=>rfl)))) (ai rfl (fun _ _=>rfl)))) (atc hc hi) ?_
  refine ai (mxL (n:=(p8 c i (fu c i).length).length+1) (by omega) (by decide)) (ai (lt1 rfl) ?_)
  have e0:kF c i 0=p8 c i (fu c i).length++[dI (relE c) (sG c i)]:=arR _
  refine fR (i) (fun k=>[(9,.s (iA k))]) (fun k=>[⟨3,90,[.s (iA 3),.s (iA 0),exU (kF c i k)]⟩]) (fun k=>True) ?_ ?_ ?_ ?_
  ·exact (ai (ai (fun _=>rfl) (iE (by omega))) rfl)
  ·refine (ai (ai (ai (ai nof rfl) rfl) (ai (ai (ai nof rfl) rfl) (ai rfl (ai rfl (ai ?_ ?_))))) trivial)
   ·rw[e0,aaJ];rfl
   ·rw[e0];exact gZ rfl (fun _ _=>rfl) (.of rfl)
  ·trivial
  intro (k:Nat) ⟨hk,_⟩
  have hpl:(kF c i k).length≤1000000+1+k:=by
   have:=acz c i k
   unfold kF akO
   rw[aaJ,aaJ,wz (acM _)]
   show _+1+_≤_
   omega
  refine bL (k<i) (fun h1=>?_) fun h1=>?_
  ·have hkt:k<c.trs.length:=by omega
   refine dR (.seq [0,1,2,3,4,5,6,7,8]) ?_
   refine iX (k) (c.trs.length) ?_
   refine cK (amG) ((fu c i,fu c k)) (by exact (ai (ai rfl (fun _ _=>rfl)) (ai rfl (fun _ _=>rfl)))) (⟨hto.1,(nG hc.2 hkt).1⟩) ?_
   refine aC (b:=oz (fu c i) (fu c k)) rfl (fun h2=>?_) (fun h2=>?_)
   ·refine dR (.seq [0,1,2,3,4,5,6,7,8,9,10]) ?_
    refine cK (ae6) ((c,k)) (by exact (ai (ai rfl (ai (ai rfl (fun _ _=>rfl)) (ai (ai rfl (fun _ _=>rfl)) (ai rfl (fun _ _=>rfl))))) rfl)) (⟨hs,by show k≤1000000;omega⟩) ?_
    refine cK (qC) (lZ c k) (by exact rfl) (trivial) ?_
    refine cK (aql) (pV (lZ c k)) (by exact (ai rfl (ai rfl rfl))) (trivial) ?_
    refine ai (mxL (n:=(kF c i k).length+1) (by omega) (by decide)) (ai (lt1 rfl) ?_)
    refine nX (k) (ai (ai (fun _=>rfl) (aG (by omega))) rfl) (ai (ai (ai (ai nof rfl) rfl) (ai (ai (ai nof rfl) rfl) (ai rfl (ai rfl (ai ?_ ?_))))) trivial) trivial
    ·rw[ab9 h2,aaJ];rfl
    ·rw[ab9 h2];exact gZ rfl (fun _ _=>rfl) (alR _)
   ·refine nX (k) (ai (ai (fun _=>rfl) (aG (by omega))) rfl) (ai (ai (ai (ai nof rfl) rfl) (ai (ai (ai nof rfl) rfl) (ai rfl (ai rfl (ai ?_ ?_))))) trivial) trivial
    all_goals rw[alQ h2]
    exact fun _ _=>.of rfl
  ·obtain rfl:k=i:=by omega
   refine ai (ai (fun h=>absurd (show false=true from h) (by decide)) ?_) trivial
   exact (ai rfl (ai rfl (ai rfl (fun _ _=>rfl))))
 exact gW h fun a _=>ab8 (x:=nu a.1 a.2) rfl
def zX:Ex:=.node 0 0 []
def bQ (c:aB) (k:Nat):List Int:=gP c (k:Int) false c.trs.length
def dh (c:aB) (k:Nat):List Int:=gP c (k:Int) true c.trs.length
def qH (c:aB) (k:Nat):Ex:=if 0<(bQ c k).length∧0<(dh c k).length then vD (aF (dh c k)) (mP (aF (bQ c k))) else aF (dh c k)
def mJ (c:aB) (k:Nat):tN:=⟨120 :: dec k,1,aF (bQ c k),qH c k,0,(k:Int)==0⟩
def adu (c:aB) (k:Nat):tN:=⟨116 :: dec k,2,fV (mU c k),zX,(c.sts.getD k st0).wt,false⟩
def arn (c:aB) (i:Nat):tN:=⟨122 :: dec i,0,nu c i,zX,0,false⟩
def pJ (c:aB) (a:Nat) (o:Bool):tN:=⟨[UInt8.ofNat (97+a),if o then 112 else 109],0,aF (dZ c ((a:Int),o) c.sts.length),zX,0,false⟩
def fB (c:aB) (k:Nat):List tN:=(List.range k).map (mJ c)
def dD (c:aB):Nat→List tN
 | 0=>fB c c.sts.length
 | k+1=>if 0<(c.sts.getD k st0).wt then dD c k++[adu c k] else dD c k
def gH (c:aB) (k:Nat):List tN:=dD c c.sts.length++(List.range k).map (arn c)
def aX (c:aB):Nat→List tN
 | 0=>gH c c.trs.length
 | a+1=>(aX c a++[pJ c a true])++[pJ c a false]
def pR (c:aB) (a:Nat):Int:=aJ c+(gH c c.trs.length).length+2*a
def fq (c:aB) (a:Nat):List Int:=(List.range a).map fun j=>pR c j
def kC (c:aB) (a:Nat):List Int:=(List.range a).map fun j=>pR c j+1
def dH (c:aB):bI:=⟨c.act,c.ins,aX c c.act.toNat,fq c c.act.toNat,kC c c.act.toNat⟩
theorem bX (c:aB) (k:Nat):fB c (k+1)=fB c k++[mJ c k]:=by unfold fB;rw[avy,apk];rfl
theorem vR (c:aB) (k:Nat):(fB c k).length=k:=by unfold fB;rw[ai1,auf]
theorem qW (c:aB):∀k,(dD c k).length=c.sts.length+fK c k
 | 0=>vR c _
 | k+1=>by
  have:=qW c k
  rw[dD,fK];split
  ·rw[aaJ];show _+1=_;omega
  ·omega
theorem mg (c:aB) (k:Nat):gH c (k+1)=gH c k++[arn c k]:=by unfold gH;rw[avy,apk,ava];rfl
theorem jw (c:aB) (k:Nat):(gH c k).length=c.sts.length+fK c c.sts.length+k:=by unfold gH;rw[aaJ,ai1,auf,qW]
theorem jq (c:aB):∀a,(aX c a).length=(gH c c.trs.length).length+2*a
 | 0=>rfl
 | a+1=>by rw[aX,aaJ,aaJ,jq c a];show _+1+1=_;omega
theorem qR (c:aB) (a:Nat):fq c (a+1)=fq c a++[pR c a]:=by unfold fq;rw[avy,apk];rfl
theorem aaj (c:aB) (a:Nat):kC c (a+1)=kC c a++[pR c a+1]:=by unfold kC;rw[avy,apk];rfl
theorem lI (c:aB) (a:Nat):(fq c a).length=a:=by unfold fq;rw[ai1,auf]
theorem o7 (c:aB) (a:Nat):(kC c a).length=a:=by unfold kC;rw[ai1,auf]
def sS (l:List tN) (k:Nat):List PV:=sgK (l.getD k ak)
def sgU (l:List tN):LV:=.rws 92 10 l.length (sS l)
theorem bU {l:List tN} {x:tN} {n:Nat} {f g:Nat→List PV} (hn:n=l.length) (hf:∀k,k<l.length→bS (f k) (sS l k)) (hg:bS (g 0) (sgK x)):∀k,k<n+1→bS (aY n f g k) (sS (l++[x]) k):=by
 intro k hk
 subst hn
 unfold aY sS
 by_cases h:k<l.length
 ·rw[if_pos h,aaG,aoj h]
  have:=hf k h
  unfold sS at this
  rw[aaG] at this;exact this
 ·have:k=l.length:=by omega
  subst this
  rw[if_neg h,avt,aaG,ahS (acM _),avt]
  exact hg
theorem adX {nm:List UInt8} {kd dl:Int} {ini:Bool} {x:Ex}:bS [sP nm,iP kd,iP x.op,iP x.idx,.seq x.args.length (jI x.args),iP 0,iP 0,.val (.slice none 0 0),iP dl,bP ini] (sgK ⟨nm,kd,x,zX,dl,ini⟩):=
 aH (.refl _) (aH (.refl _) (aH (.refl _) (aH (.refl _) (aH (.refl _) (aH (.refl _) (aH (.refl _) (aH (.nil _) (aH (.refl _) (oC (.refl _))))))))))
theorem adn {nm:List UInt8} {kd dl m:Int} {ini:Bool}:bS [sP nm,iP kd,iP 1,iP m,.val (.slice none 0 0),iP 0,iP 0,.val (.slice none 0 0),iP dl,bP ini] (sgK ⟨nm,kd,fV m,zX,dl,ini⟩):=
 aH (.refl _) (aH (.refl _) (aH (.refl _) (aH (.refl _) (aH (.nil _) (aH (.refl _) (aH (.refl _) (aH (.nil _) (aH (.refl _) (oC (.refl _))))))))))
structure amW where
 act:Int
 ni:Nat
 fi:Nat→List PV
 ns:Nat
 fs:Nat→List PV
 np:Nat
 fp:Nat→List PV
 nm:Nat
 fm:Nat→List PV
def avL (a:amW):Prop:=(0≤a.act∧a.act≤1000)∧a.ni≤1000000∧a.ns≤1000000
theorem wL:av Tryz.prog 104 (bC (fun a:amW=>[.p false (.agg [iP a.act,.seq a.ni a.fi,.seq a.ns a.fs,.seq a.np a.fp,.seq a.nm a.fm])]) avL (fun a=>iP (2*a.act+a.ni+a.ns))):=by
 refine vF Tryz.func104 ?_
 rintro (a:amW) hpre
 obtain ⟨⟨h1,h2⟩,h3,h4⟩:=hpre
 have h1:0≤a.act:=h1
 have h2:a.act≤1000:=h2
 have h3:a.ni≤1000000:=h3
 have h4:a.ns≤1000000:=h4
 refine ai (ai (fun _=>trivial) ?_) trivial
 show IntKind.i64.wrap (IntKind.i64.wrap (IntKind.i64.wrap (2*a.act)+(a.ni:Int))+(a.ns:Int))=2*a.act+a.ni+a.ns
 rw[dF (n:=2*a.act) (by omega) (by omega),dF (n:=2*a.act+(a.ni:Int)) (by omega) (by omega),dF (by omega) (by omega)]
def amK (nm:ByteArray) (x:Ex):List PV:=[.val (.string nm),iP 0,iP x.op,iP x.idx,.seq x.args.length (jI x.args),iP 0,iP 0,.val (.slice none 0 0),iP 0,bP false]
def ahn (c:aB) (a ns:Nat) (fs:Nat→List PV) (p:List Int):amW:=⟨c.act,c.ins.length,fun k=>[sP (c.ins.getD k [])],ns,fs,p.length,fun k=>[iP (p.getD k 0)],(kC c a).length,fun k=>[iP ((kC c a).getD k 0)]⟩
theorem tK {b:ByteArray} {nm:List UInt8} {x:Ex} (h:b=strOf nm):bS (amK b x) (sgK ⟨nm,0,x,zX,0,false⟩):=by subst h;exact adX
theorem ahH:∀(l:List Sk),(∀k,k+1<l.length→(l.getD k bY).1<(l.getD (k+1) bY).1)→(∀y∈l.drop 1,(l.getD 0 bY).1<y.1)∧l.Nodup
 | [],_=>⟨fun y hy=>by simp at hy,awC⟩
 | x :: l,h=>by
  obtain ⟨h1,h2⟩:=ahH l fun k hk=>h (k+1) (by simpa using hk)
  have h3:∀y∈l,x.1<y.1:=by
   intro y hy
   cases l with
   | nil=>simp at hy
   | cons z t=>
    have h0:=h 0 (by simp)
    have h0:x.1<z.1:=h0
    rcases ajI.1 hy with rfl | hy
    ·exact h0
    ·have:=h1 y hy
     have this:z.1<y.1:=this
     omega
  exact ⟨h3,axH.2 ⟨fun hx=>by have:=h3 x hx;omega,h2⟩⟩
theorem aoa {c:aB} (h:jP c):∀y∈c.sts,y.st.Nodup:=fun x hx=>by
 obtain ⟨h1,_,_,_,h5,_⟩:=mG h.1
 obtain ⟨k,hk,rfl⟩:=arM hx
 have h5:=h5 k hk
 rw[show c.sts.getD k st0=c.sts[k] by rw[aaG,aaX hk];rfl] at h5
 unfold gQ at h5
 split at h5
 ·rename_i h6;exact absurd h5 h6
 ·rename_i h6
  refine (ahH _ fun j hj=>?_).2
  have:=qj (alF.1 h6) (j+1) hj
  unfold lC at this
  split at this
  ·cases this
  ·split at this
   ·cases this
   ·rename_i h7
    rw[Nat.add_sub_cancel] at h7
    omega
theorem dA {c:aB} (h:jP c):(1≤c.act∧c.act≤6)∧c.ins.length≤16∧c.sts.length≤24∧c.trs.length≤32:=by
 obtain ⟨h1,h2,h3,h4,_⟩:=mG h.1
 exact ⟨h1,yT h2,h3.2,h4⟩
def awY (c:aB):LV:=.rw 9 1 c.ins.length (fun k=>[sP (c.ins.getD k [])])
def isU (l:List Int):LV:=.rw 3 1 l.length (fun k=>[iP (l.getD k 0)])
def ctU (c:aB) (s:List tN) (p m:LV):List LV:=[.s (iA c.act),awY c,sgU s,p,m]
set_option maxHeartbeats 16000000 in
theorem xD:av Tryz.prog 52 (bO (fun c:aB=>[iG c]) jP (fun c=>ctP (dH c))):=by
 refine vF Tryz.func52 ?_
 rintro (c:aB) hpre
 have hc:jP c:=hpre
 have hs:=iJ hc.1
 obtain ⟨⟨ha1,ha6⟩,hi16,hs24,ht32⟩:=dA hc
 have hgp:∀k fr,aoQ (c,k,fr):=fun k fr=>⟨hs,hc.2,by show c.trs.length≤1000000;omega⟩
 have hon:∀k,(bQ c k).length≤c.trs.length:=fun k=>lQ c _ _ _
 have hof:∀k,(dh c k).length≤c.trs.length:=fun k=>lQ c _ _ _
 have hal:∀x,(dZ c x c.sts.length).length≤c.sts.length:=fun x=>uq c x _
 have hap:∀x,an1 (c,x):=fun x=>⟨hs,hc.2,aoa hc⟩
 have htm:=lq c c.sts.length
 have hN1:(bQ c 0).length≤32:=by have:=hon 0;omega
 refine dR (.one 0 (.one 3 (.one 4 (.rd 1 [5] (.alt 2 (.alt 5 (.one 6 (.one 7 (.one 8 .done))) (.alt 7 (.one 5 (.one 6 (.one 8 .done))) .stop)) (.alt 7 (.one 2 (.one 5 (.one 6 (.one 8 .done)))) .stop)))))) ?_
 refine ai (ai ?_ (ai ?_ trivial)) (ai ?_ trivial)
 ·refine ai (mxL (n:=0+c.ins.length) (by omega) (by decide)) (ai (fun _ _=>rfl) ?_)
  refine fR (c.sts.length) (fun k=>[(4,.s (iA k))]) (fun k=>[⟨4,32,ctU c (fB c k) (.s jd) (.s jd)⟩]) (fun k=>True) ?_ ?_ ?_ ?_
  ·exact (ai (ai (fun _=>rfl) (iE (by omega))) rfl)
  ·refine (ai (ai (ai (ai nof rfl) rfl) (ai (ai rfl (ai rfl (ai ?_ (fun _ _=>rfl)))) (ai rfl (ai (ai (ai (fun _=>rfl) rfl) rfl) (ai (ai (fun _=>rfl) rfl) rfl))))) trivial)
   exact ahv _
  ·trivial
  intro (k:Nat) ⟨hk,_⟩
  have hl:=vR c k
  refine bL (k<c.sts.length) (fun g=>?_) fun g=>?_
  ·refine cK (nM) (([120],k)) (by exact (ai rfl rfl)) (⟨by show 1≤1000;omega,by show k<1000;omega⟩) ?_
   refine dR (.seq [0,1,4,5,2,3,8,6,7,9,10,11]) ?_
   refine cK (kL) ((c,(k:Int),false)) (by exact (ai (ai rfl (ai (ai rfl (fun _ _=>rfl)) (ai (ai rfl (fun _ _=>rfl)) (ai rfl (fun _ _=>rfl))))) (ai rfl rfl))) (hgp _ _) ?_
   refine cK (lS) (bQ c k) (by exact (ai rfl (fun _ _=>rfl))) ((by have:=hon k;show (bQ c k).length≤1000000;omega)) ?_
   refine cK (kL) ((c,(k:Int),true)) (by exact (ai (ai rfl (ai (ai rfl (fun _ _=>rfl)) (ai (ai rfl (fun _ _=>rfl)) (ai rfl (fun _ _=>rfl))))) (ai rfl rfl))) (hgp _ _) ?_
   refine cK (lS) (dh c k) (by exact (ai rfl (fun _ _=>rfl))) ((by have:=hof k;show (dh c k).length≤1000000;omega)) ?_
   refine cK (kL) ((c,(k:Int),false)) (by exact (ai (ai rfl (ai (ai rfl (fun _ _=>rfl)) (ai (ai rfl (fun _ _=>rfl)) (ai rfl (fun _ _=>rfl))))) (ai rfl rfl))) (hgp _ _) ?_
   refine ah (p:=0<(bQ c k).length) (by exact aA (show (0:Int)<(((bQ c k).length:Nat):Int)↔_ by omega)) (fun g1=>?_) (fun g1=>?_)
   ·refine cK (kL) ((c,(k:Int),true)) (by exact (ai (ai rfl (ai (ai rfl (fun _ _=>rfl)) (ai (ai rfl (fun _ _=>rfl)) (ai rfl (fun _ _=>rfl))))) (ai rfl rfl))) (hgp _ _) ?_
    refine ah (p:=0<(dh c k).length) (by exact aA (show (0:Int)<(((dh c k).length:Nat):Int)↔_ by omega)) (fun g2=>?_) (fun g2=>?_)
    ·refine dR (.seq [0,1,2,3,4,5,6,7]) ?_
     refine cK (agO) (aF (bQ c k)) (by exact (ai rfl (ai rfl (ai rfl (fun _ _=>rfl))))) (trivial) ?_
     refine cK (ag0) ((aF (dh c k),mP (aF (bQ c k)))) (by exact (ai (ai rfl (ai rfl (ai rfl (fun _ _=>rfl)))) (ai rfl (ai rfl (ai rfl (fun _ _=>rfl)))))) (trivial) ?_
     have e:qH c k=vD (aF (dh c k)) (mP (aF (bQ c k))):=if_pos ⟨g1,g2⟩
     refine ai (mxL (n:=(fB c k).length+1) (by omega) (by decide)) (ai (lt1 rfl) ?_)
     refine nX (k) (ai (ai (fun _=>rfl) (aG (by omega))) rfl) (ai (ai (ai (ai nof rfl) rfl) (ai (ai rfl (ai rfl (ai rfl (fun _ _=>rfl)))) (ai (ai rfl (ai rfl (ai ?_ ?_))) (ai (ai (ai nof rfl) rfl) (ai (ai nof rfl) rfl))))) trivial) trivial
     ·rw[bX,aaJ];rfl
     ·rw[bX]
      exact bU rfl (fun _ _=>.of rfl) (.of (by unfold mJ;rw[e];rfl))
    ·have e:qH c k=aF (dh c k):=if_neg (fun h=>g2 h.2)
     refine ai (mxL (n:=(fB c k).length+1) (by omega) (by decide)) (ai (lt1 rfl) ?_)
     refine nX (k) (ai (ai (fun _=>rfl) (aG (by omega))) rfl) (ai (ai (ai (ai nof rfl) rfl) (ai (ai rfl (ai rfl (ai rfl (fun _ _=>rfl)))) (ai (ai rfl (ai rfl (ai ?_ ?_))) (ai (ai (ai nof rfl) rfl) (ai (ai nof rfl) rfl))))) trivial) trivial
     ·rw[bX,aaJ];rfl
     ·rw[bX]
      exact bU rfl (fun _ _=>.of rfl) (.of (by unfold mJ;rw[e];rfl))
   ·have e:qH c k=aF (dh c k):=if_neg (fun h=>g1 h.1)
    refine ai (mxL (n:=(fB c k).length+1) (by omega) (by decide)) (ai (lt1 rfl) ?_)
    refine nX (k) (ai (ai (fun _=>rfl) (aG (by omega))) rfl) (ai (ai (ai (ai nof rfl) rfl) (ai (ai rfl (ai rfl (ai rfl (fun _ _=>rfl)))) (ai (ai rfl (ai rfl (ai ?_ ?_))) (ai (ai (ai nof rfl) rfl) (ai (ai nof rfl) rfl))))) trivial) trivial
    ·rw[bX,aaJ];rfl
    ·rw[bX]
     exact bU rfl (fun _ _=>.of rfl) (.of (by unfold mJ;rw[e];rfl))
  have e0:dD c 0=fB c k:=by rw[show k=c.sts.length by omega];rfl
  clear hl g
  refine fR (c.sts.length) (fun k=>[(6,.s (iA k))]) (fun k=>[⟨4,32,ctU c (dD c k) (.s jd) (.s jd)⟩]) (fun k=>True) ?_ ?_ ?_ ?_
  ·exact (ai (ai (fun _=>rfl) (iE (by omega))) rfl)
  ·refine (ai (ai (ai (ai nof rfl) rfl) (ai (ai rfl (ai rfl (ai rfl (fun _ _=>rfl)))) (ai (ai rfl (ai rfl (ai ?_ ?_))) (ai (ai (ai nof rfl) rfl) (ai (ai nof rfl) rfl))))) trivial)
   ·rw[e0]
   ·rw[e0];exact fun _ _=>.of rfl
  ·trivial
  intro (k:Nat) ⟨hk,_⟩
  have hl:=qW c k
  have htk:=lq c k
  refine bL (k<c.sts.length) (fun g=>?_) fun g=>?_
  ·refine iX (k) (c.sts.length) ?_
   refine ah (p:=0<(c.sts.getD k st0).wt) (aA Iff.rfl) (fun g1=>?_) (fun g1=>?_)
   ·have e1:dD c (k+1)=dD c k++[adu c k]:=by rw[dD,if_pos g1]
    refine dR (.seq [0,1,2,4,5,8,9,10,11,12,13,3,6,7,14,15,16,17,18]) ?_
    refine iX (k) (c.sts.length) ?_
    refine cK (nM) (([116],k)) (by exact (ai rfl rfl)) (⟨by show 1≤1000;omega,by show k<1000;omega⟩) ?_
    refine cK (rZ) ((c,k)) (by exact (ai (ai rfl (ai (ai rfl (fun _ _=>rfl)) (ai (ai rfl (fun _ _=>rfl)) (ai rfl (fun _ _=>rfl))))) rfl)) (⟨hs,by show k≤1000000;omega⟩) ?_
    refine cK (qC) (mU c k) (by exact rfl) (trivial) ?_
    refine ai (mxL (n:=(dD c k).length+1) (by omega) (by decide)) (ai (lt1 rfl) ?_)
    refine nX (k) (ai (ai (fun _=>rfl) (aG (by omega))) rfl) (ai (ai (ai (ai nof rfl) rfl) (ai (ai rfl (ai rfl (ai rfl (fun _ _=>rfl)))) (ai (ai rfl (ai rfl (ai ?_ ?_))) (ai (ai (ai nof rfl) rfl) (ai (ai nof rfl) rfl))))) trivial) trivial
    ·rw[e1,aaJ];rfl
    ·rw[e1]
     exact bU rfl (fun _ _=>.of rfl) (adn (m:=mU c k))
   ·have e1:dD c (k+1)=dD c k:=by rw[dD,if_neg g1]
    refine nX (k) (ai (ai (fun _=>rfl) (aG (by omega))) rfl) (ai (ai (ai (ai nof rfl) rfl) (ai (ai rfl (ai rfl (ai rfl (fun _ _=>rfl)))) (ai (ai rfl (ai rfl (ai ?_ ?_))) (ai (ai (ai nof rfl) rfl) (ai (ai nof rfl) rfl))))) trivial) trivial
    all_goals rw[e1]
    exact fun _ _=>.of rfl
  have e0:gH c 0=dD c k:=by rw[show k=c.sts.length by omega];exact arR _
  clear hl g htk
  refine fR (c.trs.length) (fun k=>[(7,.s (iA k))]) (fun k=>[⟨4,32,ctU c (gH c k) (.s jd) (.s jd)⟩]) (fun k=>True) ?_ ?_ ?_ ?_
  ·exact (ai (ai (fun _=>rfl) (iE (by omega))) rfl)
  ·refine (ai (ai (ai (ai nof rfl) rfl) (ai (ai rfl (ai rfl (ai rfl (fun _ _=>rfl)))) (ai (ai rfl (ai rfl (ai ?_ ?_))) (ai (ai (ai nof rfl) rfl) (ai (ai nof rfl) rfl))))) trivial)
   ·rw[e0]
   ·rw[e0];exact fun _ _=>.of rfl
  ·trivial
  intro (k:Nat) ⟨hk,_⟩
  have hl:=jw c k
  refine bL (k<c.trs.length) (fun g=>?_) fun g=>?_
  ·refine dR (.seq [0,1,2,4,5,3,6,7,8,9,10,11]) ?_
   refine cK (nM) (([122],k)) (by exact (ai rfl rfl)) (⟨by show 1≤1000;omega,by show k<1000;omega⟩) ?_
   refine cK (aa1) ((c,k)) (by exact (ai (ai rfl (ai (ai rfl (fun _ _=>rfl)) (ai (ai rfl (fun _ _=>rfl)) (ai rfl (fun _ _=>rfl))))) rfl)) (⟨hc,g⟩) ?_
   refine ai (mxL (n:=(gH c k).length+1) (by omega) (by decide)) (ai (lt1 rfl) ?_)
   refine nX (k) (ai (ai (fun _=>rfl) (aG (by omega))) rfl) (ai (ai (ai (ai nof rfl) rfl) (ai (ai rfl (ai rfl (ai rfl (fun _ _=>rfl)))) (ai (ai rfl (ai rfl (ai ?_ ?_))) (ai (ai (ai nof rfl) rfl) (ai (ai nof rfl) rfl))))) trivial) trivial
   ·rw[mg,aaJ];rfl
   ·rw[mg]
    exact bU rfl (fun _ _=>.of rfl) (adX (x:=nu c k))
  have e0:aX c 0=gH c k:=by rw[show k=c.trs.length by omega];rfl
  clear hl g
  have hG:=jw c c.trs.length
  refine fR (c.act.toNat) (fun a=>[(8,.s (iA a))]) (fun a=>[⟨4,32,ctU c (aX c a) (isU (fq c a)) (isU (kC c a))⟩]) (fun a=>True) ?_ ?_ ?_ ?_
  ·exact (ai (ai (fun _=>rfl) (iE (by omega))) rfl)
  ·refine (ai (ai (ai (ai nof rfl) rfl) (ai (ai rfl (ai rfl (ai rfl (fun _ _=>rfl)))) (ai (ai rfl (ai rfl (ai ?_ ?_))) (ai rfl rfl)))) trivial)
   ·rw[e0]
   ·rw[e0];exact fun _ _=>.of rfl
  ·trivial
  intro (a:Nat) ⟨hk,_⟩
  have hP:=jq c a
  have hpl:=lI c a
  have hml:=o7 c a
  refine bL (a<c.act.toNat) (fun g=>?_) fun g=>?_
  ·have hb:aJ c=2*c.act+c.ins.length:=rfl
   have hw2:IntKind.i64.wrap (2*c.act)=2*c.act:=dF (by omega) (by omega)
   have hpn:pR c a=aJ c+((gH c c.trs.length).length:Int)+2*(a:Int):=rfl
   have hww:∀n:Nat,n≤1000→IntKind.i64.wrap (IntKind.i64.wrap (IntKind.i64.wrap (2*c.act)+(c.ins.length:Int))+(n:Int))=aJ c+(n:Int):=fun n hn=>by
    rw[hw2,dF (n:=2*c.act+(c.ins.length:Int)) (by omega) (by omega),dF (by omega) (by omega),hb]
   have hpe:2*c.act+(c.ins.length:Int)+((aX c a).length:Int)=pR c a:=by omega
   have hpm:2*c.act+(c.ins.length:Int)+(((aX c a).length+1:Nat):Int)=pR c a+1:=by omega
   have hw1:IntKind.i64.wrap ((a:Int)+1)=((a+1:Nat):Int):=aG (by omega)
   have hx:(strOf six).extract ((a:Nat):Int).toNat (IntKind.i64.wrap ((a:Int)+1)).toNat=strOf [UInt8.ofNat (97+a)]:=by
    rw[hw1,aeI,aeI,uI,abo (by omega)]
   refine dR (.seq [0,1,2,3,4,5,6,7]) ?_
   refine cK (wL) (ahn c a (aX c a).length (sS (aX c a)) (fq c a)) (by exact (ai (iE rfl) (ai (ai rfl (fun _ _=>rfl)) (ai (ai rfl (fun _ _=>rfl)) (ai (ai rfl (fun _ _=>rfl)) (ai rfl (fun _ _=>rfl))))))) (⟨⟨by show 0≤c.act;omega,by show c.act≤1000;omega⟩,by show c.ins.length≤1000000;omega,by show (aX c a).length≤1000000;omega⟩) ?_
   refine ai (mxL (n:=(fq c a).length+1) (by omega) (by decide)) (ai (dW 1 rfl) ?_)
   refine dR (.seq [0,1,2,3,4,5,6,7,8,9,10,11,12,13,14,15,16]) ?_
   refine ai (ai (abw _) (ai (by rw[hw1];show (a:Int)≤_;omega) (by rw[hw1];show ((a+1:Nat):Int)≤6;omega))) ?_
   refine ai (by show ((((strOf six).extract ((a:Nat):Int).toNat (IntKind.i64.wrap ((a:Int)+1)).toNat).size+1:Nat):Int)≤9223372036854775807;rw[hx];show ((2:Nat):Int)≤9223372036854775807;decide) ?_
   refine cK (sj) ((c,((a:Int),true))) (by exact (ai (ai rfl (ai (ai rfl (fun _ _=>rfl)) (ai (ai rfl (fun _ _=>rfl)) (ai rfl (fun _ _=>rfl))))) (ai rfl rfl))) (hap _) ?_
   refine cK (lS) (dZ c ((a:Int),true) c.sts.length) (by exact (ai rfl (fun _ _=>rfl))) ((by have:=hal ((a:Int),true);show (dZ c ((a:Int),true) c.sts.length).length≤1000000;omega)) ?_
   refine ai (mxL (n:=(aX c a).length+1) (by omega) (by decide)) (ai (lt1 rfl) ?_)
   refine dR (.seq [0,1,2,3,4,5,6,7]) ?_
   refine ei _ (ai (wL) (ei (ahn c a ((aX c a).length+1) (aY (aX c a).length (sS (aX c a)) (aT 10 (amK ((strOf six).extract ((a:Nat):Int).toNat (IntKind.i64.wrap ((a:Int)+1)).toNat++strOf [112]) (aF (dZ c ((a:Int),true) c.sts.length))))) (fq c (a+1))) (ei [] (ai (ai rfl (ai rfl (ai rfl (ai rfl (ai (fun _=>Or.inl rfl) (ai (fun _=>ai rfl rfl) (Or.inl rfl))))))) (ai ?_ (ai (by exact trivial) (ai (⟨⟨by show 0≤c.act;omega,by show c.act≤1000;omega⟩,by show c.ins.length≤1000000;omega,by show (aX c a).length+1≤1000000;omega⟩) ?_)))))))
   ·refine (ai (iE (by simp only[zz,reduceCtorEq];rfl)) (ai (ai rfl (fun _ _=>rfl)) (ai (ai rfl (fun _ _=>rfl)) (ai (ai ?_ ?_) (ai rfl (fun _ _=>rfl))))))
    ·show (fq c a).length+1=(fq c (a+1)).length
     rw[hpl,lI]
    ·show ∀k,k<(fq c a).length+1→aY (fq c a).length (fun k=>[iP ((fq c a).getD k 0)]) (aT 1 [iP (2*c.act+(c.ins.length:Int)+((aX c a).length:Int))]) k=[iP ((fq c (a+1)).getD k 0)]
     rw[qR,hpe];exact dS _ _
   refine ai (mxL (n:=(kC c a).length+1) (by omega) (by decide)) (ai (dW 1 rfl) ?_)
   refine dR (.seq [0,1,2,3,4,5,6,7,8,9,10,11,12,13,14,15,16]) ?_
   refine ai (ai (abw _) (ai (by rw[hw1];show (a:Int)≤_;omega) (by rw[hw1];show ((a+1:Nat):Int)≤6;omega))) ?_
   refine ai (by show ((((strOf six).extract ((a:Nat):Int).toNat (IntKind.i64.wrap ((a:Int)+1)).toNat).size+1:Nat):Int)≤9223372036854775807;rw[hx];show ((2:Nat):Int)≤9223372036854775807;decide) ?_
   refine cK (sj) ((c,((a:Int),false))) (by exact (ai (ai rfl (ai (ai rfl (fun _ _=>rfl)) (ai (ai rfl (fun _ _=>rfl)) (ai rfl (fun _ _=>rfl))))) (ai rfl rfl))) (hap _) ?_
   refine cK (lS) (dZ c ((a:Int),false) c.sts.length) (by exact (ai rfl (fun _ _=>rfl))) ((by have:=hal ((a:Int),false);show (dZ c ((a:Int),false) c.sts.length).length≤1000000;omega)) ?_
   refine ai (mxL (n:=((aX c a).length+1)+1) (by omega) (by decide)) (ai (lt1 rfl) ?_)
   refine nX (a) (ai (ai (fun _=>rfl) (aG (by omega))) rfl) (ai (ai (ai (ai nof rfl) rfl) (ai (ai rfl (ai rfl (ai rfl (fun _ _=>rfl)))) (ai (ai rfl (ai rfl (ai ?_ ?_))) (ai (ai rfl (ai rfl (ai ?_ ?_))) (ai rfl (ai rfl (ai ?_ ?_))))))) trivial) trivial
   ·have:=jq c (a+1)
    show (aX c a).length+1+1=(aX c (a+1)).length
    omega
   ·rw[aX]
    refine bU (l:=aX c a++[pJ c a true]) (x:=pJ c a false) (by rw[aaJ];rfl) (fun q hq=>?_) ?_
    ·exact bU (l:=aX c a) (x:=pJ c a true) rfl (fun _ _=>.of rfl) (tK (by show (strOf six).extract _ _++strOf [112]=_;rw[hx];rfl)) q (by rw[aaJ] at hq;exact hq)
    ·exact tK (by show (strOf six).extract _ _++strOf [109]=_;rw[hx];rfl)
   ·rw[hpl,lI]
   ·show ∀k,k<(fq c a).length+1→aY (fq c a).length (fun k=>[iP ((fq c a).getD k 0)]) (aT 1 [iP (2*c.act+(c.ins.length:Int)+((aX c a).length:Int))]) k=[iP ((fq c (a+1)).getD k 0)]
    rw[qR,hpe];exact dS _ _
   ·rw[hml,o7]
   ·show ∀k,k<(kC c a).length+1→aY (kC c a).length (fun k=>[iP ((kC c a).getD k 0)]) (aT 1 [iP (2*c.act+(c.ins.length:Int)+(((aX c a).length+1:Nat):Int))]) k=[iP ((kC c (a+1)).getD k 0)]
    rw[aaj,hpm];exact dS _ _
  ·refine ai (ai (fun h=>absurd (show false=true from h) (by decide)) ?_) trivial
   have ea:a=c.act.toNat:=by omega
   refine (ai (iE rfl) (ai (ai rfl (fun _ _=>rfl)) (ai (ai ?_ ?_) (ai (ai ?_ ?_) (ai ?_ ?_)))))
   all_goals rw[ea]
   all_goals (first | rfl | exact fun _ _=>rfl)
 ·refine ai (mxL (n:=0+c.ins.length) (by omega) (by decide)) (ai (fun _ _=>rfl) ?_)
  refine fR (c.sts.length) (fun k=>[(4,.s (iA k))]) (fun k=>[⟨3,32,ctU c (fB c k) (.s jd) (.s jd)⟩]) (fun k=>True) ?_ ?_ ?_ ?_
  ·exact (ai (ai (fun _=>rfl) (iE (by omega))) rfl)
  ·refine (ai (ai (ai (ai nof rfl) rfl) (ai (ai rfl (ai rfl (ai ?_ (fun _ _=>rfl)))) (ai rfl (ai (ai (ai (fun _=>rfl) rfl) rfl) (ai (ai (fun _=>rfl) rfl) rfl))))) trivial)
   exact ahv _
  ·trivial
  intro (k:Nat) ⟨hk,_⟩
  have hl:=vR c k
  refine bL (k<c.sts.length) (fun g=>?_) fun g=>?_
  ·refine cK (nM) (([120],k)) (by exact (ai rfl rfl)) (⟨by show 1≤1000;omega,by show k<1000;omega⟩) ?_
   refine dR (.seq [0,1,4,5,2,3,8,6,7,9,10,11]) ?_
   refine cK (kL) ((c,(k:Int),false)) (by exact (ai (ai rfl (ai (ai rfl (fun _ _=>rfl)) (ai (ai rfl (fun _ _=>rfl)) (ai rfl (fun _ _=>rfl))))) (ai rfl rfl))) (hgp _ _) ?_
   refine cK (lS) (bQ c k) (by exact (ai rfl (fun _ _=>rfl))) ((by have:=hon k;show (bQ c k).length≤1000000;omega)) ?_
   refine cK (kL) ((c,(k:Int),true)) (by exact (ai (ai rfl (ai (ai rfl (fun _ _=>rfl)) (ai (ai rfl (fun _ _=>rfl)) (ai rfl (fun _ _=>rfl))))) (ai rfl rfl))) (hgp _ _) ?_
   refine cK (lS) (dh c k) (by exact (ai rfl (fun _ _=>rfl))) ((by have:=hof k;show (dh c k).length≤1000000;omega)) ?_
   refine cK (kL) ((c,(k:Int),false)) (by exact (ai (ai rfl (ai (ai rfl (fun _ _=>rfl)) (ai (ai rfl (fun _ _=>rfl)) (ai rfl (fun _ _=>rfl))))) (ai rfl rfl))) (hgp _ _) ?_
   refine ah (p:=0<(bQ c k).length) (by exact aA (show (0:Int)<(((bQ c k).length:Nat):Int)↔_ by omega)) (fun g1=>?_) (fun g1=>?_)
   ·refine cK (kL) ((c,(k:Int),true)) (by exact (ai (ai rfl (ai (ai rfl (fun _ _=>rfl)) (ai (ai rfl (fun _ _=>rfl)) (ai rfl (fun _ _=>rfl))))) (ai rfl rfl))) (hgp _ _) ?_
    refine ah (p:=0<(dh c k).length) (by exact aA (show (0:Int)<(((dh c k).length:Nat):Int)↔_ by omega)) (fun g2=>?_) (fun g2=>?_)
    ·refine dR (.seq [0,1,2,3,4,5,6,7]) ?_
     refine cK (agO) (aF (bQ c k)) (by exact (ai rfl (ai rfl (ai rfl (fun _ _=>rfl))))) (trivial) ?_
     refine cK (ag0) ((aF (dh c k),mP (aF (bQ c k)))) (by exact (ai (ai rfl (ai rfl (ai rfl (fun _ _=>rfl)))) (ai rfl (ai rfl (ai rfl (fun _ _=>rfl)))))) (trivial) ?_
     have e:qH c k=vD (aF (dh c k)) (mP (aF (bQ c k))):=if_pos ⟨g1,g2⟩
     refine ai (mxL (n:=(fB c k).length+1) (by omega) (by decide)) (ai (lt1 rfl) ?_)
     refine nX (k) (ai (ai (fun _=>rfl) (aG (by omega))) rfl) (ai (ai (ai (ai nof rfl) rfl) (ai (ai rfl (ai rfl (ai rfl (fun _ _=>rfl)))) (ai (ai rfl (ai rfl (ai ?_ ?_))) (ai (ai (ai nof rfl) rfl) (ai (ai nof rfl) rfl))))) trivial) trivial
     ·rw[bX,aaJ];rfl
     ·rw[bX]
      exact bU rfl (fun _ _=>.of rfl) (.of (by unfold mJ;rw[e];rfl))
    ·have e:qH c k=aF (dh c k):=if_neg (fun h=>g2 h.2)
     refine ai (mxL (n:=(fB c k).length+1) (by omega) (by decide)) (ai (lt1 rfl) ?_)
     refine nX (k) (ai (ai (fun _=>rfl) (aG (by omega))) rfl) (ai (ai (ai (ai nof rfl) rfl) (ai (ai rfl (ai rfl (ai rfl (fun _ _=>rfl)))) (ai (ai rfl (ai rfl (ai ?_ ?_))) (ai (ai (ai nof rfl) rfl) (ai (ai nof rfl) rfl))))) trivial) trivial
     ·rw[bX,aaJ];rfl
     ·rw[bX]
      exact bU rfl (fun _ _=>.of rfl) (.of (by unfold mJ;rw[e];rfl))
   ·have e:qH c k=aF (dh c k):=if_neg (fun h=>g1 h.1)
    refine ai (mxL (n:=(fB c k).length+1) (by omega) (by decide)) (ai (lt1 rfl) ?_)
    refine nX (k) (ai (ai (fun _=>rfl) (aG (by omega))) rfl) (ai (ai (ai (ai nof rfl) rfl) (ai (ai rfl (ai rfl (ai rfl (fun _ _=>rfl)))) (ai (ai rfl (ai rfl (ai ?_ ?_))) (ai (ai (ai nof rfl) rfl) (ai (ai nof rfl) rfl))))) trivial) trivial
    ·rw[bX,aaJ];rfl
    ·rw[bX]
     exact bU rfl (fun _ _=>.of rfl) (.of (by unfold mJ;rw[e];rfl))
  have e0:dD c 0=fB c k:=by rw[show k=c.sts.length by omega];rfl
  clear hl g
  refine fR (c.sts.length) (fun k=>[(6,.s (iA k))]) (fun k=>[⟨3,32,ctU c (dD c k) (.s jd) (.s jd)⟩]) (fun k=>True) ?_ ?_ ?_ ?_
  ·exact (ai (ai (fun _=>rfl) (iE (by omega))) rfl)
  ·refine (ai (ai (ai (ai nof rfl) rfl) (ai (ai rfl (ai rfl (ai rfl (fun _ _=>rfl)))) (ai (ai rfl (ai rfl (ai ?_ ?_))) (ai (ai (ai nof rfl) rfl) (ai (ai nof rfl) rfl))))) trivial)
   ·rw[e0]
   ·rw[e0];exact fun _ _=>.of rfl
  ·trivial
  intro (k:Nat) ⟨hk,_⟩
  have hl:=qW c k
  have htk:=lq c k
  refine bL (k<c.sts.length) (fun g=>?_) fun g=>?_
  ·refine iX (k) (c.sts.length) ?_
   refine ah (p:=0<(c.sts.getD k st0).wt) (aA Iff.rfl) (fun g1=>?_) (fun g1=>?_)
   ·have e1:dD c (k+1)=dD c k++[adu c k]:=by rw[dD,if_pos g1]
    refine dR (.seq [0,1,2,4,5,8,9,10,11,12,13,3,6,7,14,15,16,17,18]) ?_
    refine iX (k) (c.sts.length) ?_
    refine cK (nM) (([116],k)) (by exact (ai rfl rfl)) (⟨by show 1≤1000;omega,by show k<1000;omega⟩) ?_
    refine cK (rZ) ((c,k)) (by exact (ai (ai rfl (ai (ai rfl (fun _ _=>rfl)) (ai (ai rfl (fun _ _=>rfl)) (ai rfl (fun _ _=>rfl))))) rfl)) (⟨hs,by show k≤1000000;omega⟩) ?_
    refine cK (qC) (mU c k) (by exact rfl) (trivial) ?_
    refine ai (mxL (n:=(dD c k).length+1) (by omega) (by decide)) (ai (lt1 rfl) ?_)
    refine nX (k) (ai (ai (fun _=>rfl) (aG (by omega))) rfl) (ai (ai (ai (ai nof rfl) rfl) (ai (ai rfl (ai rfl (ai rfl (fun _ _=>rfl)))) (ai (ai rfl (ai rfl (ai ?_ ?_))) (ai (ai (ai nof rfl) rfl) (ai (ai nof rfl) rfl))))) trivial) trivial
    ·rw[e1,aaJ];rfl
    ·rw[e1]
     exact bU rfl (fun _ _=>.of rfl) (adn (m:=mU c k))
   ·have e1:dD c (k+1)=dD c k:=by rw[dD,if_neg g1]
    refine nX (k) (ai (ai (fun _=>rfl) (aG (by omega))) rfl) (ai (ai (ai (ai nof rfl) rfl) (ai (ai rfl (ai rfl (ai rfl (fun _ _=>rfl)))) (ai (ai rfl (ai rfl (ai ?_ ?_))) (ai (ai (ai nof rfl) rfl) (ai (ai nof rfl) rfl))))) trivial) trivial
    all_goals rw[e1]
    exact fun _ _=>.of rfl
  have e0:gH c 0=dD c k:=by rw[show k=c.sts.length by omega];exact arR _
  clear hl g htk
  refine fR (c.trs.length) (fun k=>[(7,.s (iA k))]) (fun k=>[⟨3,32,ctU c (gH c k) (.s jd) (.s jd)⟩]) (fun k=>True) ?_ ?_ ?_ ?_
  ·exact (ai (ai (fun _=>rfl) (iE (by omega))) rfl)
  ·refine (ai (ai (ai (ai nof rfl) rfl) (ai (ai rfl (ai rfl (ai rfl (fun _ _=>rfl)))) (ai (ai rfl (ai rfl (ai ?_ ?_))) (ai (ai (ai nof rfl) rfl) (ai (ai nof rfl) rfl))))) trivial)
   ·rw[e0]
   ·rw[e0];exact fun _ _=>.of rfl
  ·trivial
  intro (k:Nat) ⟨hk,_⟩
  have hl:=jw c k
  refine bL (k<c.trs.length) (fun g=>?_) fun g=>?_
  ·refine dR (.seq [0,1,2,4,5,3,6,7,8,9,10,11]) ?_
   refine cK (nM) (([122],k)) (by exact (ai rfl rfl)) (⟨by show 1≤1000;omega,by show k<1000;omega⟩) ?_
   refine cK (aa1) ((c,k)) (by exact (ai (ai rfl (ai (ai rfl (fun _ _=>rfl)) (ai (ai rfl (fun _ _=>rfl)) (ai rfl (fun _ _=>rfl))))) rfl)) (⟨hc,g⟩) ?_
   refine ai (mxL (n:=(gH c k).length+1) (by omega) (by decide)) (ai (lt1 rfl) ?_)
   refine nX (k) (ai (ai (fun _=>rfl) (aG (by omega))) rfl) (ai (ai (ai (ai nof rfl) rfl) (ai (ai rfl (ai rfl (ai rfl (fun _ _=>rfl)))) (ai (ai rfl (ai rfl (ai ?_ ?_))) (ai (ai (ai nof rfl) rfl) (ai (ai nof rfl) rfl))))) trivial) trivial
   ·rw[mg,aaJ];rfl
   ·rw[mg]
    exact bU rfl (fun _ _=>.of rfl) (adX (x:=nu c k))
  have e0:aX c 0=gH c k:=by rw[show k=c.trs.length by omega];rfl
  clear hl g
  have hG:=jw c c.trs.length
  refine fR (c.act.toNat) (fun a=>[(8,.s (iA a))]) (fun a=>[⟨3,32,ctU c (aX c a) (isU (fq c a)) (isU (kC c a))⟩]) (fun a=>True) ?_ ?_ ?_ ?_
  ·exact (ai (ai (fun _=>rfl) (iE (by omega))) rfl)
  ·refine (ai (ai (ai (ai nof rfl) rfl) (ai (ai rfl (ai rfl (ai rfl (fun _ _=>rfl)))) (ai (ai rfl (ai rfl (ai ?_ ?_))) (ai rfl rfl)))) trivial)
   ·rw[e0]
   ·rw[e0];exact fun _ _=>.of rfl
  ·trivial
  intro (a:Nat) ⟨hk,_⟩
  have hP:=jq c a
  have hpl:=lI c a
  have hml:=o7 c a
  refine bL (a<c.act.toNat) (fun g=>?_) fun g=>?_
  ·have hb:aJ c=2*c.act+c.ins.length:=rfl
   have hw2:IntKind.i64.wrap (2*c.act)=2*c.act:=dF (by omega) (by omega)
   have hpn:pR c a=aJ c+((gH c c.trs.length).length:Int)+2*(a:Int):=rfl
   have hww:∀n:Nat,n≤1000→IntKind.i64.wrap (IntKind.i64.wrap (IntKind.i64.wrap (2*c.act)+(c.ins.length:Int))+(n:Int))=aJ c+(n:Int):=fun n hn=>by
    rw[hw2,dF (n:=2*c.act+(c.ins.length:Int)) (by omega) (by omega),dF (by omega) (by omega),hb]
   have hpe:2*c.act+(c.ins.length:Int)+((aX c a).length:Int)=pR c a:=by omega
   have hpm:2*c.act+(c.ins.length:Int)+(((aX c a).length+1:Nat):Int)=pR c a+1:=by omega
   have hw1:IntKind.i64.wrap ((a:Int)+1)=((a+1:Nat):Int):=aG (by omega)
   have hx:(strOf six).extract ((a:Nat):Int).toNat (IntKind.i64.wrap ((a:Int)+1)).toNat=strOf [UInt8.ofNat (97+a)]:=by
    rw[hw1,aeI,aeI,uI,abo (by omega)]
   refine dR (.seq [0,1,2,3,4,5,6,7]) ?_
   refine cK (wL) (ahn c a (aX c a).length (sS (aX c a)) (fq c a)) (by exact (ai (iE rfl) (ai (ai rfl (fun _ _=>rfl)) (ai (ai rfl (fun _ _=>rfl)) (ai (ai rfl (fun _ _=>rfl)) (ai rfl (fun _ _=>rfl))))))) (⟨⟨by show 0≤c.act;omega,by show c.act≤1000;omega⟩,by show c.ins.length≤1000000;omega,by show (aX c a).length≤1000000;omega⟩) ?_
   refine ai (mxL (n:=(fq c a).length+1) (by omega) (by decide)) (ai (dW 1 rfl) ?_)
   refine dR (.seq [0,1,2,3,4,5,6,7,8,9,10,11,12,13,14,15,16]) ?_
   refine ai (ai (abw _) (ai (by rw[hw1];show (a:Int)≤_;omega) (by rw[hw1];show ((a+1:Nat):Int)≤6;omega))) ?_
   refine ai (by show ((((strOf six).extract ((a:Nat):Int).toNat (IntKind.i64.wrap ((a:Int)+1)).toNat).size+1:Nat):Int)≤9223372036854775807;rw[hx];show ((2:Nat):Int)≤9223372036854775807;decide) ?_
   refine cK (sj) ((c,((a:Int),true))) (by exact (ai (ai rfl (ai (ai rfl (fun _ _=>rfl)) (ai (ai rfl (fun _ _=>rfl)) (ai rfl (fun _ _=>rfl))))) (ai rfl rfl))) (hap _) ?_
   refine cK (lS) (dZ c ((a:Int),true) c.sts.length) (by exact (ai rfl (fun _ _=>rfl))) ((by have:=hal ((a:Int),true);show (dZ c ((a:Int),true) c.sts.length).length≤1000000;omega)) ?_
   refine ai (mxL (n:=(aX c a).length+1) (by omega) (by decide)) (ai (lt1 rfl) ?_)
   refine dR (.seq [0,1,2,3,4,5,6,7]) ?_
   refine ei _ (ai (wL) (ei (ahn c a ((aX c a).length+1) (aY (aX c a).length (sS (aX c a)) (aT 10 (amK ((strOf six).extract ((a:Nat):Int).toNat (IntKind.i64.wrap ((a:Int)+1)).toNat++strOf [112]) (aF (dZ c ((a:Int),true) c.sts.length))))) (fq c (a+1))) (ei [] (ai (ai rfl (ai rfl (ai rfl (ai rfl (ai (fun _=>Or.inl rfl) (ai (fun _=>ai rfl rfl) (Or.inl rfl))))))) (ai ?_ (ai (by exact trivial) (ai (⟨⟨by show 0≤c.act;omega,by show c.act≤1000;omega⟩,by show c.ins.length≤1000000;omega,by show (aX c a).length+1≤1000000;omega⟩) ?_)))))))
   ·refine (ai (iE (by simp only[zz,reduceCtorEq];rfl)) (ai (ai rfl (fun _ _=>rfl)) (ai (ai rfl (fun _ _=>rfl)) (ai (ai ?_ ?_) (ai rfl (fun _ _=>rfl))))))
    ·show (fq c a).length+1=(fq c (a+1)).length
     rw[hpl,lI]
    ·show ∀k,k<(fq c a).length+1→aY (fq c a).length (fun k=>[iP ((fq c a).getD k 0)]) (aT 1 [iP (2*c.act+(c.ins.length:Int)+((aX c a).length:Int))]) k=[iP ((fq c (a+1)).getD k 0)]
     rw[qR,hpe];exact dS _ _
   refine ai (mxL (n:=(kC c a).length+1) (by omega) (by decide)) (ai (dW 1 rfl) ?_)
   refine dR (.seq [0,1,2,3,4,5,6,7,8,9,10,11,12,13,14,15,16]) ?_
   refine ai (ai (abw _) (ai (by rw[hw1];show (a:Int)≤_;omega) (by rw[hw1];show ((a+1:Nat):Int)≤6;omega))) ?_
   refine ai (by show ((((strOf six).extract ((a:Nat):Int).toNat (IntKind.i64.wrap ((a:Int)+1)).toNat).size+1:Nat):Int)≤9223372036854775807;rw[hx];show ((2:Nat):Int)≤9223372036854775807;decide) ?_
   refine cK (sj) ((c,((a:Int),false))) (by exact (ai (ai rfl (ai (ai rfl (fun _ _=>rfl)) (ai (ai rfl (fun _ _=>rfl)) (ai rfl (fun _ _=>rfl))))) (ai rfl rfl))) (hap _) ?_
   refine cK (lS) (dZ c ((a:Int),false) c.sts.length) (by exact (ai rfl (fun _ _=>rfl))) ((by have:=hal ((a:Int),false);show (dZ c ((a:Int),false) c.sts.length).length≤1000000;omega)) ?_
   refine ai (mxL (n:=((aX c a).length+1)+1) (by omega) (by decide)) (ai (lt1 rfl) ?_)
   refine nX (a) (ai (ai (fun _=>rfl) (aG (by omega))) rfl) (ai (ai (ai (ai nof rfl) rfl) (ai (ai rfl (ai rfl (ai rfl (fun _ _=>rfl)))) (ai (ai rfl (ai rfl (ai ?_ ?_))) (ai (ai rfl (ai rfl (ai ?_ ?_))) (ai rfl (ai rfl (ai ?_ ?_))))))) trivial) trivial
   ·have:=jq c (a+1)
    show (aX c a).length+1+1=(aX c (a+1)).length
    omega
   ·rw[aX]
    refine bU (l:=aX c a++[pJ c a true]) (x:=pJ c a false) (by rw[aaJ];rfl) (fun q hq=>?_) ?_
    ·exact bU (l:=aX c a) (x:=pJ c a true) rfl (fun _ _=>.of rfl) (tK (by show (strOf six).extract _ _++strOf [112]=_;rw[hx];rfl)) q (by rw[aaJ] at hq;exact hq)
    ·exact tK (by show (strOf six).extract _ _++strOf [109]=_;rw[hx];rfl)
   ·rw[hpl,lI]
   ·show ∀k,k<(fq c a).length+1→aY (fq c a).length (fun k=>[iP ((fq c a).getD k 0)]) (aT 1 [iP (2*c.act+(c.ins.length:Int)+((aX c a).length:Int))]) k=[iP ((fq c (a+1)).getD k 0)]
    rw[qR,hpe];exact dS _ _
   ·rw[hml,o7]
   ·show ∀k,k<(kC c a).length+1→aY (kC c a).length (fun k=>[iP ((kC c a).getD k 0)]) (aT 1 [iP (2*c.act+(c.ins.length:Int)+(((aX c a).length+1:Nat):Int))]) k=[iP ((kC c (a+1)).getD k 0)]
    rw[aaj,hpm];exact dS _ _
  ·refine ai (ai (fun h=>absurd (show false=true from h) (by decide)) ?_) trivial
   have ea:a=c.act.toNat:=by omega
   refine (ai (iE rfl) (ai (ai rfl (fun _ _=>rfl)) (ai (ai ?_ ?_) (ai (ai ?_ ?_) (ai ?_ ?_)))))
   all_goals rw[ea]
   all_goals (first | rfl | exact fun _ _=>rfl)
 ·refine ai (mxL (n:=0+c.ins.length) (by omega) (by decide)) (ai (fun _ _=>rfl) ?_)
  refine fR (c.sts.length) (fun k=>[(4,.s (iA k))]) (fun k=>[⟨2,32,ctU c (fB c k) (.s jd) (.s jd)⟩]) (fun k=>True) ?_ ?_ ?_ ?_
  ·exact (ai (ai (fun _=>rfl) (iE (by omega))) rfl)
  ·refine (ai (ai (ai (ai nof rfl) rfl) (ai (ai rfl (ai rfl (ai ?_ (fun _ _=>rfl)))) (ai rfl (ai (ai (ai (fun _=>rfl) rfl) rfl) (ai (ai (fun _=>rfl) rfl) rfl))))) trivial)
   exact ahv _
  ·trivial
  intro (k:Nat) ⟨hk,_⟩
  have hl:=vR c k
  refine bL (k<c.sts.length) (fun g=>?_) fun g=>?_
  ·refine cK (nM) (([120],k)) (by exact (ai rfl rfl)) (⟨by show 1≤1000;omega,by show k<1000;omega⟩) ?_
   refine dR (.seq [0,1,4,5,2,3,8,6,7,9,10,11]) ?_
   refine cK (kL) ((c,(k:Int),false)) (by exact (ai (ai rfl (ai (ai rfl (fun _ _=>rfl)) (ai (ai rfl (fun _ _=>rfl)) (ai rfl (fun _ _=>rfl))))) (ai rfl rfl))) (hgp _ _) ?_
   refine cK (lS) (bQ c k) (by exact (ai rfl (fun _ _=>rfl))) ((by have:=hon k;show (bQ c k).length≤1000000;omega)) ?_
   refine cK (kL) ((c,(k:Int),true)) (by exact (ai (ai rfl (ai (ai rfl (fun _ _=>rfl)) (ai (ai rfl (fun _ _=>rfl)) (ai rfl (fun _ _=>rfl))))) (ai rfl rfl))) (hgp _ _) ?_
   refine cK (lS) (dh c k) (by exact (ai rfl (fun _ _=>rfl))) ((by have:=hof k;show (dh c k).length≤1000000;omega)) ?_
   refine cK (kL) ((c,(k:Int),false)) (by exact (ai (ai rfl (ai (ai rfl (fun _ _=>rfl)) (ai (ai rfl (fun _ _=>rfl)) (ai rfl (fun _ _=>rfl))))) (ai rfl rfl))) (hgp _ _) ?_
   refine ah (p:=0<(bQ c k).length) (by exact aA (show (0:Int)<(((bQ c k).length:Nat):Int)↔_ by omega)) (fun g1=>?_) (fun g1=>?_)
   ·refine cK (kL) ((c,(k:Int),true)) (by exact (ai (ai rfl (ai (ai rfl (fun _ _=>rfl)) (ai (ai rfl (fun _ _=>rfl)) (ai rfl (fun _ _=>rfl))))) (ai rfl rfl))) (hgp _ _) ?_
    refine ah (p:=0<(dh c k).length) (by exact aA (show (0:Int)<(((dh c k).length:Nat):Int)↔_ by omega)) (fun g2=>?_) (fun g2=>?_)
    ·refine dR (.seq [0,1,2,3,4,5,6,7]) ?_
     refine cK (agO) (aF (bQ c k)) (by exact (ai rfl (ai rfl (ai rfl (fun _ _=>rfl))))) (trivial) ?_
     refine cK (ag0) ((aF (dh c k),mP (aF (bQ c k)))) (by exact (ai (ai rfl (ai rfl (ai rfl (fun _ _=>rfl)))) (ai rfl (ai rfl (ai rfl (fun _ _=>rfl)))))) (trivial) ?_
     have e:qH c k=vD (aF (dh c k)) (mP (aF (bQ c k))):=if_pos ⟨g1,g2⟩
     refine ai (mxL (n:=(fB c k).length+1) (by omega) (by decide)) (ai (lt1 rfl) ?_)
     refine nX (k) (ai (ai (fun _=>rfl) (aG (by omega))) rfl) (ai (ai (ai (ai nof rfl) rfl) (ai (ai rfl (ai rfl (ai rfl (fun _ _=>rfl)))) (ai (ai rfl (ai rfl (ai ?_ ?_))) (ai (ai (ai nof rfl) rfl) (ai (ai nof rfl) rfl))))) trivial) trivial
     ·rw[bX,aaJ];rfl
     ·rw[bX]
      exact bU rfl (fun _ _=>.of rfl) (.of (by unfold mJ;rw[e];rfl))
    ·have e:qH c k=aF (dh c k):=if_neg (fun h=>g2 h.2)
     refine ai (mxL (n:=(fB c k).length+1) (by omega) (by decide)) (ai (lt1 rfl) ?_)
     refine nX (k) (ai (ai (fun _=>rfl) (aG (by omega))) rfl) (ai (ai (ai (ai nof rfl) rfl) (ai (ai rfl (ai rfl (ai rfl (fun _ _=>rfl)))) (ai (ai rfl (ai rfl (ai ?_ ?_))) (ai (ai (ai nof rfl) rfl) (ai (ai nof rfl) rfl))))) trivial) trivial
     ·rw[bX,aaJ];rfl
     ·rw[bX]
      exact bU rfl (fun _ _=>.of rfl) (.of (by unfold mJ;rw[e];rfl))
   ·have e:qH c k=aF (dh c k):=if_neg (fun h=>g1 h.1)
    refine ai (mxL (n:=(fB c k).length+1) (by omega) (by decide)) (ai (lt1 rfl) ?_)
    refine nX (k) (ai (ai (fun _=>rfl) (aG (by omega))) rfl) (ai (ai (ai (ai nof rfl) rfl) (ai (ai rfl (ai rfl (ai rfl (fun _ _=>rfl)))) (ai (ai rfl (ai rfl (ai ?_ ?_))) (ai (ai (ai nof rfl) rfl) (ai (ai nof rfl) rfl))))) trivial) trivial
    ·rw[bX,aaJ];rfl
    ·rw[bX]
     exact bU rfl (fun _ _=>.of rfl) (.of (by unfold mJ;rw[e];rfl))
  have e0:dD c 0=fB c k:=by rw[show k=c.sts.length by omega];rfl
  clear hl g
  refine fR (c.sts.length) (fun k=>[(6,.s (iA k))]) (fun k=>[⟨2,32,ctU c (dD c k) (.s jd) (.s jd)⟩]) (fun k=>True) ?_ ?_ ?_ ?_
  ·exact (ai (ai (fun _=>rfl) (iE (by omega))) rfl)
  ·refine (ai (ai (ai (ai nof rfl) rfl) (ai (ai rfl (ai rfl (ai rfl (fun _ _=>rfl)))) (ai (ai rfl (ai rfl (ai ?_ ?_))) (ai (ai (ai nof rfl) rfl) (ai (ai nof rfl) rfl))))) trivial)
   ·rw[e0]
   ·rw[e0];exact fun _ _=>.of rfl
  ·trivial
  intro (k:Nat) ⟨hk,_⟩
  have hl:=qW c k
  have htk:=lq c k
  refine bL (k<c.sts.length) (fun g=>?_) fun g=>?_
  ·refine iX (k) (c.sts.length) ?_
   refine ah (p:=0<(c.sts.getD k st0).wt) (aA Iff.rfl) (fun g1=>?_) (fun g1=>?_)
   ·have e1:dD c (k+1)=dD c k++[adu c k]:=by rw[dD,if_pos g1]
    refine dR (.seq [0,1,2,4,5,8,9,10,11,12,13,3,6,7,14,15,16,17,18]) ?_
    refine iX (k) (c.sts.length) ?_
    refine cK (nM) (([116],k)) (by exact (ai rfl rfl)) (⟨by show 1≤1000;omega,by show k<1000;omega⟩) ?_
    refine cK (rZ) ((c,k)) (by exact (ai (ai rfl (ai (ai rfl (fun _ _=>rfl)) (ai (ai rfl (fun _ _=>rfl)) (ai rfl (fun _ _=>rfl))))) rfl)) (⟨hs,by show k≤1000000;omega⟩) ?_
    refine cK (qC) (mU c k) (by exact rfl) (trivial) ?_
    refine ai (mxL (n:=(dD c k).length+1) (by omega) (by decide)) (ai (lt1 rfl) ?_)
    refine nX (k) (ai (ai (fun _=>rfl) (aG (by omega))) rfl) (ai (ai (ai (ai nof rfl) rfl) (ai (ai rfl (ai rfl (ai rfl (fun _ _=>rfl)))) (ai (ai rfl (ai rfl (ai ?_ ?_))) (ai (ai (ai nof rfl) rfl) (ai (ai nof rfl) rfl))))) trivial) trivial
    ·rw[e1,aaJ];rfl
    ·rw[e1]
     exact bU rfl (fun _ _=>.of rfl) (adn (m:=mU c k))
   ·have e1:dD c (k+1)=dD c k:=by rw[dD,if_neg g1]
    refine nX (k) (ai (ai (fun _=>rfl) (aG (by omega))) rfl) (ai (ai (ai (ai nof rfl) rfl) (ai (ai rfl (ai rfl (ai rfl (fun _ _=>rfl)))) (ai (ai rfl (ai rfl (ai ?_ ?_))) (ai (ai (ai nof rfl) rfl) (ai (ai nof rfl) rfl))))) trivial) trivial
    all_goals rw[e1]
    exact fun _ _=>.of rfl
  have e0:gH c 0=dD c k:=by rw[show k=c.sts.length by omega];exact arR _
  clear hl g htk
  refine fR (c.trs.length) (fun k=>[(7,.s (iA k))]) (fun k=>[⟨2,32,ctU c (gH c k) (.s jd) (.s jd)⟩]) (fun k=>True) ?_ ?_ ?_ ?_
  ·exact (ai (ai (fun _=>rfl) (iE (by omega))) rfl)
  ·refine (ai (ai (ai (ai nof rfl) rfl) (ai (ai rfl (ai rfl (ai rfl (fun _ _=>rfl)))) (ai (ai rfl (ai rfl (ai ?_ ?_))) (ai (ai (ai nof rfl) rfl) (ai (ai nof rfl) rfl))))) trivial)
   ·rw[e0]
   ·rw[e0];exact fun _ _=>.of rfl
  ·trivial
  intro (k:Nat) ⟨hk,_⟩
  have hl:=jw c k
  refine bL (k<c.trs.length) (fun g=>?_) fun g=>?_
  ·refine dR (.seq [0,1,2,4,5,3,6,7,8,9,10,11]) ?_
   refine cK (nM) (([122],k)) (by exact (ai rfl rfl)) (⟨by show 1≤1000;omega,by show k<1000;omega⟩) ?_
   refine cK (aa1) ((c,k)) (by exact (ai (ai rfl (ai (ai rfl (fun _ _=>rfl)) (ai (ai rfl (fun _ _=>rfl)) (ai rfl (fun _ _=>rfl))))) rfl)) (⟨hc,g⟩) ?_
   refine ai (mxL (n:=(gH c k).length+1) (by omega) (by decide)) (ai (lt1 rfl) ?_)
   refine nX (k) (ai (ai (fun _=>rfl) (aG (by omega))) rfl) (ai (ai (ai (ai nof rfl) rfl) (ai (ai rfl (ai rfl (ai rfl (fun _ _=>rfl)))) (ai (ai rfl (ai rfl (ai ?_ ?_))) (ai (ai (ai nof rfl) rfl) (ai (ai nof rfl) rfl))))) trivial) trivial
   ·rw[mg,aaJ];rfl
   ·rw[mg]
    exact bU rfl (fun _ _=>.of rfl) (adX (x:=nu c k))
  have e0:aX c 0=gH c k:=by rw[show k=c.trs.length by omega];rfl
  clear hl g
  have hG:=jw c c.trs.length
  refine fR (c.act.toNat) (fun a=>[(8,.s (iA a))]) (fun a=>[⟨2,32,ctU c (aX c a) (isU (fq c a)) (isU (kC c a))⟩]) (fun a=>True) ?_ ?_ ?_ ?_
  ·exact (ai (ai (fun _=>rfl) (iE (by omega))) rfl)
  ·refine (ai (ai (ai (ai nof rfl) rfl) (ai (ai rfl (ai rfl (ai rfl (fun _ _=>rfl)))) (ai (ai rfl (ai rfl (ai ?_ ?_))) (ai rfl rfl)))) trivial)
   ·rw[e0]
   ·rw[e0];exact fun _ _=>.of rfl
  ·trivial
  intro (a:Nat) ⟨hk,_⟩
  have hP:=jq c a
  have hpl:=lI c a
  have hml:=o7 c a
  refine bL (a<c.act.toNat) (fun g=>?_) fun g=>?_
  ·have hb:aJ c=2*c.act+c.ins.length:=rfl
   have hw2:IntKind.i64.wrap (2*c.act)=2*c.act:=dF (by omega) (by omega)
   have hpn:pR c a=aJ c+((gH c c.trs.length).length:Int)+2*(a:Int):=rfl
   have hww:∀n:Nat,n≤1000→IntKind.i64.wrap (IntKind.i64.wrap (IntKind.i64.wrap (2*c.act)+(c.ins.length:Int))+(n:Int))=aJ c+(n:Int):=fun n hn=>by
    rw[hw2,dF (n:=2*c.act+(c.ins.length:Int)) (by omega) (by omega),dF (by omega) (by omega),hb]
   have hpe:2*c.act+(c.ins.length:Int)+((aX c a).length:Int)=pR c a:=by omega
   have hpm:2*c.act+(c.ins.length:Int)+(((aX c a).length+1:Nat):Int)=pR c a+1:=by omega
   have hw1:IntKind.i64.wrap ((a:Int)+1)=((a+1:Nat):Int):=aG (by omega)
   have hx:(strOf six).extract ((a:Nat):Int).toNat (IntKind.i64.wrap ((a:Int)+1)).toNat=strOf [UInt8.ofNat (97+a)]:=by
    rw[hw1,aeI,aeI,uI,abo (by omega)]
   refine dR (.seq [0,1,2,3,4,5,6,7]) ?_
   refine cK (wL) (ahn c a (aX c a).length (sS (aX c a)) (fq c a)) (by exact (ai (iE rfl) (ai (ai rfl (fun _ _=>rfl)) (ai (ai rfl (fun _ _=>rfl)) (ai (ai rfl (fun _ _=>rfl)) (ai rfl (fun _ _=>rfl))))))) (⟨⟨by show 0≤c.act;omega,by show c.act≤1000;omega⟩,by show c.ins.length≤1000000;omega,by show (aX c a).length≤1000000;omega⟩) ?_
   refine ai (mxL (n:=(fq c a).length+1) (by omega) (by decide)) (ai (dW 1 rfl) ?_)
   refine dR (.seq [0,1,2,3,4,5,6,7,8,9,10,11,12,13,14,15,16]) ?_
   refine ai (ai (abw _) (ai (by rw[hw1];show (a:Int)≤_;omega) (by rw[hw1];show ((a+1:Nat):Int)≤6;omega))) ?_
   refine ai (by show ((((strOf six).extract ((a:Nat):Int).toNat (IntKind.i64.wrap ((a:Int)+1)).toNat).size+1:Nat):Int)≤9223372036854775807;rw[hx];show ((2:Nat):Int)≤9223372036854775807;decide) ?_
   refine cK (sj) ((c,((a:Int),true))) (by exact (ai (ai rfl (ai (ai rfl (fun _ _=>rfl)) (ai (ai rfl (fun _ _=>rfl)) (ai rfl (fun _ _=>rfl))))) (ai rfl rfl))) (hap _) ?_
   refine cK (lS) (dZ c ((a:Int),true) c.sts.length) (by exact (ai rfl (fun _ _=>rfl))) ((by have:=hal ((a:Int),true);show (dZ c ((a:Int),true) c.sts.length).length≤1000000;omega)) ?_
   refine ai (mxL (n:=(aX c a).length+1) (by omega) (by decide)) (ai (lt1 rfl) ?_)
   refine dR (.seq [0,1,2,3,4,5,6,7]) ?_
   refine ei _ (ai (wL) (ei (ahn c a ((aX c a).length+1) (aY (aX c a).length (sS (aX c a)) (aT 10 (amK ((strOf six).extract ((a:Nat):Int).toNat (IntKind.i64.wrap ((a:Int)+1)).toNat++strOf [112]) (aF (dZ c ((a:Int),true) c.sts.length))))) (fq c (a+1))) (ei [] (ai (ai rfl (ai rfl (ai rfl (ai rfl (ai (fun _=>Or.inl rfl) (ai (fun _=>ai rfl rfl) (Or.inl rfl))))))) (ai ?_ (ai (by exact trivial) (ai (⟨⟨by show 0≤c.act;omega,by show c.act≤1000;omega⟩,by show c.ins.length≤1000000;omega,by show (aX c a).length+1≤1000000;omega⟩) ?_)))))))
   ·refine (ai (iE (by simp only[zz,reduceCtorEq];rfl)) (ai (ai rfl (fun _ _=>rfl)) (ai (ai rfl (fun _ _=>rfl)) (ai (ai ?_ ?_) (ai rfl (fun _ _=>rfl))))))
    ·show (fq c a).length+1=(fq c (a+1)).length
     rw[hpl,lI]
    ·show ∀k,k<(fq c a).length+1→aY (fq c a).length (fun k=>[iP ((fq c a).getD k 0)]) (aT 1 [iP (2*c.act+(c.ins.length:Int)+((aX c a).length:Int))]) k=[iP ((fq c (a+1)).getD k 0)]
     rw[qR,hpe];exact dS _ _
   refine ai (mxL (n:=(kC c a).length+1) (by omega) (by decide)) (ai (dW 1 rfl) ?_)
   refine dR (.seq [0,1,2,3,4,5,6,7,8,9,10,11,12,13,14,15,16]) ?_
   refine ai (ai (abw _) (ai (by rw[hw1];show (a:Int)≤_;omega) (by rw[hw1];show ((a+1:Nat):Int)≤6;omega))) ?_
   refine ai (by show ((((strOf six).extract ((a:Nat):Int).toNat (IntKind.i64.wrap ((a:Int)+1)).toNat).size+1:Nat):Int)≤9223372036854775807;rw[hx];show ((2:Nat):Int)≤9223372036854775807;decide) ?_
   refine cK (sj) ((c,((a:Int),false))) (by exact (ai (ai rfl (ai (ai rfl (fun _ _=>rfl)) (ai (ai rfl (fun _ _=>rfl)) (ai rfl (fun _ _=>rfl))))) (ai rfl rfl))) (hap _) ?_
   refine cK (lS) (dZ c ((a:Int),false) c.sts.length) (by exact (ai rfl (fun _ _=>rfl))) ((by have:=hal ((a:Int),false);show (dZ c ((a:Int),false) c.sts.length).length≤1000000;omega)) ?_
   refine ai (mxL (n:=((aX c a).length+1)+1) (by omega) (by decide)) (ai (lt1 rfl) ?_)
   refine nX (a) (ai (ai (fun _=>rfl) (aG (by omega))) rfl) (ai (ai (ai (ai nof rfl) rfl) (ai (ai rfl (ai rfl (ai rfl (fun _ _=>rfl)))) (ai (ai rfl (ai rfl (ai ?_ ?_))) (ai (ai rfl (ai rfl (ai ?_ ?_))) (ai rfl (ai rfl (ai ?_ ?_))))))) trivial) trivial
   ·have:=jq c (a+1)
    show (aX c a).length+1+1=(aX c (a+1)).length
    omega
   ·rw[aX]
    refine bU (l:=aX c a++[pJ c a true]) (x:=pJ c a false) (by rw[aaJ];rfl) (fun q hq=>?_) ?_
    ·exact bU (l:=aX c a) (x:=pJ c a true) rfl (fun _ _=>.of rfl) (tK (by show (strOf six).extract _ _++strOf [112]=_;rw[hx];rfl)) q (by rw[aaJ] at hq;exact hq)
    ·exact tK (by show (strOf six).extract _ _++strOf [109]=_;rw[hx];rfl)
   ·rw[hpl,lI]
   ·show ∀k,k<(fq c a).length+1→aY (fq c a).length (fun k=>[iP ((fq c a).getD k 0)]) (aT 1 [iP (2*c.act+(c.ins.length:Int)+((aX c a).length:Int))]) k=[iP ((fq c (a+1)).getD k 0)]
    rw[qR,hpe];exact dS _ _
   ·rw[hml,o7]
   ·show ∀k,k<(kC c a).length+1→aY (kC c a).length (fun k=>[iP ((kC c a).getD k 0)]) (aT 1 [iP (2*c.act+(c.ins.length:Int)+(((aX c a).length+1:Nat):Int))]) k=[iP ((kC c (a+1)).getD k 0)]
    rw[aaj,hpm];exact dS _ _
  ·refine ai (ai (fun h=>absurd (show false=true from h) (by decide)) ?_) trivial
   have ea:a=c.act.toNat:=by omega
   refine (ai (iE rfl) (ai (ai rfl (fun _ _=>rfl)) (ai (ai ?_ ?_) (ai (ai ?_ ?_) (ai ?_ ?_)))))
   all_goals rw[ea]
   all_goals (first | rfl | exact fun _ _=>rfl)
def fD (c:aB) (k:Nat):List Int:=(List.range k).map (mU c)
def om (c:aB) (k:Nat):List Int:=(List.range k).map (lZ c)
theorem aaF (c:aB) (k:Nat):fD c (k+1)=fD c k++[mU c k]:=by unfold fD;rw[avy,apk];rfl
theorem aaS (c:aB) (k:Nat):om c (k+1)=om c k++[lZ c k]:=by unfold om;rw[avy,apk];rfl
theorem q8 (c:aB) (k:Nat):(fD c k).length=k:=by unfold fD;rw[ai1,auf]
theorem tZ (c:aB) (k:Nat):(om c k).length=k:=by unfold om;rw[ai1,auf]
theorem um (c:aB) {n k:Nat} (h:k<n):(fD c n).getD k 0=mU c k:=by
 unfold fD;rw[aaG,alW,axy h];rfl
theorem aeZ (c:aB) {n k:Nat} (h:k<n):(om c n).getD k 0=lZ c k:=by
 unfold om;rw[aaG,alW,axy h];rfl
def awP (c:aB) (all mem tim pas:SV):List SV:=[iA (aJ c),all,iA c.act,.p false (xV c.ins),.p false (abb c.sts),.p false (adz c.trs),mem,tim,pas]
def aqI (c:aB) (all mem tim pas:SV):Ob:=.cells 106 (awP c all mem tim pas)
def akc (c:aB):SV:=isA (fD c c.sts.length)
def akT (c:aB):SV:=isA (bZ c c.sts.length)
def akA (c:aB):SV:=isA (om c c.trs.length)
def anD (c:aB) (all:SV):Ob:=aqI c all (akc c) (akT c) (akA c)
theorem zh:av Tryz.prog 152 { A:=Int,args:=fun _=>[.own 0 0],objs:=fun n=>[.cells 3 [iA n]],pre:=fun n=>0≤n∧n≤1000000000,res:=fun n=>iP n,objs':=fun n=>[.cells 3 [iA (n+1)]],fresh:=true,ro:=0 }:=by
 refine vF Tryz.func152 ?_
 rintro (n:Int) hpre
 obtain ⟨h0,h1⟩:=hpre
 have h0:0≤n:=h0
 have h1:n≤1000000000:=h1
 have w1:IntKind.i64.wrap (n+1)=n+1:=dF (by omega) (by omega)
 refine ai (ai (fun _=>?_) ?_) ?_
 ·exact trivial
 ·skip
  show IntKind.i64.wrap (IntKind.i64.wrap (n+1)-1)=n
  rw[w1,dF (by omega) (by omega)];omega
 ·exact (ai rfl (ai nof (iE (by omega))))
def isW (l:List Int):LV:=.rw 3 1 l.length (fun k=>[iP (l.getD k 0)])
def isRow (l:List Int):Ob:=.row 3 1 l.length (fun k=>[iP (l.getD k 0)])
def aqw (c:aB) (mem tim pas:LV):List LV:=[.s (iA (aJ c)),.s jd,.s (iA c.act),.s (.p false (xV c.ins)),.s (.p false (abb c.sts)),.s (.p false (adz c.trs)),mem,tim,pas]
end Go.Sx.Pe
