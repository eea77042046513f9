/- Contracts of chapter 7: numbers sorted, lists compared. -/
import Derived.Test.YtmjfhoidokajpaaGreatM4
import Derived.Test.YtmjfhoidokajpaaGreatSxF
set_option maxHeartbeats 1000000
set_option maxRecDepth 4000
set_option linter.unusedSimpArgs false
set_option linter.unusedVariables false
set_option linter.unusedSectionVars false
namespace Go.Sx.Pn
open Go Go.Proofs

/- numbers in order -/
def insN (a : Nat) : List Nat → List Nat
  | [] => [a]
  | b :: l => if a ≤ b then a :: b :: l else b :: insN a l
def sortN : List Nat → List Nat
  | [] => []
  | a :: l => insN a (sortN l)
theorem insN_perm (a : Nat) : ∀ l, (insN a l).Perm (a :: l)
  | [] => .refl _
  | b :: l => by
    rw [insN]
    split
    · exact .refl _
    · exact ((insN_perm a l).cons b).trans (.swap a b l)
theorem sortN_perm : ∀ l, (sortN l).Perm l
  | [] => .refl _
  | a :: l => (insN_perm a _).trans ((sortN_perm l).cons a)
theorem insN_sorted (a : Nat) : ∀ l, l.Pairwise (· ≤ ·) → (insN a l).Pairwise (· ≤ ·)
  | [], _ => by simp [insN]
  | b :: l, h => by
    obtain ⟨h1, h2⟩ := List.pairwise_cons.1 h
    rw [insN]
    split
    · rename_i hab
      refine List.pairwise_cons.2 ⟨fun c hc => ?_, h⟩
      rcases List.mem_cons.1 hc with rfl | hc
      · exact hab
      · exact Nat.le_trans hab (h1 c hc)
    · rename_i hab
      refine List.pairwise_cons.2 ⟨fun c hc => ?_, insN_sorted a l h2⟩
      rcases List.mem_cons.1 ((insN_perm a l).mem_iff.1 hc) with rfl | hc
      · omega
      · exact h1 c hc
theorem sortN_sorted : ∀ l, (sortN l).Pairwise (· ≤ ·)
  | [] => .nil
  | a :: l => insN_sorted a _ (sortN_sorted l)
theorem sortN_len (l : List Nat) : (sortN l).length = l.length := (sortN_perm l).length_eq
theorem sortN_eq {l m : List Nat} (h : m.Pairwise (· ≤ ·)) (hp : m.Perm l) : sortN l = m :=
  List.Perm.eq_of_pairwise (le := (· ≤ ·)) (fun a b _ _ h1 h2 => Nat.le_antisymm h1 h2) (sortN_sorted l) h ((sortN_perm l).trans hp.symm)
def srtI (l : List Int) : List Int := l.mergeSort fun x y => decide (x ≤ y)
theorem srtI_nat (l : List Nat) : srtI (l.map fun n : Nat => (n : Int)) = (sortN l).map fun n : Nat => (n : Int) := by
  refine List.Perm.eq_of_pairwise (le := fun a b : Int => a ≤ b) (fun a b _ _ h1 h2 => Int.le_antisymm h1 h2) ?_ ?_ ?_
  · have := List.pairwise_mergeSort (le := fun x y : Int => decide (x ≤ y)) (fun a b c h1 h2 => by simp at *; omega) (fun a b => by simp; omega) (l.map fun n : Nat => (n : Int))
    exact this.imp fun h => by simpa using h
  · rw [List.pairwise_map]
    exact (sortN_sorted l).imp fun h => by omega
  · exact (List.mergeSort_perm _ _).trans ((sortN_perm l).symm.map _)

def rowB (l : List Nat) : Ob := .row 3 1 l.length (fun k => [iP (l.getD k 0 : Nat)])
theorem cell_nat (l : List Nat) : (fun k => [PV.val (Value.int .i64 ((l.map fun n : Nat => (n : Int)).getD k default))]) = fun k => [iP (l.getD k 0 : Nat)] := by
  funext k
  have : (l.map fun n : Nat => (n : Int)).getD k default = ((l.getD k 0 : Nat) : Int) := by
    simp only [List.getD_eq_getElem?_getD, List.getElem?_map]
    cases l[k]? <;> rfl
  rw [this]; rfl
theorem sortI_ok : FnOk Tryz.prog 114 { A := List Int, args := fun _ => [.row 0], objs := fun l => [.row 3 1 l.length (fun k => [.val (Value.int .i64 (l.getD k default))])], pre := fun l => l.length ≤ 1000000000, res := fun _ => .tup [], objs' := fun l => [.row 3 1 (srtI l).length (fun k => [.val (Value.int .i64 ((srtI l).getD k default))])], fresh := true, ro := 0 } :=
  fnOk_sortrow (enc := Value.int .i64) Tryz.func114 rfl rfl (fun _ => rfl) (fun _ => rfl) (srt := srtI) (fun l => List.length_mergeSort l) (fun p cap w => Tryz.slices_Sort_int_none p cap w) (fun blk off cap zs w h1 h2 h3 => Tryz.slices_Sort_int blk off cap zs w h1 h2 h3)
def sortNS : Spec := { A := List Nat, args := fun _ => [.row 0], objs := fun l => [rowB l], pre := fun l => l.length ≤ 1000000000, res := fun _ => .tup [], objs' := fun l => [rowB (sortN l)], fresh := true, ro := 0 }
theorem sortN_ok : FnOk Tryz.prog 114 sortNS :=
  fnOk_via sortI_ok (fun l : List Nat => l.map fun n : Nat => (n : Int)) (fun _ _ => rfl) (fun l _ => by simp only [rowB]; rw [cell_nat, List.length_map]) (fun l _ => by simp only [rowB]; rw [srtI_nat, cell_nat, List.length_map]) (fun _ _ => rfl) (fun l h => by show (l.map _).length ≤ 1000000000; rw [List.length_map]; exact h)

def natsIt : SeqSpec := { A := List Nat, capt := fun l => [.pt [nsP l] 0], pre := fun l => l.length ≤ 1000000, xs := fun l => l.map fun k => [iV k] }
theorem valsIt_ok : SeqOk Tryz.prog 115 natsIt := by
  refine seqOk (Tb := tab) mixed tab_ok Tryz.func115 rfl rfl ?_
  rintro (l : List Nat) hpre
  refine ai (ai rfl ?_) ?_
  · intro x hx v hv
    obtain ⟨c, _, rfl⟩ := List.mem_map.1 hx
    simp only [List.mem_singleton] at hv
    subst hv; rfl
  have hl : l.length ≤ 1000000 := hpre
  intro y
  refine ei (LAnn.inv { X := Nat, up := fun k => [(7, .s (iA k))], uo := fun _ => [], inv := fun k => k ≤ l.length, meas := fun k => l.length - k, x0 := 0, cnt := fun k => some k }) ?_
  refine ai (ai (ai (by (repeat' (first | exact rfl | exact trivial | exact (fun _ => rfl) | exact (fun _ _ => rfl) | exact nof | refine ai ?_ ?_))) (by (repeat' (first | exact rfl | exact trivial | exact (fun _ => rfl) | exact (fun _ _ => rfl) | exact nof | refine ai ?_ ?_)))) rfl) (ai ?_ ?_)
  · exact Nat.zero_le _
  intro (k : Nat) (hk : k ≤ l.length)
  refine bcase_p (p := k < l.length) (by first | (with_reducible refine bif_lt ?_; omega) | (with_reducible refine bif_le ?_; omega) | (with_reducible refine bif_eq ?_; omega) | (with_reducible refine bif_ne ?_; omega) | exact b8_eq rfl | exact b8_ne rfl | exact bif_lt (by omega) | exact bif_le (by omega) | exact bif_eq (by omega) | exact bif_ne (by omega) | exact Iff.rfl | (simp only [zz, reduceCtorEq] <;> first | done | omega | exact Iff.rfl) | (simp; done) | (simp; omega)) (fun h1 => ?_) (fun h1 => ?_)
  · refine ai (ai (Int.natCast_nonneg _) (by show (k : Int) < (l.length : Int); omega)) ?_
    refine ai rfl ?_
    refine ai rfl (ei [iV (l.getD k 0)] (ai ?_ (ai ?_ (ai ?_ ?_))))
    · show (l.map fun k => [iV k])[k]? = _
      rw [List.getElem?_map, List.getElem?_eq_getElem h1, List.getD_eq_getElem?_getD, List.getElem?_eq_getElem h1]; rfl
    · skip
      (repeat' (first | exact rfl | exact trivial | exact (fun _ => rfl) | exact (fun _ _ => rfl) | exact nof | refine ai ?_ ?_))
    · skip
      refine ei (k + 1) (ai (ai rfl rfl) (ai (ai ?_ ?_) (ai ?_ ?_)))
      · skip
        (repeat' (first | exact rfl | exact trivial | exact (fun _ => rfl) | exact (fun _ _ => rfl) | exact nof | refine ai ?_ ?_))
        exact wr1 (by omega)
      · rfl
      · show k + 1 ≤ l.length; omega
      · show l.length - (k + 1) < l.length - k; omega
    · exact ai trivial trivial
  · obtain rfl : k = l.length := by omega
    refine ai trivial ?_
    show l.length = (l.map fun k => [iV k]).length
    simp
def valuesS : Spec := fnSF (fun l : List Nat => [nsA l]) (fun _ => True) (fun l => .fn 115 [.pt [nsP l] 0])
theorem values_ok : FnOk Tryz.prog 106 valuesS := by
  refine fnOk (Tb := tab) mixed tab_ok Tryz.func106 rfl rfl ?_
  rintro (l : List Nat) hpre
  refine ai (ai rfl (ai rfl rfl)) ?_
  refine ai (ai nof ?_) trivial
  (repeat' (first | exact rfl | exact trivial | exact (fun _ => rfl) | exact (fun _ _ => rfl) | exact nof | refine ai ?_ ?_))
theorem takeL_snoc {l : List Nat} {k : Nat} (hk : k < l.length) : l.take (k + 1) = l.take k ++ [l.getD k 0] := by
  rw [List.take_add_one, List.getElem?_eq_getElem hk, List.getD_eq_getElem?_getD, List.getElem?_eq_getElem hk]; rfl
/-- numbers as values -/
def natV (l : List Nat) : List Value := l.map iV
theorem natV_len (l : List Nat) : (natV l).length = l.length := by unfold natV; simp
theorem natV_cell {l : List Nat} {k : Nat} (hk : k < l.length) : valCell (natV l) k = [iP (l.getD k 0 : Nat)] := by
  unfold valCell natV
  rw [List.getD_eq_getElem?_getD, List.getElem?_map, List.getElem?_eq_getElem hk, List.getD_eq_getElem?_getD, List.getElem?_eq_getElem hk]; rfl
def valsA (l : List Nat) : SV := .p false (.fn 115 [.pt [nsP l] 0])
def appSeqS : RowSpec := { A := List Nat, args := fun l => [.p false (.val (.slice none 0 0)), valsA l], pre := fun l => l.length ≤ 1000000, T := 3, vals := natV }
theorem appSeq_ok : RowRet Tryz.prog 122 appSeqS := by
  refine rowRet (Tb := tab) mixed tab_ok Tryz.func122 rfl rfl ?_
  intro (l : List Nat) hpre
  have hl : l.length ≤ 1000000 := hpre
  refine ai rfl ?_
  refine ai (ai rfl rfl) (ei natsIt (ai valsIt_ok (ei l (ai ?_ (ai hl (ai ?_ (ei { X := Nat, uo := fun k => [⟨0, 36, [rowN (l.take k)]⟩], inv := fun k y => y = k, x0 := 0 } (ai ?_ (ai ?_ (ai rfl (ai ?_ ?_)))))))))))
  · skip
    (repeat' (first | exact rfl | exact trivial | exact (fun _ => rfl) | exact (fun _ _ => rfl) | exact nof | refine ai ?_ ?_))
  · intro v hv
    obtain ⟨c, _, rfl⟩ := List.mem_map.1 hv
    rfl
  · skip
    (repeat' (first | exact rfl | exact trivial | exact (fun _ => rfl) | exact (fun _ _ => rfl) | exact nof | refine ai ?_ ?_))
  · skip
    (repeat' (first | exact rfl | exact trivial | exact (fun _ => rfl) | exact (fun _ _ => rfl) | exact nof | refine ai ?_ ?_))
  · intro (k : Nat) (y : Nat) vs (hy : y = k) hvs
    subst hy
    have hvs : (l.map fun k => [iV k])[y]? = some vs := hvs
    rw [List.getElem?_map] at hvs
    cases hc : l[y]? with
    | none => rw [hc] at hvs; cases hvs
    | some c =>
      rw [hc] at hvs
      simp only [Option.map_some, Option.some.injEq] at hvs
      subst hvs
      have hy : y < l.length := (List.getElem?_eq_some_iff.1 hc).1
      have hg : l.getD y 0 = c := by rw [List.getD_eq_getElem?_getD, hc]; rfl
      have hs := takeL_snoc hy
      rw [hg] at hs
      have hlen : (l.take y).length ≤ y := List.length_take_le _ _
      refine ai (ai (by show (l.take y).length + 1 ≤ maxLen; unfold maxLen; omega) (by show ((l.take y).length + 1) * 8 ≤ 140737488355328; omega)) ?_
      refine ai (fun k hk => by
        have hk : k < 1 := hk
        obtain rfl : k = 0 := by omega
        rfl) ?_
      refine ei (y + 1) (ai rfl (ai ?_ rfl))
      (repeat' (first | exact rfl | exact trivial | exact (fun _ => rfl) | exact (fun _ _ => rfl) | exact nof | refine ai ?_ ?_))
      · exact app_len hs
      · exact join_app (fun i : Nat => [iP (i : Int)]) 0 hs _ rfl
  · intro y (hy : y = (l.map fun k => [iV k]).length)
    have hy : y = l.length := by rw [hy, List.length_map]
    subst hy
    refine ai rfl (ai rfl (ai (by show (l.take l.length).length = _; rw [List.take_length]; exact (natV_len l).symm) fun k hk => ?_))
    have hk : k < (l.take l.length).length := hk
    rw [List.take_length] at hk
    show [iP ((l.take l.length).getD k 0 : Nat)] = valCell (natV l) k
    rw [List.take_length]; exact (natV_cell hk).symm
def sortedS : Spec := fnSF (fun l : List Nat => [valsA l]) (fun l => l.length ≤ 1000000) (fun l => nsP (sortN l))
theorem sorted_ok : FnOk Tryz.prog 105 sortedS := by
  refine fnOk_inl [113, 122] ?_
  refine fnOk (Tb := tab) mixed tab_ok Tryz.func105 rfl rfl ?_
  rintro (l : List Nat) hpre
  refine ai (ai rfl (ai rfl rfl)) ?_
  have hl : l.length ≤ 1000000 := hpre
  refine fnInl mixed tab_ok Tryz.func113 rfl rfl ?_
  refine ai rfl ?_
  refine rowInl appSeq_ok l hl (fun v hv => by obtain ⟨c, _, rfl⟩ := List.mem_map.1 hv; rfl) ?_ rfl ?_
  · skip
    (repeat' (first | exact rfl | exact trivial | exact (fun _ => rfl) | exact (fun _ _ => rfl) | exact nof | refine ai ?_ ?_))
  refine ei _ (ai sortN_ok (ei (l) (ei [0] (ai (ai rfl (ai rfl (ai rfl (ai rfl (ai (by first | exact (fun _ => Or.inl rfl) | exact nof | exact (fun _ => Or.inr (by (repeat' (first | exact rfl | exact trivial | exact (fun _ => rfl) | exact (fun _ _ => rfl) | exact nof | refine ai ?_ ?_))))) (ai (by first | exact nof | exact (fun _ => ai rfl rfl)) (by first | exact Or.inl rfl | exact Or.inr rfl))))))) (ai (by (repeat' (first | with_reducible rfl | exact trivial | refine ai ?_ ?_ | (show (_ : Int) = _; first | with_reducible rfl | exact wr1 (by omega) | (simp only [zz, reduceCtorEq] <;> first | done | rfl | omega) | omega | rfl) | exact rfl | exact (fun _ => rfl) | exact (fun _ _ => rfl) | exact nof))) (ai ?_ (ai ((by show l.length ≤ 1000000000; omega)) ?_)))))))
  · skip
    (repeat' (first | exact rfl | exact trivial | exact (fun _ => rfl) | exact (fun _ _ => rfl) | exact nof | refine ai ?_ ?_))
    · exact natV_len l
    · exact fun k hk => natV_cell hk
  refine ai (ai nof ?_) trivial
  (repeat' (first | exact rfl | exact trivial | exact (fun _ => rfl) | exact (fun _ _ => rfl) | exact nof | refine ai ?_ ?_))

/- lists compared -/
def cmpN : List Nat → List Nat → Int
  | [], [] => 0
  | [], _ :: _ => -1
  | _ :: _, [] => 1
  | a :: s, b :: t => if cmpI a b = 0 then cmpN s t else cmpI a b
def cmpNS : Spec := fnS (fun x : List Nat × List Nat => [nsA x.1, nsA x.2]) (fun x => x.1.length ≤ 1000000 ∧ x.2.length ≤ 1000000) (fun x => iP (cmpN x.1 x.2))
theorem cmpN_ok : FnOk Tryz.prog 103 cmpNS := by
  refine fnOk (Tb := tab) mixed tab_ok Tryz.func103 rfl rfl ?_
  rintro ⟨l, m⟩ hpre
  refine ai (ai rfl (ai rfl rfl)) ?_
  obtain ⟨hl, hm⟩ : l.length ≤ 1000000 ∧ m.length ≤ 1000000 := hpre
  refine ei (LAnn.inv { X := Nat, up := fun k => [(11, .s (iA k))], uo := fun k => [], inv := fun k => k ≤ l.length ∧ (k ≤ m.length ∧ cmpN (l.drop k) (m.drop k) = cmpN l m), meas := fun k => l.length - k, x0 := 0 }) ?_
  refine ai (ai (ai (by (repeat' (first | exact rfl | exact trivial | exact (fun _ => rfl) | exact (fun _ _ => rfl) | exact nof | refine ai ?_ ?_))) (ai (by (repeat' (first | with_reducible rfl | exact trivial | refine ai ?_ ?_ | (show (_ : Int) = _; first | with_reducible rfl | exact wr1 (by omega) | (simp only [zz, reduceCtorEq] <;> first | done | rfl | omega) | omega | rfl) | exact rfl | exact (fun _ => rfl) | exact (fun _ _ => rfl) | exact nof))) (by (repeat' (first | with_reducible rfl | exact trivial | refine ai ?_ ?_ | (show (_ : Int) = _; first | with_reducible rfl | exact wr1 (by omega) | (simp only [zz, reduceCtorEq] <;> first | done | rfl | omega) | omega | rfl) | exact rfl | exact (fun _ => rfl) | exact (fun _ _ => rfl) | exact nof))))) rfl) (ai (ai (Nat.zero_le _) ?_) ?_)
  · exact ⟨Nat.zero_le _, rfl⟩
  intro (k : Nat) ⟨hk, hkm, hc⟩
  refine bcase_p (p := k < l.length) (by first | (with_reducible refine bif_lt ?_; omega) | (with_reducible refine bif_le ?_; omega) | (with_reducible refine bif_eq ?_; omega) | (with_reducible refine bif_ne ?_; omega) | exact b8_eq rfl | exact b8_ne rfl | exact bif_lt (by omega) | exact bif_le (by omega) | exact bif_eq (by omega) | exact bif_ne (by omega) | exact Iff.rfl | (simp only [zz, reduceCtorEq] <;> first | done | omega | exact Iff.rfl) | (simp; done) | (simp; omega)) (fun h1 => ?_) (fun h1 => ?_)
  · refine ai (ai (Int.natCast_nonneg _) (by show (k : Int) < (l.length : Int); omega)) ?_
    refine ai rfl ?_
    refine bcase_p (p := m.length ≤ k) (by first | (with_reducible refine bif_lt ?_; omega) | (with_reducible refine bif_le ?_; omega) | (with_reducible refine bif_eq ?_; omega) | (with_reducible refine bif_ne ?_; omega) | exact b8_eq rfl | exact b8_ne rfl | exact bif_lt (by omega) | exact bif_le (by omega) | exact bif_eq (by omega) | exact bif_ne (by omega) | exact Iff.rfl | (simp only [zz, reduceCtorEq] <;> first | done | omega | exact Iff.rfl) | (simp; done) | (simp; omega)) (fun h2 => ?_) (fun h2 => ?_)
    · skip
      refine ai (ai (fun _ => (by (repeat' (first | exact rfl | exact trivial | exact (fun _ => rfl) | exact (fun _ _ => rfl) | exact nof | refine ai ?_ ?_)))) ?_) trivial
      show ple _ (iP (cmpN l m))
      rw [← hc, drop_getD h1, List.drop_eq_nil_of_le h2, cmpN]
      any_goals (repeat' (first | with_reducible rfl | exact trivial | refine ai ?_ ?_ | (show (_ : Int) = _; first | with_reducible rfl | exact wr1 (by omega) | (simp only [zz, reduceCtorEq] <;> first | done | rfl | omega) | omega | rfl) | exact rfl | exact (fun _ => rfl) | exact (fun _ _ => rfl) | exact nof))
    have h2 : k < m.length := by omega
    rw [drop_getD h1, drop_getD h2, cmpN] at hc
    refine ai (ai (Int.natCast_nonneg _) (by show (k : Int) < (m.length : Int); omega)) ?_
    refine ai rfl ?_
    refine ei _ (ai cmpI_ok (ei ((((l.getD k 0 : Nat) : Int), ((m.getD k 0 : Nat) : Int))) (ei [] (ai (ai rfl (ai rfl (ai rfl (ai rfl (ai (fun _ => Or.inl rfl) (ai (by first | exact nof | exact (fun _ => ai rfl rfl)) (by first | exact Or.inl rfl | exact Or.inr rfl))))))) (ai (by (repeat' (first | with_reducible rfl | exact trivial | refine ai ?_ ?_ | (show (_ : Int) = _; first | with_reducible rfl | exact wr1 (by omega) | (simp only [zz, reduceCtorEq] <;> first | done | rfl | omega) | omega | rfl) | exact rfl | exact (fun _ => rfl) | exact (fun _ _ => rfl) | exact nof))) (ai trivial (ai (trivial) ?_)))))))
    refine bcase_n (p := cmpI ((l.getD k 0 : Nat) : Int) ((m.getD k 0 : Nat) : Int) = 0) (by first | (with_reducible refine bif_lt ?_; omega) | (with_reducible refine bif_le ?_; omega) | (with_reducible refine bif_eq ?_; omega) | (with_reducible refine bif_ne ?_; omega) | exact b8_eq rfl | exact b8_ne rfl | exact bif_lt (by omega) | exact bif_le (by omega) | exact bif_eq (by omega) | exact bif_ne (by omega) | exact Iff.rfl | (simp only [zz, reduceCtorEq] <;> first | done | omega | exact Iff.rfl) | (simp; done) | (simp; omega)) (fun h3 => ?_) (fun h3 => ?_)
    · skip
      refine ai (ai (fun _ => (by (repeat' (first | exact rfl | exact trivial | exact (fun _ => rfl) | exact (fun _ _ => rfl) | exact nof | refine ai ?_ ?_)))) ?_) trivial
      show ple _ (iP (cmpN l m))
      rw [← hc, if_neg h3]
      any_goals (repeat' (first | with_reducible rfl | exact trivial | refine ai ?_ ?_ | (show (_ : Int) = _; first | with_reducible rfl | exact wr1 (by omega) | (simp only [zz, reduceCtorEq] <;> first | done | rfl | omega) | omega | rfl) | exact rfl | exact (fun _ => rfl) | exact (fun _ _ => rfl) | exact nof))
    · rw [if_pos h3] at hc
      refine ei (k + 1) (ai (ai rfl rfl) (ai (ai ?_ rfl) (ai (ai (by show k + 1 ≤ l.length; omega) ?_) (by show l.length - (k + 1) < l.length - k; omega))))
      any_goals (repeat' (first | with_reducible rfl | exact trivial | refine ai ?_ ?_ | (show (_ : Int) = _; first | with_reducible rfl | exact wr1 (by omega) | (simp only [zz, reduceCtorEq] <;> first | done | rfl | omega) | omega | rfl) | exact rfl | exact (fun _ => rfl) | exact (fun _ _ => rfl) | exact nof))
      all_goals first | exact h2 | exact hc
  · obtain rfl : k = l.length := by omega
    rw [List.drop_length] at hc
    refine bcase_p (p := l.length < m.length) (by first | (with_reducible refine bif_lt ?_; omega) | (with_reducible refine bif_le ?_; omega) | (with_reducible refine bif_eq ?_; omega) | (with_reducible refine bif_ne ?_; omega) | exact b8_eq rfl | exact b8_ne rfl | exact bif_lt (by omega) | exact bif_le (by omega) | exact bif_eq (by omega) | exact bif_ne (by omega) | exact Iff.rfl | (simp only [zz, reduceCtorEq] <;> first | done | omega | exact Iff.rfl) | (simp; done) | (simp; omega)) (fun h2 => ?_) (fun h2 => ?_)
    · rw [drop_getD h2, cmpN] at hc
      refine ai (ai (fun _ => (by (repeat' (first | exact rfl | exact trivial | exact (fun _ => rfl) | exact (fun _ _ => rfl) | exact nof | refine ai ?_ ?_)))) ?_) trivial
      show ple _ (iP (cmpN l m))
      rw [← hc]
      any_goals (repeat' (first | with_reducible rfl | exact trivial | refine ai ?_ ?_ | (show (_ : Int) = _; first | with_reducible rfl | exact wr1 (by omega) | (simp only [zz, reduceCtorEq] <;> first | done | rfl | omega) | omega | rfl) | exact rfl | exact (fun _ => rfl) | exact (fun _ _ => rfl) | exact nof))
    · have : m.length = l.length := by omega
      rw [← this, List.drop_length, cmpN] at hc
      refine ai (ai (fun _ => (by (repeat' (first | exact rfl | exact trivial | exact (fun _ => rfl) | exact (fun _ _ => rfl) | exact nof | refine ai ?_ ?_)))) ?_) trivial
      show ple _ (iP (cmpN l m))
      rw [← hc]
      any_goals (repeat' (first | with_reducible rfl | exact trivial | refine ai ?_ ?_ | (show (_ : Int) = _; first | with_reducible rfl | exact wr1 (by omega) | (simp only [zz, reduceCtorEq] <;> first | done | rfl | omega) | omega | rfl) | exact rfl | exact (fun _ => rfl) | exact (fun _ _ => rfl) | exact nof))

end Go.Sx.Pn
