/- Contracts for TruthReturns: Points, Text and Parse of package truth; orders of variables and their inverses. -/
import Derived.Test.YtmncplgccielbaaDoorQ4
set_option maxHeartbeats 1000000
set_option maxRecDepth 4000
set_option linter.unusedSimpArgs false
set_option linter.unusedVariables false
set_option linter.unusedSectionVars false
namespace Go.Sx.Pn
open Go Go.Proofs

/- orders -/
theorem nodup_len {α : Type} [DecidableEq α] : ∀ (a b : List α), a.Nodup → (∀ x, x ∈ a → x ∈ b) → a.length ≤ b.length
  | [], _, _, _ => Nat.zero_le _
  | x :: a, b, h, hs => by
    obtain ⟨h1, h2⟩ := List.nodup_cons.1 h
    have hx := hs x (List.mem_cons_self ..)
    have := nodup_len a (b.erase x) h2 fun y hy => (List.mem_erase_of_ne (fun e => h1 (by rw [← e]; exact hy))).2 (hs y (List.mem_cons_of_mem _ hy))
    rw [List.length_erase_of_mem hx] at this
    have hb : 0 < b.length := List.length_pos_of_mem hx
    rw [List.length_cons]; omega
def isL (p : Nat → Nat) (n : Nat) : List Int := (List.range n).map fun i => (p i : Int)
theorem isL_len (p : Nat → Nat) (n : Nat) : (isL p n).length = n := by simp [isL]
theorem isL_get {p : Nat → Nat} {n k : Nat} (hk : k < n) : (isL p n).getD k 0 = (p k : Int) := by simp [isL, List.getD_eq_getElem?_getD, hk]
/-- an order of n variables -/
def Ordn (n : Nat) (p : Nat → Nat) : Prop := (∀ i, i < n → p i < n) ∧ ∀ i j, i < n → j < n → p i = p j → i = j
def swp (p : Nat → Nat) (a b : Nat) (i : Nat) : Nat := if i = b then p a else if i = a then p b else p i
theorem swp_ok {n a b : Nat} {p : Nat → Nat} (h : Ordn n p) (ha : a < n) (hb : b < n) : Ordn n (swp p a b) := by
  refine ⟨fun i hi => ?_, fun i j hi hj e => ?_⟩
  · unfold swp
    have h1 := h.1 a ha; have h2 := h.1 b hb; have h3 := h.1 i hi
    split
    · exact h1
    · split
      · exact h2
      · exact h3
  · have h1 := h.2 i j hi hj; have h2 := h.2 i a hi ha; have h3 := h.2 i b hi hb
    have h4 := h.2 a j ha hj; have h5 := h.2 b j hb hj; have h6 := h.2 a b ha hb
    have h7 := h.2 b a hb ha
    unfold swp at e
    split at e <;> split at e <;> (try split at e) <;> (try split at e) <;> omega
theorem ord_id (n : Nat) : Ordn n (fun i => i) := ⟨fun _ h => h, fun _ _ _ _ e => e⟩
theorem ord_nodup {n : Nat} {p : Nat → Nat} (h : Ordn n p) : ((List.range n).map p).Nodup := by
  unfold List.Nodup
  rw [List.pairwise_map]
  refine List.Pairwise.imp_of_mem (fun {i j} hi hj hij => ?_) List.pairwise_lt_range
  intro e
  have := h.2 i j (List.mem_range.1 hi) (List.mem_range.1 hj) e
  omega
theorem ord_sur {n : Nat} {p : Nat → Nat} (h : Ordn n p) {j : Nat} (hj : j < n) : ∃ i, i < n ∧ p i = j := by
  refine Classical.byContradiction fun hno => ?_
  have hn : (j :: (List.range n).map p).Nodup := List.nodup_cons.2 ⟨fun hm => by
    obtain ⟨i, hi, e⟩ := List.mem_map.1 hm
    exact hno ⟨i, List.mem_range.1 hi, e⟩, ord_nodup h⟩
  have := nodup_len _ (List.range n) hn fun x hx => by
    rcases List.mem_cons.1 hx with rfl | hx
    · exact List.mem_range.2 hj
    · obtain ⟨i, hi, rfl⟩ := List.mem_map.1 hx
      exact List.mem_range.2 (h.1 i (List.mem_range.1 hi))
  simp at this
  omega
/-- the order the other way round, as far as it is written -/
def bck (p : Nat → Nat) : Nat → Nat → Nat
  | 0 => fun _ => 0
  | k + 1 => fun j => if j = p k then k else bck p k j
theorem bck_at {n : Nat} {p : Nat → Nat} (h : Ordn n p) : ∀ k, k ≤ n → ∀ i, i < k → bck p k (p i) = i
  | 0, _, i, hi => by omega
  | k + 1, hk, i, hi => by
    show (if p i = p k then k else bck p k (p i)) = i
    by_cases e : p i = p k
    · rw [if_pos e]; exact (h.2 i k (by omega) (by omega) e).symm
    · rw [if_neg e]
      refine bck_at h k (by omega) i ?_
      have : i ≠ k := fun x => e (by rw [x])
      omega
theorem bck_fore {n : Nat} {p : Nat → Nat} (h : Ordn n p) {j : Nat} (hj : j < n) : p (bck p n j) = j := by
  obtain ⟨i, hi, rfl⟩ := ord_sur h hj
  rw [bck_at h n (Nat.le_refl _) i hi]
theorem bck_ok {n : Nat} {p : Nat → Nat} (h : Ordn n p) : Ordn n (bck p n) := by
  refine ⟨fun j hj => ?_, fun j k hj hk e => ?_⟩
  · obtain ⟨i, hi, rfl⟩ := ord_sur h hj
    rw [bck_at h n (Nat.le_refl _) i hi]; exact hi
  · rw [← bck_fore h hj, e, bck_fore h hk]
theorem renE_zero {n : Nat} {p : Nat → Nat} (h : Ordn n p) : ∀ k, k ≤ n → renE n (isL p n) k = 0
  | 0, _ => rfl
  | k + 1, hk => by
    rw [renE, if_pos (renE_zero h k (by omega)), isL_get (show k < n by omega)]
    have h1 := h.1 k (by omega)
    rw [if_neg (by omega), if_neg]
    intro hm
    rw [isL, ← List.map_take, List.take_range, Nat.min_eq_left (by omega)] at hm
    obtain ⟨i, hi, e⟩ := List.mem_map.1 hm
    have hi := List.mem_range.1 hi
    have := h.2 i k (by omega) (by omega) (by exact Int.ofNat.inj e)
    omega
theorem renY_bit (x : Nat) (l : List Int) : ∀ m k, (renY l x m).testBit k = (decide (k < m) && x.testBit (l.getD k 0).toNat)
  | 0, k => by simp [renY]
  | m + 1, k => by
    rw [renY, Nat.testBit_or, renY_bit x l m k]
    by_cases e : k = m
    · subst e
      cases hb : x.testBit (l.getD k 0).toNat <;> simp [Nat.testBit_two_pow_self]
    · have h1 : decide (k < m + 1) = decide (k < m) := by simp; omega
      have h2 : (if x.testBit (l.getD m 0).toNat then 2 ^ m else 0).testBit k = false := by
        split
        · rw [Nat.testBit_two_pow]; simp; omega
        · simp
      rw [h1, h2, Bool.or_false]
theorem renY_two {n : Nat} {p q : Nat → Nat} (hp : ∀ i, i < n → p i < n) (hq : ∀ i, i < n → q (p i) = i) {x : Nat} (hx : x < 2 ^ n) : renY (isL p n) (renY (isL q n) x n) n = x := by
  apply Nat.eq_of_testBit_eq
  intro k
  rw [renY_bit]
  by_cases hk : k < n
  · rw [isL_get hk, renY_bit, Int.toNat_natCast, isL_get (hp k hk), hq k hk, Int.toNat_natCast]
    simp [hk, hp k hk]
  · rw [Nat.testBit_lt_two_pow (Nat.lt_of_lt_of_le hx (Nat.pow_le_pow_right (by decide) (by omega)))]
    simp [hk]
theorem bitsU_bit (q : Nat → Bool) : ∀ (m : Nat), m ≤ 64 → ∀ i, (bitsU q m).getLsbD i = (decide (i < m) && q i)
  | 0, _, i => by simp [bitsU]
  | m + 1, hm, i => by
    have ih := bitsU_bit q m (by omega) i
    have hs : (1#64 <<< m : U).getLsbD i = decide (i = m) := by
      rw [BitVec.getLsbD_shiftLeft, BitVec.getLsbD_one]
      by_cases h : i = m
      · subst h; simp; omega
      · simp [h]; omega
    rw [bitsU]
    split
    · rename_i hq
      rw [BitVec.getLsbD_or, ih, hs]
      by_cases h : i = m
      · subst h; simp [hq]
      · have : decide (i < m + 1) = decide (i < m) := by simp; omega
        simp [h, this]
    · rename_i hq
      rw [ih]
      by_cases h : i = m
      · subst h; simp [hq]
      · have : decide (i < m + 1) = decide (i < m) := by simp; omega
        rw [this]
/-- a table renamed -/
def renU (p : Nat → Nat) (n : Nat) (b : U) : U := bitsU (renQ (isL p n) n b) (2 ^ n)
theorem renU_bit {n : Nat} (hn : n ≤ 6) (p : Nat → Nat) (b : U) (i : Nat) : (renU p n b).getLsbD i = (decide (i < 2 ^ n) && b.getLsbD (renY (isL p n) i n)) := by
  rw [renU, bitsU_bit _ _ (pow_le64 hn), renQ, isL_len]
theorem renU_ok {n : Nat} (hn : n ≤ 6) (p : Nat → Nat) (b : U) : chkT ⟨n, renU p n b⟩ = 0 :=
  chkT_of hn fun k h1 h2 => by
    rw [renU_bit hn]; simp; omega
theorem renU_back {n : Nat} (hn : n ≤ 6) {p : Nat → Nat} (h : Ordn n p) {b : U} (hb : ∀ i, 2 ^ n ≤ i → i < 64 → b.getLsbD i = false) : renU (bck p n) n (renU p n b) = b := by
  apply BitVec.eq_of_getLsbD_eq
  intro i hi
  rw [renU_bit hn, renU_bit hn]
  by_cases hk : i < 2 ^ n
  · rw [renY_two h.1 (bck_at h n (Nat.le_refl _)) hk]
    simp [hk, renY_lt (isL (bck p n) n) i n]
  · simp [hk, hb i (by omega) hi]
theorem renC_ord {n : Nat} (hn : n ≤ 6) {p : Nat → Nat} (h : Ordn n p) {b : U} (hb : chkT ⟨n, b⟩ = 0) : renC ⟨n, b⟩ (isL p n) = (⟨n, renU p n b⟩, 0) := by
  rw [renC, if_pos hb, if_pos (by show ((isL p n).length : Int) = n; rw [isL_len]), if_pos (by show renE n (isL p n) (isL p n).length = 0; rw [isL_len]; exact renE_zero h n (Nat.le_refl _))]
  rfl

/- points -/
def ptsB (b : U) (m : Nat) : List Nat := (List.range m).filter b.getLsbD
theorem ptsB_nodup {b : U} {m : Nat} {f g : Nat → Nat} (hg : ∀ i, i < m → g (f i) = i) : ((ptsB b m).map f).Nodup := by
  unfold List.Nodup
  rw [List.pairwise_map]
  refine List.Pairwise.imp_of_mem (fun {i j} hi hj hij => ?_) (List.Pairwise.filter b.getLsbD List.pairwise_lt_range)
  intro e
  have h1 := hg i (List.mem_range.1 (List.mem_filter.1 hi).1)
  have h2 := hg j (List.mem_range.1 (List.mem_filter.1 hj).1)
  rw [e, h2] at h1; omega
theorem pts_len {n : Nat} (hn : n ≤ 6) {p : Nat → Nat} (h : Ordn n p) (b : U) : (ptsB b (2 ^ n)).length = (ptsB (renU p n b) (2 ^ n)).length := by
  have e1 : ∀ i, i < 2 ^ n → renY (isL p n) (renY (isL (bck p n) n) i n) n = i := fun i hi => renY_two h.1 (bck_at h n (Nat.le_refl _)) hi
  have e2 : ∀ i, i < 2 ^ n → renY (isL (bck p n) n) (renY (isL p n) i n) n = i := fun i hi => renY_two (bck_ok h).1 (fun i hi => bck_fore h hi) hi
  refine Nat.le_antisymm ?_ ?_
  · have := nodup_len ((ptsB b (2 ^ n)).map fun i => renY (isL (bck p n) n) i n) (ptsB (renU p n b) (2 ^ n)) (ptsB_nodup (g := fun i => renY (isL p n) i n) e1) fun x hx => by
      obtain ⟨i, hi, rfl⟩ := List.mem_map.1 hx
      obtain ⟨h1, h2⟩ := List.mem_filter.1 hi
      have hl := renY_lt (isL (bck p n) n) i n
      refine List.mem_filter.2 ⟨List.mem_range.2 hl, ?_⟩
      rw [renU_bit hn, e1 i (List.mem_range.1 h1), h2]; simp [hl]
    rwa [List.length_map] at this
  · have := nodup_len ((ptsB (renU p n b) (2 ^ n)).map fun i => renY (isL p n) i n) (ptsB b (2 ^ n)) (ptsB_nodup (g := fun i => renY (isL (bck p n) n) i n) e2) fun x hx => by
      obtain ⟨i, hi, rfl⟩ := List.mem_map.1 hx
      obtain ⟨h1, h2⟩ := List.mem_filter.1 hi
      have hl := renY_lt (isL p n) i n
      refine List.mem_filter.2 ⟨List.mem_range.2 hl, ?_⟩
      rw [renU_bit hn] at h2
      exact (Bool.and_eq_true_iff.1 h2).2
    rwa [List.length_map] at this
def ptsR (t : Tb) : List Nat × Int := if chkT t = 0 then (ptsB t.bits (2 ^ t.n.toNat), 0) else ([], chkT t)
def PointsS : Spec := fnS (fun t : Tb => [tA t]) (fun _ => True) (fun t => .tup [nsP (ptsR t).1, iP (ptsR t).2])
theorem Points_ok : FnOk Tryd.prog 7 PointsS := by
  refine fnOk (Tb := tab) mixed tab_ok Tryd.func7 rfl rfl ?_
  rintro t hpre
  refine ai (ai rfl (ai rfl rfl)) ?_
  refine ei _ (ai tcheck_ok (ei (t) (ei [] (ai (ai rfl (ai rfl (ai rfl (ai rfl (ai (fun _ => Or.inl rfl) (ai (by first | exact nof | exact (fun _ => ai rfl rfl)) (by first | exact Or.inl rfl | exact Or.inr rfl))))))) (ai (by (repeat' (first | with_reducible rfl | exact trivial | refine ai ?_ ?_ | (show (_ : Int) = _; first | with_reducible rfl | exact wr1 (by omega) | (simp only [zz, reduceCtorEq] <;> first | done | rfl | omega) | omega | rfl) | exact rfl | exact (fun _ => rfl) | exact (fun _ _ => rfl) | exact nof))) (ai trivial (ai (trivial) ?_)))))))
  refine bcase_n (p := chkT t = 0) (by first | (with_reducible refine bif_lt ?_; omega) | (with_reducible refine bif_le ?_; omega) | (with_reducible refine bif_eq ?_; omega) | (with_reducible refine bif_ne ?_; omega) | exact b8_eq rfl | exact b8_ne rfl | exact bif_lt (by omega) | exact bif_le (by omega) | exact bif_eq (by omega) | exact bif_ne (by omega) | exact Iff.rfl | (simp only [zz, reduceCtorEq] <;> first | done | omega | exact Iff.rfl) | (simp; done) | (simp; omega)) (fun h1 => ?_) (fun h1 => ?_)
  · skip
    refine ai (ai (fun _ => (by (repeat' (first | exact rfl | exact trivial | exact (fun _ => rfl) | exact (fun _ _ => rfl) | exact nof | refine ai ?_ ?_)))) ?_) trivial
    show ple _ (.tup [nsP (ptsR t).1, iP (ptsR t).2])
    rw [show ptsR t = ([], chkT t) by simp [ptsR, h1]]
    any_goals (repeat' (first | with_reducible rfl | exact trivial | refine ai ?_ ?_ | (show (_ : Int) = _; first | with_reducible rfl | exact wr1 (by omega) | (simp only [zz, reduceCtorEq] <;> first | done | rfl | omega) | omega | rfl) | exact rfl | exact (fun _ => rfl) | exact (fun _ _ => rfl) | exact nof))
  obtain ⟨n, hn, hx, _⟩ := chkT_zero h1
  have h64 := pow_le64 hn
  refine ei _ (ai tpoints_ok (ei (n) (ei [] (ai (ai rfl (ai rfl (ai rfl (ai rfl (ai (fun _ => Or.inl rfl) (ai (by first | exact nof | exact (fun _ => ai rfl rfl)) (by first | exact Or.inl rfl | exact Or.inr rfl))))))) (ai ?_ (ai trivial (ai ?_ ?_)))))))
  · skip
    (repeat' (first | exact rfl | exact trivial | exact (fun _ => rfl) | exact (fun _ _ => rfl) | exact nof | refine ai ?_ ?_))
    exact hx
  · trivial
  refine ai (ai rfl rfl) (ei pointsIt (ai pointsIt_ok (ei n (ai ?_ (ai hn (ai ?_ (ei { X := Nat, uo := fun k => [⟨1, 28, [rowN (ptsB t.bits k)]⟩], inv := fun k y => y = k, x0 := 0 } (ai ?_ (ai ?_ (ai rfl (ai ?_ ?_)))))))))))
  · skip
    (repeat' (first | exact rfl | exact trivial | exact (fun _ => rfl) | exact (fun _ _ => rfl) | exact nof | refine ai ?_ ?_))
  · intro v hv
    obtain ⟨c, _, rfl⟩ := List.mem_map.1 hv
    rfl
  · skip
    (repeat' (first | exact rfl | exact trivial | exact (fun _ => rfl) | exact (fun _ _ => rfl) | exact nof | refine ai ?_ ?_))
  · skip
    (repeat' (first | exact rfl | exact trivial | exact (fun _ => rfl) | exact (fun _ _ => rfl) | exact nof | refine ai ?_ ?_))
  · intro (k : Nat) (y : Nat) vs (hy : y = k) hvs
    subst hy
    have hvs : ((List.range (2 ^ n)).map fun k => [iV k])[y]? = some vs := hvs
    rw [List.getElem?_map] at hvs
    cases hc : (List.range (2 ^ n))[y]? with
    | none => rw [hc] at hvs; cases hvs
    | some c =>
      rw [hc] at hvs
      simp only [Option.map_some, Option.some.injEq] at hvs
      have hy : y < 2 ^ n := by simpa using (List.getElem?_eq_some_iff.1 hc).1
      have hcy : y = c := by simpa [hy] using hc
      subst hcy
      subst hvs
      refine ei _ (ai tat_ok (ei ((t, y)) (ei [] (ai (ai rfl (ai rfl (ai rfl (ai rfl (ai (fun _ => Or.inl rfl) (ai (by first | exact nof | exact (fun _ => ai rfl rfl)) (by first | exact Or.inl rfl | exact Or.inr rfl))))))) (ai (by (repeat' (first | with_reducible rfl | exact trivial | refine ai ?_ ?_ | (show (_ : Int) = _; first | with_reducible rfl | exact wr1 (by omega) | (simp only [zz, reduceCtorEq] <;> first | done | rfl | omega) | omega | rfl) | exact rfl | exact (fun _ => rfl) | exact (fun _ _ => rfl) | exact nof))) (ai trivial (ai (trivial) ?_)))))))
      refine bcase_b (b := t.bits.getLsbD y) (by first | exact rfl | (simp only [zz, reduceCtorEq] <;> first | done | exact rfl)) (fun h2 => ?_) (fun h2 => ?_)
      · have hlen : (ptsB t.bits y).length ≤ y := filt_len _ y
        refine ai (ai (by show (ptsB t.bits y).length + 1 ≤ maxLen; unfold maxLen; omega) (by show ((ptsB t.bits y).length + 1) * 8 ≤ 140737488355328; omega)) ?_
        refine ai (fun k hk => by
          have hk : k < 1 := hk
          obtain rfl : k = 0 := by omega
          rfl) ?_
        refine ei (y + 1) (ai rfl (ai ?_ rfl))
        (repeat' (first | exact rfl | exact trivial | exact (fun _ => rfl) | exact (fun _ _ => rfl) | exact nof | refine ai ?_ ?_))
        · exact app_len (filt_yes h2)
        · exact join_app (fun i : Nat => [iP (i : Int)]) 0 (filt_yes h2) _ rfl
      · refine ei (y + 1) (ai rfl (ai ?_ rfl))
        (repeat' (first | exact rfl | exact trivial | exact (fun _ => rfl) | exact (fun _ _ => rfl) | exact nof | refine ai ?_ ?_))
        · exact congrArg List.length (filt_no h2)
        · exact row_same (fun i : Nat => [iP (i : Int)]) 0 (filt_no h2)
  · intro y (hy : y = ((List.range (2 ^ n)).map fun k => [iV k]).length)
    have hy : y = 2 ^ n := by simpa using hy
    subst hy
    refine ai (ai (fun _ => (by (repeat' (first | exact rfl | exact trivial | exact (fun _ => rfl) | exact (fun _ _ => rfl) | exact nof | refine ai ?_ ?_)))) ?_) trivial
    show ple _ (.tup [nsP (ptsR t).1, iP (ptsR t).2])
    rw [show ptsR t = (ptsB t.bits (2 ^ n), 0) by unfold ptsR; rw [if_pos h1, hx]; rfl]
    any_goals (repeat' (first | with_reducible rfl | exact trivial | refine ai ?_ ?_ | (show (_ : Int) = _; first | with_reducible rfl | exact wr1 (by omega) | (simp only [zz, reduceCtorEq] <;> first | done | rfl | omega) | omega | rfl) | exact rfl | exact (fun _ => rfl) | exact (fun _ _ => rfl) | exact nof))

/- texts -/
def strB (l : List UInt8) : ByteArray := ⟨l.toArray⟩
def TextS : Spec := fnS (fun t : Tb => [tA t]) (fun _ => True) (fun t => .tup [.val (.string (strB (Go.Proofs.YtmncplgccielbaaDoor.T.textS t.n t.bits.toNat).1)), iP (Go.Proofs.YtmncplgccielbaaDoor.T.textS t.n t.bits.toNat).2])
theorem Text_ok : FnOk Tryd.prog 8 TextS :=
  fnOk_glv (gl := []) Tryd.func8 rfl rfl (vals := fun t : Tb => [.agg #[.int .i64 t.n, .int .u64 t.bits.toNat]]) (pre := fun _ => True) (ret := fun t => .tuple #[.string (strB (Go.Proofs.YtmncplgccielbaaDoor.T.textS t.n t.bits.toNat).1), .int .i64 (Go.Proofs.YtmncplgccielbaaDoor.T.textS t.n t.bits.toNat).2])
    (fun t _ μ => .tup _ _ rfl fun k u s hu hs => by
      match k with
      | 0 => cases hu; cases hs; exact .val _
      | 1 => cases hu; cases hs; exact .val _
      | k + 2 => simp at hu)
    fun t _ w _ => Go.Proofs.YtmncplgccielbaaDoor.tText_any t.n t.bits.toNat t.bits.isLt w
def parR (s : ByteArray) : Int × Nat × Int := Go.Proofs.YtmncplgccielbaaDoor.T.parseS s.data.toList
def ParseS (cs : Array Value) : Spec := { A := ByteArray, args := fun s => [.p false (.val (.string s))], objs := fun _ => [], pre := fun _ => True, res := fun s => .tup [.agg [iP (parR s).1, .val (.int .u64 (parR s).2.1)], iP (parR s).2.2], objs' := fun _ => [], fresh := true, ro := 0, gl := glT cs }
theorem Parse_ok {cs : Array Value} (hcs : TabCs cs) : FnOk Tryd.prog 9 (ParseS cs) :=
  fnOk_glv (gl := glT cs) Tryd.func9 rfl rfl (vals := fun s : ByteArray => [.string s]) (pre := fun _ => True) (ret := fun s => .tuple #[.agg #[.int .i64 (parR s).1, .int .u64 ((parR s).2.1 : Int)], .int .i64 (parR s).2.2])
    (fun s _ μ => .tup _ _ rfl fun k u d hu hd => by
      match k with
      | 0 =>
        cases hu; cases hd
        refine .agg _ _ rfl (fun j u hu => ?_) (fun j u d hu hd => ?_)
        · match j with
          | 0 => cases hu; rfl
          | 1 => cases hu; rfl
          | j + 2 => simp at hu
        · match j with
          | 0 => cases hu; cases hd; exact .val _
          | 1 => cases hu; cases hd; exact .val _
          | j + 2 => simp at hu
      | 1 => cases hu; cases hd; exact .val _
      | k + 2 => simp at hu)
    fun s _ w h => by
      obtain ⟨T, fr, hw⟩ := h _ (List.mem_singleton.2 rfl)
      exact Go.Proofs.YtmncplgccielbaaDoor.tParse_any s w fun j hj => by rw [cell_of hw]; exact hcs j hj

end Go.Sx.Pn
