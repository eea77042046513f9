/- MinimalRenames, walked. -/
import Derived.Test.YtmjfhoidokajpaaGreatM16
set_option maxHeartbeats 1000000
set_option maxRecDepth 4000
set_option linter.unusedSimpArgs false
set_option linter.unusedVariables false
set_option linter.unusedSectionVars false
namespace Go.Sx.Pn
open Go Go.Proofs

def byteA (a : UInt8) : SV := .p false (.val (.int .u8 a.toNat))
/-- the first numbers in order -/
def idR (n k : Nat) : LV := .rw 3 1 n (fun j => [iP (if j < k then j else 0 : Nat)])
theorem modI {n : Nat} (hn : 0 < n) (hn4 : n ≤ 4) (a : UInt8) : (IntKind.i64.wrap (a.toNat : Int)).tmod (n : Int) = ((a.toNat % n : Nat) : Int) := by
  have h : a.toNat < 256 := a.toNat_lt
  rw [wrap_i _ (by omega) (by omega)]
  exact (Int.ofNat_tmod a.toNat n)
theorem put_id {k : Nat} (j : Nat) : putEl (fun j => [iP (if j < k then j else 0 : Nat)]) k 0 [iP (k : Nat)] j = [iP (if j < k + 1 then j else 0 : Nat)] := by
  unfold putEl
  by_cases h : j = k
  · subst h; simp
  · rw [if_neg h]
    have : (j < k + 1) = (j < k) := propext (by omega)
    simp only [this]
theorem put_sw {n I K : Nat} {a' b' : Int} (hI : I < n) (hK : K < n) (ha : a' = (I : Int)) (hb : b' = (K : Int)) : ∀ j, j < n →
    putEl (putEl (fun j => [iP (if j < n then j else 0 : Nat)]) a'.toNat 0 [iP (if b'.toNat < n then b'.toNat else 0 : Nat)]) b'.toNat 0 [iP (if a'.toNat < n then a'.toNat else 0 : Nat)] j = [iP ((swL n I K).getD j 0)] := by
  subst ha hb
  intro j hj
  rw [swL_get hj, Int.toNat_natCast, Int.toNat_natCast, if_pos hI, if_pos hK]
  unfold putEl
  by_cases h1 : j = K
  · subst h1
    by_cases h2 : j = I
    · subst h2; simp
    · simp [h2]
  · by_cases h2 : j = I
    · subst h2; simp [h1]
    · simp [h1, h2, hj]
theorem chk_parts {n : Nat} {x : Tk} (h : chkK x = 0) (hx : x.on.n = n) (hn : n ≤ 4) : chkT ⟨n, x.on.bits⟩ = 0 ∧ chkT ⟨n, x.free.bits⟩ = 0 ∧ x.free.n = n := by
  obtain ⟨h1, h2, h3, _⟩ := chkK_zero h
  refine ⟨?_, ?_, by omega⟩
  · rw [← hx]; exact h1
  · rw [← hx, h3]; exact h2
theorem ren_at {z : Int} (hz : z = 0) {n i k : Nat} (hn : n ≤ 4) (hi : i < n) (hk : k < n) {b : U} (hb : chkT ⟨n, b⟩ = 0) : FnOk Tryz.prog 21 (fnS (fun _ : Unit => [tA ⟨n, b⟩, isA (swL n i k)]) (fun _ => True) (fun _ => resT (⟨n, swU n i k b⟩, z))) :=
  fnS_at ren_ok (⟨n, b⟩, swL n i k) (by show (swL n i k).length ≤ 1000000; rw [swL_len]; omega) (by
    show resT (renC ⟨n, b⟩ (swL n i k)) = _
    rw [renC, if_pos hb, if_pos (by show ((swL n i k).length : Int) = n; rw [swL_len]), swL_len, if_pos (sw_mov hn hi hk).2, hz]; rfl)
theorem mform_at2 {z : Int} (hz : z = 0) {n : Nat} (hn : n ≤ 4) {a b : U} (h : chkK ⟨⟨n, a⟩, ⟨n, b⟩⟩ = 0) : FnOk Tryz.prog 16 (fnSF (fun _ : Unit => [kA ⟨⟨n, a⟩, ⟨n, b⟩⟩]) (fun _ => True) (fun _ => .tup [csP (mformR ⟨⟨n, a⟩, ⟨n, b⟩⟩), iP z])) :=
  mform_at hz h (by show (n : Int) ≤ 4; omega)

def renLaw7 : Spec := fnS (fun y : Tk × UInt8 × UInt8 => [kA y.1, byteA y.2.1, byteA y.2.2]) (fun _ => True) (fun _ => bP true)
set_option maxHeartbeats 8000000 in
theorem renames7_law : FnOk Tryz.prog 6 renLaw7 := by
  refine fnOk (Tb := tab) mixed tab_ok Tryz.func6 rfl rfl ?_
  rintro ⟨⟨⟨N, xo⟩, ⟨M, xf⟩⟩, a, b⟩ hpre
  refine ai (ai rfl (ai rfl rfl)) ?_
  refine ei _ (ai rig_ok (ei (⟨⟨N, xo⟩, ⟨M, xf⟩⟩) (ei [] (ai (ai rfl (ai rfl (ai rfl (ai rfl (ai (fun _ => Or.inl rfl) (ai (by first | exact nof | exact (fun _ => ai rfl rfl)) (by first | exact Or.inl rfl | exact Or.inr rfl))))))) (ai (by (repeat' (first | with_reducible rfl | exact trivial | refine ai ?_ ?_ | (show (_ : Int) = _; first | with_reducible rfl | exact wr1 (by omega) | (simp only [zz, reduceCtorEq] <;> first | done | rfl | omega) | omega | rfl) | exact rfl | exact (fun _ => rfl) | exact (fun _ _ => rfl) | exact nof))) (ai trivial (ai (trivial) ?_)))))))
  refine bcase_b (b := !rigB ⟨⟨N, xo⟩, ⟨M, xf⟩⟩) (by first | exact rfl | (simp only [zz, reduceCtorEq] <;> first | done | exact rfl)) (fun h1 => ?_) (fun h1 => ?_)
  · skip
    refine ei _ (ai awake7_ok (ei (()) (ei [] (ai (ai rfl (ai rfl (ai rfl (ai rfl (ai (fun _ => Or.inl rfl) (ai (by first | exact nof | exact (fun _ => ai rfl rfl)) (by first | exact Or.inl rfl | exact Or.inr rfl))))))) (ai (by (repeat' (first | with_reducible rfl | exact trivial | refine ai ?_ ?_ | (show (_ : Int) = _; first | with_reducible rfl | exact wr1 (by omega) | (simp only [zz, reduceCtorEq] <;> first | done | rfl | omega) | omega | rfl) | exact rfl | exact (fun _ => rfl) | exact (fun _ _ => rfl) | exact nof))) (ai trivial (ai (trivial) ?_)))))))
    refine ai (ai (fun _ => (by (repeat' (first | exact rfl | exact trivial | exact (fun _ => rfl) | exact (fun _ _ => rfl) | exact nof | refine ai ?_ ?_)))) ?_) trivial
    any_goals (repeat' (first | with_reducible rfl | exact trivial | refine ai ?_ ?_ | (show (_ : Int) = _; first | with_reducible rfl | exact wr1 (by omega) | (simp only [zz, reduceCtorEq] <;> first | done | rfl | omega) | omega | rfl) | exact rfl | exact (fun _ => rfl) | exact (fun _ _ => rfl) | exact nof))
  have h1 : rigB ⟨⟨N, xo⟩, ⟨M, xf⟩⟩ = true := by simpa using h1
  refine bcase_p (p := N < 2) (by first | (with_reducible refine bif_lt ?_; omega) | (with_reducible refine bif_le ?_; omega) | (with_reducible refine bif_eq ?_; omega) | (with_reducible refine bif_ne ?_; omega) | exact b8_eq rfl | exact b8_ne rfl | exact bif_lt (by omega) | exact bif_le (by omega) | exact bif_eq (by omega) | exact bif_ne (by omega) | exact Iff.rfl | (simp only [zz, reduceCtorEq] <;> first | done | omega | exact Iff.rfl) | (simp; done) | (simp; omega)) (fun h2 => ?_) (fun h2 => ?_)
  · skip
    refine ei _ (ai awake7_ok (ei (()) (ei [] (ai (ai rfl (ai rfl (ai rfl (ai rfl (ai (fun _ => Or.inl rfl) (ai (by first | exact nof | exact (fun _ => ai rfl rfl)) (by first | exact Or.inl rfl | exact Or.inr rfl))))))) (ai (by (repeat' (first | with_reducible rfl | exact trivial | refine ai ?_ ?_ | (show (_ : Int) = _; first | with_reducible rfl | exact wr1 (by omega) | (simp only [zz, reduceCtorEq] <;> first | done | rfl | omega) | omega | rfl) | exact rfl | exact (fun _ => rfl) | exact (fun _ _ => rfl) | exact nof))) (ai trivial (ai (trivial) ?_)))))))
    refine ai (ai (fun _ => (by (repeat' (first | exact rfl | exact trivial | exact (fun _ => rfl) | exact (fun _ _ => rfl) | exact nof | refine ai ?_ ?_)))) ?_) trivial
    any_goals (repeat' (first | with_reducible rfl | exact trivial | refine ai ?_ ?_ | (show (_ : Int) = _; first | with_reducible rfl | exact wr1 (by omega) | (simp only [zz, reduceCtorEq] <;> first | done | rfl | omega) | omega | rfl) | exact rfl | exact (fun _ => rfl) | exact (fun _ _ => rfl) | exact nof))
  obtain ⟨h0, h4⟩ := rig_of h1
  obtain ⟨_, n, hn, hx, _⟩ := right_parts h0 h4
  obtain rfl : N = n := hx
  obtain ⟨co, cf, rfl⟩ : chkT ⟨n, xo⟩ = 0 ∧ chkT ⟨n, xf⟩ = 0 ∧ M = n := chk_parts h0 rfl hn
  obtain ⟨z, hz⟩ : ∃ z : Int, z = 0 := ⟨0, rfl⟩
  have h64 := pow_le64 (show n ≤ 6 by omega)
  have hn2 : 2 ≤ n := by omega
  refine ai (ai (Int.natCast_nonneg _) (ai (Int.le_refl _) (ai (by show (n : Int) ≤ 281474976710655; omega) (by show 8 * n ≤ 281474976710656; omega)))) ?_
  refine ei (LAnn.inv { X := Nat, up := fun k => [(45, .s (iA k)), (8, idR n k)], uo := fun k => [], inv := fun k => k ≤ n ∧ (True), meas := fun k => n - k, x0 := 0 }) ?_
  refine ai (ai (ai (by (repeat' (first | exact rfl | exact trivial | exact (fun _ => rfl) | exact (fun _ _ => rfl) | exact nof | refine ai ?_ ?_))) (ai (by (repeat' (first | with_reducible rfl | exact trivial | refine ai ?_ ?_ | (show (_ : Int) = _; first | with_reducible rfl | exact wr1 (by omega) | (simp only [zz, reduceCtorEq] <;> first | done | rfl | omega) | omega | rfl) | exact rfl | exact (fun _ => rfl) | exact (fun _ _ => rfl) | exact nof))) (by (repeat' (first | with_reducible rfl | exact trivial | refine ai ?_ ?_ | (show (_ : Int) = _; first | with_reducible rfl | exact wr1 (by omega) | (simp only [zz, reduceCtorEq] <;> first | done | rfl | omega) | omega | rfl) | exact rfl | exact (fun _ => rfl) | exact (fun _ _ => rfl) | exact nof))))) rfl) (ai (ai (Nat.zero_le _) ?_) ?_)
  · trivial
  intro (k : Nat) ⟨hk, _⟩
  refine bcase_p (p := k < n) (by first | (with_reducible refine bif_lt ?_; omega) | (with_reducible refine bif_le ?_; omega) | (with_reducible refine bif_eq ?_; omega) | (with_reducible refine bif_ne ?_; omega) | exact b8_eq rfl | exact b8_ne rfl | exact bif_lt (by omega) | exact bif_le (by omega) | exact bif_eq (by omega) | exact bif_ne (by omega) | exact Iff.rfl | (simp only [zz, reduceCtorEq] <;> first | done | omega | exact Iff.rfl) | (simp; done) | (simp; omega)) (fun h3 => ?_) (fun h3 => ?_)
  · refine ai (ai (Int.natCast_nonneg _) (by show (k : Int) < (n : Int); omega)) ?_
    refine ai (ai h3 (Nat.le_refl 1)) ?_
    refine ei (k + 1) (ai (ai rfl rfl) (ai (ai ?_ rfl) (ai (ai (by show k + 1 ≤ n; omega) ?_) (by show n - (k + 1) < n - k; omega))))
    any_goals (repeat' (first | with_reducible rfl | exact trivial | refine ai ?_ ?_ | (show (_ : Int) = _; first | with_reducible rfl | exact wr1 (by omega) | (simp only [zz, reduceCtorEq] <;> first | done | rfl | omega) | omega | rfl) | exact rfl | exact (fun _ => rfl) | exact (fun _ _ => rfl) | exact nof))
    exact fun j _ => put_id j
  obtain rfl : n = k := by omega
  have ea := modI (by omega) hn a
  have eb := modI (by omega) hn b
  have hi : a.toNat % n < n := Nat.mod_lt _ (by omega)
  have hj : b.toNat % n < n := Nat.mod_lt _ (by omega)
  refine ei (.seq [0, 1, 2, 3, 4, 5, 6, 7, 8, 9]) (ai (by kernel_rfl) ?_)
  refine ai (by show (n : Int) ≠ 0; omega) ?_
  refine ai (by show (n : Int) ≠ 0; omega) ?_
  refine ei (.seq [0, 1, 2, 3, 4, 5, 6, 7, 8, 9, 10, 11, 12, 13, 14, 15]) (ai (by kernel_rfl) ?_)
  have la : ((IntKind.i64.wrap (a.toNat : Int)).tmod (n : Int)).toNat < n := by rw [ea]; exact hi
  have lb : ((IntKind.i64.wrap (b.toNat : Int)).tmod (n : Int)).toNat < n := by rw [eb]; exact hj
  refine ai (ai (by show (0 : Int) ≤ (IntKind.i64.wrap (b.toNat : Int)).tmod (n : Int); rw [eb]; omega) (by show (IntKind.i64.wrap (b.toNat : Int)).tmod (n : Int) < (n : Int); rw [eb]; omega)) ?_
  refine ai lb ?_
  refine ai (ai (by show (0 : Int) ≤ (IntKind.i64.wrap (a.toNat : Int)).tmod (n : Int); rw [ea]; omega) (by show (IntKind.i64.wrap (a.toNat : Int)).tmod (n : Int) < (n : Int); rw [ea]; omega)) ?_
  refine ai la ?_
  refine ai (ai (by show (0 : Int) ≤ (IntKind.i64.wrap (a.toNat : Int)).tmod (n : Int); rw [ea]; omega) (by show (IntKind.i64.wrap (a.toNat : Int)).tmod (n : Int) < (n : Int); rw [ea]; omega)) ?_
  refine ai (ai la (Nat.le_refl 1)) ?_
  refine ai (ai (by show (0 : Int) ≤ (IntKind.i64.wrap (b.toNat : Int)).tmod (n : Int); rw [eb]; omega) (by show (IntKind.i64.wrap (b.toNat : Int)).tmod (n : Int) < (n : Int); rw [eb]; omega)) ?_
  refine ai (ai lb (Nat.le_refl 1)) ?_
  have hrow := put_sw (n := n) hi hj ea eb
  refine ei _ (ai (ren_at hz hn hi hj co) (ei (()) (ei [] (ai (ai rfl (ai rfl (ai rfl (ai rfl (ai (by first | exact (fun _ => Or.inl rfl) | exact nof | exact (fun _ => Or.inr (by (repeat' (first | exact rfl | exact trivial | exact (fun _ => rfl) | exact (fun _ _ => rfl) | exact nof | refine ai ?_ ?_))))) (ai (by first | exact nof | exact (fun _ => ai rfl rfl)) (by first | exact Or.inl rfl | exact Or.inr rfl))))))) (ai ?_ (ai (by (repeat' (first | with_reducible rfl | exact trivial | refine ai ?_ ?_ | (show (_ : Int) = _; first | with_reducible rfl | exact wr1 (by omega) | (simp only [zz, reduceCtorEq] <;> first | done | rfl | omega) | omega | rfl) | exact rfl | exact (fun _ => rfl) | exact (fun _ _ => rfl) | exact nof))) (ai (trivial) ?_)))))))
  · skip
    (repeat' (first | with_reducible rfl | exact trivial | refine ai ?_ ?_ | (show (_ : Int) = _; first | with_reducible rfl | exact wr1 (by omega) | (simp only [zz, reduceCtorEq] <;> first | done | rfl | omega) | omega | rfl) | exact rfl | exact (fun _ => rfl) | exact (fun _ _ => rfl) | exact nof))
    · exact (swL_len _ _ _).symm
    · exact hrow
  refine ei _ (ai (ren_at hz hn hi hj cf) (ei (()) (ei [] (ai (ai rfl (ai rfl (ai rfl (ai rfl (ai (by first | exact (fun _ => Or.inl rfl) | exact nof | exact (fun _ => Or.inr (by (repeat' (first | exact rfl | exact trivial | exact (fun _ => rfl) | exact (fun _ _ => rfl) | exact nof | refine ai ?_ ?_))))) (ai (by first | exact nof | exact (fun _ => ai rfl rfl)) (by first | exact Or.inl rfl | exact Or.inr rfl))))))) (ai ?_ (ai (by (repeat' (first | with_reducible rfl | exact trivial | refine ai ?_ ?_ | (show (_ : Int) = _; first | with_reducible rfl | exact wr1 (by omega) | (simp only [zz, reduceCtorEq] <;> first | done | rfl | omega) | omega | rfl) | exact rfl | exact (fun _ => rfl) | exact (fun _ _ => rfl) | exact nof))) (ai (trivial) ?_)))))))
  · skip
    (repeat' (first | with_reducible rfl | exact trivial | refine ai ?_ ?_ | (show (_ : Int) = _; first | with_reducible rfl | exact wr1 (by omega) | (simp only [zz, reduceCtorEq] <;> first | done | rfl | omega) | omega | rfl) | exact rfl | exact (fun _ => rfl) | exact (fun _ _ => rfl) | exact nof))
    · exact (swL_len _ _ _).symm
    · exact hrow
  refine ei _ (ai size_ok (ei (n) (ei [] (ai (ai rfl (ai rfl (ai rfl (ai rfl (ai (fun _ => Or.inl rfl) (ai (by first | exact nof | exact (fun _ => ai rfl rfl)) (by first | exact Or.inl rfl | exact Or.inr rfl))))))) (ai (by (repeat' (first | with_reducible rfl | exact trivial | refine ai ?_ ?_ | (show (_ : Int) = _; first | with_reducible rfl | exact wr1 (by omega) | (simp only [zz, reduceCtorEq] <;> first | done | rfl | omega) | omega | rfl) | exact rfl | exact (fun _ => rfl) | exact (fun _ _ => rfl) | exact nof))) (ai trivial (ai ((by show n ≤ 6; omega)) ?_)))))))
  refine ei (LAnn.inv { X := Nat, up := fun p => [(96, .s (iA p))], uo := fun p => [⟨5, 27, [.s (iA n), .s (uA (tuU xo (a.toNat % n) p)), .s (iA n), .s (uA (tuU xf (a.toNat % n) p))]⟩], inv := fun p => p ≤ 2 ^ n ∧ (True), meas := fun p => 2 ^ n - p, x0 := 0 }) ?_
  refine ai (ai (ai (by (repeat' (first | exact rfl | exact trivial | exact (fun _ => rfl) | exact (fun _ _ => rfl) | exact nof | refine ai ?_ ?_))) (ai ?_ ?_)) rfl) (ai (ai (Nat.zero_le _) ?_) ?_)
  · skip
    (repeat' (first | exact rfl | exact trivial | exact (fun _ => rfl) | exact (fun _ _ => rfl) | exact nof | refine ai ?_ ?_))
  · skip
    (repeat' (first | exact rfl | exact trivial | exact (fun _ => rfl) | exact (fun _ _ => rfl) | exact nof | refine ai ?_ ?_))
  · trivial
  intro (p : Nat) ⟨hp, _⟩
  refine bcase_p (p := p < 2 ^ n) (by first | (with_reducible refine bif_lt ?_; omega) | (with_reducible refine bif_le ?_; omega) | (with_reducible refine bif_eq ?_; omega) | (with_reducible refine bif_ne ?_; omega) | exact b8_eq rfl | exact b8_ne rfl | exact bif_lt (by omega) | exact bif_le (by omega) | exact bif_eq (by omega) | exact bif_ne (by omega) | exact Iff.rfl | (simp only [zz, reduceCtorEq] <;> first | done | omega | exact Iff.rfl) | (simp; done) | (simp; omega)) (fun h5 => ?_) (fun h5 => ?_)
  · skip
    refine ei _ (ai rhas_ok (ei ((p, a.toNat % n)) (ei [] (ai (ai rfl (ai rfl (ai rfl (ai rfl (ai (by first | exact (fun _ => Or.inl rfl) | exact nof | exact (fun _ => Or.inr (by (repeat' (first | exact rfl | exact trivial | exact (fun _ => rfl) | exact (fun _ _ => rfl) | exact nof | refine ai ?_ ?_))))) (ai (by first | exact nof | exact (fun _ => ai rfl rfl)) (by first | exact Or.inl rfl | exact Or.inr rfl))))))) (ai ?_ (ai (by (repeat' (first | with_reducible rfl | exact trivial | refine ai ?_ ?_ | (show (_ : Int) = _; first | with_reducible rfl | exact wr1 (by omega) | (simp only [zz, reduceCtorEq] <;> first | done | rfl | omega) | omega | rfl) | exact rfl | exact (fun _ => rfl) | exact (fun _ _ => rfl) | exact nof))) (ai (⟨by show p < 64; omega, by show a.toNat % n < 64; omega⟩) ?_)))))))
    · skip
      (repeat' (first | with_reducible rfl | exact trivial | refine ai ?_ ?_ | (show (_ : Int) = _; first | with_reducible rfl | exact wr1 (by omega) | (simp only [zz, reduceCtorEq] <;> first | done | rfl | omega) | omega | rfl) | exact rfl | exact (fun _ => rfl) | exact (fun _ _ => rfl) | exact nof))
    refine ei _ (ai fl_ok (ei ((p, a.toNat % n)) (ei [] (ai (ai rfl (ai rfl (ai rfl (ai rfl (ai (by first | exact (fun _ => Or.inl rfl) | exact nof | exact (fun _ => Or.inr (by (repeat' (first | exact rfl | exact trivial | exact (fun _ => rfl) | exact (fun _ _ => rfl) | exact nof | refine ai ?_ ?_))))) (ai (by first | exact nof | exact (fun _ => ai rfl rfl)) (by first | exact Or.inl rfl | exact Or.inr rfl))))))) (ai ?_ (ai (by (repeat' (first | with_reducible rfl | exact trivial | refine ai ?_ ?_ | (show (_ : Int) = _; first | with_reducible rfl | exact wr1 (by omega) | (simp only [zz, reduceCtorEq] <;> first | done | rfl | omega) | omega | rfl) | exact rfl | exact (fun _ => rfl) | exact (fun _ _ => rfl) | exact nof))) (ai (⟨by show p < 64; omega, by show a.toNat % n < 6; omega⟩) ?_)))))))
    · skip
      (repeat' (first | with_reducible rfl | exact trivial | refine ai ?_ ?_ | (show (_ : Int) = _; first | with_reducible rfl | exact wr1 (by omega) | (simp only [zz, reduceCtorEq] <;> first | done | rfl | omega) | omega | rfl) | exact rfl | exact (fun _ => rfl) | exact (fun _ _ => rfl) | exact nof))
    refine ei (.seq [0, 1, 2, 3, 4, 5, 6, 7, 8, 9, 10, 11, 12, 13, 14]) (ai (by kernel_rfl) ?_)
    repeat (refine ai (by first | exact Int.natCast_nonneg _ | omega | exact ai (Int.natCast_nonneg _) (by omega)) ?_)
    refine ei (.seq [0, 1, 2, 3, 4, 5, 6, 7, 8, 9, 10, 11, 12, 13, 14]) (ai (by kernel_rfl) ?_)
    repeat (refine ai (by first | exact Int.natCast_nonneg _ | omega | exact ai (Int.natCast_nonneg _) (by omega)) ?_)
    refine ei (p + 1) (ai (ai rfl rfl) (ai (ai ?_ rfl) (ai (ai (by show p + 1 ≤ 2 ^ n; omega) ?_) (by show 2 ^ n - (p + 1) < 2 ^ n - p; omega))))
    any_goals (repeat' (first | with_reducible rfl | exact trivial | refine ai ?_ ?_ | (show (_ : Int) = _; first | with_reducible rfl | exact wr1 (by omega) | (simp only [zz, reduceCtorEq] <;> first | done | rfl | omega) | omega | rfl) | exact rfl | exact (fun _ => rfl) | exact (fun _ _ => rfl) | exact nof))
  obtain rfl : p = 2 ^ n := by omega
  have h7 : n ≤ 6 := by omega
  obtain ⟨hv, hfl, hfc⟩ := form_ver h0 h4
  have hsm := (sw_mov hn hi hj).1
  have m1 := moved_right hn h0 rfl hsm (a := swU n (a.toNat % n) (b.toNat % n) xo) (b := swU n (a.toNat % n) (b.toNat % n) xf)
    (fun k hk => by rw [swU_bit h7, decide_eq_true hk]; rfl) (fun k hk => by rw [swU_bit h7, decide_eq_true hk]; rfl)
    (fun k hk _ => by rw [swU_bit h7, decide_eq_false (by omega)]; rfl) (fun k hk _ => by rw [swU_bit h7, decide_eq_false (by omega)]; rfl)
  have m2 := moved_right hn h0 rfl (fl_mov hn hi) (a := turnU n xo (a.toNat % n)) (b := turnU n xf (a.toNat % n))
    (fun k hk => turn_bit hn hi _ hk) (fun k hk => turn_bit hn hi _ hk)
    (fun k hk h => turn_high hn hi _ hk h) (fun k hk h => turn_high hn hi _ hk h)
  refine ei _ (ai (mform_at hz h0 h4) (ei (()) (ei [] (ai (ai rfl (ai rfl (ai rfl (ai rfl (ai (fun _ => Or.inl rfl) (ai (by first | exact nof | exact (fun _ => ai rfl rfl)) (by first | exact Or.inl rfl | exact Or.inr rfl))))))) (ai (by (repeat' (first | with_reducible rfl | exact trivial | refine ai ?_ ?_ | (show (_ : Int) = _; first | with_reducible rfl | exact wr1 (by omega) | (simp only [zz, reduceCtorEq] <;> first | done | rfl | omega) | omega | rfl) | exact rfl | exact (fun _ => rfl) | exact (fun _ _ => rfl) | exact nof))) (ai trivial (ai (trivial) ?_)))))))
  refine bcase_b (b := false) (by (first | (simp only [beq_self_eq_true, Bool.and_true, Bool.and_self]; done) | (simp only [hz, Int.add_zero, wrap_z]; done) | (simp only [hz, Int.add_zero, wrap_z]; rfl) | decide | rfl | decide | (simp; done))) (fun h => absurd h (by decide)) (fun _ => ?_)
  refine ei _ (ai (lit_at hz h7 rfl hfc) (ei (()) (ei [] (ai (ai rfl (ai rfl (ai rfl (ai rfl (ai (fun _ => Or.inl rfl) (ai (by first | exact nof | exact (fun _ => ai rfl rfl)) (by first | exact Or.inl rfl | exact Or.inr rfl))))))) (ai (by (repeat' (first | with_reducible rfl | exact trivial | refine ai ?_ ?_ | (show (_ : Int) = _; first | with_reducible rfl | exact wr1 (by omega) | (simp only [zz, reduceCtorEq] <;> first | done | rfl | omega) | omega | rfl) | exact rfl | exact (fun _ => rfl) | exact (fun _ _ => rfl) | exact nof))) (ai trivial (ai (trivial) ?_)))))))
  refine ei (LAnn.unroll 3) ?_
  refine ai (ai (by decide) (by decide)) ?_
  refine ai (by decide) ?_
  refine ei _ (ai (mform_at2 hz hn m1.1) (ei (()) (ei [] (ai (ai rfl (ai rfl (ai rfl (ai rfl (ai (fun _ => Or.inl rfl) (ai (by first | exact nof | exact (fun _ => ai rfl rfl)) (by first | exact Or.inl rfl | exact Or.inr rfl))))))) (ai (by (repeat' (first | with_reducible rfl | exact trivial | refine ai ?_ ?_ | (show (_ : Int) = _; first | with_reducible rfl | exact wr1 (by omega) | (simp only [zz, reduceCtorEq] <;> first | done | rfl | omega) | omega | rfl) | exact rfl | exact (fun _ => rfl) | exact (fun _ _ => rfl) | exact nof))) (ai trivial (ai (trivial) ?_)))))))
  refine ei _ (ai (lit_at hz h7 rfl (form_ver m1.1 (by show (n : Int) ≤ 4; omega)).2.2) (ei (()) (ei [] (ai (ai rfl (ai rfl (ai rfl (ai rfl (ai (fun _ => Or.inl rfl) (ai (by first | exact nof | exact (fun _ => ai rfl rfl)) (by first | exact Or.inl rfl | exact Or.inr rfl))))))) (ai (by (repeat' (first | with_reducible rfl | exact trivial | refine ai ?_ ?_ | (show (_ : Int) = _; first | with_reducible rfl | exact wr1 (by omega) | (simp only [zz, reduceCtorEq] <;> first | done | rfl | omega) | omega | rfl) | exact rfl | exact (fun _ => rfl) | exact (fun _ _ => rfl) | exact nof))) (ai trivial (ai (trivial) ?_)))))))
  refine bcase_b (b := false) (by (first | (simp only [beq_self_eq_true, Bool.and_true, Bool.and_self]; done) | (simp only [hz, Int.add_zero, wrap_z]; done) | (simp only [hz, Int.add_zero, wrap_z]; rfl) | decide | rfl | decide | (simp; done))) (fun h => absurd h (by decide)) (fun _ => ?_)
  refine bcase_b (b := false) (by (first | (simp only [beq_self_eq_true, Bool.and_true, Bool.and_self]; done) | (simp only [hz, Int.add_zero, wrap_z]; done) | (simp only [hz, Int.add_zero, wrap_z]; rfl) | decide | rfl | decide | (simp; done))) (fun h => absurd h (by decide)) (fun _ => ?_)
  refine bcase_b (b := false) (by exact bne_eq_false_iff_eq.2 (congrArg (fun k : Nat => (k : Int)) m1.2.1)) (fun h => absurd h (by decide)) (fun _ => ?_)
  refine bcase_b (b := false) (by exact bne_eq_false_iff_eq.2 (congrArg (fun k : Nat => (k : Int)) m1.2.2)) (fun h => absurd h (by decide)) (fun _ => ?_)
  refine ai (ai (by decide) (by decide)) ?_
  refine ai (by decide) ?_
  refine ei _ (ai (mform_at2 hz hn m2.1) (ei (()) (ei [] (ai (ai rfl (ai rfl (ai rfl (ai rfl (ai (fun _ => Or.inl rfl) (ai (by first | exact nof | exact (fun _ => ai rfl rfl)) (by first | exact Or.inl rfl | exact Or.inr rfl))))))) (ai (by (repeat' (first | with_reducible rfl | exact trivial | refine ai ?_ ?_ | (show (_ : Int) = _; first | with_reducible rfl | exact wr1 (by omega) | (simp only [zz, reduceCtorEq] <;> first | done | rfl | omega) | omega | rfl) | exact rfl | exact (fun _ => rfl) | exact (fun _ _ => rfl) | exact nof))) (ai trivial (ai (trivial) ?_)))))))
  refine ei _ (ai (lit_at hz h7 rfl (form_ver m2.1 (by show (n : Int) ≤ 4; omega)).2.2) (ei (()) (ei [] (ai (ai rfl (ai rfl (ai rfl (ai rfl (ai (fun _ => Or.inl rfl) (ai (by first | exact nof | exact (fun _ => ai rfl rfl)) (by first | exact Or.inl rfl | exact Or.inr rfl))))))) (ai (by (repeat' (first | with_reducible rfl | exact trivial | refine ai ?_ ?_ | (show (_ : Int) = _; first | with_reducible rfl | exact wr1 (by omega) | (simp only [zz, reduceCtorEq] <;> first | done | rfl | omega) | omega | rfl) | exact rfl | exact (fun _ => rfl) | exact (fun _ _ => rfl) | exact nof))) (ai trivial (ai (trivial) ?_)))))))
  refine bcase_b (b := false) (by (first | (simp only [beq_self_eq_true, Bool.and_true, Bool.and_self]; done) | (simp only [hz, Int.add_zero, wrap_z]; done) | (simp only [hz, Int.add_zero, wrap_z]; rfl) | decide | rfl | decide | (simp; done))) (fun h => absurd h (by decide)) (fun _ => ?_)
  refine bcase_b (b := false) (by (first | (simp only [beq_self_eq_true, Bool.and_true, Bool.and_self]; done) | (simp only [hz, Int.add_zero, wrap_z]; done) | (simp only [hz, Int.add_zero, wrap_z]; rfl) | decide | rfl | decide | (simp; done))) (fun h => absurd h (by decide)) (fun _ => ?_)
  refine bcase_b (b := false) (by exact bne_eq_false_iff_eq.2 (congrArg (fun k : Nat => (k : Int)) m2.2.1)) (fun h => absurd h (by decide)) (fun _ => ?_)
  refine bcase_b (b := false) (by exact bne_eq_false_iff_eq.2 (congrArg (fun k : Nat => (k : Int)) m2.2.2)) (fun h => absurd h (by decide)) (fun _ => ?_)
  refine bcase_b (b := true) (by (first | (simp only [beq_self_eq_true, Bool.and_true, Bool.and_self]; done) | (simp only [hz, Int.add_zero, wrap_z]; done) | (simp only [hz, Int.add_zero, wrap_z]; rfl) | decide | rfl | decide | (simp; done))) (fun _ => ?_) (fun h => absurd h (by decide))
  refine ei _ (ai awake7_ok (ei (()) (ei [] (ai (ai rfl (ai rfl (ai rfl (ai rfl (ai (fun _ => Or.inl rfl) (ai (by first | exact nof | exact (fun _ => ai rfl rfl)) (by first | exact Or.inl rfl | exact Or.inr rfl))))))) (ai (by (repeat' (first | with_reducible rfl | exact trivial | refine ai ?_ ?_ | (show (_ : Int) = _; first | with_reducible rfl | exact wr1 (by omega) | (simp only [zz, reduceCtorEq] <;> first | done | rfl | omega) | omega | rfl) | exact rfl | exact (fun _ => rfl) | exact (fun _ _ => rfl) | exact nof))) (ai trivial (ai (trivial) ?_)))))))
  refine ai (ai (fun _ => (by (repeat' (first | exact rfl | exact trivial | exact (fun _ => rfl) | exact (fun _ _ => rfl) | exact nof | refine ai ?_ ?_)))) ?_) trivial
  any_goals (repeat' (first | with_reducible rfl | exact trivial | refine ai ?_ ?_ | (show (_ : Int) = _; first | with_reducible rfl | exact wr1 (by omega) | (simp only [zz, reduceCtorEq] <;> first | done | rfl | omega) | omega | rfl) | exact rfl | exact (fun _ => rfl) | exact (fun _ _ => rfl) | exact nof))

end Go.Sx.Pn
