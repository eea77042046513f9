/- The contract of hazard.Form. -/
import Derived.Test.YtdkhdkldjpaadaaGreatP60
set_option maxHeartbeats 1000000
set_option maxRecDepth 4000
set_option linter.unusedSimpArgs false
set_option linter.unusedVariables false
namespace Go.Sx.Pn
open Go Go.Proofs

/-- is the first index in which two numbers differ one of the first number's -/
def earl (w b : U) : Bool := (w &&& revU (1#64 <<< (lenU (revU (w ^^^ b)) - 1))) != 0#64
def goodL (n : Nat) (t : U) (l : List Cu) : Prop := tabU l (2 ^ n) = t ∧ badL n l = []
instance (n : Nat) (t : U) (l : List Cu) : Decidable (goodL n t l) := by unfold goodL; infer_instance
def betterL (l : List Cu) (w : U) (b : U) (m : Nat) : Prop := l.length < popU b ∨ l.length = popU b ∧ (litL l < m ∨ litL l = m ∧ earl w b = true)
instance (l : List Cu) (w : U) (b : U) (m : Nat) : Decidable (betterL l w b m) := by unfold betterL; infer_instance
@[irreducible] def fStep (n : Nat) (t : U) (all : List Cu) (w : Nat) (s : U × Nat) : U × Nat :=
  if (chL all w).length ≤ popU s.1 ∧ goodL n t (chL all w) ∧ betterL (chL all w) (BitVec.ofNat 64 w) s.1 s.2 then (BitVec.ofNat 64 w, litL (chL all w)) else s
def fTo (n : Nat) (t : U) (all : List Cu) : Nat → U × Nat
  | 0 => (1#64 <<< all.length - 1#64, litL all)
  | w + 1 => fStep n t all w (fTo n t all w)
def formW (n : Nat) (t : U) : U := (fTo n t (prL n t) (2 ^ (prL n t).length - 1)).1
def formL (n : Nat) (t : U) : List Cu := chL (prL n t) (formW n t).toNat

theorem pow16 {k : Nat} (h : k ≤ 16) : 2 ^ k ≤ 65536 := Nat.pow_le_pow_right (n := 2) (by decide) h
theorem full_nat {k : Nat} (h : k ≤ 16) : (1#64 <<< k - 1#64).toNat = 2 ^ k - 1 := by
  have h1 := pow16 h
  have h2 := Nat.two_pow_pos k
  rw [BitVec.toNat_sub, BitVec.toNat_shiftLeft, Nat.shiftLeft_eq, show (1#64).toNat = 1 from rfl, Nat.one_mul, Nat.mod_eq_of_lt (show 2 ^ k < 2 ^ 64 by omega)]
  omega
theorem ofNat_nat {w : Nat} (h : w < 65536) : (BitVec.ofNat 64 w).toNat = w := by
  rw [BitVec.toNat_ofNat, Nat.mod_eq_of_lt (by omega)]
theorem fTo_inv {n : Nat} {t : U} {all : List Cu} (h : all.length ≤ 16) : ∀ w, w ≤ 2 ^ all.length - 1 → (fTo n t all w).1.toNat = 2 ^ all.length - 1 ∨ (fTo n t all w).1.toNat < w
  | 0, _ => .inl (full_nat h)
  | w + 1, hw => by
    have h1 := pow16 h
    rw [fTo, fStep]
    split
    · exact .inr (by rw [ofNat_nat (by omega)]; omega)
    · rcases fTo_inv h w (by omega) with h2 | h2
      · exact .inl h2
      · exact .inr (by omega)
theorem fTo_lt {n : Nat} {t : U} {all : List Cu} (h : all.length ≤ 16) {w : Nat} (hw : w ≤ 2 ^ all.length - 1) : (fTo n t all w).1.toNat < 2 ^ all.length := by
  have h2 := Nat.two_pow_pos all.length
  rcases fTo_inv (n := n) (t := t) h w hw with h1 | h1 <;> omega
theorem fTo_ne {n : Nat} {t : U} {all : List Cu} (h : all.length ≤ 16) {w : Nat} (hw : w < 2 ^ all.length - 1) : BitVec.ofNat 64 w ^^^ (fTo n t all w).1 ≠ 0#64 := by
  intro e
  rw [BitVec.xor_eq_zero_iff] at e
  have h1 := pow16 h
  have := fTo_inv (n := n) (t := t) h w (by omega)
  rw [← e, ofNat_nat (by omega)] at this
  omega

theorem orC {a b c d : Int} : (if cmpI a b = 0 then cmpI c d else cmpI a b) < 0 ↔ a < b ∨ a = b ∧ c < d := by
  unfold cmpI
  repeat' split
  all_goals omega
theorem neT (n : Nat) (a b : U) : (!(((n : Int) == (n : Int)) && (((a.toNat : Int) == (b.toNat : Int)) && true))) = true ↔ ¬ a = b := by
  rw [Bool.and_true, zQ]; simp
theorem neE (l : List (Nat × Nat)) : decide ((0 : Int) < (l.length : Int)) = true ↔ ¬ l = [] := by
  cases l with
  | nil => simp
  | cons a l => simp
def formS : Spec := fnS (fun x : Nat × U => [tA ⟨x.1, x.2⟩]) (fun x => x.1 ≤ 6 ∧ chkT ⟨x.1, x.2⟩ = 0 ∧ (prL x.1 x.2).length ≤ 16) (fun x => .tup [csP (formL x.1 x.2), iP 0])
theorem form_ok : FnOk Tryz.prog 12 formS := by
  refine fnOk (Tb := tab) mixed tab_ok Tryz.func12 rfl rfl ?_
  rintro ⟨n, t⟩ hpre
  refine ai (ai rfl (ai rfl rfl)) ?_
  obtain ⟨hn, ht, h16⟩ : n ≤ 6 ∧ chkT ⟨n, t⟩ = 0 ∧ (prL n t).length ≤ 16 := hpre
  obtain ⟨z, hz⟩ : ∃ z : Int, z = 0 := ⟨0, rfl⟩
  obtain ⟨all, hall⟩ : ∃ L, prL n t = L := ⟨_, rfl⟩
  rw [hall] at h16
  have hok : ∀ c ∈ all, c.Ok n := fun c hc => pr_ok hn (b := t) (by rw [hall]; exact hc)
  have hck : chkN n all = 0 := chkN_of hn (by omega) hok
  have hres : formL n t = chL all (fTo n t all (2 ^ all.length - 1)).1.toNat := by rw [formL, formW, hall]
  have hp := pow16 h16
  have hpos := Nat.two_pow_pos all.length
  have c1 := fnS_at tcheck_ok ⟨n, t⟩ trivial (r := iP z) (by show iP (chkT ⟨n, t⟩) = _; rw [ht, hz])
  have c2 := fnS_at hpr_ok (n, t) ⟨hn, ht⟩ (r := .tup [csP all, iP z]) (by show PV.tup [csP (prL n t), iP 0] = _; rw [hall, hz])
  have c3 := fnS_at hLit_ok ((n : Int), all) (show all.length ≤ 1000000 by omega) (r := .tup [iP (litL all : Int), iP z]) (by show PV.tup [iP (litN n all), iP (chkN n all)] = _; rw [litN, hck, if_pos rfl, hz])
  refine ei _ (ai c1 (ei (()) (ei [] (ai (ai rfl (ai rfl (ai rfl (ai rfl (ai (fun _ => Or.inl rfl) (ai (by first | exact nof | exact (fun _ => ai rfl rfl)) (by first | exact Or.inl rfl | exact Or.inr rfl))))))) (ai (by (repeat' (first | with_reducible rfl | exact trivial | refine ai ?_ ?_ | (show (_ : Int) = _; first | with_reducible rfl | exact wr1 (by omega) | (simp only [zz, reduceCtorEq] <;> first | done | rfl | omega) | omega | rfl) | exact rfl | exact (fun _ => rfl) | exact (fun _ _ => rfl) | exact nof))) (ai trivial (ai (trivial) ?_)))))))
  refine bcase_b (b := false) (by (first | (simp only [beq_self_eq_true, Bool.and_true, Bool.and_self]; done) | (simp only [hz, Int.add_zero, wrap_z]; done) | (simp only [hz, Int.add_zero, wrap_z]; rfl) | decide | rfl | decide | (simp; done))) (fun h => absurd h (by decide)) (fun _ => ?_)
  refine ei _ (ai c2 (ei (()) (ei [] (ai (ai rfl (ai rfl (ai rfl (ai rfl (ai (fun _ => Or.inl rfl) (ai (by first | exact nof | exact (fun _ => ai rfl rfl)) (by first | exact Or.inl rfl | exact Or.inr rfl))))))) (ai (by (repeat' (first | with_reducible rfl | exact trivial | refine ai ?_ ?_ | (show (_ : Int) = _; first | with_reducible rfl | exact wr1 (by omega) | (simp only [zz, reduceCtorEq] <;> first | done | rfl | omega) | omega | rfl) | exact rfl | exact (fun _ => rfl) | exact (fun _ _ => rfl) | exact nof))) (ai trivial (ai (trivial) ?_)))))))
  refine bcase_b (b := false) (by (first | (simp only [beq_self_eq_true, Bool.and_true, Bool.and_self]; done) | (simp only [hz, Int.add_zero, wrap_z]; done) | (simp only [hz, Int.add_zero, wrap_z]; rfl) | decide | rfl | decide | (simp; done))) (fun h => absurd h (by decide)) (fun _ => ?_)
  refine bcase_p (p := 16 < all.length) (by first | (with_reducible refine bif_lt ?_; omega) | (with_reducible refine bif_le ?_; omega) | (with_reducible refine bif_eq ?_; omega) | (with_reducible refine bif_ne ?_; omega) | exact b8_eq rfl | exact b8_ne rfl | exact bif_lt (by omega) | exact bif_le (by omega) | exact bif_eq (by omega) | exact bif_ne (by omega) | exact Iff.rfl | (simp only [zz, reduceCtorEq] <;> first | done | omega | exact Iff.rfl) | (simp; done) | (simp; omega)) (fun h1 => ?_) (fun h1 => ?_)
  · omega
  repeat (refine ai (by first | exact Int.natCast_nonneg _ | omega | exact ai (Int.natCast_nonneg _) (by omega)) ?_)
  refine ei _ (ai c3 (ei (()) (ei [] (ai (ai rfl (ai rfl (ai rfl (ai rfl (ai (fun _ => Or.inl rfl) (ai (by first | exact nof | exact (fun _ => ai rfl rfl)) (by first | exact Or.inl rfl | exact Or.inr rfl))))))) (ai (by (repeat' (first | with_reducible rfl | exact trivial | refine ai ?_ ?_ | (show (_ : Int) = _; first | with_reducible rfl | exact wr1 (by omega) | (simp only [zz, reduceCtorEq] <;> first | done | rfl | omega) | omega | rfl) | exact rfl | exact (fun _ => rfl) | exact (fun _ _ => rfl) | exact nof))) (ai trivial (ai (trivial) ?_)))))))
  refine bcase_b (b := false) (by (first | (simp only [beq_self_eq_true, Bool.and_true, Bool.and_self]; done) | (simp only [hz, Int.add_zero, wrap_z]; done) | (simp only [hz, Int.add_zero, wrap_z]; rfl) | decide | rfl | decide | (simp; done))) (fun h => absurd h (by decide)) (fun _ => ?_)
  refine ei (LAnn.inv { X := Nat, up := fun w => [(46, .s (uA (BitVec.ofNat 64 w))), (7, .s (uA (fTo n t all w).1)), (8, .s (iA (fTo n t all w).2))], uo := fun _ => [], inv := fun w => w ≤ 2 ^ all.length - 1, meas := fun w => 2 ^ all.length - 1 - w, x0 := 0 }) ?_
  refine ai (ai (ai (by (repeat' (first | exact rfl | exact trivial | exact (fun _ => rfl) | exact (fun _ _ => rfl) | exact nof | refine ai ?_ ?_))) (ai ?_ ?_)) ?_) (ai ?_ ?_)
  · skip
    (repeat' (first | exact rfl | exact trivial | exact (fun _ => rfl) | exact (fun _ _ => rfl) | exact nof | refine ai ?_ ?_))
    show (_ : Int) = ((1#64 <<< all.length - 1#64).toNat : Int)
    try simp only [zz, reduceCtorEq]
  · skip
    (repeat' (first | exact rfl | exact trivial | exact (fun _ => rfl) | exact (fun _ _ => rfl) | exact nof | refine ai ?_ ?_))
  · rfl
  · exact Nat.zero_le _
  intro (w : Nat) (hw : w ≤ 2 ^ all.length - 1)
  refine bcase_p (p := w < 2 ^ all.length - 1) (by show decide (((BitVec.ofNat 64 w).toNat : Int) < IntKind.u64.wrap (IntKind.u64.wrap (1 * 2 ^ min (all.length : Int).toNat IntKind.u64.bits) - 1)) = true ↔ _; rw [Int.toNat_natCast, zJ, zI, full_nat h16, ofNat_nat (by omega), decide_eq_true_iff]; omega) (fun h2 => ?_) (fun h2 => ?_)
  · have hlt := fTo_lt (n := n) (t := t) h16 hw
    have hne := fTo_ne (n := n) (t := t) h16 h2
    have hstep : fTo n t all (w + 1) = fStep n t all w (fTo n t all w) := rfl
    generalize fTo n t all w = s at hlt hne hstep ⊢
    obtain ⟨b, m⟩ := s
    have hb : b.toNat < 65536 := by show b.toNat < 65536; have : b.toNat < 2 ^ all.length := hlt; omega
    have hne : BitVec.ofNat 64 w ^^^ b ≠ 0#64 := hne
    obtain ⟨W, hW⟩ : ∃ W : U, W = BitVec.ofNat 64 w := ⟨_, rfl⟩
    have hWn : W.toNat = w := by rw [hW, ofNat_nat (by omega)]
    have hW1 : BitVec.ofNat 64 (w + 1) = W + 1#64 := by rw [hW]; apply BitVec.eq_of_toNat_eq; simp [BitVec.toNat_add]
    have hch : chL all W.toNat = chL all w := by rw [hWn]
    rw [← hW] at hne ⊢
    obtain ⟨l, hl⟩ : ∃ l, chL all w = l := ⟨_, rfl⟩
    have hll : l.length ≤ 16 := by rw [← hl]; have := ch_len_le all w all.length; show (chTo all w all.length).length ≤ 16; omega
    have hlok : ∀ c ∈ l, c.Ok n := fun c hc => hok c (ch_mem (by rw [hl]; exact hc))
    have hlck : chkN n l = 0 := chkN_of hn (by omega) hlok
    have no : ¬ (l.length ≤ popU b ∧ goodL n t l ∧ betterL l W b m) → fTo n t all (w + 1) = (b, m) := fun h => by
      rw [hstep, fStep, hl, ← hW, if_neg h]
    have yes : (l.length ≤ popU b ∧ goodL n t l ∧ betterL l W b m) → fTo n t all (w + 1) = (W, litL l) := fun h => by
      rw [hstep, fStep, hl, ← hW, if_pos h]
    have d1 := fnS_at hch_ok (all, W) (show all.length ≤ 1000 by omega) (r := csP l) (by show csP (chL all W.toNat) = _; rw [hch, hl])
    have d2 := fnS_at hLit_ok ((n : Int), l) (show l.length ≤ 1000000 by omega) (r := .tup [iP (litL l : Int), iP z]) (by show PV.tup [iP (litN n l), iP (chkN n l)] = _; rw [litN, hlck, if_pos rfl, hz])
    refine ei _ (ai d1 (ei (()) (ei [] (ai (ai rfl (ai rfl (ai rfl (ai rfl (ai (fun _ => Or.inl rfl) (ai (by first | exact nof | exact (fun _ => ai rfl rfl)) (by first | exact Or.inl rfl | exact Or.inr rfl))))))) (ai (by (repeat' (first | with_reducible rfl | exact trivial | refine ai ?_ ?_ | (show (_ : Int) = _; first | with_reducible rfl | exact wr1 (by omega) | (simp only [zz, reduceCtorEq] <;> first | done | rfl | omega) | omega | rfl) | exact rfl | exact (fun _ => rfl) | exact (fun _ _ => rfl) | exact nof))) (ai trivial (ai (trivial) ?_)))))))
    refine ei [0, 1, 2, 3, 4, 5, 6, 7, 8, 10, 9, 11, 12, 13, 14, 15, 16, 17, 18, 19, 20] (ai (by kernel_rfl) ?_)
    refine ei _ (ai ones_ok' (ei (b) (ei [] (ai (ai rfl (ai rfl (ai rfl (ai rfl (ai (fun _ => Or.inl rfl) (ai (by first | exact nof | exact (fun _ => ai rfl rfl)) (by first | exact Or.inl rfl | exact Or.inr rfl))))))) (ai (by (repeat' (first | with_reducible rfl | exact trivial | refine ai ?_ ?_ | (show (_ : Int) = _; first | with_reducible rfl | exact wr1 (by omega) | (simp only [zz, reduceCtorEq] <;> first | done | rfl | omega) | omega | rfl) | exact rfl | exact (fun _ => rfl) | exact (fun _ _ => rfl) | exact nof))) (ai trivial (ai (hb) ?_)))))))
    refine bcase_p (p := popU b < l.length) (by first | (with_reducible refine bif_lt ?_; omega) | (with_reducible refine bif_le ?_; omega) | (with_reducible refine bif_eq ?_; omega) | (with_reducible refine bif_ne ?_; omega) | exact b8_eq rfl | exact b8_ne rfl | exact bif_lt (by omega) | exact bif_le (by omega) | exact bif_eq (by omega) | exact bif_ne (by omega) | exact Iff.rfl | (simp only [zz, reduceCtorEq] <;> first | done | omega | exact Iff.rfl) | (simp; done) | (simp; omega)) (fun h3 => ?_) (fun h3 => ?_)
    · skip
      refine ei (w + 1) (ai (ai rfl rfl) (ai (ai ?_ rfl) (ai ?_ ?_)))
      · skip
        (repeat' (first | exact rfl | exact trivial | exact (fun _ => rfl) | exact (fun _ _ => rfl) | exact nof | refine ai ?_ ?_))
        · show (_ : Int) = ((BitVec.ofNat 64 (w + 1)).toNat : Int)
          rw [hW1]; simp only [zz, reduceCtorEq]
        · show (b.toNat : Int) = ((fTo n t all (w + 1)).1.toNat : Int)
          rw [no (fun h => by omega)]
        · show (m : Int) = ((fTo n t all (w + 1)).2 : Int)
          rw [no (fun h => by omega)]
      · show w + 1 ≤ 2 ^ all.length - 1; omega
      · show 2 ^ all.length - 1 - (w + 1) < 2 ^ all.length - 1 - w; omega
    refine ei _ (ai htable_ok (ei ((n, l)) (ei [] (ai (ai rfl (ai rfl (ai rfl (ai rfl (ai (fun _ => Or.inl rfl) (ai (by first | exact nof | exact (fun _ => ai rfl rfl)) (by first | exact Or.inl rfl | exact Or.inr rfl))))))) (ai (by (repeat' (first | with_reducible rfl | exact trivial | refine ai ?_ ?_ | (show (_ : Int) = _; first | with_reducible rfl | exact wr1 (by omega) | (simp only [zz, reduceCtorEq] <;> first | done | rfl | omega) | omega | rfl) | exact rfl | exact (fun _ => rfl) | exact (fun _ _ => rfl) | exact nof))) (ai trivial (ai (⟨hn, by show l.length ≤ 1000000; omega⟩) ?_)))))))
    refine bcase_n (p := tabU l (2 ^ n) = t) (by exact neT n (tabU l (2 ^ n)) t) (fun h4 => ?_) (fun h4 => ?_)
    · skip
      refine ei (w + 1) (ai (ai rfl rfl) (ai (ai ?_ rfl) (ai ?_ ?_)))
      · skip
        (repeat' (first | exact rfl | exact trivial | exact (fun _ => rfl) | exact (fun _ _ => rfl) | exact nof | refine ai ?_ ?_))
        · show (_ : Int) = ((BitVec.ofNat 64 (w + 1)).toNat : Int)
          rw [hW1]; simp only [zz, reduceCtorEq]
        · show (b.toNat : Int) = ((fTo n t all (w + 1)).1.toNat : Int)
          rw [no (fun h => h4 h.2.1.1)]
        · show (m : Int) = ((fTo n t all (w + 1)).2 : Int)
          rw [no (fun h => h4 h.2.1.1)]
      · show w + 1 ≤ 2 ^ all.length - 1; omega
      · show 2 ^ all.length - 1 - (w + 1) < 2 ^ all.length - 1 - w; omega
    refine ei _ (ai hbad_ok (ei ((n, l)) (ei [] (ai (ai rfl (ai rfl (ai rfl (ai rfl (ai (fun _ => Or.inl rfl) (ai (by first | exact nof | exact (fun _ => ai rfl rfl)) (by first | exact Or.inl rfl | exact Or.inr rfl))))))) (ai (by (repeat' (first | with_reducible rfl | exact trivial | refine ai ?_ ?_ | (show (_ : Int) = _; first | with_reducible rfl | exact wr1 (by omega) | (simp only [zz, reduceCtorEq] <;> first | done | rfl | omega) | omega | rfl) | exact rfl | exact (fun _ => rfl) | exact (fun _ _ => rfl) | exact nof))) (ai trivial (ai (⟨hn, by show l.length ≤ 1000000; omega⟩) ?_)))))))
    refine bcase_n (p := badL n l = []) (by exact neE (badL n l)) (fun h5 => ?_) (fun h5 => ?_)
    · skip
      refine ei (w + 1) (ai (ai rfl rfl) (ai (ai ?_ rfl) (ai ?_ ?_)))
      · skip
        (repeat' (first | exact rfl | exact trivial | exact (fun _ => rfl) | exact (fun _ _ => rfl) | exact nof | refine ai ?_ ?_))
        · show (_ : Int) = ((BitVec.ofNat 64 (w + 1)).toNat : Int)
          rw [hW1]; simp only [zz, reduceCtorEq]
        · show (b.toNat : Int) = ((fTo n t all (w + 1)).1.toNat : Int)
          rw [no (fun h => h5 h.2.1.2)]
        · show (m : Int) = ((fTo n t all (w + 1)).2 : Int)
          rw [no (fun h => h5 h.2.1.2)]
      · show w + 1 ≤ 2 ^ all.length - 1; omega
      · show 2 ^ all.length - 1 - (w + 1) < 2 ^ all.length - 1 - w; omega
    have hgo : ¬ betterL l W b m → fTo n t all (w + 1) = (b, m) := fun h => no fun h2 => h h2.2.2
    have hyes : betterL l W b m → fTo n t all (w + 1) = (W, litL l) := fun h => yes ⟨by omega, ⟨h4, h5⟩, h⟩
    refine ei _ (ai d2 (ei (()) (ei [] (ai (ai rfl (ai rfl (ai rfl (ai rfl (ai (fun _ => Or.inl rfl) (ai (by first | exact nof | exact (fun _ => ai rfl rfl)) (by first | exact Or.inl rfl | exact Or.inr rfl))))))) (ai (by (repeat' (first | with_reducible rfl | exact trivial | refine ai ?_ ?_ | (show (_ : Int) = _; first | with_reducible rfl | exact wr1 (by omega) | (simp only [zz, reduceCtorEq] <;> first | done | rfl | omega) | omega | rfl) | exact rfl | exact (fun _ => rfl) | exact (fun _ _ => rfl) | exact nof))) (ai trivial (ai (trivial) ?_)))))))
    refine bcase_b (b := false) (by (first | (simp only [beq_self_eq_true, Bool.and_true, Bool.and_self]; done) | (simp only [hz, Int.add_zero, wrap_z]; done) | (simp only [hz, Int.add_zero, wrap_z]; rfl) | decide | rfl | decide | (simp; done))) (fun h => absurd h (by decide)) (fun _ => ?_)
    refine ei _ (ai rev_ok (ei (W ^^^ b) (ei [] (ai (ai rfl (ai rfl (ai rfl (ai rfl (ai (fun _ => Or.inl rfl) (ai (by first | exact nof | exact (fun _ => ai rfl rfl)) (by first | exact Or.inl rfl | exact Or.inr rfl))))))) (ai (by (repeat' (first | with_reducible rfl | exact trivial | refine ai ?_ ?_ | (show (_ : Int) = _; first | with_reducible rfl | exact wr1 (by omega) | (simp only [zz, reduceCtorEq] <;> first | done | rfl | omega) | omega | rfl) | exact rfl | exact (fun _ => rfl) | exact (fun _ _ => rfl) | exact nof))) (ai trivial (ai (trivial) ?_)))))))
    have hrz : revU (W ^^^ b) ≠ 0#64 := fun e => hne (rev_zero.1 e)
    obtain ⟨hl1, hl2⟩ := len_zero hrz
    refine ei _ (ai len_ok (ei (revU (W ^^^ b)) (ei [] (ai (ai rfl (ai rfl (ai rfl (ai rfl (ai (fun _ => Or.inl rfl) (ai (by first | exact nof | exact (fun _ => ai rfl rfl)) (by first | exact Or.inl rfl | exact Or.inr rfl))))))) (ai (by (repeat' (first | with_reducible rfl | exact trivial | refine ai ?_ ?_ | (show (_ : Int) = _; first | with_reducible rfl | exact wr1 (by omega) | (simp only [zz, reduceCtorEq] <;> first | done | rfl | omega) | omega | rfl) | exact rfl | exact (fun _ => rfl) | exact (fun _ _ => rfl) | exact nof))) (ai trivial (ai (trivial) ?_)))))))
    have ew : IntKind.i64.wrap ((lenU (revU (W ^^^ b)) : Int) - 1) = ((lenU (revU (W ^^^ b)) - 1 : Nat) : Int) := by rw [wrap_in (by omega) (by omega)]; omega
    refine ai (by show 0 ≤ IntKind.i64.wrap ((lenU (revU (W ^^^ b)) : Int) - 1); rw [ew]; exact Int.natCast_nonneg _) ?_
    refine ei _ (ai rev_ok (ei (1#64 <<< (lenU (revU (W ^^^ b)) - 1)) (ei [] (ai (ai rfl (ai rfl (ai rfl (ai rfl (ai (fun _ => Or.inl rfl) (ai (by first | exact nof | exact (fun _ => ai rfl rfl)) (by first | exact Or.inl rfl | exact Or.inr rfl))))))) (ai ?_ (ai trivial (ai ?_ ?_)))))))
    · skip
      (repeat' (first | exact rfl | exact trivial | exact (fun _ => rfl) | exact (fun _ _ => rfl) | exact nof | refine ai ?_ ?_))
      show IntKind.u64.wrap (1 * 2 ^ min (IntKind.i64.wrap ((lenU (revU (W ^^^ b)) : Int) - 1)).toNat IntKind.u64.bits) = _
      rw [ew, Int.toNat_natCast, zJ]
    · trivial
    refine ei _ (ai ones_ok' (ei (b) (ei [] (ai (ai rfl (ai rfl (ai rfl (ai rfl (ai (fun _ => Or.inl rfl) (ai (by first | exact nof | exact (fun _ => ai rfl rfl)) (by first | exact Or.inl rfl | exact Or.inr rfl))))))) (ai (by (repeat' (first | with_reducible rfl | exact trivial | refine ai ?_ ?_ | (show (_ : Int) = _; first | with_reducible rfl | exact wr1 (by omega) | (simp only [zz, reduceCtorEq] <;> first | done | rfl | omega) | omega | rfl) | exact rfl | exact (fun _ => rfl) | exact (fun _ _ => rfl) | exact nof))) (ai trivial (ai (hb) ?_)))))))
    refine ei _ (ai cmpI_ok (ei (((l.length : Int), (popU b : Int))) (ei [] (ai (ai rfl (ai rfl (ai rfl (ai rfl (ai (fun _ => Or.inl rfl) (ai (by first | exact nof | exact (fun _ => ai rfl rfl)) (by first | exact Or.inl rfl | exact Or.inr rfl))))))) (ai (by (repeat' (first | with_reducible rfl | exact trivial | refine ai ?_ ?_ | (show (_ : Int) = _; first | with_reducible rfl | exact wr1 (by omega) | (simp only [zz, reduceCtorEq] <;> first | done | rfl | omega) | omega | rfl) | exact rfl | exact (fun _ => rfl) | exact (fun _ _ => rfl) | exact nof))) (ai trivial (ai (trivial) ?_)))))))
    refine ei _ (ai cmpI_ok (ei (((litL l : Int), (m : Int))) (ei [] (ai (ai rfl (ai rfl (ai rfl (ai rfl (ai (fun _ => Or.inl rfl) (ai (by first | exact nof | exact (fun _ => ai rfl rfl)) (by first | exact Or.inl rfl | exact Or.inr rfl))))))) (ai (by (repeat' (first | with_reducible rfl | exact trivial | refine ai ?_ ?_ | (show (_ : Int) = _; first | with_reducible rfl | exact wr1 (by omega) | (simp only [zz, reduceCtorEq] <;> first | done | rfl | omega) | omega | rfl) | exact rfl | exact (fun _ => rfl) | exact (fun _ _ => rfl) | exact nof))) (ai trivial (ai (trivial) ?_)))))))
    refine ei _ (ai or_ok (ei ((cmpI (l.length : Int) (popU b : Int), cmpI (litL l : Int) (m : Int))) (ei [] (ai (ai rfl (ai rfl (ai rfl (ai rfl (ai (fun _ => Or.inl rfl) (ai (by first | exact nof | exact (fun _ => ai rfl rfl)) (by first | exact Or.inl rfl | exact Or.inr rfl))))))) (ai ?_ (ai trivial (ai ?_ ?_)))))))
    · skip
      (repeat' (first | exact rfl | exact trivial | exact (fun _ => rfl) | exact (fun _ _ => rfl) | exact nof | refine ai ?_ ?_))
      intro k hk
      obtain rfl | rfl : k = 0 ∨ k = 1 := by have : k < 2 := hk; omega
      · rfl
      · rfl
    · trivial
    refine bcase_p (p := (l.length < popU b ∨ l.length = popU b ∧ litL l < m)) (by show decide ((if cmpI (l.length : Int) (popU b : Int) = 0 then cmpI (litL l : Int) (m : Int) else cmpI (l.length : Int) (popU b : Int)) < 0) = true ↔ _; rw [decide_eq_true_iff, orC]; omega) (fun h6 => ?_) (fun h6 => ?_)
    · skip
      refine ei (w + 1) (ai (ai rfl rfl) (ai (ai ?_ rfl) (ai ?_ ?_)))
      · skip
        (repeat' (first | exact rfl | exact trivial | exact (fun _ => rfl) | exact (fun _ _ => rfl) | exact nof | refine ai ?_ ?_))
        · show (_ : Int) = ((BitVec.ofNat 64 (w + 1)).toNat : Int)
          rw [hW1]; simp only [zz, reduceCtorEq]
        · show (W.toNat : Int) = ((fTo n t all (w + 1)).1.toNat : Int)
          rw [hyes (h6.elim .inl fun h => .inr ⟨h.1, .inl h.2⟩)]
        · show (litL l : Int) = ((fTo n t all (w + 1)).2 : Int)
          rw [hyes (h6.elim .inl fun h => .inr ⟨h.1, .inl h.2⟩)]
      · show w + 1 ≤ 2 ^ all.length - 1; omega
      · show 2 ^ all.length - 1 - (w + 1) < 2 ^ all.length - 1 - w; omega
    refine ei _ (ai ones_ok' (ei (b) (ei [] (ai (ai rfl (ai rfl (ai rfl (ai rfl (ai (fun _ => Or.inl rfl) (ai (by first | exact nof | exact (fun _ => ai rfl rfl)) (by first | exact Or.inl rfl | exact Or.inr rfl))))))) (ai (by (repeat' (first | with_reducible rfl | exact trivial | refine ai ?_ ?_ | (show (_ : Int) = _; first | with_reducible rfl | exact wr1 (by omega) | (simp only [zz, reduceCtorEq] <;> first | done | rfl | omega) | omega | rfl) | exact rfl | exact (fun _ => rfl) | exact (fun _ _ => rfl) | exact nof))) (ai trivial (ai (hb) ?_)))))))
    refine bcase_p (p := l.length = popU b) (by first | (with_reducible refine bif_lt ?_; omega) | (with_reducible refine bif_le ?_; omega) | (with_reducible refine bif_eq ?_; omega) | (with_reducible refine bif_ne ?_; omega) | exact b8_eq rfl | exact b8_ne rfl | exact bif_lt (by omega) | exact bif_le (by omega) | exact bif_eq (by omega) | exact bif_ne (by omega) | exact Iff.rfl | (simp only [zz, reduceCtorEq] <;> first | done | omega | exact Iff.rfl) | (simp; done) | (simp; omega)) (fun h7 => ?_) (fun h7 => ?_)
    · skip
      refine bcase_p (p := litL l = m) (by first | (with_reducible refine bif_lt ?_; omega) | (with_reducible refine bif_le ?_; omega) | (with_reducible refine bif_eq ?_; omega) | (with_reducible refine bif_ne ?_; omega) | exact b8_eq rfl | exact b8_ne rfl | exact bif_lt (by omega) | exact bif_le (by omega) | exact bif_eq (by omega) | exact bif_ne (by omega) | exact Iff.rfl | (simp only [zz, reduceCtorEq] <;> first | done | omega | exact Iff.rfl) | (simp; done) | (simp; omega)) (fun h8 => ?_) (fun h8 => ?_)
      · skip
        refine bcase_p (p := earl W b = true) (by show (bits .and .u64 (W.toNat : Int) (revU (1#64 <<< (lenU (revU (W ^^^ b)) - 1))).toNat != 0) = true ↔ _; rw [zA, zN]; exact Iff.rfl) (fun h9 => ?_) (fun h9 => ?_)
        · skip
          refine ei (w + 1) (ai (ai rfl rfl) (ai (ai ?_ rfl) (ai ?_ ?_)))
          · skip
            (repeat' (first | exact rfl | exact trivial | exact (fun _ => rfl) | exact (fun _ _ => rfl) | exact nof | refine ai ?_ ?_))
            · show (_ : Int) = ((BitVec.ofNat 64 (w + 1)).toNat : Int)
              rw [hW1]; simp only [zz, reduceCtorEq]
            · show (W.toNat : Int) = ((fTo n t all (w + 1)).1.toNat : Int)
              rw [hyes (.inr ⟨h7, .inr ⟨h8, h9⟩⟩)]
            · show (litL l : Int) = ((fTo n t all (w + 1)).2 : Int)
              rw [hyes (.inr ⟨h7, .inr ⟨h8, h9⟩⟩)]
          · show w + 1 ≤ 2 ^ all.length - 1; omega
          · show 2 ^ all.length - 1 - (w + 1) < 2 ^ all.length - 1 - w; omega
        · skip
          refine ei (w + 1) (ai (ai rfl rfl) (ai (ai ?_ rfl) (ai ?_ ?_)))
          · skip
            (repeat' (first | exact rfl | exact trivial | exact (fun _ => rfl) | exact (fun _ _ => rfl) | exact nof | refine ai ?_ ?_))
            · show (_ : Int) = ((BitVec.ofNat 64 (w + 1)).toNat : Int)
              rw [hW1]; simp only [zz, reduceCtorEq]
            · show (b.toNat : Int) = ((fTo n t all (w + 1)).1.toNat : Int)
              rw [hgo (fun h => h.elim (fun h => h6 (.inl h)) fun h => h.2.elim (fun h2 => h6 (.inr ⟨h.1, h2⟩)) fun h2 => h9 h2.2)]
            · show (m : Int) = ((fTo n t all (w + 1)).2 : Int)
              rw [hgo (fun h => h.elim (fun h => h6 (.inl h)) fun h => h.2.elim (fun h2 => h6 (.inr ⟨h.1, h2⟩)) fun h2 => h9 h2.2)]
          · show w + 1 ≤ 2 ^ all.length - 1; omega
          · show 2 ^ all.length - 1 - (w + 1) < 2 ^ all.length - 1 - w; omega
      · skip
        refine ei (w + 1) (ai (ai rfl rfl) (ai (ai ?_ rfl) (ai ?_ ?_)))
        · skip
          (repeat' (first | exact rfl | exact trivial | exact (fun _ => rfl) | exact (fun _ _ => rfl) | exact nof | refine ai ?_ ?_))
          · show (_ : Int) = ((BitVec.ofNat 64 (w + 1)).toNat : Int)
            rw [hW1]; simp only [zz, reduceCtorEq]
          · show (b.toNat : Int) = ((fTo n t all (w + 1)).1.toNat : Int)
            rw [hgo (fun h => h.elim (fun h => h6 (.inl h)) fun h => h.2.elim (fun h2 => h6 (.inr ⟨h.1, h2⟩)) fun h2 => h8 h2.1)]
          · show (m : Int) = ((fTo n t all (w + 1)).2 : Int)
            rw [hgo (fun h => h.elim (fun h => h6 (.inl h)) fun h => h.2.elim (fun h2 => h6 (.inr ⟨h.1, h2⟩)) fun h2 => h8 h2.1)]
        · show w + 1 ≤ 2 ^ all.length - 1; omega
        · show 2 ^ all.length - 1 - (w + 1) < 2 ^ all.length - 1 - w; omega
    · skip
      refine ei (w + 1) (ai (ai rfl rfl) (ai (ai ?_ rfl) (ai ?_ ?_)))
      · skip
        (repeat' (first | exact rfl | exact trivial | exact (fun _ => rfl) | exact (fun _ _ => rfl) | exact nof | refine ai ?_ ?_))
        · show (_ : Int) = ((BitVec.ofNat 64 (w + 1)).toNat : Int)
          rw [hW1]; simp only [zz, reduceCtorEq]
        · show (b.toNat : Int) = ((fTo n t all (w + 1)).1.toNat : Int)
          rw [hgo (fun h => h.elim (fun h => h6 (.inl h)) fun h => h7 h.1)]
        · show (m : Int) = ((fTo n t all (w + 1)).2 : Int)
          rw [hgo (fun h => h.elim (fun h => h6 (.inl h)) fun h => h7 h.1)]
      · show w + 1 ≤ 2 ^ all.length - 1; omega
      · show 2 ^ all.length - 1 - (w + 1) < 2 ^ all.length - 1 - w; omega
  · obtain rfl : w = 2 ^ all.length - 1 := by omega
    have hlt := fTo_lt (n := n) (t := t) h16 hw
    refine ei _ (ai hch_ok (ei ((all, (fTo n t all (2 ^ all.length - 1)).1)) (ei [] (ai (ai rfl (ai rfl (ai rfl (ai rfl (ai (fun _ => Or.inl rfl) (ai (by first | exact nof | exact (fun _ => ai rfl rfl)) (by first | exact Or.inl rfl | exact Or.inr rfl))))))) (ai (by (repeat' (first | with_reducible rfl | exact trivial | refine ai ?_ ?_ | (show (_ : Int) = _; first | with_reducible rfl | exact wr1 (by omega) | (simp only [zz, reduceCtorEq] <;> first | done | rfl | omega) | omega | rfl) | exact rfl | exact (fun _ => rfl) | exact (fun _ _ => rfl) | exact nof))) (ai trivial (ai ((by show all.length ≤ 1000; omega)) ?_)))))))
    refine ai (ai (fun _ => (by (repeat' (first | exact rfl | exact trivial | exact (fun _ => rfl) | exact (fun _ _ => rfl) | exact nof | refine ai ?_ ?_)))) ?_) trivial
    show ple _ (.tup [csP (formL n t), iP 0])
    rw [hres, ← hz]
    any_goals (repeat' (first | with_reducible rfl | exact trivial | refine ai ?_ ?_ | (show (_ : Int) = _; first | with_reducible rfl | exact wr1 (by omega) | (simp only [zz, reduceCtorEq] <;> first | done | rfl | omega) | omega | rfl) | exact rfl | exact (fun _ => rfl) | exact (fun _ _ => rfl) | exact nof))

end Go.Sx.Pn
