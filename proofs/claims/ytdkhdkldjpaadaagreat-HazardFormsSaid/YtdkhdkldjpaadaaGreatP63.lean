/- A function of at most four variables has at most 16 prime implicants (the cubes). -/
import Derived.Test.YtdkhdkldjpaadaaGreatP62
set_option maxHeartbeats 1000000
set_option maxRecDepth 4000
set_option linter.unusedSimpArgs false
set_option linter.unusedVariables false
namespace Go.Sx.Pn
open Go Go.Proofs

theorem nodup_len {α : Type} [DecidableEq α] : ∀ (a b : List α), a.Nodup → (∀ x, x ∈ a → x ∈ b) → a.length ≤ b.length
  | [], _, _, _ => Nat.zero_le _
  | x :: a, b, h, hs => by
    obtain ⟨h1, h2⟩ := List.nodup_cons.1 h
    have hx := hs x (List.mem_cons_self ..)
    have := nodup_len a (b.erase x) h2 fun y hy => (List.mem_erase_of_ne (fun e => h1 (by rw [← e]; exact hy))).2 (hs y (List.mem_cons_of_mem _ hy))
    rw [List.length_erase_of_mem hx] at this
    have hb : 0 < b.length := List.length_pos_of_mem hx
    rw [List.length_cons]; omega

def pts (n : Nat) (c : Cu) : Nat := (ptsC c (2 ^ n)).toNat
def full (k m : Nat) : Nat := if k = 0 then m + 256 * m else if k = 1 then m + 256 * 0 else 0 + 256 * m
def mk4 (c : Cu) : Nat × Nat := if pts 4 c % 256 = pts 4 c / 256 then (0, pts 4 c % 256) else if pts 4 c / 256 = 0 then (1, pts 4 c) else (2, pts 4 c / 256)
def wide4 (c : Cu) : List Cu := ((List.range 4).map (wideC c)).filter fun d => d ≠ c
def wd4 (c : Cu) : List Nat := (((List.range 3).map (wideC c)).filter fun d => d ≠ c).map fun d => (mk4 d).2
def fact4 (c : Cu) : Bool :=
  decide ((mk4 c).1 < 3) && decide ((mk4 c).2 < 256) && decide ((mk4 c).2 ≠ 0) && decide (pts 4 c = full (mk4 c).1 (mk4 c).2) && K3.contains ((mk4 c).2, wd4 c)
    && (wd4 c).all (fun w => decide (w < 256) && (wide4 c).any fun d => decide (pts 4 d = full (mk4 c).1 w))
    && (decide ((mk4 c).1 = 0) || (wide4 c).any fun d => decide (pts 4 d = full 0 (mk4 c).2))
set_option maxRecDepth 100000 in
theorem facts4 : (cubesL 4).all fact4 = true := by decide +kernel
set_option maxRecDepth 100000 in
theorem nodup4 : ((cubesL 4).map mk4).Nodup := by decide +kernel
def wd3 (c : Cu) : List Nat := (((List.range 3).map (wideC c)).filter fun d => d ≠ c).map (pts 3)
set_option maxRecDepth 100000 in
theorem facts3 : (cubesL 3).all (fun c => K3.contains (pts 3 c, wd3 c)) = true := by decide +kernel
set_option maxRecDepth 100000 in
theorem nodup3 : ((cubesL 3).map (pts 3)).Nodup := by decide +kernel

theorem imp_sub {n : Nat} {t : U} {c : Cu} : impliesU n (tk n t) c = sub (pts n c) t.toNat := by
  have e : impliesU n (tk n t) c = (ptsC c (2 ^ n) &&& ~~~ (t ||| 0#64) == 0#64) := rfl
  rw [e, Bool.eq_iff_iff, beq_iff_eq, sub_bits, eq0_iff]
  constructor
  · intro h i hi
    have hi64 : i < 64 := Classical.byContradiction fun h64 => by
      have : (ptsC c (2 ^ n)).getLsbD i = false := BitVec.getLsbD_of_ge _ _ (by omega)
      rw [show (pts n c).testBit i = (ptsC c (2 ^ n)).getLsbD i from rfl, this] at hi; cases hi
    have h1 := h i hi64
    rw [BitVec.getLsbD_and, show (ptsC c (2 ^ n)).getLsbD i = true from hi, BitVec.getLsbD_not, BitVec.getLsbD_or] at h1
    have h2 : t.getLsbD i = true := by simpa [hi64] using h1
    exact h2
  · intro h i hi
    rw [BitVec.getLsbD_and, BitVec.getLsbD_not, BitVec.getLsbD_or]
    cases hp : (ptsC c (2 ^ n)).getLsbD i with
    | false => rfl
    | true => rw [show t.getLsbD i = true from h i hp]; simp
/-- no cube that is wider is inside -/
theorem no_wide {n : Nat} {t : U} {c d : Cu} (h : growsU n (tk n t) c = false) {i : Nat} (hi : i < n) (hd : d = wideC c i) (hne : d ≠ c) : sub (pts n d) t.toNat = false := by
  subst hd
  unfold growsU at h
  have := List.any_eq_false.1 h i (List.mem_range.2 hi)
  rw [growsAt, imp_sub] at this
  simpa [hne] using this
theorem prime4 {t : U} (ht : t.toNat < 65536) {c : Cu} (hc : c ∈ prL 4 t) : mk4 c ∈ Q4 (t.toNat % 256) (t.toNat / 256) := by
  obtain ⟨hcu, hp⟩ := List.mem_filter.1 hc
  obtain ⟨_, himp, hgr⟩ := prime_parts hp
  rw [imp_sub] at himp
  have hf := List.all_eq_true.1 facts4 c hcu
  simp only [fact4, Bool.and_eq_true, decide_eq_true_eq] at hf
  obtain ⟨⟨⟨⟨⟨⟨hk, hm⟩, hm0⟩, hpt⟩, hK⟩, hw⟩, hz⟩ := hf
  have hw4 : ∀ d, d ∈ wide4 c → sub (pts 4 d) t.toNat = false := fun d hd => by
    obtain ⟨h1, h2⟩ := List.mem_filter.1 hd
    obtain ⟨i, hi, e⟩ := List.mem_map.1 h1
    exact no_wide hgr (List.mem_range.1 hi) e.symm (by simpa using h2)
  have hws : ∀ w, w ∈ wd4 c → w < 256 ∧ sub (full (mk4 c).1 w) t.toNat = false := fun w hw1 => by
    have := List.all_eq_true.1 hw w hw1
    rw [Bool.and_eq_true, decide_eq_true_eq, List.any_eq_true] at this
    obtain ⟨h1, d, hd, e⟩ := this
    rw [decide_eq_true_eq] at e
    exact ⟨h1, by rw [← e]; exact hw4 d hd⟩
  have hz4 : (mk4 c).1 ≠ 0 → sub (full 0 (mk4 c).2) t.toNat = false := fun h0 => by
    rw [Bool.or_eq_true, decide_eq_true_eq, List.any_eq_true] at hz
    obtain ⟨d, hd, e⟩ := hz.resolve_left h0
    rw [decide_eq_true_eq] at e
    rw [← e]; exact hw4 d hd
  rw [hpt] at himp
  have hKm : ((mk4 c).2, wd4 c) ∈ K3 := by simpa using hK
  have hT : ∀ g, sub (mk4 c).2 g = true → (∀ w, w ∈ wd4 c → sub w g = false) → (mk4 c).2 ∈ T3 g := fun g h1 h2 => by
    refine List.mem_map.2 ⟨((mk4 c).2, wd4 c), List.mem_filter.2 ⟨hKm, ?_⟩, rfl⟩
    rw [h1, Bool.true_and]
    exact List.all_eq_true.2 fun w hw => by rw [h2 w hw]; rfl
  have hsplit : t.toNat = t.toNat % 256 + 256 * (t.toNat / 256) := by omega
  have hf1 : t.toNat % 256 < 256 := Nat.mod_lt _ (by decide)
  rw [hsplit] at himp hws hz4
  clear hw4 hsplit
  generalize t.toNat % 256 = f at *
  generalize t.toNat / 256 = g at *
  obtain ⟨⟨k, m⟩, h⟩ : ∃ p, mk4 c = p := ⟨_, rfl⟩
  rw [h] at hk hm hm0 himp hws hz4 hT
  dsimp only at hk hm hm0 himp hws hz4 hT
  rw [h]; unfold Q4
  obtain rfl | rfl | rfl : k = 0 ∨ k = 1 ∨ k = 2 := by omega
  · rw [show full 0 m = m + 256 * m from rfl, sub_two hm hf1, ← sub_and] at himp
    refine List.mem_append_left _ (List.mem_append_left _ (List.mem_map.2 ⟨m, hT _ himp fun w hw => ?_, rfl⟩))
    obtain ⟨h1, h2⟩ := hws w hw
    rw [show full 0 w = w + 256 * w from rfl, sub_two h1 hf1, ← sub_and] at h2
    exact h2
  · rw [show full 1 m = m + 256 * 0 from rfl, sub_two hm hf1, sub_zero, Bool.and_true] at himp
    refine List.mem_append_left _ (List.mem_append_right _ (List.mem_map.2 ⟨m, List.mem_filter.2 ⟨hT _ himp fun w hw => ?_, ?_⟩, rfl⟩))
    · obtain ⟨h1, h2⟩ := hws w hw
      rw [show full 1 w = w + 256 * 0 from rfl, sub_two h1 hf1, sub_zero, Bool.and_true] at h2
      exact h2
    · have h2 := hz4 (by decide)
      rw [show full 0 m = m + 256 * m from rfl, sub_two hm hf1, himp, Bool.true_and] at h2
      rw [h2]; rfl
  · rw [show full 2 m = 0 + 256 * m from rfl, sub_two (by decide) hf1, sub_zero, Bool.true_and] at himp
    refine List.mem_append_right _ (List.mem_map.2 ⟨m, List.mem_filter.2 ⟨hT _ himp fun w hw => ?_, ?_⟩, rfl⟩)
    · obtain ⟨h1, h2⟩ := hws w hw
      rw [show full 2 w = 0 + 256 * w from rfl, sub_two (by decide) hf1, sub_zero, Bool.true_and] at h2
      exact h2
    · have h2 := hz4 (by decide)
      rw [show full 0 m = m + 256 * m from rfl, sub_two hm hf1, himp, Bool.and_true] at h2
      rw [h2]; rfl
theorem few16 {n : Nat} (hn : n ≤ 4) {t : U} (ht : t.toNat < 2 ^ 2 ^ n) : (prL n t).length ≤ 16 := by
  obtain rfl | rfl | h2 : n = 4 ∨ n = 3 ∨ n ≤ 2 := by omega
  · have h1 := Q4_len (f := t.toNat % 256) (g := t.toNat / 256) (Nat.mod_lt _ (by decide)) (by have : t.toNat < 65536 := ht; omega)
    have hs : ((prL 4 t).map mk4).Nodup := List.Nodup.sublist (List.Sublist.map mk4 List.filter_sublist) nodup4
    have := nodup_len _ (Q4 (t.toNat % 256) (t.toNat / 256)) hs fun x hx => by
      obtain ⟨c, hc, rfl⟩ := List.mem_map.1 hx
      exact prime4 ht hc
    rw [List.length_map] at this
    omega
  · have ht : t.toNat < 256 := ht
    have hs : ((prL 3 t).map (pts 3)).Nodup := List.Nodup.sublist (List.Sublist.map _ List.filter_sublist) nodup3
    have := nodup_len _ (T3 t.toNat) hs fun x hx => by
      obtain ⟨c, hc, rfl⟩ := List.mem_map.1 hx
      obtain ⟨hcu, hp⟩ := List.mem_filter.1 hc
      obtain ⟨_, himp, hgr⟩ := prime_parts hp
      rw [imp_sub] at himp
      have hK : (pts 3 c, wd3 c) ∈ K3 := by simpa using List.all_eq_true.1 facts3 c hcu
      refine List.mem_map.2 ⟨(pts 3 c, wd3 c), List.mem_filter.2 ⟨hK, ?_⟩, rfl⟩
      rw [himp, Bool.true_and]
      refine List.all_eq_true.2 fun w hw => ?_
      obtain ⟨d, hd, rfl⟩ := List.mem_map.1 hw
      obtain ⟨h1, h2⟩ := List.mem_filter.1 hd
      obtain ⟨i, hi, e⟩ := List.mem_map.1 h1
      rw [no_wide hgr (List.mem_range.1 hi) e.symm (by simpa using h2)]; rfl
    rw [List.length_map, T3_at ht] at this
    exact Nat.le_trans this (len16_tbl _ ht)
  · have h3 : (prL n t).length ≤ (cubesL n).length := List.length_filter_le _ _
    have h4 : (cubesL n).length ≤ 16 := by
      obtain rfl | rfl | rfl : n = 0 ∨ n = 1 ∨ n = 2 := by omega
      all_goals decide +kernel
    omega

end Go.Sx.Pn
