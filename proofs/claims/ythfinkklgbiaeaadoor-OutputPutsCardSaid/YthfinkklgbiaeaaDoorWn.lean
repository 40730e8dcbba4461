import Derived.Test.YthfinkklgbiaeaaDoorWk
namespace Go.Proofs.YthfinkklgbiaeaaDoor
set_option linter.all false
open Go.SL Go.RowKit Go.Shelf
theorem pairE {p : List Nat × Int} {x : List Nat} {y : Int} (h1 : p.1 = x) (h2 : p.2 = y) : p = (x, y) := by cases p; simp_all
theorem addR_ok0 {a b : List Nat} (ha : WOk a) (hb : WOk b) : (addR a b).2 = 0 ↔ wN a + wN b < big := by
  have h := addR_fits ha hb
  split at h
  · simp [h, *]
  · rw [h]; simp [*]
theorem subR_ok0 {a b : List Nat} (ha : WOk a) (hb : WOk b) : (subR a b).2 = 0 ↔ wN b ≤ wN a := by
  have h := subR_fits ha hb
  split at h
  · simp [h, *]
  · rw [h]; simp [*]
theorem addR_num {a b : List Nat} (ha : WOk a) (hb : WOk b) (h0 : (addR a b).2 = 0) : wN (addR a b).1 = wN a + wN b := by
  have h := addR_fits ha hb
  rw [if_pos ((addR_ok0 ha hb).1 h0)] at h
  exact h.2
theorem subR_num {a b : List Nat} (ha : WOk a) (hb : WOk b) (h0 : (subR a b).2 = 0) : wN (subR a b).1 + wN b = wN a := by
  have h := subR_fits ha hb
  rw [if_pos ((subR_ok0 ha hb).1 h0)] at h
  exact h.2
theorem addR_bad {a b : List Nat} (ha : WOk a) (hb : WOk b) (h0 : ¬ (addR a b).2 = 0) : addR a b = (zW, 6) := by
  have h := addR_fits ha hb
  rw [if_neg (fun h => h0 ((addR_ok0 ha hb).2 h))] at h
  exact h
theorem subR_bad {a b : List Nat} (ha : WOk a) (hb : WOk b) (h0 : ¬ (subR a b).2 = 0) : subR a b = (zW, 6) := by
  have h := subR_fits ha hb
  rw [if_neg (fun h => h0 ((subR_ok0 ha hb).2 h))] at h
  exact h
theorem addR_comm {a b : List Nat} (ha : WOk a) (hb : WOk b) : addR b a = addR a b := by
  by_cases h : (addR a b).2 = 0
  · have h' : (addR b a).2 = 0 := (addR_ok0 hb ha).2 (by have := (addR_ok0 ha hb).1 h; omega)
    refine pairE (x := (addR a b).1) (y := (addR a b).2) (wN_inj (addR_ok _ _) (addR_ok _ _) ?_) (h'.trans h.symm)
    rw [addR_num ha hb h, addR_num hb ha h']; omega
  · have h' : ¬ (addR b a).2 = 0 := fun h' => h ((addR_ok0 ha hb).2 (by have := (addR_ok0 hb ha).1 h'; omega))
    rw [addR_bad ha hb h, addR_bad hb ha h']
theorem addR_subR {a b : List Nat} (ha : WOk a) (hb : WOk b) (h : (addR a b).2 = 0) : subR (addR a b).1 b = (a, 0) := by
  have hn := addR_num ha hb h
  have h' : (subR (addR a b).1 b).2 = 0 := (subR_ok0 (addR_ok _ _) hb).2 (by omega)
  refine pairE (wN_inj (subR_ok _ _) ha ?_) h'
  have := subR_num (addR_ok a b) hb h'; omega
theorem subR_addR {a b : List Nat} (ha : WOk a) (hb : WOk b) (h : (subR a b).2 = 0) : addR (subR a b).1 b = (a, 0) := by
  have hn := subR_num ha hb h
  have hlt : wN a < big := wN_lt ha
  have h' : (addR (subR a b).1 b).2 = 0 := (addR_ok0 (subR_ok _ _) hb).2 (by omega)
  refine pairE (wN_inj (addR_ok _ _) ha ?_) h'
  rw [addR_num (subR_ok a b) hb h', hn]
theorem less_sub {a b : List Nat} (ha : WOk a) (hb : WOk b) : lessB a b = decide (¬ (subR a b).2 = 0) := by
  rw [lessB_eq ha hb, decide_eq_decide, subR_ok0 ha hb]; omega
def okk (a b c : List Nat) : Bool := decide ((addR a b).2 = 0) && decide ((addR (addR a b).1 c).2 = 0)
def okk' (a b c : List Nat) : Bool := decide ((addR b c).2 = 0) && decide ((addR a (addR b c).1).2 = 0)
theorem okk_iff {a b c : List Nat} (ha : WOk a) (hb : WOk b) (hc : WOk c) : okk a b c = true ↔ wN a + wN b + wN c < big := by
  unfold okk
  simp only [Bool.and_eq_true, decide_eq_true_eq]
  by_cases h : (addR a b).2 = 0
  · rw [addR_ok0 (addR_ok a b) hc, addR_num ha hb h]; simp [h]
  · have := (not_congr (addR_ok0 ha hb)).1 h
    constructor
    · rintro ⟨h1, _⟩; exact absurd h1 h
    · intro h1; omega
theorem okk'_iff {a b c : List Nat} (ha : WOk a) (hb : WOk b) (hc : WOk c) : okk' a b c = true ↔ wN a + wN b + wN c < big := by
  unfold okk'
  simp only [Bool.and_eq_true, decide_eq_true_eq]
  by_cases h : (addR b c).2 = 0
  · rw [addR_ok0 ha (addR_ok b c), addR_num hb hc h]; simp [h]; omega
  · have := (not_congr (addR_ok0 hb hc)).1 h
    constructor
    · rintro ⟨h1, _⟩; exact absurd h1 h
    · intro h1; omega
theorem okk_eq {a b c : List Nat} (ha : WOk a) (hb : WOk b) (hc : WOk c) : okk a b c = okk' a b c := by
  rw [Bool.eq_iff_iff, okk_iff ha hb hc, okk'_iff ha hb hc]
theorem many {a b c : List Nat} (ha : WOk a) (hb : WOk b) (hc : WOk c) (h : okk a b c = true) : (addR (addR a b).1 c).1 = (addR a (addR b c).1).1 := by
  have h' := h
  rw [okk_eq ha hb hc] at h'
  simp only [okk, okk', Bool.and_eq_true, decide_eq_true_eq] at h h'
  refine wN_inj (addR_ok _ _) (addR_ok _ _) ?_
  rw [addR_num (addR_ok _ _) hc h.2, addR_num ha hb h.1, addR_num ha (addR_ok _ _) h'.2, addR_num hb hc h'.1]; omega
/-! ### bytes are read again -/
theorem beD_unf {l : List Nat} (hl : WOk l) : unfW (beD l 32) = l := by
  have : unfW (beD l 32) = stW (dg l) 32 := stW_congr fun i hi => by
    have h := beD_get l (n := 32) (m := 31 - i) (by omega)
    have e : 32 - 1 - (31 - i) = i := by omega
    rw [e] at h
    rw [List.getD_eq_getElem?_getD, h, Option.getD_some, UInt8.toNat_ofNat', Nat.mod_eq_of_lt (dg_lt l i)]
  rw [this, st_dg hl]
theorem unfR_be {l : List Nat} (hl : WOk l) : unfR (beD l 32) = (l, 0) := by
  unfold unfR; rw [if_pos (beD_len l 32), beD_unf hl]
theorem dg_st {f : Nat → Nat} (hf : ∀ i, f i < 256) {i : Nat} (hi : i < 32) : dg (stW f 32) i = f i := by
  have h : stW (dg (stW f 32)) 32 = stW f 32 := st_dg (stW_ok hf 32)
  have h2 : sm (dg (stW f 32)) 32 = sm f 32 := by rw [← wN_st, h, wN_st]
  have key : ∀ n, ∀ g h : Nat → Nat, (∀ i, g i < 256) → (∀ i, h i < 256) → sm g n = sm h n → ∀ i, i < n → g i = h i := by
    intro n
    induction n with
    | zero => intro _ _ _ _ _ i hi; omega
    | succ n ih =>
      intro g h hg hh e i hi
      simp only [sm] at e
      have g1 := sm_lt hg n
      have h1 := sm_lt hh n
      have hp : 0 < 2 ^ (8 * n) := Nat.two_pow_pos _
      have et : g n = h n := by
        have a1 : (sm g n + g n * 2 ^ (8 * n)) / 2 ^ (8 * n) = g n := by rw [Nat.add_mul_div_right _ _ hp, Nat.div_eq_of_lt g1, Nat.zero_add]
        have a2 : (sm h n + h n * 2 ^ (8 * n)) / 2 ^ (8 * n) = h n := by rw [Nat.add_mul_div_right _ _ hp, Nat.div_eq_of_lt h1, Nat.zero_add]
        rw [← a1, ← a2, e]
      by_cases hin : i = n
      · subst hin; exact et
      · exact ih g h hg hh (by rw [et] at e; omega) i (by omega)
  exact key 32 _ _ (fun i => dg_lt _ _) hf h2 i hi
theorem unf_be {s : List UInt8} (hs : s.length = 32) : beD (unfW s) 32 = s := by
  apply List.ext_getElem?
  intro m
  by_cases hm : m < 32
  · rw [beD_get _ hm]
    unfold unfW
    rw [dg_st (fun _ => u8_lt _) (by omega), UInt8.ofNat_toNat, List.getD_eq_getElem?_getD]
    rw [show 31 - (32 - 1 - m) = m from by omega, List.getElem?_eq_getElem (by omega)]; rfl
  · rw [List.getElem?_eq_none (by rw [beD_len]; omega), List.getElem?_eq_none (by omega)]
theorem trimL_nil : ∀ {t : List UInt8}, Lib.hasPrefix t [0] = false → Lib.trimLeftB t 0 = t
  | [], _ => rfl
  | x :: t, h => by
    have hx : ¬ x = 0 := by rintro rfl; simp [Lib.hasPrefix, List.isPrefixOf] at h
    simp [Lib.trimLeftB, hx]
theorem trimL_rep {t : List UInt8} : ∀ n, Lib.trimLeftB (List.replicate n 0 ++ t) 0 = Lib.trimLeftB t 0
  | 0 => rfl
  | n + 1 => by simp [List.replicate_succ, Lib.trimLeftB, trimL_rep n]
theorem trimL_pre (t : List UInt8) : Lib.hasPrefix (Lib.trimLeftB t 0) [0] = false := by
  induction t with
  | nil => rfl
  | cons x t ih =>
    by_cases hx : x = 0
    · subst hx; simpa [Lib.trimLeftB] using ih
    · simp [Lib.trimLeftB, hx, Lib.hasPrefix, List.isPrefixOf]; exact fun e => hx e.symm
theorem trimL_split (t : List UInt8) : ∃ k, t = List.replicate k 0 ++ Lib.trimLeftB t 0 := by
  induction t with
  | nil => exact ⟨0, rfl⟩
  | cons x t ih =>
    by_cases hx : x = 0
    · subst hx
      obtain ⟨k, hk⟩ := ih
      refine ⟨k + 1, ?_⟩
      simp only [Lib.trimLeftB, if_true, List.replicate_succ, List.cons_append] at hk ⊢
      simpa using hk
    · exact ⟨0, by simp [Lib.trimLeftB, hx]⟩
theorem bytesW_len (l : List Nat) : (bytesW l).length ≤ 32 := by
  obtain ⟨k, hk⟩ := trimL_split (beD l 32)
  have h := congrArg List.length hk
  rw [beD_len, List.length_append, List.length_replicate] at h
  unfold bytesW; omega
theorem bytesW_pad (l : List Nat) : List.replicate (32 - (bytesW l).length) 0 ++ bytesW l = beD l 32 := by
  obtain ⟨k, hk⟩ := trimL_split (beD l 32)
  have h := congrArg List.length hk
  rw [beD_len, List.length_append, List.length_replicate] at h
  have e : 32 - (bytesW l).length = k := by unfold bytesW; omega
  rw [e]; exact hk.symm
theorem parseR_bytes {l : List Nat} (hl : WOk l) : parseR (bytesW l) = (l, 0) := by
  unfold parseR
  rw [if_neg (by have := bytesW_len l; omega), if_neg (by rw [show Lib.hasPrefix (bytesW l) [0] = false from trimL_pre _]; simp), bytesW_pad, beD_unf hl]
theorem parseR_ok (s : List UInt8) : WOk (parseR s).1 := by
  unfold parseR
  split
  · exact zW_ok
  · split
    · exact zW_ok
    · exact unfW_ok _
theorem unfR_ok (s : List UInt8) : WOk (unfR s).1 := by
  unfold unfR; split
  · exact unfW_ok _
  · exact zW_ok
theorem parseR_back {s : List UInt8} (h : (parseR s).2 = 0) : bytesW (parseR s).1 = s := by
  unfold parseR at h ⊢
  split at h
  · cases h
  · rename_i h1
    split at h
    · cases h
    · rename_i h2
      rw [if_neg h1, if_neg h2]
      show Lib.trimLeftB (beD (unfW _) 32) 0 = s
      rw [unf_be (by simp; omega), trimL_rep, trimL_nil (by simpa using h2)]
theorem unfR_back {s : List UInt8} (h : (unfR s).2 = 0) : beD (unfR s).1 32 = s := by
  unfold unfR at h ⊢
  split at h
  · rename_i h1; rw [if_pos h1]; exact unf_be h1
  · cases h
theorem less_be (a b : List Nat) : ∀ n, Op.bytesLess (beD a n) (beD b n) = decide (sm (dg a) n < sm (dg b) n)
  | 0 => by simp [beD, Op.bytesLess, sm]
  | n + 1 => by
    rw [Bool.eq_iff_iff, decide_eq_true_eq]
    simp only [beD, Op.bytesLess, less_be a b n, Bool.or_eq_true, Bool.and_eq_true, decide_eq_true_eq, beq_iff_eq]
    have h1 := sm_lt (dg_lt a) n
    have h2 := sm_lt (dg_lt b) n
    have e1 : (UInt8.ofNat (dg a n) < UInt8.ofNat (dg b n)) ↔ dg a n < dg b n := by
      rw [UInt8.lt_iff_toNat_lt, UInt8.toNat_ofNat', UInt8.toNat_ofNat', Nat.mod_eq_of_lt (dg_lt a n), Nat.mod_eq_of_lt (dg_lt b n)]
    have e2 : (UInt8.ofNat (dg a n) = UInt8.ofNat (dg b n)) ↔ dg a n = dg b n := by
      rw [← UInt8.toNat_inj, UInt8.toNat_ofNat', UInt8.toNat_ofNat', Nat.mod_eq_of_lt (dg_lt a n), Nat.mod_eq_of_lt (dg_lt b n)]
    rw [e1, e2]
    show _ ↔ sm (dg a) n + dg a n * 2 ^ (8 * n) < sm (dg b) n + dg b n * 2 ^ (8 * n)
    rcases Nat.lt_trichotomy (dg a n) (dg b n) with h | h | h
    · have hm : (dg a n + 1) * 2 ^ (8 * n) ≤ dg b n * 2 ^ (8 * n) := Nat.mul_le_mul_right _ h
      rw [Nat.add_mul] at hm
      constructor
      · intro _; omega
      · intro _; exact .inl h
    · rw [h]
      constructor
      · rintro (h3 | ⟨_, h3⟩) <;> omega
      · intro h3; exact .inr ⟨rfl, by omega⟩
    · have hm : (dg b n + 1) * 2 ^ (8 * n) ≤ dg a n * 2 ^ (8 * n) := Nat.mul_le_mul_right _ h
      rw [Nat.add_mul] at hm
      constructor
      · rintro (h3 | ⟨h3, _⟩) <;> omega
      · intro h3; omega
theorem less_bytes {a b : List Nat} (ha : WOk a) (hb : WOk b) : Op.bytesLess (beD a 32) (beD b 32) = decide (wN a < wN b) := by
  rw [less_be, sm_dg ha, sm_dg hb]
theorem eqC_num {a b : List Nat} (ha : WOk a) (hb : WOk b) : eqCells (a.map uV) (b.map uV) = decide (wN a = wN b) := by
  rw [eq_mapU (ha.1.trans hb.1.symm), decide_eq_decide]
  exact ⟨fun h => by rw [h], wN_inj ha hb⟩
theorem small_of (n : Nat) : smallB [n, 0, 0, 0] = true := by simp [smallB]
theorem small_eq {l : List Nat} (h : smallB l = true) : [l.getD 0 0, 0, 0, 0] = l := by
  simp only [smallB, decide_eq_true_eq] at h; exact h.symm
end Go.Proofs.YthfinkklgbiaeaaDoor
