import Derived.Test.YtdadaddakcidjaaDoorSlg
/-! ### Types and values: what they come to, in plain Lean -/
namespace Go.SL
set_option linter.all false
def okForm (k n : Int) (m : Nat) : Bool :=
  if k = 1 then decide (m = 0) && (decide (n = 1) || decide (n = 2) || decide (n = 4) || decide (n = 8) || decide (n = 32))
  else if k = 2 then decide (m = 0) && decide (n = 0)
  else if k = 3 ∨ k = 4 then decide (m = 1) && decide (1 ≤ n) && decide (n ≤ 512)
  else if k = 5 ∨ k = 6 then decide (m = 0) && decide (1 ≤ n) && decide (n ≤ 512)
  else if k = 7 then decide (n = 0) && decide (1 ≤ m) && decide (m ≤ 16)
  else decide (n = 0) && decide (1 ≤ m) && decide (m ≤ 8)
mutual
def chk : Ty → Int → Int
  | .mk k n _ ins, d => if k < 1 ∨ 8 < k then 9 else if okForm k n ins.length = false then 2 else if 6 ≤ d then 7 else chkL ins (d + 1)
def chkL : List Ty → Int → Int
  | [], _ => 0
  | x :: xs, d => if chk x d = 0 then chkL xs d else chk x d
end
mutual
def fixT : Ty → Bool
  | .mk k _ _ ins => !(decide (k = 4) || decide (k = 6) || decide (k = 8)) && fixL ins
def fixL : List Ty → Bool
  | [] => true
  | x :: xs => fixT x && fixL xs
end
mutual
def sizT : Ty → Int
  | .mk k n _ ins => if k = 1 then n else if k = 2 then 1 else if k = 5 then (n + 7) / 8 else if k = 3 then n * sizL ins else sizL ins
def sizL : List Ty → Int
  | [] => 0
  | x :: xs => sizT x + sizL xs
end
def isFix (t : Ty) : Bool := decide (chk t 0 = 0) && fixT t
def sizeT (t : Ty) : Int := if isFix t then sizT t else 0
mutual
def sameV : Vl → Vl → Bool
  | .mk a b c d bits _ items _ pick, v => decide ([a, b, c, d] = v.num) && decide (pick = v.pick) && decide (bits = v.bits) && sameL items v.items
def sameL : List Vl → List Vl → Bool
  | [], [] => true
  | x :: xs, y :: ys => sameV x y && sameL xs ys
  | _, _ => false
end
mutual
def typN : Ty → Int → Int → Int
  | .mk _ _ _ ins, most, deep => if deep < 0 then most + 1 else typL ins most deep 1
def typL : List Ty → Int → Int → Int → Int
  | [], _, _, n => n
  | x :: xs, most, deep, n => if n ≤ most then typL xs most deep (n + typN x (most - n) (deep - 1)) else n
end
mutual
def valN : Vl → Int → Int → Int
  | .mk _ _ _ _ bits _ items _ _, most, deep => if deep < 0 ∨ most < 1 + ((bits.length / 8 : Nat) : Int) then most + 1 else valL items most deep (1 + ((bits.length / 8 : Nat) : Int))
def valL : List Vl → Int → Int → Int → Int
  | [], _, _, n => n
  | x :: xs, most, deep, n => if n ≤ most then valL xs most deep (n + valN x (most - n) (deep - 1)) else n
end
theorem Ty.ind {M : Ty → Prop} (h : ∀ k n p ins, (∀ x ∈ ins, M x) → M (.mk k n p ins)) : ∀ t, M t
  | .mk k n p ins => h k n p ins fun x hx => Ty.ind h x
theorem Vl.ind {M : Vl → Prop} (h : ∀ a b c d bits pb items pi pick, (∀ x ∈ items, M x) → M (.mk a b c d bits pb items pi pick)) : ∀ t, M t
  | .mk a b c d bits pb items pi pick => h a b c d bits pb items pi pick fun x hx => Vl.ind h x
theorem typN_le (t : Ty) : ∀ most deep : Int, 0 ≤ most → 1 ≤ typN t most deep ∧ typN t most deep ≤ most + 1 := by
  induction t using Ty.ind with
  | h k n p ins ih =>
    intro most deep hm
    have hL : ∀ l : List Ty, (∀ x ∈ l, x ∈ ins) → ∀ m : Int, 1 ≤ m → m ≤ most + 1 → 1 ≤ typL l most deep m ∧ typL l most deep m ≤ most + 1 := by
      intro l
      induction l with
      | nil => intro _ m h1 h2; exact ⟨by rw [typL]; exact h1, by rw [typL]; exact h2⟩
      | cons x xs ihl =>
        intro hs m h1 h2
        rw [typL]
        split
        · have := ih x (hs x (by simp)) (most - m) (deep - 1) (by omega)
          exact ihl (fun y hy => hs y (by simp [hy])) _ (by omega) (by omega)
        · exact ⟨h1, h2⟩
    rw [typN]
    split
    · omega
    · exact hL ins (fun _ h => h) 1 (by omega) (by omega)
theorem valN_le (t : Vl) : ∀ most deep : Int, 0 ≤ most → 1 ≤ valN t most deep ∧ valN t most deep ≤ most + 1 := by
  induction t using Vl.ind with
  | h a b c d bits pb items pi pick ih =>
    intro most deep hm
    have hL : ∀ l : List Vl, (∀ x ∈ l, x ∈ items) → ∀ m : Int, 1 ≤ m → m ≤ most + 1 → 1 ≤ valL l most deep m ∧ valL l most deep m ≤ most + 1 := by
      intro l
      induction l with
      | nil => intro _ m h1 h2; exact ⟨by rw [valL]; exact h1, by rw [valL]; exact h2⟩
      | cons x xs ihl =>
        intro hs m h1 h2
        rw [valL]
        split
        · have := ih x (hs x (by simp)) (most - m) (deep - 1) (by omega)
          exact ihl (fun y hy => hs y (by simp [hy])) _ (by omega) (by omega)
        · exact ⟨h1, h2⟩
    rw [valN]
    split
    · omega
    · exact hL items (fun _ h => h) _ (by omega) (by omega)
theorem chkL_mem : ∀ {l : List Ty} {d : Int}, chkL l d = 0 → ∀ x ∈ l, chk x d = 0
  | [], _, _, x, hx => by simp at hx
  | y :: l, d, h, x, hx => by
    rw [chkL] at h
    split at h
    · rename_i h0
      rcases List.mem_cons.1 hx with rfl | hx
      · exact h0
      · exact chkL_mem h x hx
    · rename_i h0; exact absurd h h0
theorem chkL_all : ∀ {l : List Ty} {d : Int}, (∀ x ∈ l, chk x d = 0) → chkL l d = 0
  | [], _, _ => by rw [chkL]
  | y :: l, d, h => by rw [chkL, if_pos (h y (by simp))]; exact chkL_all fun x hx => h x (by simp [hx])
theorem fixL_mem : ∀ {l : List Ty}, fixL l = true ↔ ∀ x ∈ l, fixT x = true
  | [] => by simp [fixL]
  | y :: l => by rw [fixL, Bool.and_eq_true, fixL_mem]; simp
/-- What a type that is one owes. -/
theorem chk_mk {k n : Int} {p : Pl} {ins : List Ty} {d : Int} (h : chk (.mk k n p ins) d = 0) : (1 ≤ k ∧ k ≤ 8) ∧ okForm k n ins.length = true ∧ d < 6 ∧ ∀ x ∈ ins, chk x (d + 1) = 0 := by
  rw [chk] at h
  split at h
  · cases h
  · split at h
    · cases h
    · split at h
      · cases h
      · rename_i h1 h2 h3
        exact ⟨by omega, by simpa using h2, by omega, chkL_mem h⟩
def bnd : Nat → Int
  | 0 => 64
  | m + 1 => 512 * bnd m
theorem bnd_pos : ∀ m, 64 ≤ bnd m
  | 0 => by decide
  | m + 1 => by have := bnd_pos m; rw [bnd]; omega
theorem bnd_le {m : Nat} (h : m ≤ 5) : bnd m ≤ 2251799813685248 := by
  have : ∀ m : Nat, m < 6 → bnd m ≤ 2251799813685248 := by decide
  exact this m (by omega)
theorem sizL_le {B : Int} : ∀ {l : List Ty}, (∀ x ∈ l, 1 ≤ sizT x ∧ sizT x ≤ B) → (l.length : Int) ≤ sizL l ∧ sizL l ≤ l.length * B
  | [], _ => by simp [sizL]
  | y :: l, h => by
    have h1 := h y (by simp)
    have h2 := sizL_le (l := l) fun x hx => h x (by simp [hx])
    rw [sizL, List.length_cons]
    have e : ((l.length + 1 : Nat) : Int) * B = l.length * B + B := by rw [Int.natCast_add, Int.add_mul]; simp
    omega
theorem siz_le (t : Ty) : ∀ d : Int, 0 ≤ d → chk t d = 0 → fixT t = true → 1 ≤ sizT t ∧ sizT t ≤ bnd (5 - d).toNat := by
  induction t using Ty.ind with
  | h k n p ins ih =>
    intro d hd hc hf
    obtain ⟨hk, ho, h6, hi⟩ := chk_mk hc
    rw [fixT, Bool.and_eq_true] at hf
    have hb := bnd_pos (5 - d).toNat
    have hfix := fixL_mem.1 hf.2
    have hne : (k ≠ 4 ∧ k ≠ 6) ∧ k ≠ 8 := by simpa using hf.1
    unfold okForm at ho
    rw [sizT]
    by_cases h1 : k = 1
    · subst h1; simp at ho ⊢; omega
    by_cases h2 : k = 2
    · subst h2; simp; omega
    by_cases h5 : k = 5
    · subst h5; simp at ho ⊢; omega
    have hne0 : 1 ≤ ins.length ∧ ins.length ≤ 16 := by
      by_cases h3 : k = 3
      · subst h3; simp at ho; omega
      · have : k = 7 := by omega
        subst this; simp at ho; omega
    have hd5 : d < 5 := by
      obtain ⟨x, hx⟩ : ∃ x, x ∈ ins := ⟨ins[0], List.getElem_mem (by omega)⟩
      cases x with
      | mk a b c e => have := (chk_mk (hi _ hx)).2.2.1; omega
    have hs := sizL_le (B := bnd (5 - (d + 1)).toNat) fun x hx => ih x hx (d + 1) (by omega) (hi x hx) (hfix x hx)
    have e : (5 - d).toNat = (5 - (d + 1)).toNat + 1 := by omega
    rw [e, bnd]
    have hb2 := bnd_pos (5 - (d + 1)).toNat
    generalize bnd (5 - (d + 1)).toNat = B at *
    rw [if_neg h1, if_neg h2, if_neg h5]
    by_cases h3 : k = 3
    · subst h3
      simp at ho
      have hl : (ins.length : Int) = 1 := by omega
      rw [hl] at hs
      rw [if_pos rfl]
      generalize sizL ins = z at *
      constructor
      · exact Int.le_trans (by omega) (Int.mul_le_mul ho.1.2 hs.1 (by omega) (by omega))
      · exact Int.le_trans (Int.mul_le_mul ho.2 hs.2 (by omega) (by omega)) (by omega)
    · rw [if_neg h3]
      generalize sizL ins = z at *
      have : (ins.length : Int) * B ≤ 16 * B := Int.mul_le_mul_of_nonneg_right (by omega) (by omega)
      omega
theorem sameL_spec : ∀ {xs ys : List Vl}, sameL xs ys = true ↔ xs.length = ys.length ∧ ∀ (i : Nat) (x y : Vl), xs[i]? = some x → ys[i]? = some y → sameV x y = true
  | [], [] => by simp [sameL]
  | [], y :: ys => by simp [sameL]
  | x :: xs, [] => by simp [sameL]
  | x :: xs, y :: ys => by
    rw [sameL, Bool.and_eq_true, sameL_spec]
    constructor
    · rintro ⟨h1, h2, h3⟩
      refine ⟨by simp [h2], fun i a b ha hb => ?_⟩
      cases i with
      | zero => simp at ha hb; subst ha; subst hb; exact h1
      | succ i => exact h3 i a b (by simpa using ha) (by simpa using hb)
    · rintro ⟨h1, h2⟩
      exact ⟨h2 0 x y rfl rfl, by simpa using h1, fun i a b ha hb => h2 (i + 1) a b (by simpa using ha) (by simpa using hb)⟩
theorem sameV_refl (v : Vl) : sameV v v = true := by
  induction v using Vl.ind with
  | h a b c d bits pb items pi pick ih =>
    rw [sameV]
    have : sameL items items = true := sameL_spec.2 ⟨rfl, fun i x y hx hy => by rw [hx] at hy; cases hy; exact ih x (List.mem_of_getElem? hx)⟩
    simp [Vl.num, Vl.pick, Vl.bits, Vl.items, this]
end Go.SL
