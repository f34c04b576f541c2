/-
  The laws of the walks and the plain laws of numbers and polynomials, part 3: BasisMath, PolysPreds, BasisPreds, ExpMath, BasisWalk, MulMath, SpanMath, SpanWalk.
-/
import Derived.Test.YtbniolgfaeiedaaGreatLibB

/-
  Square-free bases. Plain numbers; no program in sight.
-/
namespace Go.Gx
/-! ### an order -/
theorem cmpTop_val (f g : List Int) : ∀ k, cmpTop f g k = -1 ∨ cmpTop f g k = 0 ∨ cmpTop f g k = 1
  | 0 => by simp [cmpTop]
  | k + 1 => by
    rw [cmpTop]
    split
    · exact cmpTop_val f g k
    · have := cmpZ_cases (co f k) (co g k); omega
theorem cmpTop_anti (f g : List Int) : ∀ k, cmpTop g f k = - cmpTop f g k
  | 0 => by simp [cmpTop]
  | k + 1 => by
    rw [cmpTop, cmpTop]
    by_cases h : co f k = co g k
    · rw [if_pos h, if_pos h.symm, cmpTop_anti f g k]
    · rw [if_neg h, if_neg fun e => h e.symm]
      have := cmpZ_cases (co f k) (co g k)
      have := cmpZ_cases (co g k) (co f k)
      omega
theorem cmpTop_trans {f g h : List Int} : ∀ k, cmpTop f g k < 0 → cmpTop g h k < 0 → cmpTop f h k < 0
  | 0, h1, _ => by simp [cmpTop] at h1
  | k + 1, h1, h2 => by
    rw [cmpTop] at h1 h2 ⊢
    have c1 := cmpZ_cases (co f k) (co g k)
    have c2 := cmpZ_cases (co g k) (co h k)
    have c3 := cmpZ_cases (co f k) (co h k)
    by_cases e1 : co f k = co g k
    · rw [if_pos e1] at h1
      by_cases e2 : co g k = co h k
      · rw [if_pos e2] at h2
        rw [if_pos (e1.trans e2)]
        exact cmpTop_trans k h1 h2
      · rw [if_neg e2] at h2
        rw [if_neg (by omega)]
        omega
    · rw [if_neg e1] at h1
      by_cases e2 : co g k = co h k
      · rw [if_neg (by omega)]; omega
      · rw [if_neg e2] at h2
        rw [if_neg (by omega)]; omega
theorem cmpP_anti (f g : List Int) : cmpP g f = - cmpP f g := by
  unfold cmpP
  rcases Nat.lt_trichotomy f.length g.length with h | h | h
  · rw [if_neg (Nat.lt_asymm h), if_pos h, if_pos h]; rfl
  · rw [if_neg (by omega), if_neg (by omega), if_neg (by omega), if_neg (by omega), h]
    exact cmpTop_anti f g _
  · rw [if_pos h, if_neg (Nat.lt_asymm h), if_pos h]
theorem cmpP_val (f g : List Int) : cmpP f g = -1 ∨ cmpP f g = 0 ∨ cmpP f g = 1 := by
  unfold cmpP
  split
  · exact .inl rfl
  · split
    · exact .inr (.inr rfl)
    · exact cmpTop_val _ _ _
theorem cmpP_trans {f g h : List Int} (h1 : cmpP f g < 0) (h2 : cmpP g h < 0) : cmpP f h < 0 := by
  unfold cmpP at *
  by_cases a1 : f.length < g.length
  · by_cases b1 : g.length < h.length
    · rw [if_pos (by omega)]; decide
    · rw [if_neg b1] at h2
      split at h2
      · omega
      · rw [if_pos (by omega)]; decide
  · rw [if_neg a1] at h1
    split at h1
    · omega
    · rename_i a2
      by_cases b1 : g.length < h.length
      · rw [if_pos (by omega)]; decide
      · rw [if_neg b1] at h2
        split at h2
        · omega
        · rename_i b2
          rw [if_neg (by omega), if_neg (by omega)]
          rw [show g.length = f.length by omega] at h2
          exact cmpTop_trans _ h1 h2
theorem cmpP_self (f : List Int) : cmpP f f = 0 := cmpP_zero.2 rfl
/-- Ascending lists with the same members are the same. -/
theorem sorted_eq : ∀ {a b : List (List Int)}, (a.Pairwise fun x y => cmpP x y < 0) → (b.Pairwise fun x y => cmpP x y < 0) → (∀ e, e ∈ a ↔ e ∈ b) → a = b
  | [], [], _, _, _ => rfl
  | [], y :: b, _, _, h => absurd ((h y).2 (by simp)) (by simp)
  | x :: a, [], _, _, h => absurd ((h x).1 (by simp)) (by simp)
  | x :: a, y :: b, ha, hb, h => by
    have ⟨a1, a2⟩ := List.pairwise_cons.1 ha
    have ⟨b1, b2⟩ := List.pairwise_cons.1 hb
    have hxy : x = y := by
      rcases List.mem_cons.1 ((h x).1 (by simp)) with h1 | h1
      · exact h1
      · rcases List.mem_cons.1 ((h y).2 (by simp)) with h2 | h2
        · exact h2.symm
        · have c1 := b1 x h1
          have c2 := a1 y h2
          have := cmpP_anti x y
          omega
    subst hxy
    rw [sorted_eq a2 b2 fun e => ⟨fun he => ?_, fun he => ?_⟩]
    · rcases List.mem_cons.1 ((h e).1 (by simp [he])) with h1 | h1
      · subst h1; have := a1 e he; rw [cmpP_self] at this; omega
      · exact h1
    · rcases List.mem_cons.1 ((h e).2 (by simp [he])) with h1 | h1
      · subst h1; have := b1 e he; rw [cmpP_self] at this; omega
      · exact h1
/-! ### classes -/
section
variable {κ : Type}
theorem nodup_at {l : List κ} {i : Nat} {k : κ} (h : l.Nodup) (hk : l[i]? = some k) : k ∉ l.take i := fun hm => by
  obtain ⟨j, hj, e⟩ := List.getElem_of_mem hm
  rw [List.length_take] at hj
  rw [List.getElem?_eq_some_iff] at hk
  obtain ⟨hi, e2⟩ := hk
  rw [List.getElem_take] at e
  have := (List.pairwise_iff_getElem.1 h) j i (by omega) hi (by omega)
  exact this (e.trans e2.symm)
theorem mem_take_succ {l : List κ} {i : Nat} {k x : κ} (hk : l[i]? = some k) : x ∈ l.take (i + 1) ↔ x ∈ l.take i ∨ x = k := by
  rw [List.take_add_one, hk]; simp
end
section
variable {κ : Type} [DecidableEq κ]
/-- The product of a class of irreducible ones. -/
structure Cl (key : QP → κ) (k : κ) (x : List Int) : Prop where
  n : Nrm x
  v : ∀ π, Irr π → va π (P x) = if key π = k then 1 else 0
theorem Cl.ex {key : QP → κ} {k : κ} {x : List Int} (h : Cl key k x) (h2 : 2 ≤ x.length) : ∃ π, Irr π ∧ π ∣ P x ∧ key π = k := by
  obtain ⟨π, hπ, hd⟩ := irr_factor (f := P x) (by rw [dg_P, h.n.t]; exact h2)
  have h1 := (va_pos hπ h.n.ne).1 hd
  rw [h.v π hπ] at h1
  by_cases hk : key π = k
  · exact ⟨π, hπ, hd, hk⟩
  · rw [if_neg hk] at h1; omega
theorem Cl.eq {key : QP → κ} {k : κ} {x y : List Int} (h : Cl key k x) (h' : Cl key k y) : x = y := h.n.eq_va h'.n fun π hπ => by rw [h.v π hπ, h'.v π hπ]
theorem Cl.sqf {key : QP → κ} {k : κ} {x : List Int} (h : Cl key k x) : CopQ (P x) (P (derivP x)) := by
  have : InI (P x) (der (P x)) 1 := (sqf_iff h.n.ne).2 fun π hπ => by rw [h.v π hπ]; split <;> omega
  rw [der_P] at this; exact this
theorem Cl.cop {key : QP → κ} {k l : κ} {x y : List Int} (h : Cl key k x) (h' : Cl key l y) (hk : k ≠ l) : CopQ (P x) (P y) := cop_iff.2 fun π hπ h1 h2 => by
  have a := (va_pos hπ h.n.ne).1 h1
  have b := (va_pos hπ h'.n.ne).1 h2
  rw [h.v π hπ] at a
  rw [h'.v π hπ] at b
  by_cases e : key π = k
  · rw [if_neg (fun e' => hk (e.symm.trans e'))] at b; omega
  · rw [if_neg e] at a; omega
/-- What has been split off: classes within D, each once. -/
structure OutOk (key : QP → κ) (D : κ → Prop) (os : List (List Int)) (ls : List κ) : Prop where
  len : ls.length = os.length
  nd : ls.Nodup
  cl : ∀ (i : Nat) (x : List Int) (k : κ), os[i]? = some x → ls[i]? = some k → Cl key k x ∧ 2 ≤ x.length
  dn : ∀ l ∈ ls, D l
  cov : ∀ π, Irr π → D (key π) → key π ∈ ls
theorem OutOk.nil {key : QP → κ} : OutOk key (fun _ => False) [] [] := ⟨rfl, List.nodup_nil, by simp, by simp, fun _ _ h => h.elim⟩
theorem OutOk.mono {key : QP → κ} {D D' : κ → Prop} {os : List (List Int)} {ls : List κ} (h : OutOk key D os ls) (h1 : ∀ l, D l → D' l) (h2 : ∀ π, Irr π → D' (key π) → D (key π)) : OutOk key D' os ls :=
  ⟨h.len, h.nd, h.cl, fun l hl => h1 l (h.dn l hl), fun π hπ hd => h.cov π hπ (h2 π hπ hd)⟩
theorem OutOk.add {key : QP → κ} {D : κ → Prop} {os : List (List Int)} {ls : List κ} {x : List Int} {k : κ} (h : OutOk key D os ls) (hx : Cl key k x) (hk : ¬ D k) (h2 : 2 ≤ x.length) : OutOk key (fun l => D l ∨ l = k) (os ++ [x]) (ls ++ [k]) := by
  refine ⟨by simp [h.len], List.nodup_append.2 ⟨h.nd, by simp, fun a ha b hb e => ?_⟩, fun i y l hy hl => ?_, fun l hl => ?_, fun π hπ hd => ?_⟩
  · simp at hb; subst hb; exact hk (e ▸ h.dn a ha)
  · rcases Nat.lt_trichotomy i os.length with h1 | h1 | h1
    · rw [List.getElem?_append_left h1] at hy
      rw [List.getElem?_append_left (by rw [h.len]; exact h1)] at hl
      exact h.cl i y l hy hl
    · subst h1
      rw [← h.len] at hl
      simp at hy hl
      subst hy hl
      exact ⟨hx, h2⟩
    · rw [List.getElem?_eq_none (by simp; omega)] at hy; cases hy
  · rcases List.mem_append.1 hl with h1 | h1
    · exact .inl (h.dn l h1)
    · simp at h1; exact .inr h1
  · rcases hd with h1 | h1
    · exact List.mem_append_left _ (h.cov π hπ h1)
    · exact List.mem_append_right _ (by simp [h1])
theorem OutOk.skip {key : QP → κ} {D : κ → Prop} {os : List (List Int)} {ls : List κ} {x : List Int} {k : κ} (h : OutOk key D os ls) (hx : Cl key k x) (h2 : x.length < 2) (hk : ¬ D k) : OutOk key D os ls ∧ ∀ π, Irr π → key π ≠ k := by
  refine ⟨h, fun π hπ e => ?_⟩
  have h1 := hx.v π hπ
  rw [if_pos e] at h1
  have h3 := va_dg hπ hx.n.ne
  rw [dg_P, hx.n.t] at h3
  omega
/-- A class more or not: by the degree. -/
theorem OutOk.more {key : QP → κ} {D : κ → Prop} {os : List (List Int)} {ls : List κ} {x : List Int} {k : κ} (h : OutOk key D os ls) (hx : Cl key k x) (hk : ¬ D k) : ∃ ls', OutOk key (fun l => D l ∨ l = k) (if 2 ≤ x.length then os ++ [x] else os) ls' := by
  by_cases h2 : 2 ≤ x.length
  · rw [if_pos h2]; exact ⟨_, h.add hx hk h2⟩
  · rw [if_neg h2]
    have ⟨_, hn⟩ := h.skip hx (by omega) hk
    exact ⟨ls, h.mono (fun l => .inl) fun π hπ hd => hd.resolve_right (hn π hπ)⟩
/-- A basis for a key: z is the key of those that do not occur. -/
def BsOk (key : QP → κ) (z : κ) (bs : List (List Int)) (ks : List κ) : Prop := OutOk key (fun l => l ≠ z) bs ks
theorem BsOk.start {key : QP → κ} {z : κ} (h : ∀ π, Irr π → key π = z) : BsOk key z [] [] := OutOk.nil.mono (fun _ h => h.elim) fun π hπ hd => absurd (h π hπ) hd
/-! ### refinement -/
section
variable (key : QP → κ) (v : QP → Nat) (z : κ) (ks : List κ) (js : List Nat)
abbrev key2 (π : QP) : κ × Nat := (key π, v π)
/-- An element whose common divisors with the first i factors are split off. -/
structure ElOk (k : κ) (i : Nat) (x : List Int) : Prop where
  n : Nrm x
  v : ∀ π, Irr π → va π (P x) = if key π = k ∧ v π ∉ js.take i then 1 else 0
/-- A factor whose common divisors with the first m elements are split off. -/
structure FcOk (m : Nat) (j : Nat) (x : List Int) : Prop where
  n : Nrm x
  v : ∀ π, Irr π → va π (P x) = if v π = j ∧ key π ∉ ks.take m then 1 else 0
end
variable {key : QP → κ} {v : QP → Nat} {z k : κ} {ks : List κ} {js : List Nat} {e i j : Nat} {x y g x' y' d : List Int}
theorem ElOk.start (h : Cl key k x) : ElOk key v js k 0 x := ⟨h.n, fun π hπ => by rw [h.v π hπ]; simp⟩
theorem FcOk.start (h : Cl v j y) : FcOk key v ks 0 j y := ⟨h.n, fun π hπ => by rw [h.v π hπ]; simp⟩
/-- The common divisor is a class. -/
theorem common_cl (hx : ElOk key v js k i x) (hy : FcOk key v ks e j y) (hk : k ∉ ks.take e) (hj : j ∉ js.take i) (hg : IsGcd x y g) : Cl (key2 key v) (k, j) g := by
  have hgn := gcd_nrm hx.n hg
  refine ⟨hgn, fun π hπ => ?_⟩
  rw [va_gcd hπ hx.n.ne hy.n.ne hgn.ne hg.q, hx.v π hπ, hy.v π hπ]
  show _ = if ((key π, v π) : κ × Nat) = (k, j) then 1 else 0
  by_cases h1 : key π = k
  · by_cases h2 : v π = j
    · rw [if_pos ⟨h1, h2 ▸ hj⟩, if_pos ⟨h2, h1 ▸ hk⟩, if_pos (by rw [h1, h2])]; rfl
    · rw [if_neg (c := v π = j ∧ _) (fun h => h2 h.1), if_neg (c := (key π, v π) = (k, j)) (fun h => h2 (by injection h))]; simp
  · rw [if_neg (c := key π = k ∧ _) (fun h => h1 h.1), if_neg (c := (key π, v π) = (k, j)) (fun h => h1 (by injection h))]; simp
theorem ElOk.step (hx : ElOk key v js k i x) (hg : Cl (key2 key v) (k, j) g) (hj : js[i]? = some j) (hnd : js.Nodup) (e1 : P x = P x' * P g) (ht : trimZ x' = x') : ElOk key v js k (i + 1) x' := by
  have hx' : P x' ≠ 0 := fun e' => hx.n.ne (by rw [e1, e', zero_qmul])
  refine ⟨hx.n.quo hg.n.s e1 ht, fun π hπ => ?_⟩
  have h1 := hx.v π hπ
  rw [e1, va_mul hπ hx' hg.n.ne, hg.v π hπ] at h1
  have hnj := nodup_at hnd hj
  have hm := mem_take_succ (x := v π) hj
  by_cases a : key π = k
  · by_cases b : v π = j
    · rw [if_pos (by show (key π, v π) = (k, j); rw [a, b]), if_pos ⟨a, b ▸ hnj⟩] at h1
      rw [if_neg (fun h => h.2 (hm.2 (.inr b)))]; omega
    · rw [if_neg (fun h => b (by injection h))] at h1
      by_cases c : v π ∈ js.take i
      · rw [if_neg (fun h => h.2 c)] at h1
        rw [if_neg (fun h => h.2 (hm.2 (.inl c)))]; omega
      · rw [if_pos ⟨a, c⟩] at h1
        rw [if_pos ⟨a, fun h => (hm.1 h).elim c b⟩]; omega
  · rw [if_neg (fun h => a (by injection h)), if_neg (fun h => a h.1)] at h1
    rw [if_neg (fun h => a h.1)]; omega
theorem FcOk.step (hy : FcOk key v ks e j y) (hg : Cl (key2 key v) (k, j) g) (hk : ks[e]? = some k) (hnd : ks.Nodup) (e1 : P y = P y' * P g) (ht : trimZ y' = y') : FcOk key v ks (e + 1) j y' := by
  have hy' : P y' ≠ 0 := fun e' => hy.n.ne (by rw [e1, e', zero_qmul])
  refine ⟨hy.n.quo hg.n.s e1 ht, fun π hπ => ?_⟩
  have h1 := hy.v π hπ
  rw [e1, va_mul hπ hy' hg.n.ne, hg.v π hπ] at h1
  have hnk := nodup_at hnd hk
  have hm := mem_take_succ (x := key π) hk
  by_cases b : v π = j
  · by_cases a : key π = k
    · rw [if_pos (by show (key π, v π) = (k, j); rw [a, b]), if_pos ⟨b, a ▸ hnk⟩] at h1
      rw [if_neg (fun h => h.2 (hm.2 (.inr a)))]; omega
    · rw [if_neg (fun h => a (by injection h))] at h1
      by_cases c : key π ∈ ks.take e
      · rw [if_neg (fun h => h.2 c)] at h1
        rw [if_neg (fun h => h.2 (hm.2 (.inl c)))]; omega
      · rw [if_pos ⟨b, c⟩] at h1
        rw [if_pos ⟨b, fun h => (hm.1 h).elim c a⟩]; omega
  · rw [if_neg (fun h => b (by injection h)), if_neg (fun h => b h.1)] at h1
    rw [if_neg (fun h => b h.1)]; omega
/-- Behind all factors an element is the class of those that do not divide the new polynomial. -/
theorem ElOk.rest (hx : ElOk key v js k i x) (hi : js.length ≤ i) (hz : 0 ∉ js) (hc : ∀ π, Irr π → v π ≠ 0 → v π ∈ js) : Cl (key2 key v) (k, 0) x := by
  refine ⟨hx.n, fun π hπ => ?_⟩
  rw [hx.v π hπ, List.take_of_length_le hi]
  by_cases a : key π = k
  · by_cases b : v π = 0
    · rw [if_pos ⟨a, b ▸ hz⟩, if_pos (by show (key π, v π) = (k, 0); rw [a, b])]
    · rw [if_neg (fun h => h.2 (hc π hπ b)), if_neg (fun h => b (by injection h))]
  · rw [if_neg (fun h => a h.1), if_neg (fun h => a (by injection h))]
theorem FcOk.rest (hy : FcOk key v ks e j y) (he : ks.length ≤ e) (hz : z ∉ ks) (hc : ∀ π, Irr π → key π ≠ z → key π ∈ ks) : Cl (key2 key v) (z, j) y := by
  refine ⟨hy.n, fun π hπ => ?_⟩
  rw [hy.v π hπ, List.take_of_length_le he]
  by_cases b : v π = j
  · by_cases a : key π = z
    · rw [if_pos ⟨b, a ▸ hz⟩, if_pos (by show (key π, v π) = (z, j); rw [a, b])]
    · rw [if_neg (fun h => h.2 (hc π hπ a)), if_neg (fun h => a (by injection h))]
  · rw [if_neg (fun h => b h.1), if_neg (fun h => b (by injection h))]
/-- The classes that are split off: all of the first e elements, and of element e those of the first i factors. -/
def D1 (ks : List κ) (js : List Nat) (e i : Nat) (l : κ × Nat) : Prop := l.1 ∈ ks.take e ∨ (ks[e]? = some l.1 ∧ l.2 ∈ js.take i)
def D2 (ks : List κ) (js : List Nat) (z : κ) (i : Nat) (l : κ × Nat) : Prop := l.1 ∈ ks ∨ (l.1 = z ∧ l.2 ∈ js.take i)
variable {os : List (List Int)} {ls : List (κ × Nat)}
theorem refine_start : OutOk (key2 key v) (D1 ks js 0 0) [] [] := OutOk.nil.mono (fun _ h => h.elim) fun π _ h => by rcases h with h | h <;> simp at h
theorem refine_common (h : OutOk (key2 key v) (D1 ks js e i) os ls) (hk : ks[e]? = some k) (hj : js[i]? = some j) (hnk : ks.Nodup) (hnj : js.Nodup) (hg : Cl (key2 key v) (k, j) g) : ∃ ls', OutOk (key2 key v) (D1 ks js e (i + 1)) (if 2 ≤ g.length then os ++ [g] else os) ls' := by
  obtain ⟨ls', h1⟩ := h.more hg (by
    rintro (h | ⟨_, h⟩)
    · exact nodup_at hnk hk h
    · exact nodup_at hnj hj h)
  refine ⟨ls', h1.mono (fun l hl => ?_) fun π hπ hd => ?_⟩
  · rcases hl with (h2 | ⟨h2, h3⟩) | h2
    · exact .inl h2
    · exact .inr ⟨h2, (mem_take_succ hj).2 (.inl h3)⟩
    · subst h2; exact .inr ⟨hk, (mem_take_succ hj).2 (.inr rfl)⟩
  · rcases hd with h2 | ⟨h2, h3⟩
    · exact .inl (.inl h2)
    · rcases (mem_take_succ hj).1 h3 with h4 | h4
      · exact .inl (.inr ⟨h2, h4⟩)
      · right
        rw [hk] at h2
        injection h2 with h2
        show (key π, v π) = (k, j)
        rw [show key π = k from h2.symm, show v π = j from h4]
theorem refine_rest (h : OutOk (key2 key v) (D1 ks js e i) os ls) (hi : js.length ≤ i) (hk : ks[e]? = some k) (hnk : ks.Nodup) (hz : 0 ∉ js) (hc : ∀ π, Irr π → v π ≠ 0 → v π ∈ js) (hg : Cl (key2 key v) (k, 0) x) : ∃ ls', OutOk (key2 key v) (D1 ks js (e + 1) 0) (if 2 ≤ x.length then os ++ [x] else os) ls' := by
  obtain ⟨ls', h1⟩ := h.more hg (by
    rintro (h | ⟨_, h⟩)
    · exact nodup_at hnk hk h
    · exact hz (List.mem_of_mem_take h))
  refine ⟨ls', h1.mono (fun l hl => ?_) fun π hπ hd => ?_⟩
  · rcases hl with (h2 | ⟨h2, h3⟩) | h2
    · exact .inl ((mem_take_succ hk).2 (.inl h2))
    · rw [hk] at h2; injection h2 with h2
      exact .inl ((mem_take_succ hk).2 (.inr h2.symm))
    · subst h2; exact .inl ((mem_take_succ hk).2 (.inr rfl))
  · rcases hd with h2 | ⟨_, h3⟩
    · rcases (mem_take_succ hk).1 h2 with h4 | h4
      · exact .inl (.inl h4)
      · by_cases h0 : v π = 0
        · right; show (key π, v π) = (k, 0); rw [h0, show key π = k from h4]
        · left; right
          refine ⟨hk.trans (congrArg some h4.symm), ?_⟩
          rw [List.take_of_length_le hi]; exact hc π hπ h0
    · simp at h3
theorem refine_turn (h : OutOk (key2 key v) (D1 ks js e 0) os ls) (he : ks.length ≤ e) : OutOk (key2 key v) (D2 ks js z 0) os ls := by
  refine h.mono (fun l hl => ?_) fun π hπ hd => ?_
  · rcases hl with h2 | ⟨_, h3⟩
    · exact .inl (List.mem_of_mem_take h2)
    · simp at h3
  · rcases hd with h2 | ⟨_, h3⟩
    · left; rw [List.take_of_length_le he]; exact h2
    · simp at h3
theorem refine_last (h : OutOk (key2 key v) (D2 ks js z i) os ls) (hj : js[i]? = some j) (hnj : js.Nodup) (hz : z ∉ ks) (hg : Cl (key2 key v) (z, j) y) : ∃ ls', OutOk (key2 key v) (D2 ks js z (i + 1)) (if 2 ≤ y.length then os ++ [y] else os) ls' := by
  obtain ⟨ls', h1⟩ := h.more hg (by
    rintro (h | ⟨_, h⟩)
    · exact hz h
    · exact nodup_at hnj hj h)
  refine ⟨ls', h1.mono (fun l hl => ?_) fun π hπ hd => ?_⟩
  · rcases hl with (h2 | ⟨h2, h3⟩) | h2
    · exact .inl h2
    · exact .inr ⟨h2, (mem_take_succ hj).2 (.inl h3)⟩
    · subst h2; exact .inr ⟨rfl, (mem_take_succ hj).2 (.inr rfl)⟩
  · rcases hd with h2 | ⟨h2, h3⟩
    · exact .inl (.inl h2)
    · rcases (mem_take_succ hj).1 h3 with h4 | h4
      · exact .inl (.inr ⟨h2, h4⟩)
      · right; show (key π, v π) = (z, j); rw [show key π = z from h2, show v π = j from h4]
/-- The refined list is a basis for both keys. -/
theorem refine_done (h : OutOk (key2 key v) (D2 ks js z i) os ls) (hi : js.length ≤ i) (hzk : z ∉ ks) (hzj : 0 ∉ js) (hck : ∀ π, Irr π → key π ≠ z → key π ∈ ks) (hcj : ∀ π, Irr π → v π ≠ 0 → v π ∈ js) : BsOk (key2 key v) (z, 0) os ls := by
  refine h.mono (fun l hl e => ?_) fun π hπ hd => ?_
  · subst e
    rcases hl with h2 | ⟨_, h3⟩
    · exact hzk h2
    · exact hzj (List.mem_of_mem_take h3)
  · by_cases h1 : key π = z
    · right
      refine ⟨h1, ?_⟩
      rw [List.take_of_length_le hi]
      exact hcj π hπ fun h2 => hd (by show (key π, v π) = (z, 0); rw [h1, h2])
    · exact .inl (hck π hπ h1)
theorem BsOk.nz {bs : List (List Int)} (h : BsOk key z bs ks) : z ∉ ks := fun hm => h.dn z hm rfl
/-- Under another name of the keys. -/
theorem BsOk.map {μ : Type} [DecidableEq μ] {bs : List (List Int)} {key' : QP → μ} {z' : μ} (h : BsOk key z bs ks) (f : κ → μ) (hf : ∀ a b, f a = f b → a = b) (hk : ∀ π, Irr π → key' π = f (key π)) (hz : z' = f z) : BsOk key' z' bs (ks.map f) := by
  refine ⟨by simp [h.len], ?_, fun i x k hx hk' => ?_, fun l hl => ?_, fun π hπ hd => ?_⟩
  · exact List.Pairwise.map f (fun a b hab e => hab (hf _ _ e)) h.nd
  · rw [List.getElem?_map] at hk'
    cases hc : ks[i]? with
    | none => rw [hc] at hk'; cases hk'
    | some k0 =>
      rw [hc] at hk'
      injection hk' with hk'
      subst hk'
      have h1 := h.cl i x k0 hx hc
      refine ⟨⟨h1.1.n, fun π hπ => ?_⟩, h1.2⟩
      rw [h1.1.v π hπ, hk π hπ]
      by_cases e : key π = k0
      · rw [if_pos e, if_pos (by rw [e])]
      · rw [if_neg e, if_neg (fun e' => e (hf _ _ e'))]
  · obtain ⟨l0, h0, rfl⟩ := List.mem_map.1 hl
    rw [hz]
    exact fun e => h.dn l0 h0 (hf _ _ e)
  · rw [hk π hπ] at hd ⊢
    refine List.mem_map.2 ⟨key π, h.cov π hπ fun e => hd ?_, rfl⟩
    rw [hz, e]
end
/-! ### bases of lists of polynomials -/
/-- The multiplicities in each of the polynomials. -/
noncomputable def keyL (fs : List QP) (π : QP) : List Nat := fs.map (va π)
def zeroL (fs : List QP) : List Nat := fs.map fun _ => 0
/-- A list whose members are the classes of the irreducible factors of fs. -/
def BasisOf (fs : List QP) (bs : List (List Int)) : Prop := ∃ ks, BsOk (keyL fs) (zeroL fs) bs ks
theorem BasisOf.nil : BasisOf [] [] := ⟨[], BsOk.start fun _ _ => rfl⟩
/-- One polynomial more. -/
theorem BasisOf.cons {fs : List QP} {f : QP} {os : List (List Int)} {ls : List (List Nat × Nat)} (h : BsOk (key2 (keyL fs) fun π => va π f) (zeroL fs, 0) os ls) : BasisOf (f :: fs) os :=
  ⟨_, h.map (fun l => l.2 :: l.1) (fun a b e => by injection e with e1 e2; exact Prod.ext e2 e1) (fun π hπ => rfl) rfl⟩
theorem BasisOf.each {fs : List QP} {bs : List (List Int)} (h : BasisOf fs bs) : ∀ x ∈ bs, 2 ≤ x.length ∧ ∃ k, k ≠ zeroL fs ∧ Cl (keyL fs) k x := fun x hx => by
  obtain ⟨ks, h⟩ := h
  obtain ⟨i, hi, rfl⟩ := List.getElem_of_mem hx
  have hk : i < ks.length := by rw [h.len]; exact hi
  have h1 := h.cl i bs[i] ks[i] (List.getElem?_eq_getElem hi) (List.getElem?_eq_getElem hk)
  exact ⟨h1.2, _, h.dn _ (List.getElem_mem hk), h1.1⟩
theorem BasisOf.cover {fs : List QP} {bs : List (List Int)} (h : BasisOf fs bs) {π : QP} (hπ : Irr π) (hk : keyL fs π ≠ zeroL fs) : ∃ x ∈ bs, Cl (keyL fs) (keyL fs π) x := by
  obtain ⟨ks, h⟩ := h
  have hm := h.cov π hπ hk
  obtain ⟨i, hi, e⟩ := List.getElem_of_mem hm
  have hb : i < bs.length := by rw [← h.len]; exact hi
  have h1 := h.cl i bs[i] ks[i] (List.getElem?_eq_getElem hb) (List.getElem?_eq_getElem hi)
  rw [e] at h1
  exact ⟨_, List.getElem_mem hb, h1.1⟩
theorem BasisOf.cop {fs : List QP} {bs : List (List Int)} (h : BasisOf fs bs) : bs.Pairwise fun x y => CopQ (P x) (P y) := by
  obtain ⟨ks, h⟩ := h
  refine List.pairwise_iff_getElem.2 fun i j hi hj hij => ?_
  have hl := h.len
  have h1 := h.cl i bs[i] ks[i] (List.getElem?_eq_getElem hi) (List.getElem?_eq_getElem (by omega))
  have h2 := h.cl j bs[j] ks[j] (List.getElem?_eq_getElem hj) (List.getElem?_eq_getElem (by omega))
  exact h1.1.cop h2.1 ((List.pairwise_iff_getElem.1 h.nd) i j (by omega) (by omega) hij)
theorem key_eq {fs : List QP} {π ρ : QP} : keyL fs π = keyL fs ρ ↔ ∀ f ∈ fs, va π f = va ρ f := by
  unfold keyL
  rw [List.map_inj_left]
theorem key_zero {fs : List QP} {π : QP} : keyL fs π = zeroL fs ↔ ∀ f ∈ fs, va π f = 0 := by
  unfold keyL zeroL
  rw [List.map_inj_left]
/-- Lists with the same multiplicities have the same bases. -/
theorem basis_mem {fs gs : List QP} {bs cs : List (List Int)} (hb : BasisOf fs bs) (hc : BasisOf gs cs) (h1 : ∀ f ∈ fs, ∃ g ∈ gs, ∀ π, Irr π → va π f = va π g) (h2 : ∀ g ∈ gs, ∃ f ∈ fs, ∀ π, Irr π → va π f = va π g) : ∀ x ∈ bs, x ∈ cs := fun x hx => by
  obtain ⟨hl, k, hk, hcl⟩ := hb.each x hx
  obtain ⟨π, hπ, hd, hkπ⟩ := hcl.ex hl
  have hkg : keyL gs π ≠ zeroL gs := fun e => hk (by
    rw [← hkπ]
    refine key_zero.2 fun f hf => ?_
    obtain ⟨g, hg, e2⟩ := h1 f hf
    rw [e2 π hπ]
    exact key_zero.1 e g hg)
  obtain ⟨y, hy, hcy⟩ := hc.cover hπ hkg
  have : x = y := hcl.n.eq_va hcy.n fun ρ hρ => by
    rw [hcl.v ρ hρ, hcy.v ρ hρ, ← hkπ]
    by_cases e : keyL fs ρ = keyL fs π
    · rw [if_pos e, if_pos]
      refine key_eq.2 fun g hg => ?_
      obtain ⟨f, hf, e2⟩ := h2 g hg
      rw [← e2 ρ hρ, ← e2 π hπ]
      exact key_eq.1 e f hf
    · rw [if_neg e, if_neg]
      intro e'
      refine e (key_eq.2 fun f hf => ?_)
      obtain ⟨g, hg, e2⟩ := h1 f hf
      rw [e2 ρ hρ, e2 π hπ]
      exact key_eq.1 e' g hg
  rw [this]; exact hy
theorem basis_eq {fs gs : List QP} {bs cs : List (List Int)} (hb : BasisOf fs bs) (hc : BasisOf gs cs) (sb : bs.Pairwise fun x y => cmpP x y < 0) (sc : cs.Pairwise fun x y => cmpP x y < 0) (h1 : ∀ f ∈ fs, ∃ g ∈ gs, ∀ π, Irr π → va π f = va π g) (h2 : ∀ g ∈ gs, ∃ f ∈ fs, ∀ π, Irr π → va π f = va π g) : bs = cs :=
  sorted_eq sb sc fun x => ⟨basis_mem hb hc h1 h2 x, basis_mem hc hb (fun g hg => by obtain ⟨f, hf, e⟩ := h2 g hg; exact ⟨f, hf, fun π hπ => (e π hπ).symm⟩) (fun f hf => by obtain ⟨g, hg, e⟩ := h1 f hf; exact ⟨g, hg, fun π hπ => (e π hπ).symm⟩) x⟩
/-- In another order it is still a basis. -/
theorem BasisOf.perm {fs : List QP} {bs cs : List (List Int)} (h : BasisOf fs bs) (hp : bs.Perm cs) : BasisOf fs cs := by
  have key : ∀ (l : List (List Int)), l.Perm bs → ∃ ks, BsOk (keyL fs) (zeroL fs) l ks := fun l hl => by
    have hcop : l.Pairwise fun x y => CopQ (P x) (P y) := (List.Perm.pairwise_iff (fun {a b} hab => cop_iff.2 fun π hπ h1 h2 => cop_iff.1 hab π hπ h2 h1) hl).2 h.cop
    have hk : ∀ x ∈ l, 2 ≤ x.length ∧ ∃ k, k ≠ zeroL fs ∧ Cl (keyL fs) k x := fun x hx => h.each x (hl.mem_iff.1 hx)
    have hcov : ∀ π, Irr π → keyL fs π ≠ zeroL fs → ∃ x ∈ l, Cl (keyL fs) (keyL fs π) x := fun π hπ hkz => by
      obtain ⟨x, hx, hc⟩ := h.cover hπ hkz
      exact ⟨x, hl.mem_iff.2 hx, hc⟩
    have build : ∀ (m : List (List Int)), m.Pairwise (fun x y => CopQ (P x) (P y)) → (∀ x ∈ m, 2 ≤ x.length ∧ ∃ k, k ≠ zeroL fs ∧ Cl (keyL fs) k x) → ∃ ks : List (List Nat), ks.length = m.length ∧ ks.Nodup ∧ (∀ (i : Nat) (x : List Int) (k : List Nat), m[i]? = some x → ks[i]? = some k → Cl (keyL fs) k x ∧ 2 ≤ x.length) ∧ (∀ k ∈ ks, k ≠ zeroL fs ∧ ∃ x ∈ m, Cl (keyL fs) k x) := fun m => by
      induction m with
      | nil => intro _ _; exact ⟨[], rfl, List.nodup_nil, by simp, by simp⟩
      | cons a m ih =>
        intro hpw hm
        have ⟨p1, p2⟩ := List.pairwise_cons.1 hpw
        obtain ⟨ks, k1, k2, k3, k4⟩ := ih p2 fun x hx => hm x (by simp [hx])
        obtain ⟨ha, k, hkz, hcl⟩ := hm a (by simp)
        refine ⟨k :: ks, by simp [k1], List.nodup_cons.2 ⟨fun hmem => ?_, k2⟩, fun i x k' hx hk' => ?_, fun k' hk' => ?_⟩
        · obtain ⟨_, x, hx, hcx⟩ := k4 k hmem
          have hax := hcl.eq hcx
          obtain ⟨π, hπ, hd, _⟩ := hcl.ex ha
          exact cop_iff.1 (p1 x hx) π hπ hd (hax ▸ hd)
        · cases i with
          | zero => simp at hx hk'; subst hx hk'; exact ⟨hcl, ha⟩
          | succ i => simp at hx hk'; exact k3 i x k' hx hk'
        · rcases List.mem_cons.1 hk' with h1 | h1
          · subst h1; exact ⟨hkz, a, by simp, hcl⟩
          · obtain ⟨h2, x, hx, h3⟩ := k4 k' h1; exact ⟨h2, x, by simp [hx], h3⟩
    obtain ⟨ks, k1, k2, k3, k4⟩ := build l hcop hk
    refine ⟨ks, k1, k2, k3, fun k hk => (k4 k hk).1, fun π hπ hd => ?_⟩
    obtain ⟨x, hx, hc⟩ := hcov π hπ hd
    obtain ⟨i, hi, e⟩ := List.getElem_of_mem hx
    have hki : i < ks.length := by omega
    have h5 := k3 i x ks[i] (by rw [List.getElem?_eq_getElem hi, e]) (List.getElem?_eq_getElem hki)
    have hl2 := h5.2
    obtain ⟨ρ, hρ, hd2, hk2⟩ := h5.1.ex hl2
    have h6 := hc.v ρ hρ
    have h7 := (va_pos hρ hc.n.ne).1 hd2
    rw [h6] at h7
    have h8 : keyL fs ρ = keyL fs π := by apply Classical.byContradiction; intro hx'; rw [if_neg hx'] at h7; omega
    rw [← h8, hk2]
    exact List.getElem_mem hki
  exact key cs hp.symm
end Go.Gx

/-
  Lists of polynomials in memory. No program in sight.
-/
namespace Go.Gx
open Go.RowKit
/-- A polynomial in memory. -/
structure PE where
  A : Option Addr
  n : Nat
  c : Nat
  l : List RI
def PE.v (f : PE) : Value := .slice f.A f.n f.c
def cellsP (l : List PE) : List Value := l.map PE.v
theorem cellsP_len (l : List PE) : (cellsP l).length = l.length := by simp [cellsP]
def AllP (w : World) (S : Nat → Prop) (M : Nat) (l : List PE) : Prop := ∀ f ∈ l, PolyR w S f.A f.n f.c f.l M
def PolysR (w : World) (S : Nat → Prop) (A : Option Addr) (n c : Nat) (l : List PE) (M : Nat) : Prop := Rd w S A n c 1 (cellsP l) ∧ AllP w S M l
section
variable {w w' : World} {S S' G : Nat → Prop} {A : Option Addr} {n c M M' : Nat} {l : List PE}
theorem PolysR.frmB (h : PolysR w S A n c l M) (f : Frm G w w') (hd : ∀ b, b < w.heap.size → S b → ¬ G b) : PolysR w' S A n c l M := ⟨h.1.frmB f hd, fun x hx => (h.2 x hx).frmB f hd⟩
theorem PolysR.ext (h : PolysR w S A n c l M) (f : Ext w w') : PolysR w' S A n c l M := ⟨h.1.ext f, fun x hx => (h.2 x hx).ext f⟩
theorem PolysR.sub (h : PolysR w S A n c l M) (hs : ∀ b, b < w.heap.size → S b → S' b) : PolysR w S' A n c l M := ⟨h.1.sub hs, fun x hx => (h.2 x hx).sub hs⟩
theorem PolysR.low (h : PolysR w S A n c l M) : PolysR w (· < w.heap.size) A n c l M := h.sub fun _ hb _ => hb
theorem PolysR.le (h : PolysR w S A n c l M) (hm : M ≤ M') : PolysR w S A n c l M' := ⟨h.1, fun x hx => (h.2 x hx).le hm⟩
theorem PolysR.nil : PolysR w S none 0 0 [] M := ⟨Rd.nil, fun f hf => by cases hf⟩
theorem PolysR.len (h : PolysR w S A n c l M) : l.length = n := by have := h.1.1; rw [cellsP_len] at this; omega
theorem PolysR.lkm (h : PolysR w S A n c l M) : l.length = n ∧ n ≤ c ∧ c ≤ 9223372036854775807 := ⟨h.len, h.1.2.1, h.1.2.2.1⟩
theorem PolysR.base (h : PolysR w S A n c l M) (hn : 0 < n) : ∃ b off, A = some ⟨b, off, none⟩ := h.1.base hn
theorem PolysR.take {m : Nat} (h : PolysR w S A n c l M) (hm : m ≤ n) : PolysR w S A m c (l.take m) M := by
  refine ⟨?_, fun x hx => h.2 x (List.mem_of_mem_take hx)⟩
  have := h.1.take hm
  rw [Nat.mul_one] at this
  unfold cellsP at this ⊢
  rw [List.map_take]
  exact this
theorem PolysR.at_ {b off i : Nat} (h : PolysR w S (some ⟨b, off, none⟩) n c l M) (hi : i < n) :
    ∃ f, l[i]? = some f ∧ w.cell? ⟨b, off + i, none⟩ = some (.slice f.A f.n f.c) ∧ PolyR w S f.A f.n f.c f.l M ∧ S b ∧ b < w.heap.size := by
  have hl : i < l.length := by rw [h.len]; exact hi
  obtain ⟨b', off', e, hS, hb, _⟩ := h.1.2.2.2 (by omega)
  injection e with e
  injection e with e1 e2
  subst e1 e2
  obtain ⟨r, hr⟩ : ∃ r, l[i]? = some r := ⟨_, List.getElem?_eq_getElem hl⟩
  have hc : (cellsP l)[i]? = some (.slice r.A r.n r.c) := by simp [cellsP, hr, PE.v]
  exact ⟨r, hr, h.1.cell hc, h.2 _ (List.mem_of_getElem? hr), hS, hb⟩
theorem PolysR.two {g : Nat} {t : TypeId} {S1 S2 : Nat → Prop} {A1 A2 : Option Addr} {n1 c1 n2 c2 M1 M2 : Nat} {l1 l2 : List RI} (hb : Blk w g t [.slice A1 n1 c1, .slice A2 n2 c2]) (h1 : PolyR w S1 A1 n1 c1 l1 M1) (h2 : PolyR w S2 A2 n2 c2 l2 M2) (m1 : M1 ≤ M) (m2 : M2 ≤ M) :
    PolysR w (fun _ => True) (some ⟨g, 0, none⟩) 2 2 [⟨A1, n1, c1, l1⟩, ⟨A2, n2, c2, l2⟩] M := by
  refine ⟨Rd.of_blk (cs := cellsP [⟨A1, n1, c1, l1⟩, ⟨A2, n2, c2, l2⟩]) hb trivial rfl (by omega) (by decide), fun x hx => ?_⟩
  simp at hx
  rcases hx with rfl | rfl
  · exact (h1.sub fun _ _ _ => trivial).le m1
  · exact (h2.sub fun _ _ _ => trivial).le m2
theorem AllP.nil : AllP w S M [] := fun f hf => by cases hf
theorem AllP.cons {S1 : Nat → Prop} {A1 : Option Addr} {n1 c1 M1 : Nat} {l1 : List RI} (h1 : PolyR w S1 A1 n1 c1 l1 M1) (hM : M1 ≤ M) (h : AllP w (fun _ => True) M l) : AllP w (fun _ => True) M (⟨A1, n1, c1, l1⟩ :: l) := fun f hf => by
  rcases List.mem_cons.1 hf with h2 | h2
  · subst h2; exact (h1.sub fun _ _ _ => trivial).le hM
  · exact h f h2
theorem PolysR.lit {g : Nat} {t : TypeId} (hb : Blk w g t (cellsP l)) (ha : AllP w (fun _ => True) M l) (hl : l.length = n) (hn : n ≤ CapMax) : PolysR w (fun _ => True) (some ⟨g, 0, none⟩) n n l M :=
  ⟨Rd.of_blk hb trivial (by rw [cellsP_len, hl, Nat.mul_one]) (Nat.le_refl _) hn, ha⟩
end
section
variable {P : Program} {n : Nat} {e : Nat → Value} {w : World} {ty : TypeId} {pos : String} {af : Array Edge} {gd : Option (Nat × Bool)}
/-- &a[i] of an array. -/
theorem evArr {d : Option Nat} {t el : TypeId} {x ix : Operand} {b off len size : Nat} {k : IntKind} {z : Int} (i : Nat) (ht : P.underlying t = some (.array len el)) (hs : ∀ w, (sizeOf el).run P w = .ok size w)
    (hx : ev n e x = .pointer (some ⟨b, off, none⟩)) (hi : ev n e ix = .int k z) (p : Nat) (hz : z = (i : Int) := by omega) (hlt : i < len := by omega) (hp : off + i * size = p := by omega) :
    Ev P n e ⟨d, .indexAddr t x ix, ty, pos, af, gd⟩ w (.pointer (some ⟨b, p, none⟩)) := by
  subst hz hp
  have h1 : (0 : Int) ≤ (i : Int) ∧ (i : Int) < (len : Int) := ⟨by omega, by omega⟩
  simp [Ev, execOp, hx, hi, Instr.indexAt, Instr.sureAddr, asIntOf, run_underlying ht, hs, hlt, addr_add]
end
end Go.Gx

/-
  The refinement of a basis in memory: the list that grows behind a box, the factors' block that is written. No program in sight.
-/
namespace Go.Gx
open Go.RowKit
/-- A list of polynomials that grows in block g, behind the box pb; nothing of it lies in block pf. -/
def OwnP (w : World) (el : TypeId) (g pb pf : Nat) (A : Option Addr) (n c : Nat) (ps : List PE) (M : Nat) : Prop :=
  Own w (pb + 1) el 1 A n c (cellsP ps) ∧ (∀ a, A = some a → a.block = g) ∧ pb ≤ g ∧ pf < pb ∧ AllP w (fun b => b ≠ g ∧ b ≠ pb ∧ b ≠ pf) M ps
section
variable {w w' : World} {el : TypeId} {g pb pf : Nat} {A : Option Addr} {n c M : Nat} {ps : List PE}
theorem OwnP.nil (h : pf < pb) : OwnP w el pb pb pf none 0 0 [] M := ⟨Own.nil, fun a ha => (by cases ha), Nat.le_refl _, h, fun f hf => by cases hf⟩
theorem OwnP.frmB {G : Nat → Prop} (h : OwnP w el g pb pf A n c ps M) (f : Frm G w w') (hd : ∀ b, b < w.heap.size → b ≠ pf → ¬ G b) : OwnP w' el g pb pf A n c ps M := by
  obtain ⟨h1, h2, h3, h4, h5⟩ := h
  exact ⟨h1.frmG f fun b hb hp => hd b hb (by omega), h2, h3, h4, fun x hx => (h5 x hx).frmB f fun b hb hs => hd b hb hs.2.2⟩
theorem OwnP.ext (h : OwnP w el g pb pf A n c ps M) (k : Ext w w') : OwnP w' el g pb pf A n c ps M := h.frmB k fun _ _ _ f => f
theorem OwnP.box (h : OwnP w el g pb pf A n c ps M) (f : Frm (fun b => b = pb) w w') : OwnP w' el g pb pf A n c ps M := by
  obtain ⟨h1, h2, h3, h4, h5⟩ := h
  exact ⟨h1.frmG f fun b _ hp e => by omega, h2, h3, h4, fun x hx => (h5 x hx).frmB f fun b _ hs => hs.2.1⟩
theorem OwnP.len (h : OwnP w el g pb pf A n c ps M) : ps.length = n := by have := h.1.1; rw [cellsP_len] at this; omega
theorem OwnP.lkm (h : OwnP w el g pb pf A n c ps M) : ps.length = n ∧ n ≤ c ∧ c ≤ 9223372036854775807 := ⟨h.len, h.1.cap, h.1.max⟩
theorem OwnP.ne (h : OwnP w el g pb pf A n c ps M) : pb ≤ g ∧ pf < pb := ⟨h.2.2.1, h.2.2.2.1⟩
end
section
variable {dfs : List Deferred} {P : Program} {n : Nat} {e : Nat → Value} {w : World} {K : Act → World → Prop} {Q : Exit → Act → World → Prop} {ty : TypeId} {pos : String} {af : Array Edge} {gd : Option (Nat × Bool)}
/-- One polynomial more. -/
theorem oAppP {d : Nat} {s x : Operand} {t el bt : TypeId} {zv : Value} {bytes m c xg g pb pf M : Nat} {A : Option Addr} {ps : List PE} {S : Nat → Prop} {A' : Option Addr} {n' c' : Nat} {l' : List RI} (ht : P.underlying t = some (.slice el))
    (hi : (P.info? el).map (fun i => (i.zero, i.size, i.bytes)) = some (some zv, 1, bytes)) (hzv : zv.cells.size = 1) (hs : ev n e s = .slice A m c) (hx : ev n e x = .slice (some ⟨xg, 0, none⟩) 1 1) (hO : OwnP w el g pb pf A m c ps M) (hb : Blk w xg bt [.slice A' n' c'])
    (hp : PolyR w S A' n' c' l' M) (hS : ∀ b, b < w.heap.size → S b → b ≠ g ∧ b ≠ pb ∧ b ≠ pf) (hm : (m + 1) * bytes ≤ 140737488355328) (hm2 : m + 1 ≤ 9223372036854775807) (hB : pb < w.heap.size)
    (kk : ∀ A2 c2 g2 w', OwnP w' el g2 pb pf A2 (m + 1) c2 (ps ++ [⟨A', n', c', l'⟩]) M → Frm (fun b => b = g ∧ b ≠ pb) w w' → (g2 = g ∨ w.heap.size ≤ g2) → g2 < w'.heap.size → K (mkA dfs n (upd e d (.slice A2 (m + 1) c2))) w') :
    OpW P ⟨some d, .call { callee := .builtin .append, args := #[s, x], argTypes := #[t, t] }, ty, pos, af, gd⟩ (mkA dfs n e) w K Q := by
  obtain ⟨h1, h2, h3, h4, h5⟩ := hO
  refine oApp ht hi hzv (by decide) hs hx h1 hb rfl rfl hm hm2 (by omega) fun A2 c2 w' hO' hF hF2 hnew => ?_
  have hk : Frm (fun b => b = g ∧ b ≠ pb) w w' := (hF2 (fun b => b ≠ g ∨ b = pb) fun b hb a ha e => by have h8 := (h1.lt a ha).1; have h9 := h2 a ha; omega).mono fun b _ hb => by omega
  obtain ⟨a2, rfl⟩ : ∃ a, A2 = some a := by
    rcases hO'.2 with ⟨_, h0⟩ | ⟨g', cap, cur, hv, _⟩
    · omega
    · injection hv with e1; exact ⟨_, e1⟩
  have hg2 : a2.block = g ∨ w.heap.size ≤ a2.block := (hnew a2 rfl).imp (h2 a2) id
  have key : ∀ {S : Nat → Prop} {A3 : Option Addr} {n3 c3 : Nat} {l3 : List RI}, (∀ b, b < w.heap.size → S b → b ≠ g ∧ b ≠ pb ∧ b ≠ pf) → PolyR w S A3 n3 c3 l3 M → PolyR w' (fun b => b ≠ a2.block ∧ b ≠ pb ∧ b ≠ pf) A3 n3 c3 l3 M := by
    intro S A3 n3 c3 l3 hS h
    have h6 := (h.sub (S' := fun b => (b ≠ g ∧ b ≠ pb ∧ b ≠ pf) ∧ b < w.heap.size) fun b hb hs => ⟨hS b hb hs, hb⟩).frmB hk fun b _ hs e => hs.1.1 e.1
    exact h6.sub fun b _ hs => ⟨by have := hs.2; have := hs.1.1; omega, hs.1.2⟩
  refine kk _ c2 a2.block w' ⟨by rw [show cellsP (ps ++ [⟨A', n', c', l'⟩]) = cellsP ps ++ [.slice A' n' c'] by simp [cellsP, PE.v]]; exact hO', fun a ha => (by cases ha; rfl), by omega, h4, fun f hf => ?_⟩ hk hg2 (hO'.lt a2 rfl).2
  rcases List.mem_append.1 hf with h7 | h7
  · exact key (fun _ _ hs => hs) (h5 f h7)
  · simp at h7; subst h7; exact key hS hp
end
/-! ### factors that are written -/
theorem cellsF_set {l : List FE} : ∀ {i : Nat} {r : FE} (A : Option Addr) (n c : Nat) (x : List RI), l[i]? = some r → (cellsF l).set (i * 2) (.slice A n c) = cellsF (l.set i ⟨A, n, c, x, r.k⟩) := by
  induction l with
  | nil => intro i r A n c x h; simp at h
  | cons y l ih =>
    intro i r A n c x h
    cases i with
    | zero => simp at h; subst h; simp [cellsF_cons]
    | succ i =>
      simp at h
      rw [List.set_cons_succ, cellsF_cons, cellsF_cons, show (i + 1) * 2 = i * 2 + 1 + 1 by omega, List.set_cons_succ, List.set_cons_succ, ih A n c x h]
theorem cellsF_setSp {l : List FE} {sp : List Value} {i : Nat} {r : FE} (A : Option Addr) (n c : Nat) (x : List RI) (h : l[i]? = some r) : (cellsF l ++ sp).set (i * 2) (.slice A n c) = cellsF (l.set i ⟨A, n, c, x, r.k⟩) ++ sp := by
  have hi : i < l.length := (List.getElem?_eq_some_iff.1 h).1
  rw [List.set_append_left _ _ (by rw [cellsF_len]; omega), cellsF_set A n c x h]
section
variable {w w' : World} {S S' G : Nat → Prop} {M : Nat} {l : List FE}
theorem AllF.frmB (h : AllF w S M l) (f : Frm G w w') (hd : ∀ b, b < w.heap.size → S b → ¬ G b) : AllF w' S M l := fun x hx => (h x hx).frmB f hd
theorem AllF.ext (h : AllF w S M l) (f : Ext w w') : AllF w' S M l := fun x hx => (h x hx).ext f
theorem AllF.sub (h : AllF w S M l) (hs : ∀ b, b < w.heap.size → S b → S' b) : AllF w S' M l := fun x hx => (h x hx).sub hs
theorem AllF.set {i : Nat} {r : FE} (h : AllF w S M l) (hr : PolyR w S r.A r.n r.c r.l M) : AllF w S M (l.set i r) := fun x hx => by
  rcases List.mem_or_eq_of_mem_set hx with h1 | h1
  · exact h x h1
  · subst h1; exact hr
theorem Blk.fac {g el i : Nat} {sp : List Value} {f : FE} (h : Blk w g el (cellsF l ++ sp)) (he : l[i]? = some f) : w.cell? ⟨g, i * 2, none⟩ = some (.slice f.A f.n f.c) ∧ w.cell? ⟨g, i * 2 + 1, none⟩ = some (.int .i64 f.k) := by
  have hi : i < l.length := (List.getElem?_eq_some_iff.1 he).1
  have hc := cellsF_get he
  exact ⟨h.at_ (by rw [List.getElem?_append_left (by rw [cellsF_len]; omega)]; exact hc.1), h.at_ (by rw [List.getElem?_append_left (by rw [cellsF_len]; omega)]; exact hc.2)⟩
/-- The block of a list of factors that has grown. -/
theorem OwnF.block {B : Nat} {el : TypeId} {A : Option Addr} {n c : Nat} (h : OwnF w B el A n c l M) (hn : 0 < n) : ∃ p sp, A = some ⟨p, 0, none⟩ ∧ B ≤ p ∧ Blk w p el (cellsF l ++ sp) ∧ AllF w (fun b => b ≠ p) M l := by
  obtain ⟨⟨hl, h1⟩, h2⟩ := h
  rcases h1 with ⟨_, h0⟩ | ⟨g, cap, cur, hv, hb, hg, hnc, hcm, hsz, htake⟩
  · omega
  · injection hv with e1 e2 e3
    subst e1 e3
    refine ⟨g, cur.toList.drop (n * 2), rfl, hb, ?_, fun f hf => (h2 f hf).sub fun b _ hb e => hb.1 _ rfl e.symm⟩
    unfold Blk; rw [← htake, List.take_append_drop]; exact hg
end
/-! ### a basis between refinements -/
/-- A list of polynomials in a block of its own, at or beyond B. -/
def OwnL (w : World) (B : Nat) (el : TypeId) (A : Option Addr) (n c : Nat) (ps : List PE) (M : Nat) : Prop :=
  ∃ g, (n = 0 ∨ ∃ sp, A = some ⟨g, 0, none⟩ ∧ B ≤ g ∧ Blk w g el (cellsP ps ++ sp)) ∧ PolysR w (· < w.heap.size) A n c ps M ∧ AllP w (fun b => b ≠ g) M ps
section
variable {w w' : World} {B : Nat} {el : TypeId} {A : Option Addr} {n c M : Nat} {ps : List PE}
theorem OwnL.nil : OwnL w B el none 0 0 [] M := ⟨0, .inl rfl, PolysR.nil, fun f hf => by cases hf⟩
theorem OwnL.ext (h : OwnL w B el A n c ps M) (k : Ext w w') : OwnL w' B el A n c ps M := by
  obtain ⟨g, h1, h2, h3⟩ := h
  exact ⟨g, h1.imp id fun ⟨sp, e, hg, hb⟩ => ⟨sp, e, hg, hb.ext k⟩, (h2.ext k).low, fun f hf => (h3 f hf).ext k⟩
theorem OwnL.read (h : OwnL w B el A n c ps M) : PolysR w (· < w.heap.size) A n c ps M := by obtain ⟨g, h1, h2, h3⟩ := h; exact h2
theorem OwnL.lkm (h : OwnL w B el A n c ps M) : ps.length = n ∧ n ≤ c ∧ c ≤ 9223372036854775807 := h.read.lkm
theorem OwnP.ownL {g pb pf : Nat} (h : OwnP w el g pb pf A n c ps M) (hB : B ≤ pb) : OwnL w B el A n c ps M := by
  have hr : PolysR w (· < w.heap.size) A n c ps M := by
    refine ⟨h.1.rd.low, fun f hf => (h.2.2.2.2 f hf).low⟩
  refine ⟨g, ?_, hr, fun f hf => (h.2.2.2.2 f hf).sub fun _ _ hs => hs.1⟩
  rcases Nat.eq_zero_or_pos n with h0 | h0
  · exact .inl h0
  · obtain ⟨g', sp, hA, _, hb, _⟩ := h.1.open_ h0
    have := h.2.1 _ hA
    dsimp only at this
    subst this
    exact .inr ⟨sp, hA, by have := h.2.2.1; omega, hb⟩
end
end Go.Gx

/-
  Exponents over a basis. Plain numbers; no program in sight.
-/
namespace Go.Gx
/-- The product of powers. -/
noncomputable def powQ : List QP → List Nat → QP
  | q :: qs, e :: es => q ^ e * powQ qs es
  | _, _ => 1
/-- Pairwise coprime, of positive degree. -/
def BaseOk (qs : List QP) : Prop := (∀ q ∈ qs, 2 ≤ dg q) ∧ qs.Pairwise CopQ
/-- F is a constant times these powers. -/
def ExpIs (F : QP) (qs : List QP) (es : List Nat) : Prop := es.length = qs.length ∧ ∃ c : Rat, c ≠ 0 ∧ F = K c * powQ qs es
theorem dg2_ne {q : QP} (h : 2 ≤ dg q) : q ≠ 0 := dg_pos.2 (by omega)
theorem powQ_ne : ∀ (qs : List QP) (es : List Nat), (∀ q ∈ qs, 2 ≤ dg q) → powQ qs es ≠ 0
  | [], _, _ => one_ne
  | _ :: _, [], _ => one_ne
  | q :: qs, e :: es, h => qp_mul_ne (qp_pow_ne (dg2_ne (h q (by simp))) e) (powQ_ne qs es fun x hx => h x (by simp [hx]))
theorem powQ_snoc : ∀ (qs : List QP) (es : List Nat) (q : QP) (e : Nat), es.length = qs.length → powQ (qs ++ [q]) (es ++ [e]) = powQ qs es * q ^ e
  | [], [], q, e, _ => by simp only [List.nil_append, powQ]; rw [qmul_one, one_qmul]
  | a :: qs, b :: es, q, e, h => by
    simp only [List.cons_append, powQ]
    rw [powQ_snoc qs es q e (by simpa using h), qmul_assoc]
  | [], _ :: _, _, _, h => by simp at h
  | _ :: _, [], _, _, h => by simp at h
theorem va_powQ_none {π : QP} (hπ : Irr π) : ∀ (qs : List QP) (es : List Nat), (∀ q ∈ qs, 2 ≤ dg q) → (∀ q ∈ qs, ¬ π ∣ q) → va π (powQ qs es) = 0
  | [], _, _, _ => va_K hπ (by decide)
  | _ :: _, [], _, _ => va_K hπ (by decide)
  | q :: qs, e :: es, h, hn => by
    have h1 := va_powQ_none hπ qs es (fun x hx => h x (by simp [hx])) fun x hx => hn x (by simp [hx])
    have hq := dg2_ne (h q (by simp))
    have h2 : ¬ 1 ≤ va π q := fun h' => hn q (by simp) ((va_pos hπ hq).2 h')
    show va π (q ^ e * powQ qs es) = 0
    rw [va_mul hπ (qp_pow_ne hq e) (powQ_ne qs es fun x hx => h x (by simp [hx])), va_pow hπ hq, h1, show va π q = 0 by omega]
    simp
theorem va_powQ {π : QP} (hπ : Irr π) : ∀ (qs : List QP) (es : List Nat), BaseOk qs → es.length = qs.length → ∀ (i : Nat) (q : QP) (e : Nat), qs[i]? = some q → es[i]? = some e → π ∣ q → va π (powQ qs es) = e * va π q
  | [], _, _, _, i, q, e, h1, _, _ => by simp at h1
  | _ :: _, [], _, _, i, q, e, _, h2, _ => by simp at h2
  | a :: qs, b :: es, hb, hl, i, q, e, h1, h2, hd => by
    have ha := dg2_ne (hb.1 a (by simp))
    have hr : ∀ x ∈ qs, 2 ≤ dg x := fun x hx => hb.1 x (by simp [hx])
    have hp := List.pairwise_cons.1 hb.2
    show va π (a ^ b * powQ qs es) = _
    rw [va_mul hπ (qp_pow_ne ha b) (powQ_ne qs es hr), va_pow hπ ha]
    cases i with
    | zero =>
      simp at h1 h2
      subst h1 h2
      rw [va_powQ_none hπ qs es hr fun x hx hx2 => cop_iff.1 (hp.1 x hx) π hπ hd hx2]
      omega
    | succ i =>
      simp at h1 h2
      have hm := List.mem_of_getElem? h1
      have hna : ¬ π ∣ a := fun h' => cop_iff.1 (hp.1 q hm) π hπ h' hd
      have : ¬ 1 ≤ va π a := fun h' => hna ((va_pos hπ ha).2 h')
      rw [va_powQ hπ qs es ⟨hr, hp.2⟩ (by simpa using hl) i q e h1 h2 hd, show va π a = 0 by omega]
      omega
/-- The exponents are determined. -/
theorem exp_unique {F : QP} {qs : List QP} {es es' : List Nat} (hb : BaseOk qs) (h : ExpIs F qs es) (h' : ExpIs F qs es') : es = es' := by
  obtain ⟨l, c, hc, e⟩ := h
  obtain ⟨l', c', hc', e'⟩ := h'
  apply List.ext_getElem (by omega)
  intro i h1 h2
  have hi : i < qs.length := by omega
  obtain ⟨π, hπ, hd⟩ := irr_factor (hb.1 qs[i] (List.getElem_mem hi))
  have hq := dg2_ne (hb.1 qs[i] (List.getElem_mem hi))
  have a1 := va_powQ hπ qs es hb l i qs[i] es[i] (List.getElem?_eq_getElem hi) (List.getElem?_eq_getElem h1) hd
  have a2 := va_powQ hπ qs es' hb l' i qs[i] es'[i] (List.getElem?_eq_getElem hi) (List.getElem?_eq_getElem h2) hd
  have b1 := va_Kmul hπ hc (powQ_ne qs es hb.1)
  have b2 := va_Kmul hπ hc' (powQ_ne qs es' hb.1)
  rw [← e, a1] at b1
  rw [← e', a2] at b2
  have hv := (va_pos hπ hq).1 hd
  rw [b1] at b2
  exact Nat.eq_of_mul_eq_mul_right (by omega) b2
/-- So far as the basis is worked off. -/
def Chn (F : QP) (qs : List QP) (es : List Nat) (R : QP) : Prop := R ≠ 0 ∧ es.length = qs.length ∧ (∃ c : Rat, c ≠ 0 ∧ F = K c * (R * powQ qs es)) ∧ ∀ q ∈ qs, ¬ q ∣ R
theorem Chn.start {F : QP} (h : F ≠ 0) : Chn F [] [] F := ⟨h, rfl, ⟨1, by decide, QP.eq fun x => by simp only [powQ, v_mul, v_K, v_1]; grind⟩, fun q hq => by cases hq⟩
theorem Chn.step {F : QP} {qs : List QP} {es : List Nat} {R G R' : List Int} {k : Nat} (h : Chn F qs es (P R)) (hR : Rem R G k R') (hG : 2 ≤ (trimZ G).length) : Chn F (qs ++ [P G]) (es ++ [k]) (P R') := by
  obtain ⟨h0, hl, ⟨c, hc, e⟩, hn⟩ := h
  have hG' : ldP G ≠ 0 := by rw [ld_ne_iff, dg_pos, dg_P]; omega
  have hR0 : ldP R ≠ 0 := (ld_ne_iff R).2 h0
  rcases hR with ⟨⟨h1, h2, h3, h4, h5⟩, e1, hnd⟩ | ⟨h1, _⟩
  · have hR' : P R' ≠ 0 := fun e' => h1 (by rw [e1, e', zero_qmul])
    have hcR := cast_ne (primC_ne hR0)
    have hcG := cast_ne (primC_ne hG')
    have e2 := P_prim R
    have e3 := P_prim G
    have hpw := pow_ne hcG k
    refine ⟨hR', by simp [hl], ⟨c * ((primC R : Int) : Rat) / ((primC G : Int) : Rat) ^ k, ?_, ?_⟩, fun q hq => ?_⟩
    · intro h0
      have : c * ((primC R : Int) : Rat) = 0 := by grind
      grind
    · rw [powQ_snoc _ _ _ _ hl, e, e2, e1]
      refine QP.eq fun x => ?_
      have e4 := qat e3 x
      simp only [v_mul, v_K, v_pow] at e4 ⊢
      rw [e4, rat_mul_pow]
      grind
    · have hd : P R' ∣ P R := ⟨K (primC R) * P (primP G) ^ k, by rw [e2, e1]; exact QP.eq fun x => by simp only [v_mul, v_K, v_pow]; grind⟩
      rcases List.mem_append.1 hq with h6 | h6
      · exact fun h' => hn q h6 (qdvd_trans h' hd)
      · simp at h6
        subst h6
        rw [e3]
        exact fun h' => hnd ((K_dvd hcG).1 h')
  · rcases h1 with h1 | h1
    · exact absurd h1 h0
    · omega
theorem Chn.yes {F : QP} {qs : List QP} {es : List Nat} {R : QP} (h : Chn F qs es R) (hd : dg R ≤ 1) : ExpIs F qs es := by
  obtain ⟨h0, hl, ⟨c, hc, e⟩, _⟩ := h
  have := dg_pos.1 h0
  obtain ⟨r, hr, rfl⟩ := dg_one_ne (a := R) (by omega)
  exact ⟨hl, c * r, by grind, by rw [e]; exact QP.eq fun x => by simp only [v_mul, v_K]; grind⟩
theorem Chn.no {F : QP} {qs : List QP} {es : List Nat} {R : QP} (hb : BaseOk qs) (h : Chn F qs es R) (hd : 2 ≤ dg R) : ¬ ∃ es', ExpIs F qs es' := by
  rintro ⟨es', l', c', hc', e'⟩
  obtain ⟨h0, hl, ⟨c, hc, e⟩, hn⟩ := h
  have key : ∀ π, Irr π → va π R + va π (powQ qs es) = va π (powQ qs es') := fun π hπ => by
    have b1 := va_Kmul hπ hc (qp_mul_ne h0 (powQ_ne qs es hb.1))
    have b2 := va_Kmul hπ hc' (powQ_ne qs es' hb.1)
    rw [← e, va_mul hπ h0 (powQ_ne qs es hb.1)] at b1
    rw [← e'] at b2
    omega
  obtain ⟨π, hπ, hdv⟩ := irr_factor hd
  have hp := (va_pos hπ h0).1 hdv
  have hk := key π hπ
  obtain ⟨q, hq, hqd⟩ : ∃ q ∈ qs, π ∣ q := by
    apply Classical.byContradiction
    intro hx
    have := va_powQ_none hπ qs es' hb.1 fun q hq hd => hx ⟨q, hq, hd⟩
    omega
  obtain ⟨i, hi, rfl⟩ := List.getElem_of_mem hq
  have g1 : es[i]? = some es[i] := List.getElem?_eq_getElem (by omega)
  have g2 : es'[i]? = some es'[i] := List.getElem?_eq_getElem (by omega)
  have g0 : qs[i]? = some qs[i] := List.getElem?_eq_getElem hi
  have hq0 := dg2_ne (hb.1 qs[i] hq)
  rw [va_powQ hπ qs es hb hl i _ _ g0 g1 hqd, va_powQ hπ qs es' hb l' i _ _ g0 g2 hqd] at hk
  have hlt : es[i] < es'[i] := by
    apply Classical.byContradiction
    intro hx
    have := Nat.mul_le_mul_right (va π qs[i]) (show es'[i] ≤ es[i] by omega)
    omega
  refine hn _ hq (dvd_of_va hq0 h0 fun ρ hρ => ?_)
  by_cases hd2 : ρ ∣ qs[i]
  · have hk2 := key ρ hρ
    rw [va_powQ hρ qs es hb hl i _ _ g0 g1 hd2, va_powQ hρ qs es' hb l' i _ _ g0 g2 hd2] at hk2
    have := Nat.mul_le_mul_right (va ρ qs[i]) (show es[i] + 1 ≤ es'[i] by omega)
    rw [Nat.add_mul, Nat.one_mul] at this
    omega
  · have : ¬ 1 ≤ va ρ qs[i] := fun h' => hd2 ((va_pos hρ hq0).2 h')
    omega
/-- What Exponents returns. -/
def ExpR (F : QP) (qs : List QP) (ok : Bool) (es : List Nat) : Prop :=
  (ok = false ∧ es = [] ∧ ¬ (F ≠ 0 ∧ BaseOk qs ∧ ∃ es', ExpIs F qs es')) ∨ (ok = true ∧ F ≠ 0 ∧ BaseOk qs ∧ ExpIs F qs es)
def qps (l : List PE) : List QP := l.map fun f => P (zs f.l)
theorem qps_take (l : List PE) (i : Nat) : qps (l.take i) = (qps l).take i := by simp [qps, List.map_take]
theorem qps_get {l : List PE} {i : Nat} {f : PE} (h : l[i]? = some f) : (qps l)[i]? = some (P (zs f.l)) := by simp [qps, h]
theorem take_snocQ {l : List QP} {i : Nat} {q : QP} (h : l[i]? = some q) : l.take (i + 1) = l.take i ++ [q] := by
  rw [List.take_add_one, h]; rfl
/-- The first i are of positive degree and pairwise coprime. -/
theorem base_snoc {qs : List QP} {q : QP} (h : BaseOk qs) (hd : 2 ≤ dg q) (hc : ∀ x ∈ qs, CopQ q x) : BaseOk (qs ++ [q]) := by
  refine ⟨fun x hx => ?_, List.pairwise_append.2 ⟨h.2, List.pairwise_singleton _ _, fun a ha b hb => ?_⟩⟩
  · rcases List.mem_append.1 hx with h1 | h1
    · exact h.1 x h1
    · simp at h1; subst h1; exact hd
  · simp at hb
    subst hb
    exact cop_iff.2 fun π hπ h1 h2 => cop_iff.1 (hc a ha) π hπ h2 h1
theorem base_deg {qs : List QP} (h : BaseOk qs) {i : Nat} {q : QP} (hg : qs[i]? = some q) : 2 ≤ dg q := h.1 q (List.mem_of_getElem? hg)
theorem base_cop {qs : List QP} (h : BaseOk qs) {i j : Nat} {a b : QP} (ha : qs[j]? = some a) (hb : qs[i]? = some b) (hij : j < i) : CopQ b a := by
  have := List.pairwise_iff_getElem.1 h.2 j i (by rw [List.getElem?_eq_some_iff] at ha; exact ha.1) (by rw [List.getElem?_eq_some_iff] at hb; exact hb.1) hij
  rw [List.getElem?_eq_some_iff] at ha hb
  rw [ha.2, hb.2] at this
  exact cop_iff.2 fun π hπ h1 h2 => cop_iff.1 this π hπ h2 h1
/-! ### what the walk wants -/
theorem rem_cont {R G R' : List Int} {k : Nat} (h : Rem R G k R') (h0 : P R ≠ 0) (hG : 2 ≤ (trimZ G).length) : contP R' = 1 := by
  rcases h with ⟨_, e, _⟩ | ⟨h1, _⟩
  · have h2 := cont_mul_dvd R' (ppow (primP G) k)
    rw [← cont_congr (F := primP R) (G := pmul R' (ppow (primP G) k)) (by rw [P_mul, P_pow]; exact e), cont_prim ((ld_ne_iff R).2 h0)] at h2
    exact Nat.dvd_one.1 h2
  · rcases h1 with h1 | h1
    · exact absurd h1 h0
    · omega
theorem Chn.dvd {F : QP} {qs : List QP} {es : List Nat} {R : QP} (h : Chn F qs es R) : R ∣ F := by
  obtain ⟨_, _, ⟨c, hc, e⟩, _⟩ := h
  exact ⟨K c * powQ qs es, by rw [e]; exact QP.eq fun x => by simp only [v_mul, v_K]; grind⟩
theorem Chn.ne {F : QP} {qs : List QP} {es : List Nat} {R : QP} (h : Chn F qs es R) : R ≠ 0 := h.1
theorem exp_tight {F R : List Int} (hc : contP R = 1) (hd : P R ∣ P F) (h0 : P F ≠ 0) (hF : nrm F ≤ 2 ^ 128) (hn : (trimZ F).length ≤ 40) : nrm R < BS ^ 340 := by
  obtain ⟨W, e⟩ := gauss_dvd hc hd
  exact Nat.lt_of_le_of_lt (div_bd (n := 39) ⟨W, by rw [e, qmul_comm]⟩ h0 hF hn) (by decide +kernel)
theorem fillE_set {es : List Nat} {i n k : Nat} (h : es.length = i) (hi : i < n) : (es ++ List.replicate (n - i) 0).set i k = (es ++ [k]) ++ List.replicate (n - (i + 1)) 0 := by
  subst h
  rw [show n - es.length = (n - (es.length + 1)) + 1 by omega, List.replicate_succ, List.set_append_right _ _ (Nat.le_refl _)]
  simp
theorem ltE_fill {b : Nat} {es : List Nat} {m : Nat} (hb : 0 < b) (h : ∀ d ∈ es, d < b) : ∀ d ∈ es ++ List.replicate m 0, d < b := fun d hd => by
  rcases List.mem_append.1 hd with h1 | h1
  · exact h d h1
  · rw [List.eq_of_mem_replicate h1]; exact hb
theorem lt_snocN {b k : Nat} {es : List Nat} (h : ∀ d ∈ es, d < b) (hk : k < b) : ∀ d ∈ es ++ [k], d < b := fun d hd => by
  rcases List.mem_append.1 hd with h1 | h1
  · exact h d h1
  · simp at h1; omega
theorem cop_snoc {qs : List QP} {g q : QP} {j : Nat} (h : ∀ x ∈ qs.take j, CopQ g x) (hq : qs[j]? = some q) (hc : CopQ g q) : ∀ x ∈ qs.take (j + 1), CopQ g x := fun x hx => by
  rw [take_snocQ hq] at hx
  rcases List.mem_append.1 hx with h1 | h1
  · exact h x h1
  · simp at h1; subst h1; exact hc
theorem base_next {qs : List QP} {g : QP} {i j : Nat} (h : BaseOk (qs.take i)) (hg : qs[i]? = some g) (hd : 2 ≤ dg g) (hj : j = i) (hc : ∀ x ∈ qs.take j, CopQ g x) : BaseOk (qs.take (i + 1)) := by
  subst hj
  rw [take_snocQ hg]; exact base_snoc h hd hc
theorem base_nil {qs : List QP} : BaseOk (qs.take 0) := ⟨fun q hq => by simp at hq, by simp⟩
theorem chn_next {F : QP} {qs : List QP} {es : List Nat} {R G R' : List Int} {i k : Nat} (h : Chn F (qs.take i) es (P R)) (hR : Rem R G k R') (hg : qs[i]? = some (P G)) (hG : 2 ≤ dg (P G)) : Chn F (qs.take (i + 1)) (es ++ [k]) (P R') := by
  rw [take_snocQ hg]; rw [dg_P] at hG; exact h.step hR hG
/-! ### the law -/
theorem two_base {p q : QP} (hp : 2 ≤ dg p) (hq : 2 ≤ dg q) (hc : CopQ p q) : BaseOk [p, q] :=
  ⟨fun x hx => by simp at hx; rcases hx with rfl | rfl <;> assumption, by simp [hc]⟩
theorem two_exp {p q F : QP} {i j : Nat} {c : Rat} (hc : c ≠ 0) (e : F = K c * (p ^ i * q ^ j)) : ExpIs F [p, q] [i, j] := ⟨rfl, c, hc, by rw [e]; simp only [powQ]; rw [qmul_one]⟩
theorem two_more {p q x : QP} {e : List Nat} {F : QP} (hx : 2 ≤ dg x) (hc : CopQ x (p * q)) (hb : BaseOk [p, q]) (h : ExpIs (F * x) [p, q] e) (hF : F ≠ 0) : False := by
  obtain ⟨l, c, hc0, e1⟩ := h
  obtain ⟨π, hπ, hd⟩ := irr_factor hx
  have h1 := va_Kmul hπ hc0 (powQ_ne [p, q] e hb.1)
  rw [← e1, va_mul hπ hF (dg2_ne hx)] at h1
  have h2 := (va_pos hπ (dg2_ne hx)).1 hd
  have h3 : va π (powQ [p, q] e) = 0 := va_powQ_none hπ _ _ hb.1 fun y hy hd2 => by
    refine cop_iff.1 hc π hπ hd ?_
    simp at hy
    rcases hy with rfl | rfl
    · exact qdvd_mulR _ hd2
    · exact qdvd_mulL _ hd2
  omega
/-- All of the law on two. -/
theorem exp_law_F {F p q W1 W2 W3 : List Int} {i j : Nat} {c : Int} (h1 : W1 = trimZ (ppow p i)) (h2 : W2 = trimZ (ppow q j)) (h3 : W3 = trimZ (pmul W1 W2)) (h : F = trimZ (scaleP W3 c)) : P F = K (c : Rat) * (P p ^ i * P q ^ j) := by
  rw [h, P_trim, P_scale, h3, P_trim, P_mul, h1, h2, P_trim, P_trim, P_pow, P_pow]
theorem exp_law_yes {F p q : List Int} {i j : Nat} {c : Int} {ok : Bool} {es : List Nat} (hF : P F = K (c : Rat) * (P p ^ i * P q ^ j)) (h : ExpR (P F) [P p, P q] ok es) (hp : 2 ≤ dg (P p)) (hq : 2 ≤ dg (P q)) (hc : CopQ (P p) (P q)) (h0 : c ≠ 0) : P F ≠ 0 ∧ BaseOk [P p, P q] ∧ ok = true ∧ es = [i, j] := by
  have hb := two_base hp hq hc
  have hx := two_exp (cast_ne h0) hF
  have hne : P F ≠ 0 := by rw [hF]; exact qp_mul_ne (K_ne (cast_ne h0)) (qp_mul_ne (qp_pow_ne (dg2_ne hp) _) (qp_pow_ne (dg2_ne hq) _))
  rcases h with ⟨_, _, hn⟩ | ⟨h1, _, _, h4⟩
  · exact absurd ⟨hne, hb, _, hx⟩ hn
  · exact ⟨hne, hb, h1, (exp_unique hb hx h4).symm⟩
theorem exp_law_no {F : QP} {qs : List QP} {ok : Bool} {es : List Nat} (h : ExpR F qs ok es) (hn : ¬ (F ≠ 0 ∧ BaseOk qs)) : ok = false ∧ es = [] := by
  rcases h with ⟨h1, h2, _⟩ | ⟨_, h2, h3, _⟩
  · exact ⟨h1, h2⟩
  · exact absurd ⟨h2, h3⟩ hn
theorem exp_law_more {F x p q X Y : List Int} {ok : Bool} {es : List Nat} (h : ExpR (P X) [P p, P q] ok es) (hX : X = trimZ (pmul F x)) (hY : Y = trimZ (pmul p q)) (hb : BaseOk [P p, P q]) (hx : 2 ≤ dg (P x)) (hc : CopQ (P x) (P Y)) (hF : P F ≠ 0) : ok = false := by
  rcases h with ⟨h1, _⟩ | ⟨_, _, _, h4⟩
  · exact h1
  · exfalso
    rw [hX, P_trim, P_mul] at h4
    rw [hY, P_trim, P_mul] at hc
    exact two_more hx hc hb h4 hF
theorem exp_law_nF {p q W1 W2 W3 F : List Int} {c : Int} {i j : Nat} (h1 : W1 = trimZ (ppow p i)) (h2 : W2 = trimZ (ppow q j)) (h3 : W3 = trimZ (pmul W1 W2)) (h : F = trimZ (scaleP W3 c)) (hp : nrm p ≤ 163840) (hq : nrm q ≤ 163840) (hi : i ≤ 3) (hj : j ≤ 3) (hc : c.natAbs ≤ 255) : nrm F ≤ 2 ^ 118 := by
  rw [h, nrm_trim, nrm_scale, h3, nrm_trim]
  have a1 := pow_norm h1 hp (by decide) hi
  have a2 := pow_norm h2 hq (by decide) hj
  exact Nat.le_trans (Nat.mul_le_mul hc (Nat.le_trans (nrm_pmul _ _) (Nat.mul_le_mul a1 a2))) (by decide)
theorem exp_law_nX {F x X : List Int} (hX : X = trimZ (pmul F x)) (hF : nrm F ≤ 2 ^ 118) (hx : nrm x ≤ 256) : nrm X ≤ 2 ^ 126 := by
  rw [hX, nrm_trim]
  exact Nat.le_trans (nrm_pmul _ _) (Nat.le_trans (Nat.mul_le_mul hF hx) (by decide))
end Go.Gx
namespace Go.Gx
theorem K_zero : K 0 = 0 := QP.eq fun _ => rfl
theorem lin_trim (x : Int) : trimZ [x, 1] = [x, 1] := trimB_snoc_no isZI [x] 1 (by decide)
theorem lin_len (x : Int) : (trimZ [x, 1]).length = 2 := by rw [lin_trim]; rfl
end Go.Gx

/-
  What the walk of the refinement wants. No program in sight.
-/
namespace Go.Gx
/-- A divisor of a small polynomial. -/
def Sm (x : List Int) : Prop := ∃ p : List Int, P p ≠ 0 ∧ P x ∣ P p ∧ nrm p ≤ 16777216 ∧ (trimZ p).length ≤ 11
theorem Sm.dvd {x y : List Int} (h : Sm x) (hd : P y ∣ P x) : Sm y := by
  obtain ⟨p, h0, h1, h2, h3⟩ := h
  exact ⟨p, h0, qdvd_trans hd h1, h2, h3⟩
theorem Sm.tight {x : List Int} (h : Sm x) (hc : contP x = 1) : nrm x < BS ^ 17 := by
  obtain ⟨p, h0, h1, h2, h3⟩ := h
  exact div17q hc h1 h0 h2 h3
theorem Sm.len {x : List Int} (h : Sm x) : (trimZ x).length ≤ 11 := by
  obtain ⟨p, h0, h1, h2, h3⟩ := h
  have := dvd_le h1 h0
  rw [dg_P, dg_P] at this
  omega
/-- A polynomial of the refinement, as it lies in memory. -/
def SmE (A : Option Addr) (n : Nat) (l : List RI) : Prop := Sm (zs l) ∧ l.length = n ∧ n ≤ 11
section
variable {key : QP → List Nat} {v : QP → Nat} {z : List Nat} {ks : List (List Nat)} {js : List Nat} {e i j : Nat} {fs : List FE}
/-- The factors behind e elements and, of element e, behind the first i factors. -/
def FcsOk (key : QP → List Nat) (v : QP → Nat) (ks : List (List Nat)) (js : List Nat) (e i : Nat) (fs : List FE) : Prop :=
  js.length = fs.length ∧ ∀ (j : Nat) (f : FE), fs[j]? = some f → (∃ jj, js[j]? = some jj ∧ FcOk key v ks (if j < i then e + 1 else e) jj (zs f.l)) ∧ SmE f.A f.n f.l
theorem FcsOk.set {f' : FE} {jj : Nat} (h : FcsOk key v ks js e i fs) (hj : js[i]? = some jj) (h1 : FcOk key v ks (e + 1) jj (zs f'.l)) (h2 : SmE f'.A f'.n f'.l) : FcsOk key v ks js e (i + 1) (fs.set i f') := by
  refine ⟨by simpa using h.1, fun j g hg => ?_⟩
  rw [List.getElem?_set] at hg
  by_cases hij : i = j
  · subst hij
    rw [if_pos rfl] at hg
    split at hg
    · injection hg with hg
      subst hg
      exact ⟨⟨jj, hj, by rw [if_pos (by omega)]; exact h1⟩, h2⟩
    · cases hg
  · rw [if_neg hij] at hg
    obtain ⟨⟨jj', a1, a2⟩, a3⟩ := h.2 j g hg
    refine ⟨⟨jj', a1, ?_⟩, a3⟩
    by_cases hlt : j < i
    · rw [if_pos hlt] at a2; rw [if_pos (by omega)]; exact a2
    · rw [if_neg hlt] at a2; rw [if_neg (by omega)]; exact a2
theorem FcsOk.turn (h : FcsOk key v ks js e i fs) (hi : fs.length ≤ i) : FcsOk key v ks js (e + 1) 0 fs := by
  refine ⟨h.1, fun j g hg => ?_⟩
  obtain ⟨⟨jj', a1, a2⟩, a3⟩ := h.2 j g hg
  have hj : j < fs.length := (List.getElem?_eq_some_iff.1 hg).1
  rw [if_pos (by omega)] at a2
  exact ⟨⟨jj', a1, by rw [if_neg (by omega)]; exact a2⟩, a3⟩
theorem FcsOk.get {f : FE} (h : FcsOk key v ks js e i fs) (hf : fs[i]? = some f) : ∃ jj, js[i]? = some jj ∧ FcOk key v ks e jj (zs f.l) ∧ SmE f.A f.n f.l := by
  obtain ⟨⟨jj, a1, a2⟩, a3⟩ := h.2 i f hf
  rw [if_neg (by omega)] at a2
  exact ⟨jj, a1, a2, a3⟩
theorem FcsOk.last {f : FE} (h : FcsOk key v ks js e 0 fs) (hf : fs[j]? = some f) : ∃ jj, js[j]? = some jj ∧ FcOk key v ks e jj (zs f.l) ∧ SmE f.A f.n f.l := by
  obtain ⟨⟨jj, a1, a2⟩, a3⟩ := h.2 j f hf
  rw [if_neg (by omega)] at a2
  exact ⟨jj, a1, a2, a3⟩
theorem FcsOk.start (h : BsOk v 0 (fs.map fun f => zs f.l) js) (hs : ∀ f ∈ fs, SmE f.A f.n f.l) : FcsOk key v ks js 0 0 fs := by
  have hl : js.length = fs.length := by have := h.len; simpa using this
  refine ⟨hl, fun j f hf => ⟨?_, hs f (List.mem_of_getElem? hf)⟩⟩
  have hj : j < js.length := by rw [hl]; exact (List.getElem?_eq_some_iff.1 hf).1
  refine ⟨js[j], List.getElem?_eq_getElem hj, ?_⟩
  rw [if_neg (by omega)]
  exact FcOk.start (h.cl j (zs f.l) js[j] (by simp [hf]) (List.getElem?_eq_getElem hj)).1
/-- An element of the basis. -/
theorem elem_start {fb : List PE} {f : PE} (h : BsOk key z (fb.map fun f => zs f.l) ks) (hf : fb[e]? = some f) : ∃ k, ks[e]? = some k ∧ ElOk key v js k 0 (zs f.l) := by
  have hl : ks.length = fb.length := by have := h.len; simpa using this
  have hj : e < ks.length := by rw [hl]; exact (List.getElem?_eq_some_iff.1 hf).1
  exact ⟨ks[e], List.getElem?_eq_getElem hj, ElOk.start (h.cl e (zs f.l) ks[e] (by simp [hf]) (List.getElem?_eq_getElem hj)).1⟩
end
/-- The list behind an addition. -/
def addE (fo : List PE) (A : Option Addr) (n c : Nat) (l : List RI) : List PE := if 2 ≤ (zs l).length then fo ++ [⟨A, n, c, l⟩] else fo
theorem addE_map (fo : List PE) (A : Option Addr) (n c : Nat) (l : List RI) : (addE fo A n c l).map (fun f => zs f.l) = if 2 ≤ (zs l).length then fo.map (fun f => zs f.l) ++ [zs l] else fo.map fun f => zs f.l := by
  unfold addE
  split <;> simp
theorem addE_sm {fo : List PE} {A : Option Addr} {n c : Nat} {l : List RI} (h : ∀ f ∈ fo, SmE f.A f.n f.l) (hl : SmE A n l) : ∀ f ∈ addE fo A n c l, SmE f.A f.n f.l := fun f hf => by
  unfold addE at hf
  split at hf
  · rcases List.mem_append.1 hf with h1 | h1
    · exact h f h1
    · simp at h1; subst h1; exact hl
  · exact h f hf
/-- The decomposition is a basis for the multiplicities in one polynomial. -/
theorem dec_bs {F : List Int} {u : Int} {fs : List FE} (hd : Dec F u fs) (hF : P F ≠ 0) : BsOk (fun π => va π (P F)) 0 (fs.map fun f => zs f.l) (fs.map fun f => f.k.toNat) := by
  rcases hd with ⟨h0, _⟩ | ⟨_, _, ⟨k, hdec⟩, hprod⟩
  · exact absurd h0 hF
  have hva : ∀ π, Irr π → va π (P (primP F)) = va π (P F) := fun π hπ => va_prim hπ hF
  refine ⟨by simp, ?_, fun i x k' hx hk' => ?_, fun l hl => ?_, fun π hπ hd => ?_⟩
  · show List.Pairwise (· ≠ ·) _
    rw [List.pairwise_map]
    exact hdec.asc.imp_of_mem fun {a b} ha hb hab => by
      have := (hdec.e a ha).k1; have := (hdec.e b hb).k1; omega
  · simp only [List.getElem?_map] at hx hk'
    cases hf : fs[i]? with
    | none => rw [hf] at hx; cases hx
    | some f =>
      rw [hf] at hx hk'
      injection hx with hx
      injection hk' with hk'
      subst hx hk'
      have hE := hdec.e f (List.mem_of_getElem? hf)
      have hk1 := hE.k1
      refine ⟨⟨hE.n, fun π hπ => ?_⟩, by rw [zlen, hE.hn]; exact hE.d⟩
      rw [hE.v π hπ, hva π hπ]
      by_cases e : (va π (P F) : Int) = f.k
      · rw [if_pos e, if_pos (by show va π (P F) = f.k.toNat; omega)]
      · rw [if_neg e, if_neg (by show ¬ va π (P F) = f.k.toNat; omega)]
  · obtain ⟨f, hf, rfl⟩ := List.mem_map.1 hl
    have := (hdec.e f hf).k1
    show f.k.toNat ≠ 0
    omega
  · obtain ⟨f, hf, hfk⟩ : ∃ f ∈ fs, f.k = (va π (P (primP F)) : Int) := by
      apply Classical.byContradiction
      intro hx
      have ⟨_, h8⟩ := va_prod hπ fs hdec.e hdec.asc
      have h9 := h8 fun f hf hfk => hx ⟨f, hf, hfk⟩
      rw [hprod, hva π hπ] at h9
      exact hd h9
    refine List.mem_map.2 ⟨f, hf, ?_⟩
    show f.k.toNat = va π (P F)
    rw [hfk, hva π hπ]; omega
theorem dec_sm {F : List Int} {u : Int} {fs : List FE} (hd : Dec F u fs) (hF : P F ≠ 0) (hN : nrm F ≤ 16777216) (hl : F.length ≤ 11) : ∀ f ∈ fs, SmE f.A f.n f.l := fun f hf => by
  have hb := dec_bs hd hF
  rcases hd with ⟨h0, _⟩ | ⟨_, _, ⟨k, hdec⟩, hprod⟩
  · exact absurd h0 hF
  have hE := hdec.e f hf
  refine ⟨⟨primP F, (nrm_prim hF).ne, dvd_of_va hE.n.ne (nrm_prim hF).ne fun π hπ => ?_, Nat.le_trans (nrm_prim_le F) hN, ?_⟩, hE.hn, hE.ln⟩
  · rw [hE.v π hπ]
    have := hE.k1
    split
    · rename_i h; omega
    · exact Nat.zero_le _
  · rw [prim_trim, prim_len]; exact Nat.le_trans (trimZ_len F) hl
/-- There is a factor if the degree is positive. -/
theorem dec_some {F : List Int} {u : Int} {fs : List FE} (hd : Dec F u fs) (h2 : 2 ≤ (trimZ F).length) : fs ≠ [] := fun e => by
  have hF : P F ≠ 0 := dg_pos.2 (by rw [dg_P]; omega)
  have hb := dec_bs hd hF
  obtain ⟨π, hπ, hdv⟩ := irr_factor (f := P F) (by rw [dg_P]; exact h2)
  have h1 := (va_pos hπ hF).1 hdv
  have := hb.cov π hπ (by show va π (P F) ≠ 0; omega)
  rw [e] at this
  simp at this
/-! ### lists of polynomials -/
/-- Those of positive degree, the last first. -/
noncomputable def posQ (l : List PE) : List QP := l.foldl (fun q f => if 2 ≤ (trimZ (zs f.l)).length then P (zs f.l) :: q else q) []
theorem posQ_next {l : List PE} {i : Nat} {f : PE} (h : l[i]? = some f) : posQ (l.take (i + 1)) = if 2 ≤ (trimZ (zs f.l)).length then P (zs f.l) :: posQ (l.take i) else posQ (l.take i) := by
  unfold posQ
  rw [List.take_add_one, h]
  simp [List.foldl_append]
theorem posQ_mem {l : List PE} {q : QP} : q ∈ posQ l ↔ ∃ f ∈ l, 2 ≤ (trimZ (zs f.l)).length ∧ q = P (zs f.l) := by
  unfold posQ
  have key : ∀ (l : List PE) (a : List QP), q ∈ l.foldl (fun q f => if 2 ≤ (trimZ (zs f.l)).length then P (zs f.l) :: q else q) a ↔ q ∈ a ∨ ∃ f ∈ l, 2 ≤ (trimZ (zs f.l)).length ∧ q = P (zs f.l) := by
    intro l
    induction l with
    | nil => intro a; simp
    | cons f l ih =>
      intro a
      rw [List.foldl_cons, ih]
      by_cases h : 2 ≤ (trimZ (zs f.l)).length
      · rw [if_pos h]
        constructor
        · rintro (h1 | ⟨g, h1, h2⟩)
          · rcases List.mem_cons.1 h1 with h3 | h3
            · exact .inr ⟨f, by simp, h, h3⟩
            · exact .inl h3
          · exact .inr ⟨g, by simp [h1], h2⟩
        · rintro (h1 | ⟨g, h1, h2, h3⟩)
          · exact .inl (by simp [h1])
          · rcases List.mem_cons.1 h1 with h4 | h4
            · subst h4; exact .inl (by simp [h3])
            · exact .inr ⟨g, h4, h2, h3⟩
      · rw [if_neg h]
        constructor
        · rintro (h1 | ⟨g, h1, h2⟩)
          · exact .inl h1
          · exact .inr ⟨g, by simp [h1], h2⟩
        · rintro (h1 | ⟨g, h1, h2, h3⟩)
          · exact .inl h1
          · rcases List.mem_cons.1 h1 with h4 | h4
            · subst h4; exact absurd h2 h
            · exact .inr ⟨g, h4, h2, h3⟩
  rw [key]; simp
theorem basis_yes {l : List PE} {i : Nat} {f : PE} {os : List (List Int)} {ls : List (List Nat × Nat)} (hf : l[i]? = some f) (h2 : 2 ≤ (trimZ (zs f.l)).length) (h : BsOk (key2 (keyL (posQ (l.take i))) fun π => va π (P (zs f.l))) (zeroL (posQ (l.take i)), 0) os ls) : BasisOf (posQ (l.take (i + 1))) os := by
  rw [posQ_next hf, if_pos h2]; exact BasisOf.cons h
theorem basis_no {l : List PE} {i : Nat} {f : PE} {os : List (List Int)} (hf : l[i]? = some f) (h2 : ¬ 2 ≤ (trimZ (zs f.l)).length) (h : BasisOf (posQ (l.take i)) os) : BasisOf (posQ (l.take (i + 1))) os := by
  rw [posQ_next hf, if_neg h2]; exact h
theorem pow12 {n i : Nat} (h : n + 1 ≤ 12 ^ i) : 12 * n + 11 + 1 ≤ 12 ^ (i + 1) := by rw [Nat.pow_succ]; omega
theorem pow12_le {n i : Nat} (h : n + 1 ≤ 12 ^ i) : n + 1 ≤ 12 ^ (i + 1) := by rw [Nat.pow_succ]; omega
theorem pow12_8 {n i : Nat} (h : n + 1 ≤ 12 ^ i) (hi : i ≤ 8) : n ≤ 429981696 := by
  have : 12 ^ i ≤ 12 ^ 8 := Nat.pow_le_pow_right (by omega) hi
  have e : (12 : Nat) ^ 8 = 429981696 := by decide
  omega
/-- Sorted, without equals: strictly. -/
theorem strict_of {fs : List QP} {ps : List PE} (hb : BasisOf fs (ps.map fun f => zs f.l)) (h : ps.Pairwise fun a b => ¬ cmpP (trimZ (zs b.l)) (trimZ (zs a.l)) < 0) : (ps.map fun f => zs f.l).Pairwise fun x y => cmpP x y < 0 := by
  have hc := hb.cop
  rw [List.pairwise_map] at hc ⊢
  have hn : ∀ f ∈ ps, trimZ (zs f.l) = zs f.l ∧ 2 ≤ (zs f.l).length := fun f hf => by
    obtain ⟨h1, k, _, hcl⟩ := hb.each _ (List.mem_map.2 ⟨f, hf, rfl⟩)
    exact ⟨hcl.n.t, h1⟩
  refine (hc.and h).imp_of_mem fun {a b} ha hb' hab => ?_
  obtain ⟨h1, h2⟩ := hab
  rw [(hn a ha).1, (hn b hb').1] at h2
  have h3 := cmpP_anti (zs a.l) (zs b.l)
  have h4 : cmpP (zs a.l) (zs b.l) ≠ 0 := fun e => by
    have e2 := cmpP_zero.1 e
    rw [e2] at h1
    obtain ⟨π, hπ, hd⟩ := irr_factor (f := P (zs b.l)) (by rw [dg_P, (hn b hb').1]; exact (hn b hb').2)
    exact cop_iff.1 h1 π hπ hd hd
  omega
end Go.Gx

/-
  Products of powers of factors. No program in sight.
-/
namespace Go.Gx
def FacOk (x : FE) : Prop := P (zs x.l) ≠ 0 ∧ x.n ≤ 11 ∧ 1 ≤ x.k ∧ x.k ≤ 10
theorem DecE.ok {p : QP} {f : FE} (h : DecE p f) : FacOk f := ⟨h.n.ne, h.ln, h.k1.1, h.k1.2⟩
theorem prod_step {fs : List FE} {x : FE} {i : Nat} (h : fs[i]? = some x) : prodQ (fs.take (i + 1)) = prodQ (fs.take i) * P (zs x.l) ^ x.k.toNat := by
  rw [List.take_add_one, h]
  exact prodQ_snoc _ _
theorem nrm_coef {H : Nat} : ∀ (l : List Int), (∀ i, (co l i).natAbs ≤ H) → nrm l ≤ l.length * H
  | [], _ => by simp [nrm]
  | a :: l, h => by
    have h0 := h 0
    have ih := nrm_coef l fun i => by have := h (i + 1); simpa [co] using this
    rw [nrm_cons, List.length_cons, Nat.succ_mul]
    simp [co] at h0
    omega
theorem PolyR.nrm18 {w : World} {S : Nat → Prop} {A : Option Addr} {n c : Nat} {l : List RI} (h : PolyR w S A n c l 17) (hn : n ≤ 11) : nrm (zs l) ≤ BS ^ 18 := by
  have h1 := nrm_coef (zs l) fun i => h.coef (Nat.le_refl _) i
  rw [zlen, h.len] at h1
  refine Nat.le_trans h1 (Nat.le_trans (Nat.mul_le_mul_right _ (show n ≤ BS by exact Nat.le_trans hn (by decide))) ?_)
  rw [Nat.pow_succ, Nat.mul_comm]
  exact Nat.le_refl _
theorem asc_get {fs : List FE} (h : fs.Pairwise fun a b => a.k < b.k) {i j : Nat} {x y : FE} (hx : fs[i]? = some x) (hy : fs[j]? = some y) (hij : i < j) : x.k < y.k := by
  obtain ⟨hi, rfl⟩ := List.getElem?_eq_some_iff.1 hx
  obtain ⟨hj, rfl⟩ := List.getElem?_eq_some_iff.1 hy
  exact List.pairwise_iff_getElem.1 h i j hi hj hij
theorem mulF {P2 P1 W : List Int} {fs : List FE} {x : FE} {i : Nat} {u : Int} (hv : P P1 = K (u : Rat) * prodQ (fs.take i)) (hm : P2 = trimZ (pmul P1 W)) (hw : W = trimZ (ppow (zs x.l) x.k.toNat)) (he : fs[i]? = some x) : P P2 = K (u : Rat) * prodQ (fs.take (i + 1)) := by
  rw [hm, P_trim, P_mul, hv, hw, P_trim, P_pow, prod_step he, qmul_assoc]
end Go.Gx

/-
  Exponents over a square-free basis. Plain numbers; no program in sight.
-/
namespace Go.Gx
theorem prim_of {F R : List Int} {c : Rat} (hc : c ≠ 0) (e : P F = K c * P R) (hR : Nrm R) : primP F = R := by
  have hF : P F ≠ 0 := by rw [e]; exact qp_mul_ne (K_ne hc) hR.ne
  have h1 := P_prim F
  have h2 := cast_ne (primC_ne ((ld_ne_iff F).2 hF))
  have h3 : K ((primC F : Int) : Rat) * P (primP F) = K c * P R := by rw [← h1, e]
  refine (nrm_prim hF).eq hR ?_ ?_
  · exact (dvd_K hc).1 ⟨K ((primC F : Int) : Rat), h3.symm⟩
  · exact (dvd_K h2).1 ⟨K c, h3⟩
theorem assoc_of_va {f g : QP} (hf : f ≠ 0) (hg : g ≠ 0) (h : ∀ π, Irr π → va π f = va π g) : ∃ c : Rat, c ≠ 0 ∧ f = K c * g := by
  obtain ⟨q, e⟩ := dvd_of_va hg hf fun π hπ => Nat.le_of_eq (h π hπ).symm
  have h2 := dvd_of_va hf hg fun π hπ => Nat.le_of_eq (h π hπ)
  have hq : q ≠ 0 := fun e' => hf (by rw [e, e', zero_qmul])
  have d1 := dg_mul hq hg
  rw [← e] at d1
  have d2 := dvd_le h2 hg
  have d3 := dg_pos.1 hq
  obtain ⟨r, hr, rfl⟩ := dg_one_ne (a := q) (by omega)
  exact ⟨r, hr, e⟩
theorem BasisOf.ok {fs : List QP} {bs : List (List Int)} (h : BasisOf fs bs) : BaseOk (bs.map P) := by
  refine ⟨fun q hq => ?_, by rw [List.pairwise_map]; exact h.cop⟩
  obtain ⟨b, hb, rfl⟩ := List.mem_map.1 hq
  obtain ⟨h1, k, _, hcl⟩ := h.each b hb
  rw [dg_P, hcl.n.t]; exact h1
/-- Each of the polynomials is a product of powers of the basis. -/
theorem span_exists {fs : List QP} {bs : List (List Int)} (h : BasisOf fs bs) {f : QP} (hf : f ∈ fs) (f0 : f ≠ 0) : ∃ es, ExpIs f (bs.map P) es := by
  have hch : ∀ b : List Int, ∃ e : Nat, ∀ π, Irr π → b ∈ bs → π ∣ P b → e = va π f := fun b => by
    by_cases hb : b ∈ bs
    · obtain ⟨h1, k, _, hcl⟩ := h.each b hb
      obtain ⟨π, hπ, hd, hk⟩ := hcl.ex h1
      refine ⟨va π f, fun ρ hρ _ hd2 => ?_⟩
      have h2 := (va_pos hρ hcl.n.ne).1 hd2
      rw [hcl.v ρ hρ] at h2
      have h3 : keyL fs ρ = k := by apply Classical.byContradiction; intro hx; rw [if_neg hx] at h2; omega
      exact key_eq.1 (hk.trans h3.symm) f hf
    · exact ⟨0, fun π _ hb' => absurd hb' hb⟩
  obtain ⟨ex, hex⟩ := Classical.axiomOfChoice hch
  have hok := h.ok
  have hl : (bs.map ex).length = (bs.map P).length := by simp
  obtain ⟨c, hc, e⟩ := assoc_of_va f0 (powQ_ne (bs.map P) (bs.map ex) hok.1) fun π hπ => by
    by_cases hx : ∃ b ∈ bs, π ∣ P b
    · obtain ⟨b, hb, hd⟩ := hx
      obtain ⟨i, hi, rfl⟩ := List.getElem_of_mem hb
      rw [va_powQ hπ (bs.map P) (bs.map ex) hok hl i (P bs[i]) (ex bs[i]) (by simp [hi]) (by simp [hi]) hd, hex bs[i] π hπ hb hd]
      obtain ⟨h1, k, _, hcl⟩ := h.each bs[i] hb
      have h2 := (va_pos hπ hcl.n.ne).1 hd
      have h3 := hcl.v π hπ
      have : va π (P bs[i]) = 1 := by
        by_cases hk : keyL fs π = k
        · rw [if_pos hk] at h3; exact h3
        · rw [if_neg hk] at h3; omega
      rw [this, Nat.mul_one]
    · rw [va_powQ_none hπ (bs.map P) (bs.map ex) hok.1 fun q hq hd => by
        obtain ⟨b, hb, rfl⟩ := List.mem_map.1 hq
        exact hx ⟨b, hb, hd⟩]
      apply Classical.byContradiction
      intro hv
      obtain ⟨b, hb, hcl⟩ := h.cover hπ fun e => hv (key_zero.1 e f hf)
      refine hx ⟨b, hb, (va_pos hπ hcl.n.ne).2 ?_⟩
      rw [hcl.v π hπ, if_pos rfl]; exact Nat.le_refl _
  exact ⟨_, hl, c, hc, e⟩
theorem powQ_zero : ∀ qs : List QP, powQ qs (qs.map fun _ => 0) = 1
  | [] => rfl
  | q :: qs => by
    show q ^ 0 * powQ qs _ = 1
    rw [qp_pow_zero, powQ_zero qs, one_qmul]
theorem span_const {bs : List QP} {f : QP} (h : dg f = 1) : ∃ es, ExpIs f bs es := by
  obtain ⟨r, hr, rfl⟩ := dg_one_ne h
  exact ⟨bs.map fun _ => 0, by simp, r, hr, by rw [powQ_zero, qmul_one]⟩
/-- Each polynomial other than 0 has exponents. -/
theorem span_all {l : List PE} {bs : List (List Int)} (h : BasisOf (posQ l) bs) {f : PE} (hf : f ∈ l) (f0 : P (zs f.l) ≠ 0) : ∃ es, ExpIs (P (zs f.l)) (bs.map P) es := by
  by_cases h2 : 2 ≤ (trimZ (zs f.l)).length
  · exact span_exists h (posQ_mem.2 ⟨f, hf, h2, rfl⟩) f0
  · have := dg_pos.1 f0
    rw [dg_P] at this
    exact span_const (by rw [dg_P]; omega)
theorem expR_yes {F : QP} {qs : List QP} {ok : Bool} {es : List Nat} (h : ExpR F qs ok es) (h0 : F ≠ 0) (hb : BaseOk qs) (hx : ∃ es', ExpIs F qs es') : ok = true ∧ ExpIs F qs es := by
  rcases h with ⟨_, _, hn⟩ | ⟨h1, _, _, h4⟩
  · exact absurd ⟨h0, hb, hx⟩ hn
  · exact ⟨h1, h4⟩
theorem expR_zero {F : QP} {qs : List QP} {ok : Bool} {es : List Nat} (h : ExpR F qs ok es) (h0 : F = 0) : ok = false := by
  rcases h with ⟨h1, _⟩ | ⟨_, h2, _⟩
  · exact h1
  · exact absurd h0 h2
/-! ### products of the powers -/
def powSt (qs : List QP) (es : List Nat) (i : Nat) (x : List Int) : Prop := Nrm x ∧ P x = powQ (qs.take i) (es.take i)
theorem powSt_start {qs : List QP} {es : List Nat} : powSt qs es 0 [1] := ⟨Nrm.one, QP.eq fun x => by simp only [List.take_zero, powQ, v_P, v_1, evQ]; rw [one_cast]; grind⟩
theorem powSt_next {qs : List QP} {es : List Nat} {i e : Nat} {x b w y : List Int} (h : powSt qs es i x) (hq : qs[i]? = some (P b)) (he : es[i]? = some e) (hb : Nrm b) (hw : w = trimZ (ppow b e)) (hy : y = trimZ (pmul x w)) : powSt qs es (i + 1) y ∧ Nrm w ∧ P w = P b ^ e := by
  obtain ⟨b', hb', e1⟩ := hb.pow e
  have hPw : P w = P b ^ e := by rw [hw, P_trim, P_pow]
  have hwn : Nrm w := by
    have h1 := P_inj (hPw.trans e1.symm)
    rw [hb'.t] at h1
    rw [hw, trim_trim, ← hw] at h1
    rw [h1]; exact hb'
  refine ⟨⟨by rw [hy]; exact h.1.mul hwn, ?_⟩, hwn, hPw⟩
  rw [hy, P_trim, P_mul, h.2, hPw, List.take_add_one, List.take_add_one, hq, he]
  rw [List.getElem?_eq_some_iff] at hq he
  exact (powQ_snoc _ _ _ _ (by rw [List.length_take, List.length_take]; have := hq.1; have := he.1; omega)).symm
theorem powQ_dvd : ∀ (qs : List QP) (es : List Nat) (i : Nat), powQ (qs.take i) (es.take i) ∣ powQ qs es
  | _, _, 0 => by rw [List.take_zero]; exact ⟨_, (qmul_one _).symm⟩
  | [], _, i + 1 => by simp only [List.take_nil]; exact ⟨1, (one_qmul _).symm⟩
  | q :: qs, [], i + 1 => by simp only [List.take_nil]; exact ⟨1, (one_qmul _).symm⟩
  | q :: qs, e :: es, i + 1 => by
    show q ^ e * powQ (qs.take i) (es.take i) ∣ q ^ e * powQ qs es
    exact qmul_mul (qdvd_refl _) (powQ_dvd qs es i)
theorem pow_dvd_powQ : ∀ (qs : List QP) (es : List Nat) (i e : Nat) (q : QP), qs[i]? = some q → es[i]? = some e → q ^ e ∣ powQ qs es
  | [], _, i, e, q, h, _ => by simp at h
  | _ :: _, [], i, e, q, _, h => by simp at h
  | a :: qs, b :: es, 0, e, q, h1, h2 => by
    simp at h1 h2
    subst h1 h2
    exact ⟨powQ qs es, qmul_comm _ _⟩
  | a :: qs, b :: es, i + 1, e, q, h1, h2 => by
    simp at h1 h2
    exact qdvd_mulL _ (pow_dvd_powQ qs es i e q h1 h2)
/-- What divides the product of the powers of a small polynomial is small. -/
theorem span_sm {F x : List Int} {qs : List QP} {es : List Nat} (h : ExpIs (P F) qs es) (h0 : P F ≠ 0) (hF : nrm F ≤ 16777216) (hl : (trimZ F).length ≤ 11) (hd : P x ∣ powQ qs es) : Sm x := by
  obtain ⟨_, c, hc, e⟩ := h
  exact ⟨F, h0, by rw [e]; exact (dvd_K hc).2 hd, hF, hl⟩
/-- The last of it. -/
theorem span_prim {F x : List Int} {qs : List QP} {es : List Nat} {i : Nat} (h : ExpIs (P F) qs es) (hx : powSt qs es i x) (hi : qs.length ≤ i) : primP F = x := by
  obtain ⟨hl, c, hc, e⟩ := h
  obtain ⟨h1, h2⟩ := hx
  rw [List.take_of_length_le hi, List.take_of_length_le (by omega)] at h2
  exact prim_of hc (by rw [e, h2]) h1
end Go.Gx
namespace Go.Gx
/-! ### the law on orders -/
theorem orderless {F G H N G' Z : PE} (hN : (trimZ (zs N.l)).length ≤ 1) (hG : ∃ c : Rat, c ≠ 0 ∧ P (zs G'.l) = K c * P (zs G.l)) (hZ : zs Z.l = []) {a b : List (List Int)} (ha : BasisOf (posQ [F, G, H]) a) (hb : BasisOf (posQ [H, F, N, G, F, G', Z]) b) (sa : a.Pairwise fun x y => cmpP x y < 0) (sb : b.Pairwise fun x y => cmpP x y < 0) : a = b := by
  refine basis_eq ha hb sa sb (fun f hf => ?_) fun g hg => ?_
  · obtain ⟨x, hx, h2, rfl⟩ := posQ_mem.1 hf
    refine ⟨_, posQ_mem.2 ⟨x, ?_, h2, rfl⟩, fun _ _ => rfl⟩
    simp only [List.mem_cons, List.not_mem_nil, or_false] at hx ⊢
    rcases hx with rfl | rfl | rfl <;> simp
  · obtain ⟨x, hx, h2, rfl⟩ := posQ_mem.1 hg
    simp only [List.mem_cons, List.not_mem_nil, or_false] at hx
    rcases hx with rfl | rfl | rfl | rfl | rfl | rfl | rfl
    · exact ⟨_, posQ_mem.2 ⟨x, by simp, h2, rfl⟩, fun _ _ => rfl⟩
    · exact ⟨_, posQ_mem.2 ⟨x, by simp, h2, rfl⟩, fun _ _ => rfl⟩
    · omega
    · exact ⟨_, posQ_mem.2 ⟨x, by simp, h2, rfl⟩, fun _ _ => rfl⟩
    · exact ⟨_, posQ_mem.2 ⟨x, by simp, h2, rfl⟩, fun _ _ => rfl⟩
    · obtain ⟨c, hc, e⟩ := hG
      have hg2 : 2 ≤ (trimZ (zs G.l)).length := by
        rw [← dg_P] at h2 ⊢
        rw [e, dg_Kmul hc] at h2
        exact h2
      have hg0 : P (zs G.l) ≠ 0 := dg_pos.2 (by rw [dg_P]; omega)
      exact ⟨_, posQ_mem.2 ⟨G, by simp, hg2, rfl⟩, fun π hπ => by rw [e]; exact (va_Kmul hπ hc hg0).symm⟩
    · rw [hZ] at h2; simp [trimB] at h2
theorem polys_get {fa fb : List PE} {i : Nat} {f g : PE} (h : fa.map (fun f => zs f.l) = fb.map (fun f => zs f.l)) (hf : fa[i]? = some f) (hg : fb[i]? = some g) : zs f.l = zs g.l := by
  have h1 := congrArg (fun l => l[i]?) h
  simp only [List.getElem?_map, hf, hg, Option.map_some, Option.some.injEq] at h1
  exact h1
theorem polys_len {fa fb : List PE} (h : fa.map (fun f => zs f.l) = fb.map (fun f => zs f.l)) : fa.length = fb.length := by
  have := congrArg List.length h
  simpa using this
theorem neg_P {g G : List Int} {c : Int} (e : G = trimZ (scaleP g c)) (hc : c ≠ 0) : ∃ c : Rat, c ≠ 0 ∧ P G = K c * P g := ⟨(c : Rat), cast_ne hc, by rw [e, P_trim, P_scale]⟩
end Go.Gx

/-
  What the walks of the law on spans want of a basis. No program in sight.
-/
namespace Go.Gx
theorem qps_eq (l : List PE) : qps l = (l.map fun f => zs f.l).map P := by simp [qps]
section
variable {fs : List QP} {bl : List PE}
theorem span_elem (h : BasisOf fs (bl.map fun f => zs f.l)) {i : Nat} {f : PE} (hf : bl[i]? = some f) : Nrm (zs f.l) ∧ 2 ≤ (trimZ (zs f.l)).length ∧ CopQ (P (zs f.l)) (P (derivP (zs f.l))) := by
  obtain ⟨h1, k, _, hcl⟩ := h.each (zs f.l) (List.mem_map.2 ⟨f, List.mem_of_getElem? hf, rfl⟩)
  exact ⟨hcl.n, by rw [hcl.n.t]; exact h1, hcl.sqf⟩
theorem span_base (h : BasisOf fs (bl.map fun f => zs f.l)) : BaseOk (qps bl) := by rw [qps_eq]; exact h.ok
theorem span_cop (h : BasisOf fs (bl.map fun f => zs f.l)) {i k : Nat} {f g : PE} (hf : bl[i]? = some f) (hg : bl[k]? = some g) (hk : k < i) : CopQ (P (zs f.l)) (P (zs g.l)) := base_cop (span_base h) (qps_get hg) (qps_get hf) hk
theorem span_lt (hs : (bl.map fun f => zs f.l).Pairwise fun x y => cmpP x y < 0) {i j : Nat} {f g : PE} (hf : bl[i]? = some f) (hg : bl[j]? = some g) (hi : i < j) : cmpP (zs f.l) (zs g.l) < 0 := by
  obtain ⟨h1, h2⟩ := List.getElem?_eq_some_iff.1 hf
  obtain ⟨h3, h4⟩ := List.getElem?_eq_some_iff.1 hg
  have := (List.pairwise_iff_getElem.1 hs) i j (by simpa using h1) (by simpa using h3) hi
  simpa [h2, h4] using this
theorem span_sml (h : ∀ f ∈ bl, SmE f.A f.n f.l) {i : Nat} {f : PE} (hf : bl[i]? = some f) : SmE f.A f.n f.l := h f (List.mem_of_getElem? hf)
/-- Exponents over the basis of a list. -/
theorem span_yes {l : List PE} (h : BasisOf (posQ l) (bl.map fun f => zs f.l)) {f : PE} (hf : f ∈ l) {ok : Bool} {es : List Nat} (he : ExpR (P (zs f.l)) (qps bl) ok es) : (P (zs f.l) ≠ 0 ∧ ok = true ∧ ExpIs (P (zs f.l)) (qps bl) es) ∨ (P (zs f.l) = 0 ∧ ok = false) := by
  by_cases h0 : P (zs f.l) = 0
  · exact .inr ⟨h0, expR_zero he h0⟩
  · refine .inl ⟨h0, expR_yes he h0 (span_base h) ?_⟩
    rw [qps_eq]; exact span_all h hf h0
end
/-- The power of one polynomial of the basis is small, and so is the product up to there. -/
theorem span_pow {F w : List Int} {qs : List QP} {es : List Nat} {i e : Nat} {b : List Int} (h : ExpIs (P F) qs es) (h0 : P F ≠ 0) (hF : nrm F ≤ 16777216) (hl : (trimZ F).length ≤ 11) (hq : qs[i]? = some (P b)) (he : es[i]? = some e) (hb : Nrm b) (hw : w = trimZ (ppow b e)) : Sm w ∧ Nrm w := by
  obtain ⟨b', hb', e1⟩ := hb.pow e
  have hPw : P w = P b ^ e := by rw [hw, P_trim, P_pow]
  have hwn : Nrm w := by
    have h1 := P_inj (hPw.trans e1.symm)
    rw [hb'.t] at h1
    rw [hw, trim_trim, ← hw] at h1
    rw [h1]; exact hb'
  exact ⟨span_sm h h0 hF hl (by rw [hPw]; exact pow_dvd_powQ qs es i e (P b) hq he), hwn⟩
theorem span_sofar {F x : List Int} {qs : List QP} {es : List Nat} {i : Nat} (h : ExpIs (P F) qs es) (h0 : P F ≠ 0) (hF : nrm F ≤ 16777216) (hl : (trimZ F).length ≤ 11) (hx : powSt qs es i x) : Sm x ∧ Nrm x := ⟨span_sm h h0 hF hl (by rw [hx.2]; exact powQ_dvd qs es i), hx.1⟩
/-- The product has the same primitive part. -/
theorem span_assoc {F x : List Int} {qs : List QP} {es : List Nat} {i : Nat} (h : ExpIs (P F) qs es) (hx : powSt qs es i x) (hi : qs.length ≤ i) : primP x = primP F := by
  rw [span_prim h hx hi]; exact hx.1.self
end Go.Gx
