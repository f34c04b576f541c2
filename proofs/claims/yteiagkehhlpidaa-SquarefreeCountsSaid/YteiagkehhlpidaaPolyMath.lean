/-
  Polynomials as lists of integers. Plain numbers; no program in sight.
-/
import Derived.Test.YteiagkehhlpidaaPolyPreds
namespace Go.Gx
/-- The sum of F over 0 .. n - 1. -/
def rsum (F : Nat → Int) : Nat → Int
  | 0 => 0
  | n + 1 => rsum F n + F n
theorem rsum_succ (F : Nat → Int) (n : Nat) : rsum F (n + 1) = rsum F n + F n := rfl
theorem rsum_congr {F G : Nat → Int} : ∀ {n : Nat}, (∀ i, i < n → F i = G i) → rsum F n = rsum G n
  | 0, _ => rfl
  | n + 1, h => by rw [rsum, rsum, rsum_congr fun i hi => h i (by omega), h n (by omega)]
theorem rsum_zero {F : Nat → Int} {n : Nat} (h : ∀ i, i < n → F i = 0) : rsum F n = 0 := by
  induction n with
  | zero => rfl
  | succ n ih => rw [rsum, ih fun i hi => h i (by omega), h n (by omega)]; rfl
theorem rsum_more {F : Nat → Int} {n m : Nat} (hm : n ≤ m) (h : ∀ i, n ≤ i → i < m → F i = 0) : rsum F m = rsum F n := by
  induction m with
  | zero => have : n = 0 := by omega
            subst this; rfl
  | succ m ih =>
    rcases Nat.lt_or_ge n (m + 1) with h1 | h1
    · rw [rsum, ih (by omega) fun i h2 h3 => h i h2 (by omega), h m (by omega) (by omega)]; omega
    · have : n = m + 1 := by omega
      subst this; rfl
theorem rsum_add (F G : Nat → Int) (n : Nat) : rsum (fun i => F i + G i) n = rsum F n + rsum G n := by
  induction n with
  | zero => rfl
  | succ n ih => simp only [rsum, ih]; omega
theorem rsum_mul (c : Int) (F : Nat → Int) (n : Nat) : rsum (fun i => c * F i) n = c * rsum F n := by
  induction n with
  | zero => simp [rsum]
  | succ n ih => simp only [rsum, ih, Int.mul_add]
theorem rsum_mul_r (c : Int) (F : Nat → Int) (n : Nat) : rsum (fun i => F i * c) n = rsum F n * c := by
  induction n with
  | zero => simp [rsum]
  | succ n ih => simp only [rsum, ih, Int.add_mul]
theorem rsum_head (F : Nat → Int) (n : Nat) : rsum F (n + 1) = F 0 + rsum (fun i => F (i + 1)) n := by
  induction n with
  | zero => simp [rsum]
  | succ n ih => rw [rsum, ih, rsum]; omega
theorem rsum_rev (F : Nat → Int) : ∀ (n : Nat), rsum F n = rsum (fun i => F (n - 1 - i)) n
  | 0 => rfl
  | n + 1 => by
    rw [rsum_head (fun i => F (n + 1 - 1 - i)), rsum, rsum_rev F n]
    simp only [Nat.add_sub_cancel, Nat.sub_zero]
    rw [rsum_congr (G := fun i => F (n - (i + 1))) fun i hi => by congr 1; omega]
    omega
theorem rsum_swap (F : Nat → Nat → Int) (n m : Nat) : rsum (fun i => rsum (fun j => F i j) m) n = rsum (fun j => rsum (fun i => F i j) n) m := by
  induction n with
  | zero => simp only [rsum]; rw [rsum_zero]; intro i _; rfl
  | succ n ih => simp only [rsum, ih]; rw [← rsum_add]

theorem co_ge {f : List Int} {i : Nat} (h : f.length ≤ i) : co f i = 0 := zget_ge (Nat.le_refl _) i h
def convF (f g : Nat → Int) (k : Nat) : Int := rsum (fun i => f i * g (k - i)) (k + 1)
abbrev conv (f g : List Int) (k : Nat) : Int := convF (co f) (co g) k
def padd (f g : List Int) : List Int := (List.range (max f.length g.length)).map fun i => co f i + co g i
def psub (f g : List Int) : List Int := (List.range (max f.length g.length)).map fun i => co f i - co g i
def pmul (f g : List Int) : List Int := if f.length = 0 ∨ g.length = 0 then [] else (List.range (f.length + g.length - 1)).map fun k => conv f g k
theorem co_map_range {F : Nat → Int} {n i : Nat} : co ((List.range n).map F) i = if i < n then F i else 0 := by
  simp only [co, List.getD, List.getElem?_map, List.getElem?_range']
  by_cases h : i < n
  · rw [List.getElem?_range h]; simp [h]
  · rw [List.getElem?_eq_none (by simp; omega)]; simp [h]
theorem co_padd (f g : List Int) (i : Nat) : co (padd f g) i = co f i + co g i := by
  rw [padd, co_map_range]
  split
  · rfl
  · rw [co_ge (f := f) (by omega), co_ge (f := g) (by omega)]; rfl
theorem co_psub (f g : List Int) (i : Nat) : co (psub f g) i = co f i - co g i := by
  rw [psub, co_map_range]
  split
  · rfl
  · rw [co_ge (f := f) (by omega), co_ge (f := g) (by omega)]; rfl
theorem conv_big {f g : List Int} {k : Nat} (h : f.length + g.length ≤ k + 1) (h0 : f.length ≠ 0 ∨ g.length ≠ 0 ∨ True) : conv f g k = 0 := by
  refine rsum_zero fun i hi => ?_
  rcases Nat.lt_or_ge i f.length with h1 | h1
  · rw [co_ge (f := g) (i := k - i) (by omega), Int.mul_zero]
  · rw [co_ge h1, Int.zero_mul]
theorem co_pmul (f g : List Int) (k : Nat) : co (pmul f g) k = conv f g k := by
  unfold pmul
  split
  · rename_i h
    rcases h with h | h
    · have : f = [] := List.eq_nil_of_length_eq_zero h
      subst this
      refine (rsum_zero fun i _ => ?_).symm
      simp
    · have : g = [] := List.eq_nil_of_length_eq_zero h
      subst this
      refine (rsum_zero fun i _ => ?_).symm
      simp
  · rename_i h
    rw [co_map_range]
    split
    · rfl
    · exact (conv_big (by omega) (.inr (.inr trivial))).symm
theorem co_trim (f : List Int) (i : Nat) : co (trimZ f) i = co f i := by
  have h : ∀ (m : Nat) (f : List Int), f.length = m → ∀ i, co (trimZ f) i = co f i := by
    intro m
    induction m with
    | zero => intro l hl i; simp [List.eq_nil_of_length_eq_zero hl, trimB]
    | succ m ih =>
      intro l hl i
      rcases snoc_cases l with h0 | ⟨l', y, rfl⟩
      · subst h0; simp at hl
      · cases hy : isZI y with
        | true =>
          show co (trimB isZI _) i = _
          rw [trimB_snoc_yes _ _ _ hy]
          have h1 := ih l' (by simpa using hl) i
          rw [show co (trimB isZI l') i = co l' i from h1]
          have : y = 0 := by simpa [isZI] using hy
          subst this
          simp only [co, List.getD]
          rcases Nat.lt_trichotomy i l'.length with h2 | h2 | h2
          · rw [List.getElem?_append_left h2]
          · subst h2; simp
          · rw [List.getElem?_eq_none (by omega), List.getElem?_eq_none (by simp; omega)]
        | false =>
          show co (trimB isZI _) i = _
          rw [trimB_snoc_no _ _ _ hy]
  exact h _ f rfl i
/-- Two lists without last zeros and with the same coefficients are one. -/
theorem co_inj {f g : List Int} (hf : Canon isZI f) (hg : Canon isZI g) (h : ∀ i, co f i = co g i) : f = g := by
  have key : ∀ {f g : List Int}, Canon isZI f → (∀ i, co f i = co g i) → f.length ≤ g.length := by
    intro f g hf h
    rcases snoc_cases f with h0 | ⟨k, x, rfl⟩
    · subst h0; simp
    · have hx : isZI x = false := canon_snoc.1 hf
      have h1 := h k.length
      rcases Nat.lt_or_ge k.length g.length with h2 | h2
      · simp; omega
      · rw [co_ge h2] at h1
        simp [co, List.getD] at h1
        subst h1; simp [isZI] at hx
  have hl : f.length = g.length := Nat.le_antisymm (key hf h) (key hg fun i => (h i).symm)
  apply List.ext_getElem hl
  intro i h1 h2
  have := h i
  simpa [co, List.getD, h1, h2] using this
theorem trim_inj {f g : List Int} (h : ∀ i, co f i = co g i) : trimZ f = trimZ g :=
  co_inj (canon_trim _ _) (canon_trim _ _) fun i => by rw [co_trim, co_trim, h]
theorem conv_trim (f g : List Int) (k : Nat) : conv (trimZ f) (trimZ g) k = conv f g k := by
  refine rsum_congr fun i _ => ?_
  rw [co_trim, co_trim]
theorem pmul_len {f g : List Int} (hf : f.length ≠ 0) (hg : g.length ≠ 0) : (pmul f g).length = f.length + g.length - 1 := by
  unfold pmul
  rw [if_neg (by omega)]
  simp
/-- The product of lists without last zeros has none. -/
theorem pmul_canon {f g : List Int} (hf : Canon isZI f) (hg : Canon isZI g) : Canon isZI (pmul f g) := by
  by_cases h0 : f.length = 0 ∨ g.length = 0
  · unfold pmul; rw [if_pos h0]; exact canon_nil _
  · rcases snoc_cases f with h1 | ⟨f', x, rfl⟩
    · subst h1; simp at h0
    · rcases snoc_cases g with h2 | ⟨g', y, rfl⟩
      · subst h2; simp at h0
      · have hx : isZI x = false := canon_snoc.1 hf
        have hy : isZI y = false := canon_snoc.1 hg
        have hx' : x ≠ 0 := by simpa [isZI] using hx
        have hy' : y ≠ 0 := by simpa [isZI] using hy
        have hlen : (pmul (f' ++ [x]) (g' ++ [y])).length = f'.length + g'.length + 1 := by rw [pmul_len (by simp) (by simp)]; simp; omega
        rcases snoc_cases (pmul (f' ++ [x]) (g' ++ [y])) with h3 | ⟨p, z, h3⟩
        · rw [h3] at hlen; simp at hlen
        · rw [h3, canon_snoc]
          have hp : p.length = f'.length + g'.length := by rw [h3] at hlen; simpa using hlen
          have hz : z = conv (f' ++ [x]) (g' ++ [y]) (f'.length + g'.length) := by
            rw [← co_pmul, h3]
            simp [co, List.getD, ← hp]
          have hc : conv (f' ++ [x]) (g' ++ [y]) (f'.length + g'.length) = x * y := by
            unfold conv convF
            rw [rsum_more (n := f'.length + 1) (by omega) fun i h4 h5 => by rw [co_ge (by simp; omega), Int.zero_mul]]
            rw [rsum, rsum_zero fun i hi => by rw [co_ge (f := g' ++ [y]) (by simp; omega), Int.mul_zero]]
            simp [co, List.getD]
          rw [hz, hc]
          simp [isZI, hx', hy']
theorem mul_trim (f g : List Int) : pmul (trimZ f) (trimZ g) = trimZ (pmul f g) :=
  co_inj (pmul_canon (canon_trim _ _) (canon_trim _ _)) (canon_trim _ _) fun i => by rw [co_pmul, conv_trim, co_trim, co_pmul]
/-! ring laws of coefficients -/
theorem convF_comm (f g : Nat → Int) (k : Nat) : convF f g k = convF g f k := by
  unfold convF
  rw [rsum_rev]
  refine rsum_congr fun i hi => ?_
  rw [show k + 1 - 1 - i = k - i by omega, show k - (k - i) = i by omega, Int.mul_comm]
theorem convF_add (f g h : Nat → Int) (k : Nat) : convF f (fun i => g i + h i) k = convF f g k + convF f h k := by
  unfold convF
  rw [← rsum_add]
  refine rsum_congr fun i _ => ?_
  rw [Int.mul_add]
theorem convF_congr {f f' g g' : Nat → Int} {k : Nat} (hf : ∀ i, f i = f' i) (hg : ∀ i, g i = g' i) : convF f g k = convF f' g' k :=
  rsum_congr fun i _ => by rw [hf, hg]
/-- A sum over the triangle i + j ≤ k, both ways. -/
theorem tri (F : Nat → Nat → Int) : ∀ (k : Nat), rsum (fun i => rsum (fun j => F i j) (k - i + 1)) (k + 1) = rsum (fun s => rsum (fun i => F i (s - i)) (s + 1)) (k + 1)
  | 0 => rfl
  | k + 1 => by
    have e1 : rsum (fun i => rsum (fun j => F i j) (k + 1 - i + 1)) (k + 1 + 1) = rsum (fun i => rsum (fun j => F i j) (k - i + 1)) (k + 1) + rsum (fun i => F i (k + 1 - i)) (k + 1 + 1) := by
      rw [rsum_succ _ (k + 1), rsum_succ (fun i => F i (k + 1 - i)) (k + 1)]
      rw [rsum_congr (G := fun i => rsum (fun j => F i j) (k - i + 1) + F i (k + 1 - i)) fun i hi => by
        rw [show k + 1 - i + 1 = (k - i + 1) + 1 by omega, rsum_succ, show k - i + 1 = k + 1 - i by omega]]
      rw [rsum_add, Nat.sub_self]
      simp only [rsum]
      omega
    rw [e1, tri F k, ← rsum_succ (fun s => rsum (fun i => F i (s - i)) (s + 1)) (k + 1)]
theorem convF_assoc (f g h : Nat → Int) (k : Nat) : convF f (fun i => convF g h i) k = convF (fun i => convF f g i) h k := by
  have e1 : convF f (fun i => convF g h i) k = rsum (fun i => rsum (fun j => f i * (g j * h (k - i - j))) (k - i + 1)) (k + 1) := by
    unfold convF
    refine rsum_congr fun i _ => ?_
    rw [← rsum_mul]
  have e2 : convF (fun i => convF f g i) h k = rsum (fun s => rsum (fun i => f i * (g (s - i) * h (k - s))) (s + 1)) (k + 1) := by
    unfold convF
    refine rsum_congr fun s _ => ?_
    rw [← rsum_mul_r]
    refine rsum_congr fun i _ => ?_
    rw [Int.mul_assoc]
  rw [e1, tri (fun i j => f i * (g j * h (k - i - j))), e2]
  refine rsum_congr fun s hs => rsum_congr fun i hi => ?_
  rw [show k - i - (s - i) = k - s by omega]
theorem fillI_set {L : List RI} {m m' k : Nat} {r : RI} (hk : L.length = k) (hm : m = m' + 1) : (L ++ List.replicate m RI.zero).set k r = (L ++ [r]) ++ List.replicate m' RI.zero := by
  subst hk hm
  rw [List.replicate_succ]
  simp
theorem maxN {a b : Nat} : (if (b : Int) > (a : Int) then (b : Int) else (a : Int)) = ((max a b : Nat) : Int) := by
  split <;> omega
theorem zs_snoc {L : List RI} {k : Nat} {F : Nat → Int} {r : RI} (h : zs L = (List.range k).map F) (hr : r.z = F k) : zs (L ++ [r]) = (List.range (k + 1)).map F := by
  show (L ++ [r]).map RI.z = _
  rw [List.map_append, List.range_succ, List.map_append, show L.map RI.z = _ from h]
  simp [hr]
theorem cadd {x y a b : Int} (h : x = a) (h' : y = b) : x + y = a + b := by rw [h, h']
theorem csub {x y a b : Int} (h : x = a) (h' : y = b) : x - y = a - b := by rw [h, h']
theorem cmul {x y a b : Int} (h : x = a) (h' : y = b) : x * y = a * b := by rw [h, h']
end Go.Gx
namespace Go.Gx
theorem conv_lo {f g : List Int} {k i : Nat} (hi : i = k + 1 - g.length) : (0 : Int) = rsum (fun t => co f t * co g (k - t)) i :=
  (rsum_zero fun t ht => by rw [co_ge (f := g) (i := k - t) (by omega), Int.mul_zero]).symm
theorem conv_end {f g : List Int} {k i : Nat} {x : Int} (h : x = rsum (fun t => co f t * co g (k - t)) i) (hi : i ≤ k + 1) (hx : ¬ ((i : Int) ≤ ((min k (f.length - 1) : Nat) : Int))) : x = conv f g k := by
  rw [h]
  refine (rsum_more hi fun t h1 h2 => ?_).symm
  rw [co_ge (f := f) (by omega), Int.zero_mul]
theorem pmul_pos {f g : List Int} (hf : f.length ≠ 0) (hg : g.length ≠ 0) {N : Nat} (hN : N = f.length + g.length - 1) : (List.range N).map (fun k => conv f g k) = pmul f g := by
  subst hN
  unfold pmul
  rw [if_neg (by omega)]
def cmpTop (f g : List Int) : Nat → Int
  | 0 => 0
  | k + 1 => if co f k = co g k then cmpTop f g k else cmpZ (co f k) (co g k)
/-- By the length, then by the coefficients from the last one down. -/
def cmpP (f g : List Int) : Int := if f.length < g.length then -1 else if g.length < f.length then 1 else cmpTop f g f.length
theorem cmpTop_down {f g : List Int} {k : Nat} {X : Int} (h : X = cmpTop f g k) (hk : 0 < k) (he : co f (k - 1) = co g (k - 1)) : X = cmpTop f g (k - 1) := by
  obtain ⟨i, rfl⟩ : ∃ i, k = i + 1 := ⟨k - 1, by omega⟩
  simp only [Nat.add_sub_cancel] at he ⊢
  rw [h, cmpTop, if_pos he]
theorem cmpTop_stop {f g : List Int} {k : Nat} {X : Int} (h : X = cmpTop f g k) (hk : 0 < k) (he : co f (k - 1) ≠ co g (k - 1)) : X = cmpZ (co f (k - 1)) (co g (k - 1)) := by
  obtain ⟨i, rfl⟩ : ∃ i, k = i + 1 := ⟨k - 1, by omega⟩
  simp only [Nat.add_sub_cancel] at he ⊢
  rw [h, cmpTop, if_neg he]
theorem cmpZ_eq_zero {x y : Int} : cmpZ x y = 0 ↔ x = y := by
  have := cmpZ_cases x y; omega
theorem cmpTop_zero {f g : List Int} : ∀ {k : Nat}, cmpTop f g k = 0 ↔ ∀ i, i < k → co f i = co g i
  | 0 => by simp [cmpTop]
  | k + 1 => by
    rw [cmpTop]
    split
    · rename_i h
      rw [cmpTop_zero]
      constructor
      · intro h1 i hi
        rcases Nat.lt_or_ge i k with h2 | h2
        · exact h1 i h2
        · have : i = k := by omega
          subst this; exact h
      · intro h1 i hi; exact h1 i (by omega)
    · rename_i h
      rw [cmpZ_eq_zero]
      exact ⟨fun h1 => absurd h1 h, fun h1 => absurd (h1 k (by omega)) h⟩
theorem cmpP_zero {f g : List Int} : cmpP f g = 0 ↔ f = g := by
  unfold cmpP
  split
  · rename_i h; constructor
    · intro h1; omega
    · intro h1; subst h1; omega
  · split
    · rename_i h; constructor
      · intro h1; omega
      · intro h1; subst h1; omega
    · rw [cmpTop_zero]
      constructor
      · intro h
        apply List.ext_getElem (by omega)
        intro i h1 h2
        have := h i h1
        simpa [co, List.getD, h1, h2] using this
      · intro h; subst h; intros; rfl
theorem cmpP_lt {f g : List Int} (h : f.length < g.length) : (-1 : Int) = cmpP f g := by simp [cmpP, h]
theorem cmpP_gt {f g : List Int} (h : g.length < f.length) : (1 : Int) = cmpP f g := by simp [cmpP, h, Nat.lt_asymm h]
theorem cmpP_eq {f g : List Int} (h : f.length = g.length) {n : Nat} (hn : f.length = n) : cmpP f g = cmpTop f g n := by
  subst hn; simp [cmpP, h]
theorem zlen (l : List RI) : (zs l).length = l.length := by simp
theorem list_ext_co {f g : List Int} (hl : f.length = g.length) (h : ∀ i, i < f.length → co f i = co g i) : f = g := by
  apply List.ext_getElem hl
  intro i h1 h2
  have := h i h1
  simpa [co, List.getD, h1, h2] using this
end Go.Gx
namespace Go.Gx
theorem same_dec {x : Int} {f g : List Int} (h : x = cmpP f g) : decide (x = 0) = decide (f = g) := by
  by_cases hf : f = g
  · rw [h, cmpP_zero.2 hf]; simp [hf]
  · simp [h, cmpP_zero, hf]
theorem few_step {l : List RI} {k : Nat} {x : Int} {r0 : RI} (h : ∀ i r, i < k → l[i]? = some r → (r.n : Int) ≤ x) (he : l[k]? = some r0) (h0 : (r0.n : Int) ≤ x) : ∀ i r, i < k + 1 → l[i]? = some r → (r.n : Int) ≤ x := by
  intro i r hi hr
  rcases Nat.lt_or_ge i k with h1 | h1
  · exact h i r h1 hr
  · have : i = k := by omega
    subst this
    rw [he] at hr; injection hr with hr; subst hr; exact h0
theorem few_all {l : List RI} {k n : Nat} {x : Int} (hl : l.length = n) (h : ∀ i r, i < k → l[i]? = some r → (r.n : Int) ≤ x) (hk : n ≤ k) : ∀ r ∈ l, (r.n : Int) ≤ x := by
  intro r hr
  obtain ⟨i, hi, e⟩ := List.getElem_of_mem hr
  exact h i r (by omega) (by rw [List.getElem?_eq_getElem hi, e])
end Go.Gx
namespace Go.Gx
theorem conv_congr {f f' g g' : List Int} {k : Nat} (hf : ∀ i, co f i = co f' i) (hg : ∀ i, co g i = co g' i) : conv f g k = conv f' g' k := convF_congr hf hg
theorem ring1 (F G H : List Int) : trimZ (trimZ (pmul F (trimZ (padd G H)))) = trimZ (trimZ (padd (trimZ (pmul F G)) (trimZ (pmul F H)))) :=
  trim_inj fun i => by
    rw [co_trim, co_trim, co_pmul, co_padd, co_trim, co_trim, co_pmul, co_pmul]
    rw [show conv F (trimZ (padd G H)) i = convF (co F) (fun j => co G j + co H j) i from convF_congr (fun _ => rfl) fun j => by rw [co_trim, co_padd]]
    exact convF_add _ _ _ _
theorem ring2 (F G : List Int) : trimZ (trimZ (pmul F G)) = trimZ (trimZ (pmul G F)) :=
  trim_inj fun i => by rw [co_trim, co_trim, co_pmul, co_pmul]; exact convF_comm _ _ _
theorem ring3 (F G H : List Int) : trimZ (trimZ (pmul F (trimZ (pmul G H)))) = trimZ (trimZ (pmul (trimZ (pmul F G)) H)) :=
  trim_inj fun i => by
    rw [co_trim, co_trim, co_pmul, co_pmul]
    rw [show conv F (trimZ (pmul G H)) i = convF (co F) (fun j => convF (co G) (co H) j) i from convF_congr (fun _ => rfl) fun j => by rw [co_trim, co_pmul]]
    rw [show conv (trimZ (pmul F G)) H i = convF (fun j => convF (co F) (co G) j) (co H) i from convF_congr (fun j => by rw [co_trim, co_pmul]) fun _ => rfl]
    exact convF_assoc _ _ _ _
theorem ring4 (F G H : List Int) : trimZ (trimZ (padd F (trimZ (padd G H)))) = trimZ (trimZ (padd (trimZ (padd F G)) H)) :=
  trim_inj fun i => by
    rw [co_trim, co_trim, co_padd, co_padd, co_trim, co_trim, co_padd, co_padd]; omega
theorem ring5 (F : List Int) : trimZ (psub F F) = [] := by
  have h := trim_inj (f := psub F F) (g := []) fun i => by rw [co_psub]; simp
  rw [h]; rfl
theorem ring6 (F : List Int) : trimZ (trimZ (pmul F (trimZ [1]))) = trimZ F :=
  trim_inj fun i => by
    rw [co_trim, co_pmul]
    rw [show conv F (trimZ [1]) i = convF (fun j => co [1] j) (co F) i from by
      rw [show conv F (trimZ [1]) i = convF (co F) (co [1]) i from convF_congr (fun _ => rfl) fun j => co_trim _ _]
      exact convF_comm _ _ _]
    unfold convF
    rw [rsum_head, rsum_zero fun j _ => by simp [co]]
    simp [co]
theorem neg_true {g : Bool} {d : List Nat} (h : zval g d = -1) : g = true := by
  cases g
  · rw [zval_false] at h; omega
  · rfl
end Go.Gx
namespace Go.Gx
/-- All coefficients canonical. -/
def AllC (l : List RI) : Prop := ∀ r ∈ l, ICan r.neg r.d
theorem ICan.zero : ICan false [] := ⟨canon_nil _, fun h => by cases h⟩
theorem AllC.nil : AllC [] := fun r hr => by cases hr
theorem AllC.snoc {l : List RI} {r : RI} (h : AllC l) (hr : ICan r.neg r.d) : AllC (l ++ [r]) := fun x hx => by
  rcases List.mem_append.1 hx with h1 | h1
  · exact h x h1
  · simp at h1; subst h1; exact hr
theorem AllC.app {l l' : List RI} (h : AllC l) (h' : AllC l') : AllC (l ++ l') := fun x hx => by
  rcases List.mem_append.1 hx with h1 | h1
  · exact h x h1
  · exact h' x h1
theorem AllC.zeros (m : Nat) : AllC (List.replicate m RI.zero) := fun x hx => by
  have := List.eq_of_mem_replicate hx; subst this; exact ICan.zero
theorem AllC.trim {l : List RI} (h : AllC l) : AllC (trimB RI.isZ l) := fun x hx => h x (trimB_mem _ _ hx)
theorem AllC.set {l : List RI} {i : Nat} {r : RI} (h : AllC l) (hr : ICan r.neg r.d) : AllC (l.set i r) := fun x hx => by
  rcases List.mem_or_eq_of_mem_set hx with h1 | h1
  · exact h x h1
  · subst h1; exact hr
end Go.Gx
