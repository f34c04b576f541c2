/-
  Long division of digits. Plain numbers; no program in sight.
-/
import Derived.Test.YteiagkehhlpidaaDivMath
import Derived.Test.YteiagkehhlpidaaIntMath
namespace Go.Gx
theorem top_split {d : List Nat} {k : Nat} (hd : ∀ x ∈ d, x < BS) (hk : k ≤ d.length) (n : Nat) (hn : n ≤ k) : ∃ L, L < BS ^ n ∧ val (d.take k) = L + BS ^ n * val ((d.take k).drop n) := by
  refine ⟨val ((d.take k).take n), ?_, ?_⟩
  · have h := val_lt ((d.take k).take n) fun x hx => hd x (List.mem_of_mem_take (List.mem_of_mem_take hx))
    rw [List.length_take, List.length_take, Nat.min_eq_left (by omega)] at h
    exact h
  · exact val_split (d.take k) (k := n) (by simp; omega)
theorem drop_two {d : List Nat} {n : Nat} (hn : 2 ≤ n) (hl : d.length = n) : val (d.drop (n - 2)) = estV (d.getD (n - 1) 0) (d.getD (n - 2) 0) := by
  have e1 := drop_val (a := d) (k := n - 1) (by omega) (by omega)
  have e2 := drop_val (a := d) (k := n) (by omega) (by omega)
  rw [List.drop_of_length_le (show d.length ≤ n by omega)] at e2
  rw [show n - 2 = n - 1 - 1 by omega, e1, e2]
  simp only [estV, val]
  omega
theorem drop_three {d : List Nat} {n : Nat} (hn : 2 ≤ n) (hl : d.length = n + 1) : val (d.drop (n - 2)) = estU (d.getD n 0) (d.getD (n - 1) 0) (d.getD (n - 2) 0) := by
  have e1 := drop_val (a := d) (k := n - 1) (by omega) (by omega)
  have e2 := drop_val (a := d) (k := n) (by omega) (by omega)
  have e3 := drop_val (a := d) (k := n + 1) (by omega) (by omega)
  rw [List.drop_of_length_le (show d.length ≤ n + 1 by omega), Nat.add_sub_cancel] at e3
  rw [show n - 2 = n - 1 - 1 by omega, e1, e2, e3]
  simp only [estU, val]
  omega
/-- What the highest digits say of the whole. -/
theorem tops {d : List Nat} {n k X : Nat} (hd : ∀ x ∈ d, x < BS) (hn : 2 ≤ n) (hl : n - 2 ≤ d.length) (hX : val (d.drop (n - 2)) = X) : BS ^ (n - 2) * X ≤ val d ∧ val d < BS ^ (n - 2) * (X + 1) := by
  have h1 := val_split d (k := n - 2) hl
  have h2 := val_lt (d.take (n - 2)) fun x hx => hd x (List.mem_of_mem_take hx)
  rw [List.length_take, Nat.min_eq_left hl] at h2
  rw [hX] at h1
  rw [Nat.mul_add, Nat.mul_one]
  omega
theorem est_bound {E V U v P g : Nat} (hE : 0 < E) (hv1 : E * V ≤ v) (hv2 : v < E * (V + 1)) (hp1 : E * U ≤ P) (hp2 : P < E * (U + 1)) (hok : g * V ≤ U) (hmx : ∀ q, q ≤ 4294967295 → q * V ≤ U → q ≤ g) (hg : g ≤ 4294967295) (hPv : P < v * 4294967296) (hV : 4294967296 ≤ V) :
    P / v ≤ g ∧ (0 < g → (g - 1) * v ≤ P) ∧ (g * v ≤ P → P - g * v < v) := by
  have hv0 : 0 < v := by
    have : E * 1 ≤ E * V := Nat.mul_le_mul_left _ (by omega)
    omega
  have hq : P / v ≤ g := by
    refine hmx _ ?_ ?_
    · have : P / v < 4294967296 := Nat.div_lt_of_lt_mul hPv
      omega
    · have h1 : P / v * v ≤ P := Nat.div_mul_le_self _ _
      have h2 : P / v * (E * V) ≤ P / v * v := Nat.mul_le_mul_left _ hv1
      have h3 : E * (P / v * V) < E * (U + 1) := by rw [Nat.mul_left_comm]; omega
      have := Nat.lt_of_mul_lt_mul_left h3
      omega
  refine ⟨hq, fun h0 => ?_, fun hle => ?_⟩
  · obtain ⟨j, rfl⟩ : ∃ j, g = j + 1 := ⟨g - 1, by omega⟩
    rw [Nat.add_sub_cancel]
    have h1 : E * ((j + 1) * V) ≤ E * U := Nat.mul_le_mul_left _ hok
    have h2 : (j + 1) * v ≤ (j + 1) * (E * (V + 1)) := Nat.mul_le_mul_left _ (by omega)
    have h3 : (j + 1) * (E * (V + 1)) = E * ((j + 1) * V) + E * (j + 1) := by
      rw [Nat.mul_left_comm, Nat.mul_add (j + 1), Nat.mul_one, Nat.mul_add]
    have h4 : E * (j + 1) ≤ E * V := Nat.mul_le_mul_left _ (by omega)
    rw [Nat.add_mul, Nat.one_mul] at h2
    omega
  · have h1 : g ≤ P / v := (Nat.le_div_iff_mul_le hv0).2 hle
    have h2 : g = P / v := by omega
    have h3 := Nat.div_add_mod P v
    have h4 := Nat.mod_lt P hv0
    rw [Nat.mul_comm, ← h2] at h3
    omega
theorem top_le {E V U v P a b c d e : Nat} (hE : 0 < E) (hv2 : v < E * (V + 1)) (hp1 : E * U ≤ P) (hPv : P < v * 4294967296) (hU : U = estU a b c) (hV : V = estV d e) (he : e < 4294967296) : a ≤ d := by
  have h1 : v * 4294967296 ≤ E * (V + 1) * 4294967296 := Nat.mul_le_mul_right _ (by omega)
  have h2 : E * U < E * ((V + 1) * 4294967296) := by rw [← Nat.mul_assoc]; omega
  have h3 := Nat.lt_of_mul_lt_mul_left h2
  subst hU hV
  unfold estU estV at h3
  omega
/-! the rounds -/
structure DivI (D v Q : List Nat) (k N : Nat) : Prop where
  eq : val D + val v * (BS ^ k * val Q) = N
  lt : val D < val v * BS ^ k
theorem DivI.part {D v Q : List Nat} {k N n : Nat} (h : DivI D v Q k N) (hk : 0 < k) (hl : k - 1 + n + 1 ≤ D.length) (hv : val v < BS ^ n) :
    val D = val (D.take (k - 1)) + BS ^ (k - 1) * val ((D.drop (k - 1)).take (n + 1)) ∧ val ((D.drop (k - 1)).take (n + 1)) < val v * 4294967296 ∧ val ((D.drop (k - 1)).drop (n + 1)) = 0 := by
  have e1 := val_split D (k := k - 1) (by omega)
  have e2 := val_split (D.drop (k - 1)) (k := n + 1) (by simp; omega)
  have hk1 : BS ^ k = BS ^ (k - 1) * 4294967296 := by rw [← Nat.pow_succ]; congr 1; omega
  have h1 := h.lt
  rw [hk1, ← Nat.mul_assoc, Nat.mul_comm (val v) (BS ^ (k - 1)), Nat.mul_assoc] at h1
  have h2 : BS ^ (k - 1) * val (D.drop (k - 1)) < BS ^ (k - 1) * (val v * 4294967296) := by omega
  have h3 := Nat.lt_of_mul_lt_mul_left h2
  have h4 : val ((D.drop (k - 1)).drop (n + 1)) = 0 := by
    rcases Nat.eq_zero_or_pos (val ((D.drop (k - 1)).drop (n + 1))) with h0 | h0
    · exact h0
    · exfalso
      have h5 : BS ^ (n + 1) * 1 ≤ BS ^ (n + 1) * val ((D.drop (k - 1)).drop (n + 1)) := Nat.mul_le_mul_left _ h0
      have h6 : (val v + 1) * 4294967296 ≤ BS ^ n * 4294967296 := Nat.mul_le_mul_right _ hv
      have h7 : BS ^ (n + 1) = BS ^ n * 4294967296 := Nat.pow_succ _ _
      rw [Nat.mul_one] at h5
      omega
  rw [h4, Nat.mul_zero, Nat.add_zero] at e2
  refine ⟨by rw [← e2]; exact e1, by rw [← e2]; exact h3, h4⟩
theorem DivI.step {D v Q Zr : List Nat} {k N n q : Nat} (h : DivI D v Q k N) (hk : 0 < k) (hl : k - 1 + n + 1 ≤ D.length) (hv : val v < BS ^ n) (hDt : ∀ d ∈ D, d < BS) (hZ : Zr.length = (D.drop (k - 1)).length)
    (hd : Zr.drop (n + 1) = (D.drop (k - 1)).drop (n + 1)) (he : val (Zr.take (n + 1)) + q * val v = val ((D.drop (k - 1)).take (n + 1))) (hlt : val (Zr.take (n + 1)) < val v) : DivI (D.take (k - 1) ++ Zr) v (q :: Q) (k - 1) N := by
  obtain ⟨h1, h2, h3⟩ := h.part hk hl hv
  have e2 := val_split Zr (k := n + 1) (by rw [hZ]; simp; omega)
  rw [hd, h3, Nat.mul_zero, Nat.add_zero] at e2
  have e3 : val (D.take (k - 1) ++ Zr) = val (D.take (k - 1)) + BS ^ (k - 1) * val (Zr.take (n + 1)) := by
    rw [val_append, List.length_take, Nat.min_eq_left (by omega), e2]
  have hk1 : BS ^ k = BS ^ (k - 1) * BS := by rw [← Nat.pow_succ]; congr 1; omega
  have hU : val (D.take (k - 1)) < BS ^ (k - 1) := by
    have := val_lt (D.take (k - 1)) fun d hd' => hDt d (List.mem_of_mem_take hd')
    rwa [List.length_take, Nat.min_eq_left (by omega)] at this
  constructor
  · rw [e3, ← h.eq, h1, ← he, hk1]
    simp only [val]
    rw [Nat.mul_add (BS ^ (k - 1)) (val (Zr.take (n + 1))), Nat.mul_add (BS ^ (k - 1)) q, Nat.mul_add (val v), Nat.mul_assoc (BS ^ (k - 1)) BS]
    have : val v * (BS ^ (k - 1) * q) = BS ^ (k - 1) * (q * val v) := by rw [Nat.mul_left_comm, Nat.mul_comm (val v)]
    omega
  · rw [e3]
    have h5 : BS ^ (k - 1) * (val (Zr.take (n + 1)) + 1) ≤ BS ^ (k - 1) * val v := Nat.mul_le_mul_left _ hlt
    rw [Nat.mul_add, Nat.mul_one] at h5
    rw [Nat.mul_comm (val v)]
    omega
theorem addback {Pz Z1 Z2 v B q bo cr : Nat} (he : Z1 + (q + 1) * v = Pz + B * bo) (hb : bo ≠ 0) (hbo : bo ≤ 1) (h2 : Z2 + B * cr = Z1 + v) (hZ2 : Z2 < B) (hle : q * v ≤ Pz) (hnl : Pz < (q + 1) * v) (hvB : v < B) : Z2 + q * v = Pz ∧ Z2 < v := by
  have h1 : bo = 1 := by omega
  subst h1
  rw [Nat.add_mul, Nat.one_mul] at he hnl
  have hcr : cr = 1 := by
    rcases Nat.lt_trichotomy cr 1 with h | h | h
    · have : cr = 0 := by omega
      subst this; simp at h2; omega
    · exact h
    · have : B * 2 ≤ B * cr := Nat.mul_le_mul_left _ h
      omega
  subst hcr
  omega
theorem nonneg_of_borrow {Z1 P q v B bo : Nat} (he : Z1 + q * v = P + B * bo) (hZ : Z1 < B) : (bo = 0 ↔ q * v ≤ P) := by
  constructor
  · intro h; subst h; omega
  · intro h
    rcases Nat.eq_zero_or_pos bo with h0 | h0
    · exact h0
    · have : B * 1 ≤ B * bo := Nat.mul_le_mul_left _ h0
      omega
theorem norm_len {b v : List Nat} {n s : Nat} (hb : ∀ d ∈ b, d < BS) (hl : b.length = n) (hn : 0 < n) (h1 : b.getD (n - 1) 0 * 2 ^ s < 4294967296) (h2 : 2147483648 ≤ b.getD (n - 1) 0 * 2 ^ s) (hs : s ≤ 31) (hv : val v = val b * 2 ^ s) (hvt : ∀ d ∈ v, d < BS) (hc : Canon isZ v) :
    v.length = n ∧ 2147483648 ≤ v.getD (n - 1) 0 := by
  have e1 := val_split b (k := n - 1) (by omega)
  have e2 := drop_val (a := b) (k := n) hn (by omega)
  rw [List.drop_of_length_le (show b.length ≤ n by omega)] at e2
  have h3 := val_lt (b.take (n - 1)) fun d hd => hb d (List.mem_of_mem_take hd)
  rw [List.length_take, Nat.min_eq_left (by omega)] at h3
  have e3 : val b = val (b.take (n - 1)) + BS ^ (n - 1) * b.getD (n - 1) 0 := by rw [e1, e2]; simp [val]
  have hp : 0 < (2 : Nat) ^ s := Nat.pow_pos (by decide)
  have hB : BS ^ n = BS ^ (n - 1) * 4294967296 := by rw [← Nat.pow_succ]; congr 1; omega
  have e4 : (b.getD (n - 1) 0 + 1) * 2 ^ s ≤ 4294967296 := by
    have e : (4294967296 : Nat) = 2 ^ (32 - s) * 2 ^ s := by rw [← Nat.pow_add, show 32 - s + s = 32 by omega]
    have h5 : b.getD (n - 1) 0 * 2 ^ s < 2 ^ (32 - s) * 2 ^ s := by rw [← e]; exact h1
    have h6 := Nat.lt_of_mul_lt_mul_right h5
    have h7 : (b.getD (n - 1) 0 + 1) * 2 ^ s ≤ 2 ^ (32 - s) * 2 ^ s := Nat.mul_le_mul_right _ h6
    rw [← e] at h7
    exact h7
  have hup : val v < BS ^ n := by
    rw [hv, hB]
    have h5 : val b + 1 ≤ BS ^ (n - 1) * (b.getD (n - 1) 0 + 1) := by rw [Nat.mul_add, Nat.mul_one]; omega
    have h6 : (val b + 1) * 2 ^ s ≤ BS ^ (n - 1) * (b.getD (n - 1) 0 + 1) * 2 ^ s := Nat.mul_le_mul_right _ h5
    have h7 : BS ^ (n - 1) * ((b.getD (n - 1) 0 + 1) * 2 ^ s) ≤ BS ^ (n - 1) * 4294967296 := Nat.mul_le_mul_left _ e4
    rw [Nat.mul_assoc] at h6
    rw [Nat.add_mul, Nat.one_mul] at h6
    omega
  have hlo : BS ^ (n - 1) * 2147483648 ≤ val v := by
    rw [hv, e3, Nat.add_mul, Nat.mul_assoc]
    have : BS ^ (n - 1) * 2147483648 ≤ BS ^ (n - 1) * (b.getD (n - 1) 0 * 2 ^ s) := Nat.mul_le_mul_left _ h2
    omega
  have hle : v.length ≤ n := lt_val_len hc hup
  have hge : n ≤ v.length := by
    rcases Nat.lt_or_ge v.length n with h5 | h5
    · exfalso
      have h6 := val_lt v hvt
      have h7 : BS ^ v.length ≤ BS ^ (n - 1) := Nat.pow_le_pow_right (by decide) (by omega)
      have h8 : BS ^ (n - 1) * 1 ≤ BS ^ (n - 1) * 2147483648 := Nat.mul_le_mul_left _ (by decide)
      omega
    · exact h5
  refine ⟨by omega, ?_⟩
  have e5 := val_split v (k := n - 1) (by omega)
  have e6 := drop_val (a := v) (k := n) hn (by omega)
  rw [List.drop_of_length_le (show v.length ≤ n by omega)] at e6
  have h5 := val_lt (v.take (n - 1)) fun d hd => hvt d (List.mem_of_mem_take hd)
  rw [List.length_take, Nat.min_eq_left (by omega)] at h5
  have e7 : val v = val (v.take (n - 1)) + BS ^ (n - 1) * v.getD (n - 1) 0 := by rw [e5, e6]; simp [val]
  have h6 : BS ^ (n - 1) * 2147483648 < BS ^ (n - 1) * (v.getD (n - 1) 0 + 1) := by rw [Nat.mul_add, Nat.mul_one]; omega
  have := Nat.lt_of_mul_lt_mul_left h6
  omega
theorem DivI.start {D v : List Nat} {k N m n s va : Nat} (hD : val D = N) (hN : N = va * 2 ^ s) (hva : va < BS ^ (m - 1)) (hs : s ≤ 31) (hv : BS ^ (n - 1) * 2147483648 ≤ val v) (hn : 0 < n) (hk : k = m - n) (hm : n ≤ m) : DivI D v [] k N := by
  refine ⟨by simp [val, hD], ?_⟩
  rw [hD, hN, hk]
  have h1 : va * 2 ^ s < BS ^ (m - 1) * 2 ^ s := Nat.mul_lt_mul_of_pos_right hva (Nat.pow_pos (by decide))
  have h2 : BS ^ (m - 1) * 2 ^ s ≤ BS ^ (m - 1) * 2147483648 := Nat.mul_le_mul_left _ (Nat.pow_le_pow_right (by decide) hs)
  have h3 : BS ^ (n - 1) * 2147483648 * BS ^ (m - n) ≤ val v * BS ^ (m - n) := Nat.mul_le_mul_right _ hv
  have e : BS ^ (n - 1) * 2147483648 * BS ^ (m - n) = BS ^ (m - 1) * 2147483648 := by
    rw [Nat.mul_right_comm, ← Nat.pow_add]; congr 2; omega
  omega
theorem DivI.fin {D v Q b : List Nat} {N s va r : Nat} (h : DivI D v Q 0 N) (hN : N = va * 2 ^ s) (hv : val v = val b * 2 ^ s) (hr : r = val D / 2 ^ s) : va = val b * val Q + r ∧ r < val b := by
  have h1 := h.eq
  have h2 := h.lt
  simp only [Nat.pow_zero, Nat.one_mul, Nat.mul_one] at h1 h2
  have hp : 0 < (2 : Nat) ^ s := Nat.pow_pos (by decide)
  rw [hv, hN] at h1
  rw [hv] at h2
  have h3 : val b * 2 ^ s * val Q = val b * val Q * 2 ^ s := Nat.mul_right_comm _ _ _
  rw [h3] at h1
  have hle : val b * val Q ≤ va := by
    have : val b * val Q * 2 ^ s ≤ va * 2 ^ s := by omega
    exact Nat.le_of_mul_le_mul_right this hp
  have h4 : val D = (va - val b * val Q) * 2 ^ s := by rw [Nat.sub_mul]; omega
  rw [hr, h4, Nat.mul_div_cancel _ hp]
  refine ⟨by omega, ?_⟩
  rw [h4] at h2
  exact Nat.lt_of_mul_lt_mul_right h2
end Go.Gx
namespace Go.Gx
theorem canon_top {d : List Nat} {n : Nat} (hc : Canon isZ d) (hl : d.length = n) (hn : n ≠ 0) : d.getD (n - 1) 0 ≠ 0 := by
  rcases snoc_cases d with h | ⟨k, x, rfl⟩
  · subst h; simp at hl; omega
  · have h1 := canon_snoc.1 hc
    have h2 : x ≠ 0 := by intro e; subst e; simp [isZ] at h1
    simp at hl
    subst hl
    simpa [List.getD] using h2
theorem shl_len {a d : List Nat} {n s va : Nat} (ha : ∀ x ∈ a, x < BS) (hl : a.length = n) (hva : val a = va) (hd : val d = va * 2 ^ s) (hs : s ≤ 31) : val d < BS ^ (n + 1) := by
  have h1 := val_lt a ha
  rw [hl, hva] at h1
  have h2 : (2 : Nat) ^ s ≤ 2147483648 := Nat.pow_le_pow_right (by decide) hs
  have h3 : va * 2 ^ s ≤ va * 2147483648 := Nat.mul_le_mul_left _ h2
  have h4 : BS ^ (n + 1) = BS ^ n * 4294967296 := Nat.pow_succ _ _
  omega
theorem top_ge {d : List Nat} {n : Nat} (hl : d.length = n) (hn : 0 < n) : BS ^ (n - 1) * d.getD (n - 1) 0 ≤ val d := by
  have e1 := val_split d (k := n - 1) (by omega)
  have e2 := drop_val (a := d) (k := n) hn (by omega)
  rw [e2, Nat.mul_add] at e1
  omega
theorem part_getD {D : List Nat} {j m i : Nat} (h : i < m) : ((D.drop j).take m).getD i 0 = D.getD (j + i) 0 := by
  simp [List.getD, List.getElem?_take, h, List.getElem?_drop]
theorem revN_get {L : List Nat} {m r : Nat} : (List.replicate m 0 ++ (r :: L)).getD m 0 = r := by
  simp only [List.getD]
  rw [List.getElem?_append_right (by simp)]
  simp
theorem val_take_lt {d : List Nat} {k : Nat} (h : ∀ x ∈ d, x < BS) : val (d.take k) < BS ^ k := by
  have h1 := val_lt (d.take k) fun x hx => h x (List.mem_of_mem_take hx)
  exact Nat.lt_of_lt_of_le h1 (Nat.pow_le_pow_right (by decide) (by simp; omega))
end Go.Gx
namespace Go.Gx
theorem take_app {D Z : List Nat} {j : Nat} (h : j ≤ D.length) : (D.take j ++ Z).drop j = Z := by
  rw [List.drop_append_of_le_length (by simp; omega), List.drop_of_length_le (by simp; omega)]; rfl
theorem take_app2 {D Z : List Nat} {j : Nat} (h : j ≤ D.length) : (D.take j ++ Z).take j = D.take j := by
  rw [List.take_append_of_le_length (by simp; omega), List.take_take, Nat.min_self]
theorem rem_len {r b : List Nat} {nr nb : Nat} (cn : Canon isZ r) (hlt : val r < val b) (hb : ∀ d ∈ b, d < BS) (lb : b.length = nb) (lr : r.length = nr) : nr ≤ nb := by
  rw [← lr]
  have h := val_lt b hb
  rw [lb] at h
  exact lt_val_len cn (by omega)
end Go.Gx
namespace Go.Gx
theorem revN_set2 {L : List Nat} {m r x : Nat} : (List.replicate m 0 ++ (x :: L)).set m r = List.replicate m 0 ++ (r :: L) := by
  rw [List.set_append_right _ _ (by simp)]
  simp
end Go.Gx
namespace Go.Gx
theorem gcd_step {x y q r G : Nat} (h : Nat.gcd x y = G) (e : x = y * q + r) (hr : r < y) : Nat.gcd y r = G := by
  have h1 : x % y = r := by rw [e, Nat.mul_add_mod, Nat.mod_eq_of_lt hr]
  rw [← h, Nat.gcd_comm x y, Nat.gcd_rec y x, h1, Nat.gcd_comm]
theorem gcd_stop {x y G : Nat} (h : Nat.gcd x y = G) (hy : y = 0) : x = G := by subst hy; simpa using h
theorem gcd_mod {m n G : Nat} (h : Nat.gcd m n = G) : Nat.gcd n (m % n) = G := by rw [← h, Nat.gcd_comm m n, Nat.gcd_rec n m, Nat.gcd_comm]
theorem canon_pos {d : List Nat} {n : Nat} (hc : Canon isZ d) (hl : d.length = n) (hn : n ≠ 0) : 0 < val d := val_pos hc (by intro e; subst e; simp at hl; omega)
theorem quo_val {g g' : Bool} {a b q : List Nat} {r : Nat} (he : val a = val b * val q + r) (hr : r < val b) : zval (g != g') q = (zval g a).tdiv (zval g' b) := by
  have hq : val q = val a / val b := by
    rw [he, Nat.mul_add_div (by omega), Nat.div_eq_of_lt hr]; omega
  cases g <;> cases g' <;> simp [zval, hq, Int.ofNat_tdiv, Int.neg_tdiv, Int.tdiv_neg]
theorem rem_val {g g' : Bool} {a b d : List Nat} {q : Nat} (he : val a = val b * q + val d) (hr : val d < val b) : zval g d = (zval g a).tmod (zval g' b) := by
  have hq : val d = val a % val b := by rw [he, Nat.mul_add_mod, Nat.mod_eq_of_lt hr]
  have h0 : ((val a : Int)).tmod (val b : Int) = (val a : Int) % (val b : Int) := Int.tmod_eq_emod_of_nonneg (by omega)
  cases g <;> cases g' <;> simp [zval, hq, Int.neg_tmod, Int.tmod_neg, h0]
end Go.Gx
