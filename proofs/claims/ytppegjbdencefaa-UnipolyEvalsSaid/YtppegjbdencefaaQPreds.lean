/-
  Fractions of the reference; lists of these; quotients of integers, in plain numbers. No program in sight.
-/
import Derived.Test.YtppegjbdencefaaPZPreds
import Derived.Test.YtppegjbdencefaaEvMath
namespace Go.Gx
open Go.RowKit
structure RQ where
  s : Int
  A : Option Addr
  n : Nat
  c : Nat
  z : Int
  s2 : Int
  A2 : Option Addr
  n2 : Nat
  c2 : Nat
def cellsQ (l : List RQ) : List Value := l.flatMap fun r => [.int .i64 r.s, .slice r.A r.n r.c, .int .i64 r.s2, .slice r.A2 r.n2 r.c2]
theorem cellsQ_cons (r : RQ) (l : List RQ) : cellsQ (r :: l) = .int .i64 r.s :: .slice r.A r.n r.c :: .int .i64 r.s2 :: .slice r.A2 r.n2 r.c2 :: cellsQ l := by simp [cellsQ]
theorem cellsQ_len (l : List RQ) : (cellsQ l).length = l.length * 4 := by
  induction l with
  | nil => rfl
  | cons r l ih => rw [cellsQ_cons]; simp only [List.length_cons]; omega
theorem cellsQ_append (a b : List RQ) : cellsQ (a ++ b) = cellsQ a ++ cellsQ b := by simp [cellsQ]
theorem cellsQ_get {l : List RQ} : ∀ {i : Nat} {r : RQ}, l[i]? = some r → (cellsQ l)[i * 4]? = some (.int .i64 r.s) ∧ (cellsQ l)[i * 4 + 1]? = some (.slice r.A r.n r.c) ∧ (cellsQ l)[i * 4 + 2]? = some (.int .i64 r.s2) ∧ (cellsQ l)[i * 4 + 3]? = some (.slice r.A2 r.n2 r.c2) := by
  induction l with
  | nil => intro i r h; simp at h
  | cons x l ih =>
    intro i r h
    rw [cellsQ_cons]
    cases i with
    | zero => simp at h; subst h; simp
    | succ i =>
      simp at h
      have := ih h
      rw [show (i + 1) * 4 = i * 4 + 1 + 1 + 1 + 1 by omega]
      simpa using this
def AllQ (w : World) (S : Nat → Prop) (M : Nat) (l : List RQ) : Prop := ∀ r ∈ l, ZR w S r.s r.A r.n r.c r.z ∧ r.n ≤ M ∧ ZR w S r.s2 r.A2 r.n2 r.c2 1 ∧ r.n2 ≤ 41
/-- Fractions with the denominators 1. -/
def PQR (w : World) (S : Nat → Prop) (A : Option Addr) (n c : Nat) (f : List Int) (M : Nat) : Prop := ∃ l : List RQ, Rd w S A n c 4 (cellsQ l) ∧ AllQ w S M l ∧ l.map RQ.z = f
section
variable {w w' : World} {S S' G : Nat → Prop} {A : Option Addr} {n c M : Nat} {f : List Int}
theorem PQR.frmB (h : PQR w S A n c f M) (k : Frm G w w') (hd : ∀ b, b < w.heap.size → S b → ¬ G b) : PQR w' S A n c f M := by
  obtain ⟨l, h1, h2, h3⟩ := h
  exact ⟨l, h1.frmB k hd, fun r hr => ⟨(h2 r hr).1.frmB k hd, (h2 r hr).2.1, (h2 r hr).2.2.1.frmB k hd, (h2 r hr).2.2.2⟩, h3⟩
theorem PQR.ext (h : PQR w S A n c f M) (k : Ext w w') : PQR w' S A n c f M := h.frmB k fun _ _ _ g => g
theorem PQR.sub (h : PQR w S A n c f M) (hs : ∀ b, b < w.heap.size → S b → S' b) : PQR w S' A n c f M := by
  obtain ⟨l, h1, h2, h3⟩ := h
  exact ⟨l, h1.sub hs, fun r hr => ⟨(h2 r hr).1.sub hs, (h2 r hr).2.1, (h2 r hr).2.2.1.sub hs, (h2 r hr).2.2.2⟩, h3⟩
theorem PQR.low (h : PQR w S A n c f M) : PQR w (· < w.heap.size) A n c f M := h.sub fun _ hb _ => hb
theorem PQR.len (h : PQR w S A n c f M) : f.length = n := by
  obtain ⟨l, h1, h2, h3⟩ := h
  have := h1.1; rw [cellsQ_len] at this; rw [← h3]; simp; omega
theorem PQR.lkm (h : PQR w S A n c f M) : f.length = n ∧ n ≤ c ∧ c ≤ 9223372036854775807 := ⟨h.len, by obtain ⟨l, h1, _⟩ := h; exact h1.2.1, by obtain ⟨l, h1, _⟩ := h; exact h1.2.2.1⟩
theorem PQR.base (h : PQR w S A n c f M) (hn : 0 < n) : ∃ b off, A = some ⟨b, off, none⟩ := by obtain ⟨l, h1, _⟩ := h; exact h1.base hn
theorem cell4 {w : World} {b p : Nat} {v0 v1 v2 v3 : Value} (h : w.cell? ⟨b, p, none⟩ = some v0 ∧ w.cell? ⟨b, p + 1, none⟩ = some v1 ∧ w.cell? ⟨b, p + 2, none⟩ = some v2 ∧ w.cell? ⟨b, p + 3, none⟩ = some v3) :
    ∀ (j : Nat) v, [v0, v1, v2, v3][j]? = some v → w.cell? ((⟨b, p, none⟩ : Addr).add j) = some v := by
  intro j v hj
  rw [addr_add]
  match j, hj with
  | 0, hj => injection hj with hj; subst hj; exact h.1
  | 1, hj => injection hj with hj; subst hj; exact h.2.1
  | 2, hj => injection hj with hj; subst hj; exact h.2.2.1
  | 3, hj => injection hj with hj; subst hj; exact h.2.2.2
theorem cell4F {G : Nat → Prop} {w w' : World} {b p : Nat} {v0 v1 v2 v3 : Value} (h : w.cell? ⟨b, p, none⟩ = some v0 ∧ w.cell? ⟨b, p + 1, none⟩ = some v1 ∧ w.cell? ⟨b, p + 2, none⟩ = some v2 ∧ w.cell? ⟨b, p + 3, none⟩ = some v3) (f : Frm G w w') (hb : b < w.heap.size) (hg : ¬ G b) :
    ∀ (j : Nat) v, [v0, v1, v2, v3][j]? = some v → w'.cell? ((⟨b, p, none⟩ : Addr).add j) = some v :=
  cell4 ⟨(f.cell (p := ⟨b, p, none⟩) hb hg).trans h.1, (f.cell (p := ⟨b, p + 1, none⟩) hb hg).trans h.2.1, (f.cell (p := ⟨b, p + 2, none⟩) hb hg).trans h.2.2.1, (f.cell (p := ⟨b, p + 3, none⟩) hb hg).trans h.2.2.2⟩
theorem PQR.at_ {b off i : Nat} (h : PQR w S (some ⟨b, off, none⟩) n c f M) (hi : i < n) :
    ∃ s A' n' c' z' s2 A2 n2 c2, (w.cell? ⟨b, off + i * 4, none⟩ = some (.int .i64 s) ∧ w.cell? ⟨b, off + i * 4 + 1, none⟩ = some (.slice A' n' c') ∧ w.cell? ⟨b, off + i * 4 + 2, none⟩ = some (.int .i64 s2) ∧ w.cell? ⟨b, off + i * 4 + 3, none⟩ = some (.slice A2 n2 c2)) ∧
      ZR w S s A' n' c' z' ∧ n' ≤ M ∧ ZR w S s2 A2 n2 c2 1 ∧ n2 ≤ 41 ∧ S b ∧ b < w.heap.size ∧ z' = co f i := by
  have hlen := h.len
  obtain ⟨l, h1, h2, h3⟩ := h
  have hl : i < l.length := by rw [← h3] at hlen; simp at hlen; omega
  obtain ⟨r, hr⟩ : ∃ r, l[i]? = some r := ⟨_, List.getElem?_eq_getElem hl⟩
  have hc := cellsQ_get hr
  have hm := h2 _ (List.mem_of_getElem? hr)
  obtain ⟨b', off', e, hS, hb, _⟩ := h1.2.2.2 (by omega)
  injection e with e
  injection e with e1 e2
  subst e1 e2
  exact ⟨r.s, r.A, r.n, r.c, r.z, r.s2, r.A2, r.n2, r.c2, ⟨h1.cell hc.1, h1.cell hc.2.1, h1.cell hc.2.2.1, h1.cell hc.2.2.2⟩, hm.1, hm.2.1, hm.2.2.1, hm.2.2.2, hS, hb, by rw [← h3]; simp [List.getD, List.getElem?_map, hr]⟩
end
def OwnQ (w : World) (B : Nat) (el : TypeId) (A : Option Addr) (n c : Nat) (f : List Int) (M : Nat) : Prop := ∃ l : List RQ, Own w B el 4 A n c (cellsQ l) ∧ AllQ w (fun b => notIn A b) M l ∧ l.map RQ.z = f
section
variable {w w' : World} {B : Nat} {el : TypeId} {S S2 G : Nat → Prop} {A : Option Addr} {n c M : Nat} {f : List Int}
theorem OwnQ.nil : OwnQ w B el none 0 0 [] M := ⟨[], Own.nil, fun r hr => (by cases hr), rfl⟩
theorem OwnQ.ext (h : OwnQ w B el A n c f M) (k : Ext w w') : OwnQ w' B el A n c f M := by
  obtain ⟨l, h1, h2, h3⟩ := h
  exact ⟨l, h1.ext k, fun r hr => ⟨(h2 r hr).1.ext k, (h2 r hr).2.1, (h2 r hr).2.2.1.ext k, (h2 r hr).2.2.2⟩, h3⟩
theorem OwnQ.lt (h : OwnQ w B el A n c f M) : ∀ a, A = some a → B ≤ a.block ∧ a.block < w.heap.size := by obtain ⟨l, h1, _⟩ := h; exact h1.lt
theorem OwnQ.pqr (h : OwnQ w B el A n c f M) : PQR w (fun _ => True) A n c f M := by
  obtain ⟨l, h1, h2, h3⟩ := h
  exact ⟨l, h1.rd.sub fun _ _ _ => trivial, fun r hr => ⟨(h2 r hr).1.sub fun _ _ _ => trivial, (h2 r hr).2.1, (h2 r hr).2.2.1.sub fun _ _ _ => trivial, (h2 r hr).2.2.2⟩, h3⟩
theorem OwnQ.lkm (h : OwnQ w B el A n c f M) : f.length = n ∧ n ≤ c ∧ c ≤ 9223372036854775807 := h.pqr.lkm
end
section
variable {P : Program} {n : Nat} {e : Nat → Value} {w : World} {K : Act → World → Prop} {Q : Exit → Act → World → Prop} {ty : TypeId} {pos : String} {af : Array Edge} {gd : Option (Nat × Bool)}
theorem oAppQ {d : Nat} {s x : Operand} {t el bt : TypeId} {zv : Value} {bytes B m c g M : Nat} {A : Option Addr} {f : List Int} {S S2 : Nat → Prop} {sz : Int} {A' : Option Addr} {n' c' : Nat} {z : Int} {s2 : Int} {A2' : Option Addr} {n2 c2' : Nat} (ht : P.underlying t = some (.slice el))
    (hi : (P.info? el).map (fun i => (i.zero, i.size, i.bytes)) = some (some zv, 4, bytes)) (hzv : zv.cells.size = 4) (hs : ev n e s = .slice A m c) (hx : ev n e x = .slice (some ⟨g, 0, none⟩) 1 1) (hO : OwnQ w B el A m c f M) (hb : Blk w g bt [.int .i64 sz, .slice A' n' c', .int .i64 s2, .slice A2' n2 c2'])
    (hz : ZR w S sz A' n' c' z) (hM : n' ≤ M) (hz2 : ZR w S2 s2 A2' n2 c2' 1) (hM2 : n2 ≤ 41) (hS : ∀ b, b < w.heap.size → S b → notIn A b) (hS2 : ∀ b, b < w.heap.size → S2 b → notIn A b) (hm : (m + 1) * bytes ≤ 140737488355328) (hm2 : m + 1 ≤ 9223372036854775807) (hB : B ≤ w.heap.size)
    (kk : ∀ A2 c2 w', OwnQ w' B el A2 (m + 1) c2 (f ++ [z]) M → Frm (fun b => B ≤ b) w w' → K (mkA n (upd e d (.slice A2 (m + 1) c2))) w') :
    OpW P ⟨some d, .call { callee := .builtin .append, args := #[s, x], argTypes := #[t, t] }, ty, pos, af, gd⟩ (mkA n e) w K Q := by
  obtain ⟨l, h1, h2, h3⟩ := hO
  refine oApp ht hi hzv (by decide) hs hx h1 hb rfl rfl hm hm2 hB fun A2 c2 w' hO' hF hF2 hnew => kk A2 c2 w' ?_ hF
  have hk := hF2 (notIn A) fun _ h => h
  have key : ∀ (S : Nat → Prop) (s : Int) (A3 : Option Addr) (n3 c3 : Nat) (z3 : Int), (∀ b, b < w.heap.size → S b → notIn A b) → ZR w S s A3 n3 c3 z3 → ZR w' (fun b => notIn A2 b) s A3 n3 c3 z3 := by
    intro S s A3 n3 c3 z3 hS h
    have h4 := (h.sub (S' := fun b => notIn A b ∧ b < w.heap.size) fun b hb hs => ⟨hS b hb hs, hb⟩).frmB hk fun b _ hs hn => hn hs.1
    refine h4.sub fun b _ hb a ha => ?_
    rcases hnew a ha with h5 | h5
    · exact hb.1 a h5
    · have := hb.2; omega
  refine ⟨l ++ [⟨sz, A', n', c', z, s2, A2', n2, c2'⟩], ?_, fun r hr => ?_, by simp [h3]⟩
  · rw [cellsQ_append]; exact hO'
  · rcases List.mem_append.1 hr with h5 | h5
    · have h6 := h2 r h5
      exact ⟨key _ _ _ _ _ _ (fun _ _ h => h) h6.1, h6.2.1, key _ _ _ _ _ _ (fun _ _ h => h) h6.2.2.1, h6.2.2.2⟩
    · simp at h5; subst h5; exact ⟨key _ _ _ _ _ _ hS hz, hM, key _ _ _ _ _ _ hS2 hz2, hM2⟩
end
/-! ### plain numbers -/
theorem quo_sgn {s t x y : Int} {a b : Nat} (h : s = x.sign) (k : t = y.sign) (ha : a = x.natAbs) (hb : b = y.natAbs) : sgnv (decide (s * t < 0)) (a / b) = x.tdiv y := by
  subst h k ha hb
  have e : (x.tdiv y).natAbs = x.natAbs / y.natAbs := Int.natAbs_tdiv x y
  have e2 : ∀ (g : Bool) (n : Nat), (g = true → x.tdiv y ≤ 0) → (g = false → 0 ≤ x.tdiv y) → (x.tdiv y).natAbs = n → sgnv g n = x.tdiv y := by
    intro g n h1 h2 h3
    cases g
    · have := h2 rfl; simp only [sgnv, Bool.false_eq_true, if_false]; omega
    · have := h1 rfl; simp only [sgnv, if_true]; omega
  refine e2 _ _ (fun h => ?_) (fun h => ?_) e
  · have h := of_decide_eq_true h
    rcases Int.lt_trichotomy x 0 with hx | hx | hx <;> rcases Int.lt_trichotomy y 0 with hy | hy | hy
    · rw [Int.sign_eq_neg_one_of_neg hx, Int.sign_eq_neg_one_of_neg hy] at h; omega
    · subst hy; simp
    · have := Int.tdiv_nonneg (a := -x) (b := y) (by omega) (by omega); rw [Int.neg_tdiv] at this; omega
    · subst hx; simp
    · subst hx; simp
    · subst hx; simp
    · have := Int.tdiv_nonneg (a := x) (b := -y) (by omega) (by omega); rw [Int.tdiv_neg] at this; omega
    · subst hy; simp
    · rw [Int.sign_eq_one_of_pos hx, Int.sign_eq_one_of_pos hy] at h; omega
  · have h := of_decide_eq_false h
    rcases Int.lt_trichotomy x 0 with hx | hx | hx <;> rcases Int.lt_trichotomy y 0 with hy | hy | hy
    · have := Int.tdiv_nonneg (a := -x) (b := -y) (by omega) (by omega); rwa [Int.tdiv_neg, Int.neg_tdiv, Int.neg_neg] at this
    · subst hy; simp
    · rw [Int.sign_eq_neg_one_of_neg hx, Int.sign_eq_one_of_pos hy] at h; omega
    · subst hx; simp
    · subst hx; simp
    · subst hx; simp
    · rw [Int.sign_eq_one_of_pos hx, Int.sign_eq_neg_one_of_neg hy] at h; omega
    · subst hy; simp
    · exact Int.tdiv_nonneg (by omega) (by omega)
theorem natAbs_tmod' (x y : Int) : (x.tmod y).natAbs = x.natAbs % y.natAbs := by
  cases x <;> cases y <;> simp [Int.tmod, Int.natAbs_neg] <;> rfl
theorem rem_sgn {s x y : Int} {a b : Nat} (h : s = x.sign) (ha : a = x.natAbs) (hb : b = y.natAbs) : sgnv (decide (s < 0)) (a % b) = x.tmod y := by
  subst h ha hb
  have e := natAbs_tmod' x y
  by_cases hx : x < 0
  · rw [Int.sign_eq_neg_one_of_neg hx]
    have : (x.tmod y) ≤ 0 := by have := Int.tmod_nonneg (a := -x) y (by omega); rw [Int.neg_tmod] at this; omega
    simp only [sgnv, show decide ((-1 : Int) < 0) = true from rfl, if_true]; omega
  · have h0 : 0 ≤ x.tmod y := Int.tmod_nonneg y (by omega)
    have : decide (x.sign < 0) = false := decide_eq_false (by rcases sign_cases x with h | h | h <;> omega)
    simp only [sgnv, this, Bool.false_eq_true, if_false]; omega
theorem gcd_down {x y r : Int} (hr : r = x.tmod y) : Nat.gcd y.natAbs r.natAbs = Nat.gcd x.natAbs y.natAbs := by
  rw [hr, natAbs_tmod', Nat.gcd_comm x.natAbs, Nat.gcd_rec y.natAbs x.natAbs, Nat.gcd_comm]
theorem tmod_less {x y r : Int} (hy : y ≠ 0) (hr : r = x.tmod y) : r.natAbs < y.natAbs := by rw [hr, natAbs_tmod']; exact Nat.mod_lt _ (by omega)
/-- A fraction in lowest terms is the only one. -/
theorem lowest {n N D n' d' : Int} {v : Nat} (hx : n * D = N * (v : Int)) (hv : 0 < v) (hD : 0 < D) (hc : Nat.gcd n.natAbs v = 1) (en : n' = N.tdiv (Nat.gcd N.natAbs D.natAbs : Int)) (ed : d' = D.tdiv (Nat.gcd N.natAbs D.natAbs : Int)) : n = n' ∧ (v : Int) = d' := by
  obtain ⟨h1, h2, h3⟩ := reduce_math rfl rfl rfl hD en ed
  have hx2 : n * d' = n' * (v : Int) := by
    have e : D * (n * d') = D * (n' * (v : Int)) := by
      grind
    exact Int.eq_of_mul_eq_mul_left (by omega) e
  have hN := congrArg Int.natAbs hx2
  rw [Int.natAbs_mul, Int.natAbs_mul, Int.natAbs_natCast] at hN
  have a1 : v ∣ d'.natAbs := (Nat.Coprime.dvd_of_dvd_mul_left (show Nat.Coprime v n.natAbs from (Nat.gcd_comm _ _).trans hc) ⟨n'.natAbs, by rw [hN, Nat.mul_comm]⟩)
  have a2 : d'.natAbs ∣ v := (Nat.Coprime.dvd_of_dvd_mul_left (show Nat.Coprime d'.natAbs n'.natAbs from (Nat.gcd_comm _ _).trans h3) ⟨n.natAbs, by rw [← hN, Nat.mul_comm]⟩)
  have a3 : v = d'.natAbs := Nat.dvd_antisymm a1 a2
  have a4 : (v : Int) = d' := by omega
  refine ⟨?_, a4⟩
  rw [a4] at hx2
  exact Int.eq_of_mul_eq_mul_right (by omega) hx2
theorem drop_pred {F : List Int} {k : Nat} (hk : 0 < k) (hl : k ≤ F.length) : F.drop (k - 1) = co F (k - 1) :: F.drop k := by
  rw [List.drop_eq_getElem_cons (show k - 1 < F.length by omega), show k - 1 + 1 = k by omega]
  simp [co, List.getD, show k - 1 < F.length by omega]
theorem qv_step {F : List Int} {k : Nat} {n d v w c : Int} {q : Rat} (hq : q * (d : Rat) = (n : Rat)) (hk : 0 < k) (hl : k ≤ F.length) (hv : (v : Rat) = evQ (F.drop k) q * (w : Rat)) (hc : c = co F (k - 1)) :
    ((v * n * 1 + c * (w * d) : Int) : Rat) = evQ (F.drop (k - 1)) q * ((w * d * 1 : Int) : Rat) := by
  rw [drop_pred hk hl, ← hc]
  simp only [evQ, Rat.intCast_add, Rat.intCast_mul, show ((1 : Int) : Rat) = 1 from rfl]
  grind
theorem iv_step {F : List Int} {k : Nat} {v x c : Int} (hk : 0 < k) (hl : k ≤ F.length) (hv : (v : Rat) = evQ (F.drop k) (x : Rat)) (hc : c = co F (k - 1)) : ((v * x + c : Int) : Rat) = evQ (F.drop (k - 1)) (x : Rat) := by
  rw [drop_pred hk hl, ← hc]
  simp only [evQ, Rat.intCast_add, Rat.intCast_mul]
  grind
theorem frac_mul {n d : Int} (hd : 0 < d) : (n : Rat) / (d : Rat) * (d : Rat) = (n : Rat) := by
  have := cast_ne (show d ≠ 0 by omega)
  grind
/-- Two numerators of one value. -/
theorem same_sign {a b p d : Int} {e : Rat} (ha : (a : Rat) = e * (p : Rat)) (hb : (b : Rat) = e * (d : Rat)) (hp : 0 < p) (hd : 0 < d) : a.sign = b.sign := by
  have h : a * d = b * p := by
    apply Rat.intCast_inj.1
    rw [Rat.intCast_mul, Rat.intCast_mul, ha, hb]; grind
  have h2 := congrArg Int.sign h
  rw [Int.sign_mul, Int.sign_mul, Int.sign_eq_one_of_pos hp, Int.sign_eq_one_of_pos hd] at h2
  omega
theorem cross_of {n N D : Int} {v : Nat} {e : Rat} (hv : 0 < v) (h1 : rv n v = e) (h2 : (N : Rat) = e * (D : Rat)) : n * D = N * (v : Int) := by
  apply Rat.intCast_inj.1
  rw [Rat.intCast_mul, Rat.intCast_mul, h2, ← h1]
  unfold rv
  rw [rnum_of hv, rden_of hv]
  have := cast_ne (show (v : Int) ≠ 0 by omega)
  grind
theorem whole {u z v o x D : Int} {F : List Int} {n : Nat} (h1 : (u : Rat) = evQ F (x : Rat)) (h2 : (v : Rat) = evQ (trimZ F) ((z : Rat) / (o : Rat)) * (D : Rat)) (hD : D = o ^ n) (hz : z = x) (ho : o = 1) : u = v := by
  subst hz hD ho
  apply Rat.intCast_inj.1
  have e : ((1 : Int) : Rat) = 1 := rfl
  have e2 : (z : Rat) / 1 = (z : Rat) := by grind
  rw [h1, h2, evQ_trim, Int.one_pow, e, e2, Rat.mul_one]
end Go.Gx
