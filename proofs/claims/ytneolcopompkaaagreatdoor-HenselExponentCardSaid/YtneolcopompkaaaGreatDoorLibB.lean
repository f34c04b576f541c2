/-
  The laws of the walks and the plain laws of numbers and polynomials, part 2: RefPreds, RatMath, EvMath, SqMath, SqMath2, Det, Subres, EndMath, InvMath, QPoly, Gauss, CountMath, Norm, Bound, GcdMath, ValMath, GcdPreds, SqfMath, QuoMath, YunMath, FacPreds, PolysPreds, HenPreds, ZPreds, PZPreds, IntPreds, ListPreds, StepMath, StepPreds, Laws4, MulIMath, ModMath2, ModDiv, ModGcd, ModWalk, ModPreds, LiftMath, LiftPreds, FitMath, LiftThy, LiftThy2, LawMath12.
-/
import Derived.Test.YtneolcopompkaaaGreatDoorLibA
import Derived.Laws.AppendOwn
/-
  What the references hold: lists of small numbers, integers as a sign and bits, lists of these; slices that grow by append. No program in sight.
-/
namespace Go.Gx
open Go.RowKit
variable {dfs : List Deferred}
section
variable {b : Nat} {w w' : World} {S S' G : Nat → Prop} {A : Option Addr} {n c : Nat} {ds : List Nat}
end
/-- The slice (A, n, c), nil or at the head of a block at or beyond B, that nothing else holds; one cell an element for k = 1. -/
def Own (w : World) (B : Nat) (e : TypeId) (k : Nat) (A : Option Addr) (n c : Nat) (cs : List Value) : Prop := w.ownsRow B e k (.slice A n c) n cs
def notIn (A : Option Addr) (b : Nat) : Prop := ∀ a, A = some a → a.block ≠ b
section
variable {w w' : World} {B : Nat} {e : TypeId} {k : Nat} {A : Option Addr} {n c : Nat} {cs : List Value}
theorem Own.nil : Own w B e k none 0 0 [] := World.ownsRow_nil w B e k
theorem Own.lt (h : Own w B e k A n c cs) : ∀ a, A = some a → B ≤ a.block ∧ a.block < w.heap.size := fun a ha => by
  subst ha
  exact World.ownsRow.lt h a.block rfl
theorem Own.ext (h : Own w B e k A n c cs) (f : Ext w w') : Own w' B e k A n c cs :=
  World.ownsRow.kept (row := none) h ⟨f.os, f.tape, f.output, f.size, fun i hi _ => f.block i hi fun g => g⟩ (by cases (Value.slice A n c).ownBlock <;> simp)
theorem Own.rd (h : Own w B e k A n c cs) : Rd w (fun b => B ≤ b) A n c k cs := by
  refine ⟨h.1, ?_⟩
  rcases h.2 with ⟨hv, rfl⟩ | ⟨g, cap, cur, hv, hb, hg, hnc, hm, _, _⟩
  · injection hv with h1 h2 h3
    subst h3
    exact ⟨Nat.le_refl _, Nat.zero_le _, fun h0 => absurd h0 (by omega)⟩
  · injection hv with h1 h2 h3
    subst h1 h3
    refine ⟨hnc, by simp only [maxLen, CapMax] at hm ⊢; omega, fun _ => ⟨g, 0, rfl, hb, (Array.getElem?_eq_some_iff.1 hg).1, fun j v hj => ?_⟩⟩
    have := World.ownsRow.cells h (g := g) rfl j v hj
    rw [addr_add] at this
    exact this
theorem Own.cap (h : Own w B e k A n c cs) : n ≤ c := h.rd.2.1
theorem Own.max (h : Own w B e k A n c cs) : c ≤ 9223372036854775807 := h.rd.2.2.1
end
/-- Where the slice lies behind an append. -/
theorem append_place {P : Program} {w w' : World} {t ty el : TypeId} {i : TypeInfo} {z : Value} {k bytes B m c g : Nat} {A : Option Addr} {a : Addr} {c' : Nat} {cs vs : List Value} (ht : P.underlying t = some (.slice el)) (hi : P.info? el = some i) (hz : i.zero = some z) (hsize : i.size = k)
    (hby : i.bytes = bytes) (hO : Own w B el k A m c cs) (hl : vs.length = 1 * k) (hnews : ∀ j u, vs[j]? = some u → w.cell? ((⟨g, 0, none⟩ : Addr).add j) = some u) (h1 : ∀ u ∈ vs, u.oneCell' = true) (hm : (m + 1) * bytes ≤ 140737488355328) (hm2 : m + 1 ≤ 9223372036854775807)
    (hr : (Builtin.append_ #[t, t] ty #[.slice A m c, .slice (some ⟨g, 0, none⟩) 1 1]).run P w = .ok (.slice (some a) (m + 1) c') w') : A = some a ∨ w.heap.size ≤ a.block := by
  subst hsize
  subst hby
  rcases hO.2 with ⟨hv, rfl⟩ | ⟨g0, cap, cur, hv, hbg, hg, hnc, hcm, hcs, htake⟩
  · injection hv with e1 e2 e3
    subst e1 e3
    have h := run_append_nil (P := P) w t ty el i z ht hi hz ⟨g, 0, none⟩ 1 1 vs hl hnews (by omega) (by omega) (by omega)
    rw [h] at hr
    injection hr with e4
    injection e4 with e5
    injection e5 with e6
    right; rw [← e6]; exact Nat.le_refl _
  · injection hv with e1 e2 e3
    subst e1 e3
    by_cases hroom : m + 1 ≤ c
    · have hfit : m * i.size + vs.length ≤ cur.size := by rw [hl, hcs, ← Nat.add_mul]; exact Nat.mul_le_mul_right _ hroom
      have h := run_append_room (P := P) w t ty el i ht hi g0 m c cur hg ⟨g, 0, none⟩ 1 1 vs hl hnews h1 hroom hfit
      rw [h] at hr
      injection hr with e4
      injection e4 with e5
      exact .inl e5
    · have holds : ∀ j u, cs[j]? = some u → w.cell? ((⟨g0, 0, none⟩ : Addr).add j) = some u := World.ownsRow.cells hO (g := g0) rfl
      have h := run_append_grow (P := P) w t ty el i z ht hi hz ⟨g0, 0, none⟩ m c cs hO.1 holds ⟨g, 0, none⟩ 1 1 vs hl hnews (by omega) (by omega) (growslice_fits (by omega) hm)
      rw [h] at hr
      injection hr with e4
      injection e4 with e5
      injection e5 with e6
      right; rw [← e6]; exact Nat.le_refl _
section
variable {P : Program} {n : Nat} {e : Nat → Value} {w : World} {K : Act → World → Prop} {Q : Exit → Act → World → Prop} {ty : TypeId} {pos : String} {af : Array Edge} {gd : Option (Nat × Bool)}
/-- append of what lies in a box, to a slice of the call's own. -/
theorem oApp {d : Nat} {s x : Operand} {t el bt : TypeId} {z : Value} {k bytes B m c g : Nat} {A : Option Addr} {cs vs : List Value} (ht : P.underlying t = some (.slice el))
    (hi : (P.info? el).map (fun i => (i.zero, i.size, i.bytes)) = some (some z, k, bytes)) (hz : z.cells.size = k) (hk : 0 < k) (hs : ev n e s = .slice A m c) (hx : ev n e x = .slice (some ⟨g, 0, none⟩) 1 1) (hO : Own w B el k A m c cs) (hb : Blk w g bt vs) (hl : vs.length = k)
    (h1 : vs.all Value.oneCell' = true) (hm : (m + 1) * bytes ≤ 140737488355328) (hm2 : m + 1 ≤ 9223372036854775807) (hB : B ≤ w.heap.size)
    (kk : ∀ A' c' w', Own w' B el k A' (m + 1) c' (cs ++ vs) → Frm (fun b => B ≤ b) w w' → (∀ G : Nat → Prop, (∀ b, G b → notIn A b) → Frm (fun b => ¬ G b) w w') → (∀ a, A' = some a → A = some a ∨ w.heap.size ≤ a.block) → K (mkA dfs n (upd e d (.slice A' (m + 1) c'))) w') :
    OpW P ⟨some d, .call { callee := .builtin .append, args := #[s, x], argTypes := #[t, t] }, ty, pos, af, gd⟩ (mkA dfs n e) w K Q := by
  obtain ⟨i, hi', hz', hsz, hby⟩ := info_parts hi
  unfold OpW
  obtain ⟨v', w', hr, h2, h3, h4⟩ := run_append_own (P := P) w B t ty el i z k bytes ht hi' hz' hsz hby hz hk (.slice A m c) m cs hO ⟨g, 0, none⟩ 1 1 vs (by simpa using hl) (fun j u hj => by rw [addr_add, Nat.zero_add]; exact hb.at_ hj) (List.all_eq_true.1 h1) (by simp only [maxLen]; omega) hm hB
  have hkeep : ∀ a, (Value.slice A m c).ownBlock = some a → B ≤ a := fun a ha => (World.ownsRow.lt hO a ha).1
  obtain ⟨A', c', rfl⟩ : ∃ A' c', v' = .slice A' (m + 1) c' := by
    rcases h2.2 with ⟨_, h0⟩ | ⟨g', cap, cur, hv, _⟩
    · omega
    · exact ⟨_, _, hv⟩
  have hF : Frm (fun b => (Value.slice A m c).ownBlock = some b) w w' := ⟨h3.os, h3.tape, h3.output, h3.size, append_drawn ht hi' hz' hsz hby hO (by simpa using hl) (fun j u hj => by rw [addr_add, Nat.zero_add]; exact hb.at_ hj) (List.all_eq_true.1 h1) hm2 hm hr, fun i hi hg => h3.block i hi fun e => hg e.symm⟩
  have hnew : ∀ a, A' = some a → A = some a ∨ w.heap.size ≤ a.block := by
    intro a ha
    subst ha
    exact append_place ht hi' hz' hsz hby hO (by simpa using hl) (fun j u hj => by rw [addr_add, Nat.zero_add]; exact hb.at_ hj) (List.all_eq_true.1 h1) hm hm2 hr
  unfold Oper.wp execOp
  rw [eval_mkA]
  simp only [resolve, invoke, builtin, Sem.run_bind, Sem.run_pure, Result.andThen_ok, List.map_toArray, List.map_cons, List.map_nil, hs, hx, hr, Oper.upon, put_mkA]
  exact kk A' c' w' h2 (hF.mono fun b _ hb => hkeep b hb) (fun G hG => hF.mono fun b _ hb hGb => by
    cases A with
    | none => simp [Value.ownBlock] at hb
    | some a => simp [Value.ownBlock] at hb; exact hG b hGb a rfl hb) hnew
end
end Go.Gx
namespace Go.Gx
variable {dfs : List Deferred}
end Go.Gx
namespace Go.Gx
variable {dfs : List Deferred}
section
variable {P : Program} {n : Nat} {e : Nat → Value} {w : World} {ty : TypeId} {pos : String} {af : Array Edge} {gd : Option (Nat × Bool)}
/-- The lowest bit. -/
theorem evAndOne {d : Option Nat} {t t' : TypeId} {x y : Operand} {a : Nat} (hx : ev n e x = .int .i64 (a : Int)) (hy : ev n e y = .int .i64 1) (ha : a ≤ 9223372036854775807) :
    Ev P n e ⟨d, .binOp .and t x y t', ty, pos, af, gd⟩ w (.int .i64 ((a % 2 : Nat) : Int)) := by
  have e1 : (Op.intBits .and .i64 (a : Int) 1) = pure (.int .i64 (IntKind.i64.wrap ((BitVec.ofInt 64 (a : Int) &&& BitVec.ofInt 64 1).toNat : Int))) := rfl
  have e2 : (BitVec.ofInt 64 (a : Int) &&& BitVec.ofInt 64 1).toNat = a % 2 := by
    have h1 : BitVec.ofInt 64 (a : Int) = BitVec.ofNat 64 a := by simp
    have h2 : BitVec.ofInt 64 1 = BitVec.ofNat 64 1 := by decide
    rw [h1, h2, BitVec.toNat_and, BitVec.toNat_ofNat, BitVec.toNat_ofNat, Nat.mod_eq_of_lt (by omega)]
    exact Nat.and_one_is_mod a
  rw [e2, wI64 (z := ((a % 2 : Nat) : Int)) ⟨rfl, by omega, by omega⟩] at e1
  simp only [Ev, execOp, hx, hy, eqGuard, binOp, e1]
  simp
end
end Go.Gx

/-
  Fractions. Plain numbers; no program in sight.
-/
namespace Go.Gx
end Go.Gx

/-
  Values of polynomials at fractions. Plain numbers; no program in sight.
-/
namespace Go.Gx
def evQ : List Int → Rat → Rat
  | [], _ => 0
  | a :: l, q => (a : Rat) + q * evQ l q
theorem cast_pow (d : Int) (k : Nat) : ((d ^ k : Int) : Rat) = (d : Rat) ^ k := by
  induction k with
  | zero => simp
  | succ k ih => rw [Int.pow_succ, Rat.intCast_mul, ih, Rat.pow_succ]
theorem cast_ne {d : Int} (h : d ≠ 0) : (d : Rat) ≠ 0 := fun e => h (Rat.intCast_inj.1 (by rw [e]; rfl))
theorem evQ_head (f : List Int) (q : Rat) : evQ f q = ((co f 0 : Int) : Rat) + q * evQ f.tail q := by
  cases f with
  | nil => simp [evQ, co]; grind
  | cons a l => simp [evQ, co]
theorem co_tail (f : List Int) (i : Nat) : co f.tail i = co f (i + 1) := by cases f <;> simp [co]
theorem evQ_ext (q : Rat) : ∀ (n : Nat) (f g : List Int), f.length + g.length ≤ n → (∀ i, co f i = co g i) → evQ f q = evQ g q
  | 0, f, g, hn, _ => by
    have h1 : f = [] := List.eq_nil_of_length_eq_zero (by omega)
    have h2 : g = [] := List.eq_nil_of_length_eq_zero (by omega)
    rw [h1, h2]
  | n + 1, f, g, hn, h => by
    rcases Nat.eq_zero_or_pos (f.length + g.length) with h0 | h0
    · have h1 : f = [] := List.eq_nil_of_length_eq_zero (by omega)
      have h2 : g = [] := List.eq_nil_of_length_eq_zero (by omega)
      rw [h1, h2]
    · rw [evQ_head f, evQ_head g, h 0, evQ_ext q n f.tail g.tail (by simp; omega) (fun i => by rw [co_tail, co_tail]; exact h (i + 1))]
theorem evQ_congr {f g : List Int} (q : Rat) (h : ∀ i, co f i = co g i) : evQ f q = evQ g q := evQ_ext q _ f g (Nat.le_refl _) h
theorem evQ_padd (q : Rat) : ∀ f g : List Int, evQ (padd f g) q = evQ f q + evQ g q
  | [], g => by rw [evQ_congr q (g := g) (fun i => by rw [co_padd]; simp [co])]; simp [evQ]; grind
  | a :: f, [] => by rw [evQ_congr q (g := a :: f) (fun i => by rw [co_padd]; simp [co])]; simp [evQ]; grind
  | a :: f, b :: g => by
    rw [evQ_congr q (g := (a + b) :: padd f g) (fun i => by
      rw [co_padd]
      cases i with
      | zero => simp [co]
      | succ i =>
        have := co_padd f g i
        simp only [co, List.getD_cons_succ] at this ⊢
        omega)]
    simp only [evQ, evQ_padd q f g, Rat.intCast_add]
    grind
theorem evQ_scale (q : Rat) (c : Int) : ∀ f : List Int, evQ (scaleP f c) q = (c : Rat) * evQ f q
  | [] => by simp [scaleP, evQ]
  | a :: f => by
    have ih := evQ_scale q c f
    simp only [scaleP, List.map_cons, evQ, Rat.intCast_mul] at ih ⊢
    rw [ih]
    grind
theorem co_pmul_cons (a : Int) (f g : List Int) (k : Nat) : co (pmul (a :: f) g) k = co (padd (scaleP g a) (0 :: pmul f g)) k := by
  rw [co_pmul, co_padd, co_scaleP]
  unfold conv convF
  rw [rsum_head]
  cases k with
  | zero => simp [rsum, co, Int.mul_comm]
  | succ k =>
    have e1 : co (0 :: pmul f g) (k + 1) = conv f g k := by rw [← co_pmul]; simp [co]
    rw [e1]
    unfold conv convF
    have e2 : rsum (fun i => co (a :: f) (i + 1) * co g (k + 1 - (i + 1))) (k + 1) = rsum (fun i => co f i * co g (k - i)) (k + 1) := rsum_congr fun i _ => by simp [co]
    rw [e2]
    simp [co, Int.mul_comm]
theorem evQ_pmul (q : Rat) : ∀ f g : List Int, evQ (pmul f g) q = evQ f q * evQ g q
  | [], g => by simp [pmul, evQ]
  | a :: f, g => by
    rw [evQ_congr q (co_pmul_cons a f g), evQ_padd, evQ_scale]
    simp only [evQ, evQ_pmul q f g]
    simp
    grind
end Go.Gx

/-
  Contents and primitive parts of polynomials. Plain numbers; no program in sight.
-/
namespace Go.Gx
def ldP (F : List Int) : Int := coI (trimZ F) (((trimZ F).length : Int) - 1)
theorem co_pow1 (a : Int) : ∀ (n i : Nat), co (ppow [a] n) i = if i = 0 then a ^ n else 0
  | 0, i => by cases i <;> simp [ppow, co]
  | n + 1, i => by
    show co (pmul (ppow [a] n) [a]) i = _
    rw [co_pmul]
    unfold conv convF
    cases i with
    | zero =>
      have e := co_pow1 a n 0
      simp [rsum, co, Int.pow_succ] at e ⊢
      rw [e]
    | succ i =>
      rw [if_neg (by omega)]
      have : rsum (fun j => co (ppow [a] n) j * co [a] (i + 1 - j)) (i + 1 + 1) = rsum (fun _ => 0) (i + 1 + 1) := rsum_congr fun j hj => by
        rw [co_pow1 a n]
        by_cases h0 : j = 0
        · subst h0; simp [co]
        · rw [if_neg h0, Int.zero_mul]
      rw [this]
      have z : ∀ m, rsum (fun _ => (0 : Int)) m = 0 := by intro m; induction m with | zero => rfl | succ m ih => simp [rsum, ih]
      exact z _
theorem ld_pow1 {a : Int} {n : Nat} {F : List Int} (h : F = trimZ (ppow [a] n)) : ldP F = a ^ n := by
  have hF : trimZ F = F := by rw [h]; exact canon_trim isZI _
  have hc : ∀ i, co F i = if i = 0 then a ^ n else 0 := fun i => by rw [h, co_trim, co_pow1]
  unfold ldP
  rw [hF]
  rcases Nat.eq_zero_or_pos F.length with h0 | h0
  · rw [← coI_out (.inl (by omega))]
    have := hc 0
    rw [if_pos rfl, List.eq_nil_of_length_eq_zero h0] at this
    simpa [co] using this
  · rw [show ((F.length : Int) - 1) = ((F.length - 1 : Nat) : Int) by omega, coI_nat]
    have h1 := canon_last (f := F) (by rw [h]; exact canon_trim isZI _) (by omega)
    rw [hc] at h1 ⊢
    by_cases e : F.length - 1 = 0
    · rw [if_pos e]
    · rw [if_neg e] at h1; exact absurd rfl h1
end Go.Gx

/-
  Division of polynomials, step by step. Plain numbers; no program in sight.
-/
namespace Go.Gx
/-- The coefficient of x^i in x^low times G. -/
def cs (G : List Int) (low i : Nat) : Int := if low ≤ i then co G (i - low) else 0
theorem co_takeZ (R : List Int) (t i : Nat) : co (R.take t) i = if i < t then co R i else 0 := by
  simp only [co, List.getD, List.getElem?_take]
  by_cases h : i < t
  · rw [if_pos h, if_pos h]
  · rw [if_neg h, if_neg h]; rfl
theorem co_setZ {L : List Int} {k : Nat} {v : Int} (hk : k < L.length) (j : Nat) : co (L.set k v) j = if j = k then v else co L j := by
  by_cases e : j = k
  · subst e; rw [if_pos rfl]; simp [co, List.getD, List.getElem?_set_self hk]
  · rw [if_neg e]; simp only [co, List.getD]; rw [List.getElem?_set_ne (Ne.symm e)]
theorem evQ_ppow (g : List Int) (x : Rat) : ∀ k, evQ (ppow g k) x = evQ g x ^ k
  | 0 => by
    show evQ [1] x = _
    simp only [evQ]
    have e1 : ((1 : Int) : Rat) = 1 := rfl
    rw [e1, Rat.pow_zero]; grind
  | k + 1 => by
    show evQ (pmul (ppow g k) g) x = _
    rw [evQ_pmul, evQ_ppow g x k, Rat.pow_succ]
end Go.Gx

/-
  Determinants by expansion along columns. Plain numbers; no program in sight.
-/
namespace Go.Gx
abbrev Row := Nat → Int
def lap (D : List Row → Int) (c : Nat) : List Row → List Row → Int
  | _, [] => 0
  | pre, r :: rs => r c * D (pre ++ rs) - lap D c (pre ++ [r]) rs
def det : List Nat → List Row → Int
  | [], [] => 1
  | [], _ :: _ => 0
  | c :: cl, rs => lap (det cl) c [] rs
structure Multi (D : List Row → Int) : Prop where
  add : ∀ (A : List Row) (u v : Row) (B : List Row), D (A ++ (fun c => u c + v c) :: B) = D (A ++ u :: B) + D (A ++ v :: B)
  smul : ∀ (A : List Row) (k : Int) (u : Row) (B : List Row), D (A ++ (fun c => k * u c) :: B) = k * D (A ++ u :: B)
  alt : ∀ (A : List Row) (u : Row) (B : List Row), D (A ++ u :: u :: B) = 0
section
variable {D : List Row → Int} (h : Multi D) (c : Nat)
include h
end
section
variable {D : List Row → Int} (h : Multi D)
include h
end
end Go.Gx

/-
  The subresultant sequence: its divisions are exact. Plain numbers; no program in sight.
-/
namespace Go.Gx
section
variable {a0 b0 a b q R r : List Int} {n0 m0 n m d nr : Nat} {l s D l' s' : Int}
end
end Go.Gx

/-
  Signs of polynomials beyond their roots. Plain numbers; no program in sight.
-/
namespace Go.Gx
end Go.Gx
namespace Go.Gx
end Go.Gx

/-
  Inverses of shifts and reversals; sums of fractions. Plain numbers; no program in sight.
-/
namespace Go.Gx
theorem evQ_psub (q : Rat) (f g : List Int) : evQ (psub f g) q = evQ f q - evQ g q := by
  rw [evQ_congr q (g := padd f (scaleP g (-1))) (fun i => by rw [co_psub, co_padd, co_scaleP]; omega), evQ_padd, evQ_scale]
  show evQ f q + ((-1 : Int) : Rat) * evQ g q = _
  have : ((-1 : Int) : Rat) = -1 := rfl
  rw [this]; grind
end Go.Gx
namespace Go.Gx
end Go.Gx

/-
  Polynomials with rational coefficients: degrees, divisibility, division with rest, common divisors. Plain numbers; no program in sight.
-/
namespace Go.Gx
/-- A polynomial function. -/
structure QP where
  v : Rat → Rat
  p : ∃ (c : Int) (l : List Int), c ≠ 0 ∧ ∀ x, (c : Rat) * v x = evQ l x
theorem one_cast : ((1 : Int) : Rat) = 1 := rfl
/-- The polynomial with these coefficients. -/
def P (l : List Int) : QP := ⟨evQ l, 1, l, by decide, fun x => by rw [one_cast]; grind⟩
instance : Add QP := ⟨fun f g => ⟨fun x => f.v x + g.v x, by
  obtain ⟨c, l, hc, h⟩ := f.p
  obtain ⟨d, m, hd, k⟩ := g.p
  exact ⟨c * d, padd (scaleP l d) (scaleP m c), Int.mul_ne_zero hc hd, fun x => by rw [evQ_padd, evQ_scale, evQ_scale, ← h, ← k, Rat.intCast_mul]; grind⟩⟩⟩
instance : Neg QP := ⟨fun f => ⟨fun x => - f.v x, by
  obtain ⟨c, l, hc, h⟩ := f.p
  exact ⟨-c, l, by omega, fun x => by rw [← h, Rat.intCast_neg]; grind⟩⟩⟩
instance : Sub QP := ⟨fun f g => ⟨fun x => f.v x - g.v x, by
  obtain ⟨c, l, hc, h⟩ := f.p
  obtain ⟨d, m, hd, k⟩ := g.p
  exact ⟨c * d, psub (scaleP l d) (scaleP m c), Int.mul_ne_zero hc hd, fun x => by rw [evQ_psub, evQ_scale, evQ_scale, ← h, ← k, Rat.intCast_mul]; grind⟩⟩⟩
instance : Mul QP := ⟨fun f g => ⟨fun x => f.v x * g.v x, by
  obtain ⟨c, l, hc, h⟩ := f.p
  obtain ⟨d, m, hd, k⟩ := g.p
  exact ⟨c * d, pmul l m, Int.mul_ne_zero hc hd, fun x => by rw [evQ_pmul, ← h, ← k, Rat.intCast_mul]; grind⟩⟩⟩
theorem den_ne (r : Rat) : ((r.den : Int) : Rat) ≠ 0 := cast_ne (by have := r.den_nz; omega)
theorem den_mul (r : Rat) : ((r.den : Int) : Rat) * r = (r.num : Rat) := by
  have h : (r.num : Rat) / ((r.den : Int) : Rat) = r := by
    rw [← Rat.divInt_eq_div]; exact Rat.num_divInt_den r
  have := den_ne r
  grind
/-- A constant. -/
def K (r : Rat) : QP := ⟨fun _ => r, r.den, [r.num], by have := r.den_nz; omega, fun x => by rw [den_mul]; simp only [evQ]; grind⟩
instance : OfNat QP 0 := ⟨K 0⟩
instance : OfNat QP 1 := ⟨K 1⟩
theorem rat_mul_pow (a b : Rat) : ∀ n : Nat, (a * b) ^ n = a ^ n * b ^ n
  | 0 => by simp only [Rat.pow_zero]; grind
  | n + 1 => by simp only [Rat.pow_succ, rat_mul_pow a b n]; grind
instance : HPow QP Nat QP := ⟨fun f n => ⟨fun x => f.v x ^ n, by
  obtain ⟨c, l, hc, h⟩ := f.p
  refine ⟨c ^ n, ppow l n, Int.pow_ne_zero hc, fun x => ?_⟩
  rw [evQ_ppow, ← h, rat_mul_pow, cast_pow]⟩⟩
/-- The degree and one more; 0 for 0. -/
noncomputable def dg (f : QP) : Nat := (trimZ (Classical.choose (Classical.choose_spec f.p))).length
instance : Dvd QP := ⟨fun g f => ∃ q, f = q * g⟩
def Mul_ (f g : QP) (k : Nat) : Prop := ∃ r, f = r * g ^ k ∧ ¬ g ∣ r
end Go.Gx

/-
  Primitive polynomials: Gauss' lemma, exact division. Plain numbers; no program in sight.
-/
namespace Go.Gx
end Go.Gx

/-
  Divisibility and multiplicities, as the program finds them. Plain numbers; no program in sight.
-/
namespace Go.Gx
end Go.Gx

/-
  Sizes of coefficients; the law on multiplicities. No program in sight.
-/
namespace Go.Gx
end Go.Gx

/-
  Bounds on subresultants and on divisors of polynomials. Plain numbers; no program in sight.
-/
namespace Go.Gx
end Go.Gx

/-
  Greatest common divisors, as the subresultant sequence finds them. Plain numbers; no program in sight.
-/
namespace Go.Gx
section
variable {a0 b0 a b q R r : List Int} {l s D : Int}
end
end Go.Gx

/-
  Irreducible polynomials over the rationals, their multiplicities, derivatives. Plain numbers; no program in sight.
-/
namespace Go.Gx
/-- The multiplicity. -/
noncomputable def va (π f : QP) : Nat := @dite _ (∃ k, Mul_ f π k) (Classical.propDecidable _) (fun h => Classical.choose h) (fun _ => 0)
end Go.Gx

/-
  Sizes of numbers in memory out of their values; greatest common divisors as the program returns them. No program in sight.
-/
namespace Go.Gx
theorem int_tight {g : Bool} {d : List Nat} {n K : Nat} (hc : ICan g d) (hl : d.length = n) (hv : (zval g d).natAbs < BS ^ K) : n ≤ K := by
  have e2 : (zval g d).natAbs = val d := by unfold zval; split <;> omega
  have := lt_val_len hc.1 (k := K) (by omega)
  omega
end Go.Gx
namespace Go.Gx
end Go.Gx

/-
  Square-free parts. Plain numbers; no program in sight.
-/
namespace Go.Gx
end Go.Gx

/-
  Lengths of exact quotients. Plain numbers; no program in sight.
-/
namespace Go.Gx
end Go.Gx

/-
  The square-free decomposition. Plain numbers; no program in sight.
-/
namespace Go.Gx
section
variable {p rest other U g r1 o1 : QP} {k : Nat}
end
end Go.Gx

/-
  Lists of factors in memory; what a decomposition says. No program in sight.
-/
namespace Go.Gx
open Go.RowKit
/-- A polynomial in memory and a power. -/
structure FE where
  A : Option Addr
  n : Nat
  c : Nat
  l : List RI
  k : Int
section
variable {w w' : World} {S S' G : Nat → Prop} {A : Option Addr} {n c M : Nat} {l : List FE}
end
section
variable {w w' : World} {B : Nat} {el : TypeId} {A : Option Addr} {n c M : Nat} {l : List FE}
theorem Own.frmG {k : Nat} {cs : List Value} {G : Nat → Prop} (h : Own w B el k A n c cs) (f : Frm G w w') (hd : ∀ b, b < w.heap.size → B ≤ b → ¬ G b) : Own w' B el k A n c cs := by
  refine ⟨h.1, ?_⟩
  rcases h.2 with h1 | ⟨g, cap, cur, hv, hb, hg, rest⟩
  · exact .inl h1
  · have hlt := (Array.getElem?_eq_some_iff.1 hg).1
    exact .inr ⟨g, cap, cur, hv, hb, (f.block g hlt (hd g hlt hb)).trans hg, rest⟩
end
section
variable {dfs : List Deferred} {P : Program} {n : Nat} {e : Nat → Value} {w : World} {K : Act → World → Prop} {Q : Exit → Act → World → Prop} {ty : TypeId} {pos : String} {af : Array Edge} {gd : Option (Nat × Bool)}
end
end Go.Gx
namespace Go.Gx
end Go.Gx

/-
  Lists of polynomials in memory. No program in sight.
-/
namespace Go.Gx
open Go.RowKit
/-- A polynomial in memory. -/
structure PE where
  A : Option Addr
  n : Nat
  c : Nat
  l : List RI
def PE.v (f : PE) : Value := .slice f.A f.n f.c
def cellsP (l : List PE) : List Value := l.map PE.v
theorem cellsP_len (l : List PE) : (cellsP l).length = l.length := by simp [cellsP]
def AllP (w : World) (S : Nat → Prop) (M : Nat) (l : List PE) : Prop := ∀ f ∈ l, PolyR w S f.A f.n f.c f.l M
def PolysR (w : World) (S : Nat → Prop) (A : Option Addr) (n c : Nat) (l : List PE) (M : Nat) : Prop := Rd w S A n c 1 (cellsP l) ∧ AllP w S M l
section
variable {w w' : World} {S S' G : Nat → Prop} {A : Option Addr} {n c M M' : Nat} {l : List PE}
theorem PolysR.frmB (h : PolysR w S A n c l M) (f : Frm G w w') (hd : ∀ b, b < w.heap.size → S b → ¬ G b) : PolysR w' S A n c l M := ⟨h.1.frmB f hd, fun x hx => (h.2 x hx).frmB f hd⟩
theorem PolysR.ext (h : PolysR w S A n c l M) (f : Ext w w') : PolysR w' S A n c l M := ⟨h.1.ext f, fun x hx => (h.2 x hx).ext f⟩
theorem PolysR.sub (h : PolysR w S A n c l M) (hs : ∀ b, b < w.heap.size → S b → S' b) : PolysR w S' A n c l M := ⟨h.1.sub hs, fun x hx => (h.2 x hx).sub hs⟩
theorem PolysR.low (h : PolysR w S A n c l M) : PolysR w (· < w.heap.size) A n c l M := h.sub fun _ hb _ => hb
theorem PolysR.le (h : PolysR w S A n c l M) (hm : M ≤ M') : PolysR w S A n c l M' := ⟨h.1, fun x hx => (h.2 x hx).le hm⟩
theorem PolysR.len (h : PolysR w S A n c l M) : l.length = n := by have := h.1.1; rw [cellsP_len] at this; omega
theorem PolysR.lkm (h : PolysR w S A n c l M) : l.length = n ∧ n ≤ c ∧ c ≤ 9223372036854775807 := ⟨h.len, h.1.2.1, h.1.2.2.1⟩
theorem PolysR.base (h : PolysR w S A n c l M) (hn : 0 < n) : ∃ b off, A = some ⟨b, off, none⟩ := h.1.base hn
theorem PolysR.at_ {b off i : Nat} (h : PolysR w S (some ⟨b, off, none⟩) n c l M) (hi : i < n) :
    ∃ f, l[i]? = some f ∧ w.cell? ⟨b, off + i, none⟩ = some (.slice f.A f.n f.c) ∧ PolyR w S f.A f.n f.c f.l M ∧ S b ∧ b < w.heap.size := by
  have hl : i < l.length := by rw [h.len]; exact hi
  obtain ⟨b', off', e, hS, hb, _⟩ := h.1.2.2.2 (by omega)
  injection e with e
  injection e with e1 e2
  subst e1 e2
  obtain ⟨r, hr⟩ : ∃ r, l[i]? = some r := ⟨_, List.getElem?_eq_getElem hl⟩
  have hc : (cellsP l)[i]? = some (.slice r.A r.n r.c) := by simp [cellsP, hr, PE.v]
  exact ⟨r, hr, h.1.cell hc, h.2 _ (List.mem_of_getElem? hr), hS, hb⟩
end
section
variable {P : Program} {n : Nat} {e : Nat → Value} {w : World} {ty : TypeId} {pos : String} {af : Array Edge} {gd : Option (Nat × Bool)}
/-- &a[i] of an array. -/
theorem evArr {d : Option Nat} {t el : TypeId} {x ix : Operand} {b off len size : Nat} {k : IntKind} {z : Int} (i : Nat) (ht : P.underlying t = some (.array len el)) (hs : ∀ w, (sizeOf el).run P w = .ok size w)
    (hx : ev n e x = .pointer (some ⟨b, off, none⟩)) (hi : ev n e ix = .int k z) (p : Nat) (hz : z = (i : Int) := by omega) (hlt : i < len := by omega) (hp : off + i * size = p := by omega) :
    Ev P n e ⟨d, .indexAddr t x ix, ty, pos, af, gd⟩ w (.pointer (some ⟨b, p, none⟩)) := by
  subst hz hp
  have h1 : (0 : Int) ≤ (i : Int) ∧ (i : Int) < (len : Int) := ⟨by omega, by omega⟩
  simp [Ev, execOp, hx, hi, Instr.indexAt, Instr.sureAddr, asIntOf, run_underlying ht, hs, hlt, addr_add]
end
end Go.Gx

/-
  Polynomials of one coefficient; products of lists of polynomials. No program in sight.
-/
namespace Go.Gx
open Go.RowKit
theorem PolyR.one {w : World} {S S' : Nat → Prop} {g : Nat} {t : TypeId} {b : Bool} {A : Option Addr} {n c M : Nat} {d : List Nat} (hb : Blk w g t [.bool b, .slice A n c]) (h : NatR w S A n c d) (hS : ∀ b, b < w.heap.size → S b → S' b) (hg : S' g) (hM : n ≤ M) : PolyR w S' (some ⟨g, 0, none⟩) 1 1 [⟨b, A, n, c, d⟩] M :=
  PolyR.of_blk (l := [⟨b, A, n, c, d⟩]) hb (fun r hr => by simp at hr; subst hr; exact ⟨h.sub hS, hM⟩) hg rfl (Nat.le_refl _) (by decide)
theorem pow_lit {p : Nat} {n : Nat} : trimZ (ppow (trimZ [(p : Int)]) n) = trimZ (ppow [(p : Int)] n) := trim_inj fun i => ppow_congr (fun j => co_trim _ j) n i
/-- The product of a list of polynomials, from p on. -/
def foldMul (p : List Int) (gs : List (List Int)) : List Int := gs.foldl (fun p g => trimZ (pmul p g)) p
theorem foldMul_next {p : List Int} {fl : List PE} {i : Nat} {f : PE} (h : fl[i]? = some f) : foldMul p ((fl.take (i + 1)).map fun f => zs f.l) = trimZ (pmul (foldMul p ((fl.take i).map fun f => zs f.l)) (zs f.l)) := by
  unfold foldMul
  rw [List.take_add_one, h, List.map_append, List.foldl_append]
  rfl
/-- The sum of the products of each cofactor and the other factors, and the product. -/
def sumStep (m : Nat) (x : List Int × List Int) (y : List Int × List Int) : List Int × List Int :=
  (redZ m (trimZ (padd (trimZ (pmul x.1 y.1)) (trimZ (pmul y.2 x.2)))), redZ m (trimZ (pmul x.2 y.1)))
def sumZ (m : Nat) (gs ss : List (List Int)) : List Int × List Int := (gs.zip ss).foldl (sumStep m) ([], trimZ [1])
theorem zip_next {α β : Type} {a : List α} {b : List β} {i : Nat} {x : α} {y : β} (h1 : a[i]? = some x) (h2 : b[i]? = some y) : (a.take (i + 1)).zip (b.take (i + 1)) = (a.take i).zip (b.take i) ++ [(x, y)] := by
  have hl1 := (List.getElem?_eq_some_iff.1 h1).1
  have hl2 := (List.getElem?_eq_some_iff.1 h2).1
  rw [List.take_add_one, List.take_add_one, h1, h2, Option.toList_some, Option.toList_some, List.zip_append (by simp; omega)]
  rfl
theorem sumZ_next {m : Nat} {fl gl : List PE} {i : Nat} {f g : PE} (h1 : fl[i]? = some f) (h2 : gl[i]? = some g) : sumZ m ((fl.take (i + 1)).map fun f => zs f.l) ((gl.take (i + 1)).map fun f => zs f.l) = sumStep m (sumZ m ((fl.take i).map fun f => zs f.l) ((gl.take i).map fun f => zs f.l)) (zs f.l, zs g.l) := by
  unfold sumZ
  have e1 : (fl.map fun f => zs f.l)[i]? = some (zs f.l) := by simp [h1]
  have e2 : (gl.map fun f => zs f.l)[i]? = some (zs g.l) := by simp [h2]
  rw [List.map_take, List.map_take, zip_next e1 e2, List.foldl_append, List.map_take, List.map_take]
  rfl
/-- R less c times G at place n, the first k cells of G. -/
def subAt (R G : List Int) (n k : Nat) (c : Int) : List Int := (List.range R.length).map fun t => if n ≤ t ∧ t - n < k then co R t - c * co G (t - n) else co R t
theorem subAt_len {R G : List Int} {n k : Nat} {c : Int} : (subAt R G n k c).length = R.length := by simp [subAt]
theorem co_subAt {R G : List Int} {n k : Nat} {c : Int} {t : Nat} (h : t < R.length) : co (subAt R G n k c) t = if n ≤ t ∧ t - n < k then co R t - c * co G (t - n) else co R t := by
  simp only [subAt]
  rw [co_map_range, if_pos h]
theorem co_eqL {a b : List Int} (hl : a.length = b.length) (h : ∀ i, i < a.length → co a i = co b i) : a = b := by
  apply List.ext_getElem hl
  intro i h1 h2
  have := h i h1
  simpa [co, List.getD, List.getElem?_eq_getElem h1, List.getElem?_eq_getElem h2] using this
theorem subAt_zero {R G : List Int} {n : Nat} {c : Int} : R = subAt R G n 0 c := by
  refine co_eqL subAt_len.symm fun t ht => ?_
  rw [co_subAt ht, if_neg (by omega)]
theorem subAt_step {R G L : List Int} {n k : Nat} {c v : Int} (h : L = subAt R G n k c) (hk : n + k < R.length) (hv : v = co L (n + k) - c * co G k) : L.set (n + k) v = subAt R G n (k + 1) c := by
  have hl : L.length = R.length := by rw [h, subAt_len]
  refine co_eqL (by simp [hl, subAt_len]) fun t ht => ?_
  simp only [List.length_set] at ht
  rw [co_setZ (by omega), co_subAt (by omega)]
  by_cases hi : t = n + k
  · subst hi
    rw [if_pos rfl, if_pos (by omega), hv, h, co_subAt hk, if_neg (by omega), show n + k - n = k by omega]
  · rw [if_neg hi, h, co_subAt (by omega)]
    by_cases h1 : n ≤ t ∧ t - n < k
    · rw [if_pos h1, if_pos (by omega)]
    · rw [if_neg h1, if_neg (by omega)]
/-- The steps of the division by a monic polynomial that are left. -/
def remGo (m : Nat) (G : List Int) (d : Nat) : Nat → List Int → List Int
  | 0, R => R
  | n + 1, R => remGo m G d n (if symZ m (co R (n + d)) = 0 then R else subAt R G n d (symZ m (co R (n + d))))
def remZ (m : Nat) (F G : List Int) : List Int :=
  redZ m ((remGo m G ((trimZ G).length - 1) ((redZ m F).length - ((trimZ G).length - 1)) (redZ m F)).take (min (redZ m F).length ((trimZ G).length - 1)))
theorem remL_zero {m n u d : Nat} {G R X : List Int} (h : remGo m G d n R = X) (hn : n = u - 1 - d + 1) (hu : d < u) (h0 : symZ m (co R (u - 1)) = 0) : remGo m G d (u - 1 - d) R = X := by
  subst hn
  rw [remGo, show u - 1 - d + d = u - 1 by omega, if_pos h0] at h
  exact h
theorem remL_sub {m n u d j : Nat} {G R L X : List Int} {c : Int} (h : remGo m G d n R = X) (hn : n = u - 1 - d + 1) (hu : d < u) (hc : c = symZ m (co R (u - 1))) (h0 : c ≠ 0) (hL : L = subAt R G (u - 1 - d) j c) (hj : j = d) : remGo m G d (u - 1 - d) L = X := by
  subst hn hj hL hc
  rw [remGo, show u - 1 - j + j = u - 1 by omega, if_neg h0] at h
  exact h
theorem remL_fin {m n d N : Nat} {F G R0 R r : List Int} (hd : (trimZ G).length = d + 1) (h0 : R0 = redZ m F) (hN : R0.length = N) (h : remGo m G d n R = remGo m G d (N - d) R0) (hn : n = 0) (hr : r = redZ m (R.take (min N d))) : r = remZ m F G := by
  subst hn h0 hN
  unfold remZ
  rw [hd, Nat.add_sub_cancel, ← h, hr]
  rfl
end Go.Gx

/-
  Integers of the reference: a sign and bits; lists of these. No program in sight.
-/
namespace Go.Gx
open Go.RowKit
section
variable {w w' : World} {S S' G : Nat → Prop} {s : Int} {A : Option Addr} {n c : Nat} {z : Int}
end
end Go.Gx

/-
  Lists of integers of the reference; such lists that grow. No program in sight.
-/
namespace Go.Gx
open Go.RowKit
variable {dfs : List Deferred}
section
variable {w w' : World} {S S' G : Nat → Prop} {A : Option Addr} {n c M M' : Nat} {f : List Int}
end
section
variable {T : Nat → Prop} {w w' : World} {B : Nat} {el : TypeId} {S G : Nat → Prop} {A : Option Addr} {n c M : Nat} {f : List Int}
end
section
variable {P : Program} {n : Nat} {e : Nat → Value} {w : World} {K : Act → World → Prop} {Q : Exit → Act → World → Prop} {ty : TypeId} {pos : String} {af : Array Edge} {gd : Option (Nat × Bool)}
end
end Go.Gx
namespace Go.Gx
open Go.RowKit
variable {dfs : List Deferred}
section
variable {P : Program} {n : Nat} {e : Nat → Value} {w : World} {K : Act → World → Prop} {Q : Exit → Act → World → Prop} {ty : TypeId} {pos : String} {af : Array Edge} {gd : Option (Nat × Bool)}
end
end Go.Gx

/-
  Slices of int, lists of these, factors of the reference. No program in sight.
-/
namespace Go.Gx
open Go.RowKit
section
variable {w w' : World} {S S' G : Nat → Prop} {A : Option Addr} {n c : Nat} {xs : List Int}
end
/-- A list of ints in memory, and a power. -/
structure IE where
  A : Option Addr
  n : Nat
  c : Nat
  x : List Int
  k : Int
section
variable {w w' : World} {S S' G : Nat → Prop} {A : Option Addr} {n c : Nat} {l : List IE}
end
section
variable {T : Nat → Prop} {w w' : World} {B : Nat} {el : TypeId} {A : Option Addr} {n c : Nat} {l : List IE}
end
section
variable {dfs : List Deferred} {P : Program} {n : Nat} {e : Nat → Value} {w : World} {K : Act → World → Prop} {Q : Exit → Act → World → Prop} {ty : TypeId} {pos : String} {af : Array Edge} {gd : Option (Nat × Bool)}
end
end Go.Gx

/-
  Lists whose elements are slices, of any kind: what is read, and what grows. No program in sight.
-/
namespace Go.Gx
open Go.RowKit
/-- Slices of one kind, with what is known of each. -/
structure LK (α : Type) where
  v : α → Value
  R : World → (Nat → Prop) → α → Prop
  one : ∀ a, (v a).oneCell' = true
  frmB : ∀ {w w' : World} {S G : Nat → Prop} {a : α}, R w S a → Frm G w w' → (∀ b, b < w.heap.size → S b → ¬ G b) → R w' S a
  ext : ∀ {w w' : World} {S : Nat → Prop} {a : α}, R w S a → Ext w w' → R w' S a
  sub : ∀ {w : World} {S S' : Nat → Prop} {a : α}, R w S a → (∀ b, b < w.heap.size → S b → S' b) → R w S' a
def GListR {α : Type} (L : LK α) (w : World) (S : Nat → Prop) (A : Option Addr) (n c : Nat) (l : List α) : Prop := Rd w S A n c 1 (l.map L.v) ∧ ∀ f ∈ l, L.R w S f
section
variable {α : Type} {L : LK α} {w w' : World} {S S' G : Nat → Prop} {A : Option Addr} {n c : Nat} {l : List α}
theorem GListR.frmB (h : GListR L w S A n c l) (f : Frm G w w') (hd : ∀ b, b < w.heap.size → S b → ¬ G b) : GListR L w' S A n c l := ⟨h.1.frmB f hd, fun x hx => L.frmB (h.2 x hx) f hd⟩
theorem GListR.ext (h : GListR L w S A n c l) (f : Ext w w') : GListR L w' S A n c l := ⟨h.1.ext f, fun x hx => L.ext (h.2 x hx) f⟩
theorem GListR.sub (h : GListR L w S A n c l) (hs : ∀ b, b < w.heap.size → S b → S' b) : GListR L w S' A n c l := ⟨h.1.sub hs, fun x hx => L.sub (h.2 x hx) hs⟩
theorem GListR.low (h : GListR L w S A n c l) : GListR L w (· < w.heap.size) A n c l := h.sub fun _ hb _ => hb
theorem GListR.len (h : GListR L w S A n c l) : l.length = n := by have := h.1.1; simp at this; omega
theorem GListR.lkm (h : GListR L w S A n c l) : l.length = n ∧ n ≤ c ∧ c ≤ 9223372036854775807 := ⟨h.len, h.1.2.1, h.1.2.2.1⟩
theorem GListR.base (h : GListR L w S A n c l) (hn : 0 < n) : ∃ b off, A = some ⟨b, off, none⟩ := h.1.base hn
theorem GListR.at_ {b off i : Nat} (h : GListR L w S (some ⟨b, off, none⟩) n c l) (hi : i < n) :
    ∃ f, l[i]? = some f ∧ w.cell? ⟨b, off + i, none⟩ = some (L.v f) ∧ L.R w S f ∧ S b ∧ b < w.heap.size := by
  have hl : i < l.length := by rw [h.len]; exact hi
  obtain ⟨b', off', e, hS, hb, _⟩ := h.1.2.2.2 (by omega)
  injection e with e
  injection e with e1 e2
  subst e1 e2
  obtain ⟨r, hr⟩ : ∃ r, l[i]? = some r := ⟨_, List.getElem?_eq_getElem hl⟩
  have hc : (l.map L.v)[i]? = some (L.v r) := by simp [hr]
  exact ⟨r, hr, h.1.cell hc, h.2 _ (List.mem_of_getElem? hr), hS, hb⟩
end
/-- A list that grows. -/
def OwnG {α : Type} (L : LK α) (w : World) (B : Nat) (el : TypeId) (A : Option Addr) (n c : Nat) (l : List α) : Prop := Own w B el 1 A n c (l.map L.v) ∧ ∀ f ∈ l, L.R w (fun b => notIn A b) f
section
variable {α : Type} {L : LK α} {w w' : World} {B : Nat} {el : TypeId} {A : Option Addr} {n c : Nat} {l : List α}
theorem OwnG.nil : OwnG L w B el none 0 0 [] := ⟨Own.nil, fun f hf => by cases hf⟩
theorem OwnG.ext (h : OwnG L w B el A n c l) (k : Ext w w') : OwnG L w' B el A n c l := ⟨h.1.ext k, fun f hf => L.ext (h.2 f hf) k⟩
theorem OwnG.len (h : OwnG L w B el A n c l) : l.length = n := by have := h.1.1; simp at this; omega
theorem OwnG.lkm (h : OwnG L w B el A n c l) : l.length = n ∧ n ≤ c ∧ c ≤ 9223372036854775807 := ⟨h.len, h.1.cap, h.1.max⟩
end
section
variable {dfs : List Deferred} {P : Program} {n : Nat} {e : Nat → Value} {w : World} {K : Act → World → Prop} {Q : Exit → Act → World → Prop} {ty : TypeId} {pos : String} {af : Array Edge} {gd : Option (Nat × Bool)}
/-- One element more. -/
theorem oAppG {α : Type} {L : LK α} {d : Nat} {s x : Operand} {t el bt : TypeId} {zv : Value} {bytes B m c g : Nat} {A : Option Addr} {l : List α} {S : Nat → Prop} {f : α} (ht : P.underlying t = some (.slice el))
    (hi : (P.info? el).map (fun i => (i.zero, i.size, i.bytes)) = some (some zv, 1, bytes)) (hzv : zv.cells.size = 1) (hs : ev n e s = .slice A m c) (hx : ev n e x = .slice (some ⟨g, 0, none⟩) 1 1) (hO : OwnG L w B el A m c l) (hb : Blk w g bt [L.v f])
    (hp : L.R w S f) (hS : ∀ b, b < w.heap.size → S b → notIn A b) (hm : (m + 1) * bytes ≤ 140737488355328) (hm2 : m + 1 ≤ 9223372036854775807) (hB : B ≤ w.heap.size)
    (kk : ∀ A2 c2 w', OwnG L w' B el A2 (m + 1) c2 (l ++ [f]) → Frm (fun b => B ≤ b) w w' → (∀ G : Nat → Prop, (∀ b, G b → notIn A b) → Frm (fun b => ¬ G b) w w') → (∀ a, A2 = some a → A = some a ∨ w.heap.size ≤ a.block) → K (mkA dfs n (upd e d (.slice A2 (m + 1) c2))) w') :
    OpW P ⟨some d, .call { callee := .builtin .append, args := #[s, x], argTypes := #[t, t] }, ty, pos, af, gd⟩ (mkA dfs n e) w K Q := by
  refine oApp ht hi hzv (by decide) hs hx hO.1 hb rfl (by simp [L.one f]) hm hm2 hB fun A2 c2 w' hO' hF hF2 hnew => ?_
  have hk := hF2 (notIn A) fun _ h => h
  have key : ∀ {S : Nat → Prop} {a3 : α}, (∀ b, b < w.heap.size → S b → notIn A b) → L.R w S a3 → L.R w' (fun b => notIn A2 b) a3 := by
    intro S a3 hS h
    have h4 := L.frmB (L.sub (S' := fun b => notIn A b ∧ b < w.heap.size) h fun b hb hs => ⟨hS b hb hs, hb⟩) hk fun b _ hs hn => hn hs.1
    refine L.sub h4 fun b _ hb a ha => ?_
    rcases hnew a ha with h5 | h5
    · exact hb.1 a h5
    · have := hb.2; omega
  refine kk A2 c2 w' ⟨by rw [List.map_append]; exact hO', fun x hx => ?_⟩ hF hF2 hnew
  rcases List.mem_append.1 hx with h5 | h5
  · exact key (fun _ _ h => h) (hO.2 x h5)
  · simp at h5; subst h5; exact key hS hp
end
/-- Two lists that grow side by side. -/
structure OwnT {α β : Type} (L : LK α) (L' : LK β) (w : World) (B : Nat) (el el' : TypeId) (A : Option Addr) (n c : Nat) (l : List α) (A' : Option Addr) (n' c' : Nat) (l' : List β) : Prop where
  a : Own w B el 1 A n c (l.map L.v)
  b : Own w B el' 1 A' n' c' (l'.map L'.v)
  ea : ∀ f ∈ l, L.R w (fun b => notIn A b ∧ notIn A' b) f
  eb : ∀ f ∈ l', L'.R w (fun b => notIn A b ∧ notIn A' b) f
  s : ∀ x y, A = some x → A' = some y → x.block ≠ y.block
section
variable {α β : Type} {L : LK α} {L' : LK β} {w w' : World} {B : Nat} {el el' : TypeId} {A A' : Option Addr} {n c n' c' : Nat} {l : List α} {l' : List β}
theorem OwnT.nil : OwnT L L' w B el el' none 0 0 [] none 0 0 [] := ⟨Own.nil, Own.nil, fun f hf => (by cases hf), fun f hf => (by cases hf), fun x y h => (by cases h)⟩
theorem OwnT.ext (h : OwnT L L' w B el el' A n c l A' n' c' l') (k : Ext w w') : OwnT L L' w' B el el' A n c l A' n' c' l' := ⟨h.a.ext k, h.b.ext k, fun f hf => L.ext (h.ea f hf) k, fun f hf => L'.ext (h.eb f hf) k, h.s⟩
theorem OwnT.swap (h : OwnT L L' w B el el' A n c l A' n' c' l') : OwnT L' L w B el' el A' n' c' l' A n c l :=
  ⟨h.b, h.a, fun f hf => L'.sub (h.eb f hf) fun _ _ hs => ⟨hs.2, hs.1⟩, fun f hf => L.sub (h.ea f hf) fun _ _ hs => ⟨hs.2, hs.1⟩, fun x y hx hy e => h.s y x hy hx e.symm⟩
theorem OwnT.left (h : OwnT L L' w B el el' A n c l A' n' c' l') : GListR L w (fun b => b < w.heap.size) A n c l := ⟨h.a.rd.sub fun _ hb _ => hb, fun f hf => L.sub (h.ea f hf) fun _ hb _ => hb⟩
theorem OwnT.right (h : OwnT L L' w B el el' A n c l A' n' c' l') : GListR L' w (fun b => b < w.heap.size) A' n' c' l' := h.swap.left
theorem OwnT.lkm (h : OwnT L L' w B el el' A n c l A' n' c' l') : (l.length = n ∧ n ≤ c ∧ c ≤ 9223372036854775807) ∧ l'.length = n' ∧ n' ≤ c' ∧ c' ≤ 9223372036854775807 := ⟨h.left.lkm, h.right.lkm⟩
end
section
variable {dfs : List Deferred} {P : Program} {n : Nat} {e : Nat → Value} {w : World} {K : Act → World → Prop} {Q : Exit → Act → World → Prop} {ty : TypeId} {pos : String} {af : Array Edge} {gd : Option (Nat × Bool)}
/-- One element more in the first of them. -/
theorem oAppT {α β : Type} {L : LK α} {L' : LK β} {d : Nat} {s x : Operand} {t el el' bt : TypeId} {zv : Value} {bytes B m c n2 c2 g : Nat} {A A' : Option Addr} {l : List α} {l' : List β} {S : Nat → Prop} {f : α} (ht : P.underlying t = some (.slice el))
    (hi : (P.info? el).map (fun i => (i.zero, i.size, i.bytes)) = some (some zv, 1, bytes)) (hzv : zv.cells.size = 1) (hs : ev n e s = .slice A m c) (hx : ev n e x = .slice (some ⟨g, 0, none⟩) 1 1) (hO : OwnT L L' w B el el' A m c l A' n2 c2 l') (hb : Blk w g bt [L.v f])
    (hp : L.R w S f) (hS : ∀ b, b < w.heap.size → S b → notIn A b ∧ notIn A' b) (hm : (m + 1) * bytes ≤ 140737488355328) (hm2 : m + 1 ≤ 9223372036854775807) (hB : B ≤ w.heap.size)
    (kk : ∀ A2 c2' w', OwnT L L' w' B el el' A2 (m + 1) c2' (l ++ [f]) A' n2 c2 l' → Frm (fun b => B ≤ b) w w' → K (mkA dfs n (upd e d (.slice A2 (m + 1) c2'))) w') :
    OpW P ⟨some d, .call { callee := .builtin .append, args := #[s, x], argTypes := #[t, t] }, ty, pos, af, gd⟩ (mkA dfs n e) w K Q := by
  refine oApp ht hi hzv (by decide) hs hx hO.a hb rfl (by simp [L.one f]) hm hm2 hB fun A2 c2' w' hO' hF hF2 hnew => ?_
  have hk := hF2 (notIn A) fun _ h => h
  have key : ∀ {γ : Type} {M : LK γ} {S : Nat → Prop} {a3 : γ}, (∀ b, b < w.heap.size → S b → notIn A b ∧ notIn A' b) → M.R w S a3 → M.R w' (fun b => notIn A2 b ∧ notIn A' b) a3 := by
    intro γ M S a3 hS h
    have h4 := M.frmB (M.sub (S' := fun b => (notIn A b ∧ notIn A' b) ∧ b < w.heap.size) h fun b hb hs => ⟨hS b hb hs, hb⟩) hk fun b _ hs hn => hn hs.1.1
    refine M.sub h4 fun b _ hb => ⟨fun a ha => ?_, hb.1.2⟩
    rcases hnew a ha with h5 | h5
    · exact hb.1.1 a h5
    · have := hb.2; omega
  refine kk A2 c2' w' ⟨by rw [List.map_append]; exact hO', ?_, fun x hx => ?_, fun x hx => key (fun _ _ h => h) (hO.eb x hx), fun x y hx hy => ?_⟩ hF
  · refine ⟨hO.b.1, ?_⟩
    rcases hO.b.2 with h1 | ⟨g', cap, cur, hv, hb', hg, rest⟩
    · exact .inl h1
    · have hlt := (Array.getElem?_eq_some_iff.1 hg).1
      refine .inr ⟨g', cap, cur, hv, hb', (hk.block g' hlt fun hn => hn fun a ha => ?_).trans hg, rest⟩
      injection hv with e1 e2 e3
      subst e1
      exact hO.s a _ ha rfl
  · rcases List.mem_append.1 hx with h5 | h5
    · exact key (fun _ _ h => h) (hO.ea x h5)
    · simp at h5; subst h5; exact key hS hp
  · rcases hnew x hx with h5 | h5
    · exact hO.s x y h5 hy
    · have := (hO.b.lt y hy).2; omega
end
/-- Polynomials. -/
def LP (M : Nat) : LK PE := ⟨fun f => .slice f.A f.n f.c, fun w S f => PolyR w S f.A f.n f.c f.l M, fun _ => rfl, fun h f hd => h.frmB f hd, fun h f => h.ext f, fun h hs => h.sub hs⟩
theorem GListR.polys {w : World} {S : Nat → Prop} {A : Option Addr} {n c M : Nat} {l : List PE} (h : GListR (LP M) w S A n c l) : PolysR w S A n c l M := h
end Go.Gx

/-
  One step of the lift: the next factors and cofactors. Plain numbers; no program in sight.
-/
namespace Go.Gx
def missZ (m : Nat) (x : Int) (f : List Int) (lead : Int) (prod : List Int) : List Int := redZ m (trimZ (scaleP (redZ m (trimZ (psub f (trimZ (scaleP prod lead))))) x))
def nxt0 (m : Nat) (ms g s : List Int) : List Int := redZ m (trimZ (padd g (remZ m (trimZ (pmul s ms)) g)))
def exZ (m : Nat) (one : List Int) : List Int := redZ m (trimZ (psub one (trimZ [1])))
def nxt1 (m : Nat) (ex s g : List Int) : List Int := redZ m (trimZ (psub s (remZ m (trimZ (pmul s ex)) g)))
/-- The next factors. -/
def step0 (m : Nat) (x : Int) (f : List Int) (gs ss : List (List Int)) : List (List Int) := (gs.zip ss).map fun p => nxt0 m (missZ m x f (ldP f) (sumZ m gs ss).2) p.1 p.2
/-- The next cofactors. -/
def step1 (m : Nat) (x : Int) (f : List Int) (gs ss : List (List Int)) : List (List Int) := (ss.zip (step0 m x f gs ss)).map fun p => nxt1 m (exZ m (sumZ m (step0 m x f gs ss) ss).1) p.1 p.2
def zsL (l : List PE) : List (List Int) := l.map fun f => zs f.l
theorem zmap_next {F : List Int × List Int → List Int} {fl gl fo : List PE} {f g r : PE} {i : Nat} (h : zsL fo = ((zsL (fl.take i)).zip (zsL (gl.take i))).map F) (h1 : fl[i]? = some f) (h2 : gl[i]? = some g) (hr : zs r.l = F (zs f.l, zs g.l)) :
    zsL (fo ++ [r]) = ((zsL (fl.take (i + 1))).zip (zsL (gl.take (i + 1)))).map F := by
  have e1 : (zsL fl)[i]? = some (zs f.l) := by simp [zsL, h1]
  have e2 : (zsL gl)[i]? = some (zs g.l) := by simp [zsL, h2]
  unfold zsL at h e1 e2 ⊢
  rw [List.map_append, h, List.map_take, List.map_take, List.map_take, List.map_take, zip_next e1 e2, List.map_append, List.map_cons, List.map_nil, List.map_cons, List.map_nil, hr]
theorem zmap_end {F : List Int × List Int → List Int} {fl gl fo : List PE} {i : Nat} (h : zsL fo = ((zsL (fl.take i)).zip (zsL (gl.take i))).map F) (h1 : fl.length ≤ i) (h2 : gl.length ≤ i) : zsL fo = ((zsL fl).zip (zsL gl)).map F := by
  rw [h, List.take_of_length_le h1, List.take_of_length_le h2]
theorem lenL_snoc {N : Nat} {fo : List PE} {r : PE} (h : ∀ x ∈ fo, x.n ≤ N) (hr : r.n ≤ N) : ∀ x ∈ fo ++ [r], x.n ≤ N := fun x hx => by
  rcases List.mem_append.1 hx with h1 | h1
  · exact h x h1
  · simp at h1; subst h1; exact hr
end Go.Gx

/-
  A list of polynomials that grows and is held in a cell of a known block. No program in sight.
-/
namespace Go.Gx
open Go.RowKit
/-- Polynomials that lie behind block g. -/
def LPx (M g : Nat) : LK PE := ⟨fun f => .slice f.A f.n f.c, fun w S f => PolyR w (fun b => S b ∧ g < b) f.A f.n f.c f.l M, fun _ => rfl, fun h f hd => h.frmB f fun b hb hs => hd b hb hs.1, fun h f => h.ext f, fun h hs => h.sub fun b hb h1 => ⟨hs b hb h1.1, h1.2⟩⟩
def OwnX (M g : Nat) (w : World) (B : Nat) (el : TypeId) (A : Option Addr) (n c : Nat) (l : List PE) : Prop := g < B ∧ OwnG (LPx M g) w B el A n c l
section
variable {M g : Nat} {w w' : World} {B : Nat} {el : TypeId} {A : Option Addr} {n c : Nat} {l : List PE} {G : Nat → Prop}
theorem OwnX.nil (h : g < B) : OwnX M g w B el none 0 0 [] := ⟨h, OwnG.nil⟩
theorem OwnX.ext (h : OwnX M g w B el A n c l) (k : Ext w w') : OwnX M g w' B el A n c l := ⟨h.1, h.2.ext k⟩
theorem OwnX.frmB (h : OwnX M g w B el A n c l) (f : Frm G w w') (hd : ∀ b, b < w.heap.size → g < b → ¬ G b) : OwnX M g w' B el A n c l :=
  ⟨h.1, h.2.1.frmG f fun b hb hB => hd b hb (by have := h.1; omega), fun x hx => PolyR.frmB (h.2.2 x hx) f fun b hb hs => hd b hb hs.2⟩
theorem OwnX.lkm (h : OwnX M g w B el A n c l) : l.length = n ∧ n ≤ c ∧ c ≤ 9223372036854775807 := h.2.lkm
theorem OwnX.polys (h : OwnX M g w B el A n c l) : PolysR w (fun b => g < b ∧ b < w.heap.size) A n c l M :=
  GListR.polys ⟨h.2.1.rd.sub fun b hb hB => ⟨by have := h.1; omega, hb⟩, fun f hf => PolyR.sub (h.2.2 f hf) fun b hb hs => ⟨hs.2, hb⟩⟩
end
end Go.Gx

/-
  Elements of arrays that are values. No program in sight.
-/
namespace Go.Gx
open Go.RowKit
variable {dfs : List Deferred}
section
variable {P : Program} {n : Nat} {e : Nat → Value} {w : World} {ty : TypeId} {pos : String} {af : Array Edge} {gd : Option (Nat × Bool)}
theorem evIdxA {d : Option Nat} {t el : TypeId} {len : Nat} {cs : Array Value} {v : Value} {x y : Operand} {k : IntKind} {z : Int} (i : Nat) (ht : P.underlying t = some (.array len el)) (h1 : oneB P el = true) (hs : ∀ w, (sizeOf el).run P w = .ok 1 w)
    (hx : ev n e x = .agg cs) (hy : ev n e y = .int k z) (hz : z = (i : Int)) (hi : i < len) (hc : cs[i]? = some v) : Ev P n e ⟨d, .index t x y, ty, pos, af, gd⟩ w v := by
  subst hz
  have hn : (0 : Int) ≤ (i : Int) ∧ (i : Int) < (len : Int) := by omega
  simp [Ev, execOp, hx, hy, Instr.index, asIntOf, run_underlying ht, hn, hs, part, run_isAgg_one h1, hc]
  intro h; omega
theorem res4 {f : ResultVar → Sem Value} {r s t q : ResultVar} {v u x y : Value} (h : (f r).run P w = .ok v w) (h' : (f s).run P w = .ok u w) (h'' : (f t).run P w = .ok x w) (h3 : (f q).run P w = .ok y w) :
    ((do let vs ← #[r, s, t, q].mapM f; pure (if h : vs.size = 1 then vs[0] else .tuple vs)) : Sem Value).run P w = .ok (.tuple #[v, u, x, y]) w := by
  simp [h, h', h'', h3]
theorem ret4 {fn : Func} {φ : Value → World → Prop} {r s t q : ResultVar} (v u x y : Value) (hr : fn.results = #[r, s, t, q]) (h1 : ResIs P n e w r v) (h2 : ResIs P n e w s u) (h3 : ResIs P n e w t x) (h4 : ResIs P n e w q y)
    (h : φ (.tuple #[v, u, x, y]) w) : bodyPost P fn (Ret φ) .ret (mkA [] n e) w := by
  refine ⟨defers_mkA _ _, _, ?_, _, rfl, h⟩
  unfold results
  rw [hr]
  refine res4 ?_ ?_ ?_ ?_
  · cases r with
    | tmp t => simp only [ResIs] at h1; simp [getD2, h1]
    | cell a t => obtain ⟨p, hp, hl⟩ := h1; simp [getD2, hp, asAddr_ptr, hl]
  · cases s with
    | tmp t => simp only [ResIs] at h2; simp [getD2, h2]
    | cell a t => obtain ⟨p, hp, hl⟩ := h2; simp [getD2, hp, asAddr_ptr, hl]
  · cases t with
    | tmp t => simp only [ResIs] at h3; simp [getD2, h3]
    | cell a t => obtain ⟨p, hp, hl⟩ := h3; simp [getD2, hp, asAddr_ptr, hl]
  · cases q with
    | tmp t => simp only [ResIs] at h4; simp [getD2, h4]
    | cell a t => obtain ⟨p, hp, hl⟩ := h4; simp [getD2, hp, asAddr_ptr, hl]
theorem idx_u32 {cs : Array Value} {l : List Nat} {i : Nat} (h : cs = (l.map fun a => Value.int .u32 ((a : Nat) : Int)).toArray) (hi : i < l.length) : cs[i]? = some (.int .u32 ((l.getD i 0 : Nat) : Int)) := by
  subst h
  simp [List.getD, List.getElem?_eq_getElem hi]
end
end Go.Gx

/-
  Products of polynomials, cell by cell. Plain numbers; no program in sight.
-/
namespace Go.Gx
/-- The product so far: i rows and k cells of the next. -/
def mulI (f g : List Int) (i k j : Nat) : Int := co (pmul (f.take i) g) j + (if i ≤ j ∧ j - i < k then co f i * co g (j - i) else 0)
theorem mulI_start (f g : List Int) (j : Nat) : mulI f g 0 0 j = 0 := by
  unfold mulI
  rw [if_neg (by omega), co_pmul, List.take_zero, show conv [] g j = 0 from rsum_zero fun i _ => by simp]
  rfl
theorem mulI_row {f g : List Int} {i : Nat} (j : Nat) : mulI f g i g.length j = mulI f g (i + 1) 0 j := by
  unfold mulI
  rw [if_neg (c := i + 1 ≤ j ∧ j - (i + 1) < 0) (by omega), co_pmul, co_pmul, Int.add_zero]
  have h1 : conv (f.take (i + 1)) g j = rsum (fun a => co (f.take i) a * co g (j - a) + (if a = i then co f i * co g (j - i) else 0)) (j + 1) := by
    refine rsum_congr fun a ha => ?_
    show co (f.take (i + 1)) a * co g (j - a) = co (f.take i) a * co g (j - a) + _
    rw [co_takeZ, co_takeZ]
    by_cases h : a = i
    · subst h; rw [if_pos (by omega), if_neg (by omega), if_pos rfl]; omega
    · rw [if_neg h]
      by_cases h2 : a < i
      · rw [if_pos (by omega), if_pos h2]; omega
      · rw [if_neg (by omega), if_neg h2]; omega
  rw [h1, rsum_add]
  congr 1
  by_cases hij : i ≤ j
  · rw [rsum_single (j := i) (by omega) fun a _ hne => if_neg hne, if_pos rfl]
    split
    · rfl
    · rename_i h
      rw [co_ge (f := g) (i := j - i) (by omega), Int.mul_zero]
  · rw [if_neg (by omega), rsum_zero fun a ha => if_neg (by omega)]
end Go.Gx

/-
  Products and quotients of polynomials modulo a number. Plain numbers; no program in sight.
-/
namespace Go.Gx
theorem getD_set (l : List Nat) {i : Nat} (v j : Nat) (hi : i < l.length) : (l.set i v).getD j 0 = if j = i then v else l.getD j 0 := by
  simp only [List.getD, List.getElem?_set]
  by_cases h : i = j
  · subst h; simp [hi]
  · rw [if_neg h, if_neg (Ne.symm h)]
theorem mulP_zero {p : Nat} {f g : List Int} (m j : Nat) : (List.replicate m 0).getD j 0 = md p (mulI f g 0 0 j) := by
  rw [mulI_start]
  have : md p 0 = 0 := by simp [md]
  rw [this]
  simp only [List.getD, List.getElem?_replicate]
  split <;> rfl
theorem mulP_cell {p : Nat} (hp : 0 < p) {f g : List Int} {o : List Nat} {i k v a b : Nat} (h : ∀ j, o.getD j 0 = md p (mulI f g i k j)) (hk : i + k < o.length) (hv : v = (o.getD (i + k) 0 + a * b % p) % p) (ha : co f i = a) (hb : co g k = b) : ∀ j, (o.set (i + k) v).getD j 0 = md p (mulI f g i (k + 1) j) := fun j => by
  rw [getD_set _ _ _ hk]
  by_cases hj : j = i + k
  · subst hj
    rw [if_pos rfl, hv, h]
    refine md_is (Nat.mod_lt _ hp) ((cg_mod _).trans ?_)
    rw [Int.natCast_add]
    have e : mulI f g i (k + 1) (i + k) = mulI f g i k (i + k) + (a : Int) * b := by
      unfold mulI
      rw [if_pos (by omega), if_neg (by omega), show i + k - i = k by omega, ha, hb]; omega
    rw [e]
    refine (cg_md hp _).add ((cg_mod _).trans ?_)
    rw [Int.natCast_mul]; exact Cg.refl p _
  · rw [if_neg hj, h]
    congr 1
    unfold mulI
    by_cases h1 : i ≤ j ∧ j - i < k
    · rw [if_pos h1, if_pos (by omega)]
    · rw [if_neg h1, if_neg (by omega)]
theorem mulP_next {p : Nat} {f g : List Int} {o : List Nat} {i : Nat} (h : ∀ j, o.getD j 0 = md p (mulI f g i g.length j)) : ∀ j, o.getD j 0 = md p (mulI f g (i + 1) 0 j) := fun j => by rw [h, mulI_row]
theorem list_eq {a b : List Nat} (hl : a.length = b.length) (h : ∀ i, a.getD i 0 = b.getD i 0) : a = b := by
  apply List.ext_getElem hl
  intro i h1 h2
  have := h i
  simpa [List.getD, List.getElem?_eq_getElem h1, List.getElem?_eq_getElem h2] using this
theorem getD_mapZ {p : Nat} (l : List Int) (i : Nat) (h0 : md p 0 = 0) : (l.map (md p)).getD i 0 = md p (co l i) := by
  simp only [co, List.getD, List.getElem?_map]
  cases l[i]? with
  | none => exact h0.symm
  | some x => rfl
theorem md_zero (p : Nat) : md p 0 = 0 := by simp [md]
theorem mulP_end {p : Nat} {f g : List Int} {o : List Nat} {i : Nat} (h : ∀ j, o.getD j 0 = md p (mulI f g i 0 j)) (hi : f.length ≤ i) (hl : o.length = f.length + g.length - 1) (hf : f.length ≠ 0) (hg : g.length ≠ 0) : trimN o = redP p (pmul f g) := by
  unfold redP
  congr 1
  refine list_eq ?_ fun j => ?_
  · rw [List.length_map, hl]; unfold pmul; rw [if_neg (by omega)]; simp
  · rw [h, getD_mapZ _ _ (md_zero p)]
    unfold mulI
    rw [if_neg (by omega), List.take_of_length_le hi, Int.add_zero]
/-- f modulo p, in canonical form. -/
def nrmP (p : Nat) (f : List Nat) : List Nat := trimN (f.map (· % p))
end Go.Gx

/-
  Division, greatest common divisors and cofactors of polynomials modulo a prime, as the program reckons them. Plain numbers; no program in sight.
-/
namespace Go.Gx
def PrimeN (p : Nat) : Prop := 2 ≤ p ∧ ∀ a, 0 < a → a < p → Nat.gcd a p = 1
/-- r with c * g added at place n, the first k cells of g. -/
def addAt (p : Nat) (g : List Nat) (n c k : Nat) (r : List Nat) : List Nat := (List.range r.length).map fun i => if n ≤ i ∧ i - n < k then (r.getD i 0 + c * g.getD (i - n) 0 % p) % p else r.getD i 0
theorem addAt_len {p n c k : Nat} {g r : List Nat} : (addAt p g n c k r).length = r.length := by simp [addAt]
theorem addAt_getD {p n c k : Nat} {g r : List Nat} (i : Nat) (hi : i < r.length) : (addAt p g n c k r).getD i 0 = if n ≤ i ∧ i - n < k then (r.getD i 0 + c * g.getD (i - n) 0 % p) % p else r.getD i 0 := by
  simp only [addAt]
  rw [List.getD, List.getElem?_map, List.getElem?_range hi]
  rfl
theorem addAt_zero {p n c : Nat} {g r : List Nat} : addAt p g n c 0 r = r := by
  refine list_eq addAt_len fun i => ?_
  rcases Nat.lt_or_ge i r.length with h | h
  · rw [addAt_getD i h, if_neg (by omega)]
  · simp [List.getD, List.getElem?_eq_none, addAt_len, h]
theorem addAt_step {p n c k v : Nat} {g r : List Nat} (hk : n + k < r.length) (hv : v = ((addAt p g n c k r).getD (n + k) 0 + c * g.getD k 0 % p) % p) : (addAt p g n c k r).set (n + k) v = addAt p g n c (k + 1) r := by
  refine list_eq (by simp [addAt_len]) fun i => ?_
  rw [getD_set _ _ _ (by rw [addAt_len]; exact hk)]
  rcases Nat.lt_or_ge i r.length with h | h
  · by_cases hi : i = n + k
    · subst hi
      rw [if_pos rfl, hv, addAt_getD (k := k) _ hk, if_neg (by omega), addAt_getD (k := k + 1) _ hk, if_pos (by omega), show n + k - n = k by omega]
    · rw [if_neg hi, addAt_getD (k := k) i h, addAt_getD (k := k + 1) i h]
      by_cases h1 : n ≤ i ∧ i - n < k
      · rw [if_pos h1, if_pos (by omega)]
      · rw [if_neg h1, if_neg (by omega)]
  · rw [if_neg (by omega)]
    simp [List.getD, List.getElem?_eq_none, addAt_len, h]
theorem addAt_lt {p n c k : Nat} {g r : List Nat} (hr : ∀ d ∈ r, d < p) (hp : 0 < p) : ∀ d ∈ addAt p g n c k r, d < p := fun d hd => by
  obtain ⟨i, hi, rfl⟩ := List.getElem_of_mem hd
  have hi2 : i < r.length := by rw [← addAt_len (p := p) (n := n) (c := c) (k := k) (g := g)]; exact hi
  have h := addAt_getD (p := p) (n := n) (c := c) (k := k) (g := g) i hi2
  rw [List.getD, List.getElem?_eq_getElem hi, Option.getD_some] at h
  rw [h]
  split
  · exact Nat.mod_lt _ hp
  · rw [List.getD, List.getElem?_eq_getElem hi2, Option.getD_some]; exact hr _ (List.getElem_mem hi2)
/-- The steps of the division that are left: n of them. -/
def divGo (p inv : Nat) (g : List Nat) : Nat → List Nat × List Nat → List Nat × List Nat
  | 0, s => s
  | n + 1, (q, r) => let c := r.getD (n + (g.length - 1)) 0 * inv % p; divGo p inv g n (q.set n c, if c = 0 then r else addAt p g n (p - c) g.length r)
def divP (p : Nat) (f g : List Nat) : List Nat × List Nat :=
  if f.length ≤ g.length - 1 then ([], f)
  else let s := divGo p (invN p (g.getD (g.length - 1) 0)) g (f.length - (g.length - 1)) (List.replicate (f.length - (g.length - 1)) 0, f); (trimN s.1, trimN s.2)
theorem divGo_len {p inv : Nat} {g : List Nat} : ∀ (n : Nat) (q r : List Nat), (divGo p inv g n (q, r)).1.length = q.length ∧ (divGo p inv g n (q, r)).2.length = r.length
  | 0, q, r => ⟨rfl, rfl⟩
  | n + 1, q, r => by
    rw [divGo]
    have ⟨h1, h2⟩ := divGo_len (p := p) (inv := inv) (g := g) n (q.set n (r.getD (n + (g.length - 1)) 0 * inv % p)) (if r.getD (n + (g.length - 1)) 0 * inv % p = 0 then r else addAt p g n (p - r.getD (n + (g.length - 1)) 0 * inv % p) g.length r)
    refine ⟨h1.trans (by simp), h2.trans ?_⟩
    split
    · rfl
    · exact addAt_len
theorem divGo_lt {p inv : Nat} {g : List Nat} (hp : 0 < p) : ∀ (n : Nat) (q r : List Nat), (∀ d ∈ q, d < p) → (∀ d ∈ r, d < p) → (∀ d ∈ (divGo p inv g n (q, r)).1, d < p) ∧ ∀ d ∈ (divGo p inv g n (q, r)).2, d < p
  | 0, q, r, h1, h2 => ⟨h1, h2⟩
  | n + 1, q, r, h1, h2 => by
    rw [divGo]
    refine divGo_lt hp n _ _ (fun d hd => ?_) fun d hd => ?_
    · rcases List.mem_or_eq_of_mem_set hd with h | h
      · exact h1 d h
      · rw [h]; exact Nat.mod_lt _ hp
    · split at hd
      · exact h2 d hd
      · exact addAt_lt h2 hp d hd
theorem bez (a b : Nat) : ∃ u v : Int, u * a + v * b = (Nat.gcd a b : Nat) := by
  induction a using Nat.strongRecOn generalizing b with
  | ind a ih =>
    rcases Nat.eq_zero_or_pos a with h | h
    · subst h; exact ⟨0, 1, by simp⟩
    · obtain ⟨u, v, e⟩ := ih (b % a) (Nat.mod_lt _ h) a
      rw [← Nat.gcd_rec] at e
      refine ⟨v - u * (b / a : Nat), u, ?_⟩
      have hm : ((a * (b / a) + b % a : Nat) : Int) = b := by rw [Nat.div_add_mod]
      simp only [Int.natCast_add, Int.natCast_mul] at hm
      rw [← e]
      grind
/-- The inverse is one. -/
theorem invN_spec {p a : Nat} (hp : PrimeN p) (ha : 0 < a) (hap : a < p) : invN p a < p ∧ a * invN p a % p = 1 := by
  have hg := hp.2 a ha hap
  have h2 := hp.1
  obtain ⟨u, v, e⟩ := bez a p
  rw [hg] at e
  have h1 : a * md p u % p = 1 % p := by
    rw [md_mul (by omega), Nat.mod_eq_of_lt (by omega : 1 < p)]
    have c : Cg p ((a : Int) * (md p u : Nat)) 1 := (Cg.mul (Cg.refl p _) (cg_md (by omega) u)).trans ⟨-v, by grind⟩
    rw [md_cg (by omega) c]
    exact md_self (r := 1) (by omega)
  have h3 := invN_eq (by omega) (md_lt (by omega) u) h1
  rw [h3]
  exact ⟨md_lt (by omega) u, by rw [h1, Nat.mod_eq_of_lt (by omega)]⟩
/-- The upper cells of the rest vanish. -/
theorem divGo_top {p : Nat} {g : List Nat} (hp : PrimeN p) (hg : 0 < g.length) (hl : 0 < g.getD (g.length - 1) 0) (hlt : ∀ d ∈ g, d < p) : ∀ (n : Nat) (q r : List Nat), (∀ d ∈ r, d < p) → r.length = n + (g.length - 1) ∨ n + (g.length - 1) ≤ r.length → (∀ i, n + (g.length - 1) ≤ i → r.getD i 0 = 0) →
    ∀ i, g.length - 1 ≤ i → (divGo p (invN p (g.getD (g.length - 1) 0)) g n (q, r)).2.getD i 0 = 0
  | 0, q, r, _, _, h => fun i hi => h i (by omega)
  | n + 1, q, r, hr, hrl, h => by
    rw [divGo]
    have hp2 := hp.1
    have hgl : g.getD (g.length - 1) 0 < p := by
      rw [List.getD, List.getElem?_eq_getElem (by omega), Option.getD_some]; exact hlt _ (List.getElem_mem _)
    have ⟨hi1, hi2⟩ := invN_spec hp hl hgl
    have hrlen : n + (g.length - 1) < r.length := by omega
    refine divGo_top hp hg hl hlt n _ _ ?_ ?_ ?_
    · split
      · exact hr
      · exact addAt_lt hr (by omega)
    · right
      split
      · omega
      · rw [addAt_len]; omega
    · intro i hi
      have hrn : r.getD (n + (g.length - 1)) 0 < p := by
        rw [List.getD, List.getElem?_eq_getElem hrlen, Option.getD_some]; exact hr _ (List.getElem_mem _)
      split
      · rename_i hc
        rcases Nat.lt_or_ge (n + (g.length - 1)) i with h1 | h1
        · exact h i (by omega)
        · obtain rfl : i = n + (g.length - 1) := by omega
          -- r * inv = 0 means r = 0
          have c1 : Cg p ((r.getD (n + (g.length - 1)) 0 : Nat) : Int) 0 := by
            have a1 : Cg p (((r.getD (n + (g.length - 1)) 0 : Nat) : Int) * (invN p (g.getD (g.length - 1) 0) : Nat)) 0 := by
              have := (cg_mod (p := p) (r.getD (n + (g.length - 1)) 0 * invN p (g.getD (g.length - 1) 0))).symm
              rw [hc] at this
              simpa using this
            have a2 : Cg p (((g.getD (g.length - 1) 0 : Nat) : Int) * (invN p (g.getD (g.length - 1) 0) : Nat)) 1 := by
              have := (cg_mod (p := p) (g.getD (g.length - 1) 0 * invN p (g.getD (g.length - 1) 0))).symm
              rw [hi2] at this
              simpa using this
            have a3 := Cg.mul (Cg.refl p ((r.getD (n + (g.length - 1)) 0 : Nat) : Int)) a2
            have a4 := Cg.mul a1 (Cg.refl p ((g.getD (g.length - 1) 0 : Nat) : Int))
            rw [Int.mul_one] at a3
            refine a3.symm.trans ?_
            rw [Int.zero_mul] at a4
            rw [show ∀ x y z : Int, x * (y * z) = x * z * y by intros; grind]
            exact a4
          have := (md_self hrn).symm.trans (md_cg (by omega) c1)
          rw [this, md_zero]
      · rcases Nat.lt_or_ge i r.length with h0 | h0
        · rw [addAt_getD i h0]
          rcases Nat.lt_or_ge (n + (g.length - 1)) i with h1 | h1
          · rw [if_neg (by omega)]; exact h i (by omega)
          · obtain rfl : i = n + (g.length - 1) := by omega
            rw [if_pos (by omega), show n + (g.length - 1) - n = g.length - 1 by omega]
            generalize hcc : r.getD (n + (g.length - 1)) 0 * invN p (g.getD (g.length - 1) 0) % p = c
            have hcp : c < p := by rw [← hcc]; exact Nat.mod_lt _ (by omega)
            have a1 : Cg p ((c : Nat) : Int) (((r.getD (n + (g.length - 1)) 0 : Nat) : Int) * (invN p (g.getD (g.length - 1) 0) : Nat)) := by
              rw [← hcc]; refine (cg_mod _).trans ?_; rw [Int.natCast_mul]; exact Cg.refl p _
            have a2 : Cg p (((g.getD (g.length - 1) 0 : Nat) : Int) * (invN p (g.getD (g.length - 1) 0) : Nat)) 1 := by
              have := (cg_mod (p := p) (g.getD (g.length - 1) 0 * invN p (g.getD (g.length - 1) 0))).symm
              rw [hi2] at this
              simpa using this
            have a3 : Cg p (((r.getD (n + (g.length - 1)) 0 + (p - c) * g.getD (g.length - 1) 0 % p : Nat)) : Int) 0 := by
              rw [Int.natCast_add]
              have b1 : Cg p (((p - c) * g.getD (g.length - 1) 0 % p : Nat) : Int) (-(c : Int) * (g.getD (g.length - 1) 0 : Nat)) := by
                refine (cg_mod _).trans ?_
                rw [Int.natCast_mul]
                exact (cg_sub_nat (Nat.le_of_lt hcp)).mul (Cg.refl p _)
              refine ((Cg.refl p _).add b1).trans ?_
              have b2 : Cg p (-(c : Int) * (g.getD (g.length - 1) 0 : Nat)) (-((r.getD (n + (g.length - 1)) 0 : Nat) : Int)) := by
                refine (a1.neg.mul (Cg.refl p _)).trans ?_
                have b3 := ((Cg.refl p ((r.getD (n + (g.length - 1)) 0 : Nat) : Int)).mul a2).neg
                rw [Int.mul_one] at b3
                rw [show ∀ x y z : Int, -(x * y) * z = -(x * (z * y)) by intros; grind]
                exact b3
              have b4 := (Cg.refl p ((r.getD (n + (g.length - 1)) 0 : Nat) : Int)).add b2
              rw [show ∀ x : Int, x + -x = 0 by intros; omega] at b4
              exact b4
            have a4 := md_cg (by omega) ((cg_mod (p := p) (r.getD (n + (g.length - 1)) 0 + (p - c) * g.getD (g.length - 1) 0 % p)).trans a3)
            rw [md_zero, md_self (Nat.mod_lt _ (by omega))] at a4
            exact a4
        · rw [List.getD, List.getElem?_eq_none (by rw [addAt_len]; omega)]; rfl
theorem divP_len {p : Nat} {f g : List Nat} (hp : PrimeN p) (hg : 0 < g.length) (hl : 0 < g.getD (g.length - 1) 0) (hlt : ∀ d ∈ g, d < p) (hf : ∀ d ∈ f, d < p) : (divP p f g).2.length < g.length := by
  unfold divP
  split
  · dsimp only; omega
  · rename_i h
    dsimp only
    have h1 := divGo_top hp hg hl hlt (f.length - (g.length - 1)) (List.replicate (f.length - (g.length - 1)) 0) f hf (.inr (by omega)) (fun i hi => by rw [List.getD, List.getElem?_eq_none (by omega)]; rfl)
    have h2 : (trimN (divGo p (invN p (g.getD (g.length - 1) 0)) g (f.length - (g.length - 1)) (List.replicate (f.length - (g.length - 1)) 0, f)).2).length ≤ g.length - 1 := by
      apply Nat.le_of_not_lt
      intro hn
      generalize hX : (divGo p (invN p (g.getD (g.length - 1) 0)) g (f.length - (g.length - 1)) (List.replicate (f.length - (g.length - 1)) 0, f)).2 = X at *
      have e : trimN X = X.take (trimN X).length := trimB_take isZ X
      rcases snoc_cases (trimN X) with h0 | ⟨k, x, h0⟩
      · rw [h0] at hn; simp at hn
      · have h3 := trimB_last isZ X h0
        have h4 : k.length + 1 = (trimN X).length := by rw [h0]; simp
        have h5 : X.getD k.length 0 = x := by
          have h6 : (trimN X).getD k.length 0 = x := by rw [h0]; simp [List.getD]
          rw [e] at h6
          rw [← h6]
          simp only [List.getD]
          rw [List.getElem?_take_of_lt (by omega)]
        rw [h1 k.length (by omega)] at h5
        subst h5
        simp [isZ] at h3
    omega
theorem divP_lt {p : Nat} {f g : List Nat} (hp : 0 < p) (hf : ∀ d ∈ f, d < p) : (∀ d ∈ (divP p f g).1, d < p) ∧ ∀ d ∈ (divP p f g).2, d < p := by
  unfold divP
  split
  · exact ⟨fun d hd => (by cases hd), hf⟩
  · have h := divGo_lt (inv := invN p (g.getD (g.length - 1) 0)) (g := g) hp (f.length - (g.length - 1)) (List.replicate (f.length - (g.length - 1)) 0) f (fun d hd => by rw [List.eq_of_mem_replicate hd]; exact hp) hf
    exact ⟨fun d hd => h.1 d (trimB_mem _ _ hd), fun d hd => h.2 d (trimB_mem _ _ hd)⟩
end Go.Gx

/-
  Greatest common divisors and cofactors of polynomials modulo a prime, as the program reckons them. Plain numbers; no program in sight.
-/
namespace Go.Gx
/-- In canonical form modulo p. -/
def CanP (p : Nat) (l : List Nat) : Prop := (∀ d ∈ l, d < p) ∧ (l.length ≠ 0 → 0 < l.getD (l.length - 1) 0)
theorem CanP.nil {p : Nat} : CanP p [] := ⟨fun d hd => (by cases hd), fun h => absurd rfl h⟩
theorem canP_trim {p : Nat} {l : List Nat} (h : ∀ d ∈ l, d < p) : CanP p (trimN l) := by
  refine ⟨fun d hd => h d (trimB_mem _ _ hd), fun hn => ?_⟩
  rcases snoc_cases (trimN l) with h0 | ⟨k, x, h0⟩
  · rw [h0] at hn; exact absurd rfl hn
  · have h3 := trimB_last isZ l h0
    rw [h0]
    simp [List.getD]
    simp [isZ] at h3
    omega
theorem CanP.trim {p : Nat} {l : List Nat} (h : CanP p l) : trimN l = l := by
  rcases snoc_cases l with h0 | ⟨k, x, h0⟩
  · subst h0; rfl
  · subst h0
    have h1 := h.2 (by simp)
    simp [List.getD] at h1
    exact trimB_snoc_no isZ k x (by simp [isZ]; omega)
theorem CanP.nrm {p : Nat} {l : List Nat} (h : CanP p l) : nrmP p l = l := by
  have e : l.map (· % p) = l := by
    conv => rhs; rw [← List.map_id l]
    exact List.map_congr_left fun a ha => Nat.mod_eq_of_lt (h.1 a ha)
  unfold nrmP
  rw [e]; exact h.trim
theorem CanP.last {p : Nat} {l : List Nat} (h : CanP p l) (hl : 0 < l.length) : 0 < l.getD (l.length - 1) 0 ∧ l.getD (l.length - 1) 0 < p := by
  refine ⟨h.2 (by omega), ?_⟩
  rw [List.getD, List.getElem?_eq_getElem (by omega), Option.getD_some]
  exact h.1 _ (List.getElem_mem _)
theorem divP_can {p : Nat} {f g : List Nat} (hp : 0 < p) (hf : CanP p f) : CanP p (divP p f g).1 ∧ CanP p (divP p f g).2 := by
  have h := divP_lt (g := g) hp hf.1
  unfold divP at h ⊢
  split
  · exact ⟨CanP.nil, hf⟩
  · rename_i hh
    rw [if_neg hh] at h
    have h2 := divGo_lt (inv := invN p (g.getD (g.length - 1) 0)) (g := g) hp (f.length - (g.length - 1)) (List.replicate (f.length - (g.length - 1)) 0) f (fun d hd => by rw [List.eq_of_mem_replicate hd]; exact hp) hf.1
    exact ⟨canP_trim h2.1, canP_trim h2.2⟩
/-- f times c. -/
def scalP (p : Nat) (f : List Nat) (c : Nat) : List Nat := trimN (f.map fun a => a * c % p)
def leadP (f : List Nat) : Nat := f.getD (f.length - 1) 0
/-- f divided by its leading coefficient. -/
def monicP (p : Nat) (f : List Nat) : List Nat := if f.length = 0 then [] else scalP p f (invN p (leadP f))
def mulP (p : Nat) (f g : List Nat) : List Nat := redP p (pmul (zl (nrmP p f)) (zl (nrmP p g)))
def subP (p : Nat) (f g : List Nat) : List Nat := redP p (psub (zl f) (zl g))
/-- The Euclidean algorithm, n steps at most. -/
def gcdGo (p : Nat) : Nat → List Nat → List Nat → List Nat
  | 0, f, _ => monicP p f
  | n + 1, f, g => if g.length = 0 then monicP p f else gcdGo p n g (divP p f g).2
def gcdP (p : Nat) (f g : List Nat) : List Nat := gcdGo p g.length f g
def cofGo (p : Nat) : Nat → List Nat → List Nat → List Nat → List Nat → List Nat
  | 0, f, _, u, _ => scalP p u (invN p (leadP f))
  | n + 1, f, g, u, v => if g.length = 0 then scalP p u (invN p (leadP f)) else cofGo p n g (divP p f g).2 v (subP p u (mulP p (divP p f g).1 v))
def cofP (p : Nat) (f g : List Nat) : List Nat := cofGo p g.length f g [1] []
theorem gcdGo_nil {p : Nat} {f g : List Nat} (hg : g.length = 0) (n : Nat) : gcdGo p n f g = monicP p f := by
  cases n with
  | zero => rfl
  | succ n => rw [gcdGo, if_pos hg]
theorem cofGo_nil {p : Nat} {f g u v : List Nat} (hg : g.length = 0) (n : Nat) : cofGo p n f g u v = scalP p u (invN p (leadP f)) := by
  cases n with
  | zero => rfl
  | succ n => rw [cofGo, if_pos hg]
theorem gcdGo_fuel {p : Nat} (hp : PrimeN p) : ∀ (n m : Nat) (f g : List Nat), CanP p f → CanP p g → g.length ≤ n → g.length ≤ m → gcdGo p n f g = gcdGo p m f g
  | n, m, f, g, hf, hg, hn, hm => by
    rcases Nat.eq_zero_or_pos g.length with h0 | h0
    · rw [gcdGo_nil h0, gcdGo_nil h0]
    · match n, m, hn, hm with
      | 0, _, hn, _ => omega
      | _, 0, _, hm => omega
      | n + 1, m + 1, hn, hm =>
        rw [gcdGo, gcdGo, if_neg (by omega), if_neg (by omega)]
        have hl := hg.last h0
        have h1 := divP_len hp h0 hl.1 hg.1 hf.1
        exact gcdGo_fuel hp n m g _ hg (divP_can (by have := hp.1; omega) hf).2 (by omega) (by omega)
theorem cofGo_fuel {p : Nat} (hp : PrimeN p) : ∀ (n m : Nat) (f g u v : List Nat), CanP p f → CanP p g → g.length ≤ n → g.length ≤ m → cofGo p n f g u v = cofGo p m f g u v
  | n, m, f, g, u, v, hf, hg, hn, hm => by
    rcases Nat.eq_zero_or_pos g.length with h0 | h0
    · rw [cofGo_nil h0, cofGo_nil h0]
    · match n, m, hn, hm with
      | 0, _, hn, _ => omega
      | _, 0, _, hm => omega
      | n + 1, m + 1, hn, hm =>
        rw [cofGo, cofGo, if_neg (by omega), if_neg (by omega)]
        have hl := hg.last h0
        have h1 := divP_len hp h0 hl.1 hg.1 hf.1
        exact cofGo_fuel hp n m g _ _ _ hg (divP_can (by have := hp.1; omega) hf).2 (by omega) (by omega)
/-- One turn of the loop. -/
theorem gcd_turn {p : Nat} (hp : PrimeN p) {f g : List Nat} (hf : CanP p f) (hg : CanP p g) (h0 : 0 < g.length) : gcdP p f g = gcdP p g (divP p f g).2 := by
  have hl := hg.last h0
  have h1 := divP_len hp h0 hl.1 hg.1 hf.1
  have h2 := (divP_can (g := g) (by have := hp.1; omega) hf).2
  unfold gcdP
  obtain ⟨n, hn⟩ : ∃ n, g.length = n + 1 := ⟨g.length - 1, by omega⟩
  rw [hn, gcdGo, if_neg (by omega)]
  exact gcdGo_fuel hp _ _ _ _ hg h2 (by omega) (Nat.le_refl _)
theorem gcd_end {p : Nat} {f g : List Nat} (h0 : g.length = 0) : gcdP p f g = monicP p f := gcdGo_nil h0 _
theorem cof_turn {p : Nat} (hp : PrimeN p) {f g u v : List Nat} (hf : CanP p f) (hg : CanP p g) (h0 : 0 < g.length) : cofGo p g.length f g u v = cofGo p (divP p f g).2.length g (divP p f g).2 v (subP p u (mulP p (divP p f g).1 v)) := by
  have hl := hg.last h0
  have h1 := divP_len hp h0 hl.1 hg.1 hf.1
  have h2 := (divP_can (g := g) (by have := hp.1; omega) hf).2
  obtain ⟨n, hn⟩ : ∃ n, g.length = n + 1 := ⟨g.length - 1, by omega⟩
  rw [hn, cofGo, if_neg (by omega)]
  exact cofGo_fuel hp _ _ _ _ _ _ hg h2 (by omega) (Nat.le_refl _)
theorem cof_end {p : Nat} {f g u v : List Nat} (h0 : g.length = 0) : cofGo p g.length f g u v = scalP p u (invN p (leadP f)) := cofGo_nil h0 _
/-- Xgcd of polynomials in canonical form. -/
def xgcdP (p : Nat) (f g : List Nat) : List Nat × List Nat × List Nat :=
  let d := gcdP p f g
  if g.length = 0 then (if f.length = 0 then ([], [], []) else (d, [invN p (leadP f)], []))
  else if g.length = d.length then (d, [], [invN p (leadP g)])
  else let u := (divP p (cofP p f g) (divP p g d).1).2; (d, u, (divP p (subP p d (mulP p u f)) g).1)
end Go.Gx
namespace Go.Gx
theorem scal_len {p c : Nat} {f : List Nat} (hf : 0 < f.length) (h : leadP f * c % p ≠ 0) : (scalP p f c).length = f.length := by
  have h1 := trimN_of (ds := f.map fun a => a * c % p) (k := f.length) (by simp) (fun j hj => by rw [List.getD, List.getElem?_eq_none (by simpa using hj)]; rfl) (.inr (by
    simp only [List.getD, List.getElem?_map, List.getElem?_eq_getElem (show f.length - 1 < f.length by omega)]
    simp only [leadP, List.getD, List.getElem?_eq_getElem (show f.length - 1 < f.length by omega)] at h
    exact h))
  unfold scalP
  rw [← h1]
  simp
theorem monic_len {p : Nat} {f : List Nat} (hp : PrimeN p) (hf : CanP p f) : (monicP p f).length = f.length := by
  unfold monicP
  split
  · rename_i h; rw [h]; rfl
  · rename_i h
    have hl := hf.last (by omega)
    refine scal_len (by omega) ?_
    show f.getD (f.length - 1) 0 * invN p (f.getD (f.length - 1) 0) % p ≠ 0
    rw [(invN_spec hp hl.1 hl.2).2]; omega
theorem gcdGo_ne {p : Nat} (hp : PrimeN p) : ∀ (n : Nat) (f g : List Nat), CanP p f → CanP p g → g.length ≤ n → 0 < f.length + g.length → 0 < (gcdGo p n f g).length ∧ (0 < g.length → (gcdGo p n f g).length ≤ g.length)
  | 0, f, g, hf, hg, hn, h => by
    rw [gcdGo_nil (by omega), monic_len hp hf]; omega
  | n + 1, f, g, hf, hg, hn, h => by
    rcases Nat.eq_zero_or_pos g.length with h0 | h0
    · rw [gcdGo_nil h0, monic_len hp hf]; omega
    · rw [gcdGo, if_neg (by omega)]
      have hl := hg.last h0
      have h1 := divP_len hp h0 hl.1 hg.1 hf.1
      have h2 := (divP_can (g := g) (by have := hp.1; omega) hf).2
      have ⟨h3, h4⟩ := gcdGo_ne hp n g _ hg h2 (by omega) (by omega)
      refine ⟨h3, fun _ => ?_⟩
      rcases Nat.eq_zero_or_pos (divP p f g).2.length with h5 | h5
      · rw [gcdGo_nil h5, monic_len hp hg]; omega
      · have := h4 h5; omega
theorem gcd_ne {p : Nat} (hp : PrimeN p) {f g : List Nat} (hf : CanP p f) (hg : CanP p g) (h : 0 < f.length + g.length) : 0 < (gcdP p f g).length := (gcdGo_ne hp _ f g hf hg (Nat.le_refl _) h).1
theorem gcd_len {p : Nat} (hp : PrimeN p) {f g : List Nat} (hf : CanP p f) (hg : CanP p g) (h : 0 < g.length) : (gcdP p f g).length ≤ g.length := (gcdGo_ne hp _ f g hf hg (Nat.le_refl _) (by omega)).2 h
theorem val_zero_getD : ∀ (l : List Nat), val l = 0 → ∀ n, l.getD n 0 = 0
  | [], _, n => by simp [List.getD]
  | d :: l, h, 0 => by simp only [val, BS] at h; simp [List.getD]; omega
  | d :: l, h, n + 1 => by
    have := val_zero_getD l (by simp only [val, BS] at h; omega) n
    simpa [List.getD] using this
/-- Cells of the quotient that were reckoned stay. -/
theorem divGo_keep {p inv : Nat} {g : List Nat} : ∀ (n : Nat) (q r : List Nat) (i : Nat), n ≤ i → (divGo p inv g n (q, r)).1.getD i 0 = q.getD i 0
  | 0, _, _, _, _ => rfl
  | n + 1, q, r, i, hi => by
    rw [divGo]
    rw [divGo_keep n _ _ i (by omega)]
    simp only [List.getD, List.getElem?_set]
    rw [if_neg (by omega)]
theorem divP_qne {p : Nat} {f g : List Nat} (hp : PrimeN p) (hf : CanP p f) (hg : CanP p g) (h0 : 0 < g.length) (hl : g.length ≤ f.length) : 0 < (divP p f g).1.length := by
  unfold divP
  rw [if_neg (by omega)]
  dsimp only
  obtain ⟨n, hn⟩ : ∃ n, f.length - (g.length - 1) = n + 1 := ⟨f.length - g.length, by omega⟩
  rw [hn]
  have hgl := hg.last h0
  have hfl := hf.last (by omega)
  have hiv := invN_spec hp hgl.1 hgl.2
  generalize hI : invN p (g.getD (g.length - 1) 0) = I at *
  have hp2 := hp.1
  have htop : (divGo p I g (n + 1) (List.replicate (n + 1) 0, f)).1.getD n 0 ≠ 0 := by
    rw [divGo]
    rw [divGo_keep n _ _ n (Nat.le_refl _), getD_set _ _ _ (by simp), if_pos rfl, show n + (g.length - 1) = f.length - 1 by omega]
    intro h
    have c1 : Cg p (((f.getD (f.length - 1) 0 : Nat) : Int) * (I : Nat)) 0 := by
      have := (cg_mod (p := p) (f.getD (f.length - 1) 0 * I)).symm
      rw [h] at this
      simpa using this
    have c2 : Cg p (((g.getD (g.length - 1) 0 : Nat) : Int) * (I : Nat)) 1 := by
      have := (cg_mod (p := p) (g.getD (g.length - 1) 0 * I)).symm
      rw [hiv.2] at this
      simpa using this
    have c3 := (Cg.refl p ((f.getD (f.length - 1) 0 : Nat) : Int)).mul c2
    rw [Int.mul_one] at c3
    have c4 := c1.mul (Cg.refl p ((g.getD (g.length - 1) 0 : Nat) : Int))
    rw [Int.zero_mul] at c4
    have c5 : Cg p ((f.getD (f.length - 1) 0 : Nat) : Int) 0 := by
      refine c3.symm.trans ?_
      rw [show ∀ x y z : Int, x * (y * z) = x * z * y by intros; grind]
      exact c4
    have := (md_self hfl.2).symm.trans (md_cg (by omega) c5)
    rw [md_zero] at this
    omega
  apply Nat.pos_of_ne_zero
  intro hz
  have h1 : trimN (divGo p I g (n + 1) (List.replicate (n + 1) 0, f)).1 = [] := List.eq_nil_of_length_eq_zero hz
  have h2 := val_trim (divGo p I g (n + 1) (List.replicate (n + 1) 0, f)).1
  rw [h1] at h2
  exact htop (val_zero_getD _ h2.symm n)
theorem divP_lq {p : Nat} {f g : List Nat} : (divP p f g).1.length ≤ f.length + 1 - g.length ∧ (divP p f g).2.length ≤ f.length := by
  unfold divP
  split
  · exact ⟨Nat.zero_le _, Nat.le_refl _⟩
  · rename_i h
    dsimp only
    have ⟨h1, h2⟩ := divGo_len (p := p) (inv := invN p (g.getD (g.length - 1) 0)) (g := g) (f.length - (g.length - 1)) (List.replicate (f.length - (g.length - 1)) 0) f
    have h3 := trimB_len isZ (divGo p (invN p (g.getD (g.length - 1) 0)) g (f.length - (g.length - 1)) (List.replicate (f.length - (g.length - 1)) 0, f)).1
    have h4 := trimB_len isZ (divGo p (invN p (g.getD (g.length - 1) 0)) g (f.length - (g.length - 1)) (List.replicate (f.length - (g.length - 1)) 0, f)).2
    simp only [List.length_replicate] at h1
    refine ⟨?_, ?_⟩
    · show (trimB isZ _).length ≤ _; omega
    · show (trimB isZ _).length ≤ _; omega
theorem divP_can2 {p : Nat} {f g q r : List Nat} (hp : PrimeN p) (hf : CanP p f) (hg : CanP p g) (h0 : 0 < g.length) (h : divP p f g = (q, r)) : CanP p q ∧ CanP p r ∧ r.length < g.length ∧ q.length ≤ f.length + 1 - g.length ∧ r.length ≤ f.length ∧ (g.length ≤ f.length → 0 < q.length) := by
  have h1 := divP_can (g := g) (by have := hp.1; omega) hf
  have hl := hg.last h0
  have h2 := divP_len hp h0 hl.1 hg.1 hf.1
  have h3 := divP_lq (p := p) (f := f) (g := g)
  have h4 := divP_qne hp hf hg h0
  rw [h] at h1 h2 h3 h4
  exact ⟨h1.1, h1.2, h2, h3.1, h3.2, h4⟩
theorem div_zero {p inv c low n : Nat} {g Q R : List Nat} {S : List Nat × List Nat} (h : divGo p inv g n (Q, R) = S) (hn : n = low + 1) (hc : c = R.getD (low + (g.length - 1)) 0 * inv % p) (h0 : c = 0) : divGo p inv g low (Q.set low c, R) = S := by
  subst hn
  rw [divGo] at h
  rw [← hc, if_pos h0] at h
  exact h
theorem div_add {p inv c low n j : Nat} {g Q R : List Nat} {S : List Nat × List Nat} (h : divGo p inv g n (Q, R) = S) (hn : n = low + 1) (hc : c = R.getD (low + (g.length - 1)) 0 * inv % p) (h0 : c ≠ 0) (hj : j = g.length) : divGo p inv g low (Q.set low c, addAt p g low (p - c) j R) = S := by
  subst hn hj
  rw [divGo] at h
  rw [← hc, if_neg h0] at h
  exact h
theorem div_fin {p inv n m : Nat} {f g Q R q r : List Nat} (hn : ¬ f.length ≤ g.length - 1) (hi : inv = invN p (g.getD (g.length - 1) 0)) (h : divGo p inv g n (Q, R) = divGo p inv g m (List.replicate m 0, f)) (h0 : n = 0) (hm : m = f.length - (g.length - 1)) (hq : q = trimN Q) (hr : r = trimN R) : divP p f g = (q, r) := by
  subst h0 hm hi
  unfold divP
  rw [if_neg hn]
  dsimp only
  rw [← h, hq, hr]
  rfl
end Go.Gx
namespace Go.Gx
theorem cof_step {p nb nr : Nat} (hp : PrimeN p) {f g u v q r m s : List Nat} {X : List Nat} (hf : CanP p f) (hg : CanP p g) (h0 : 0 < g.length) (e : divP p f g = (q, r)) (em : m = mulP p q v) (es : s = subP p u m) (h : cofGo p nb f g u v = X) (hn : nb = g.length) (hr : nr = r.length) : cofGo p nr g r v s = X := by
  subst hn hr em es
  rw [cof_turn hp hf hg h0, e] at h
  exact h
theorem xg1 {p : Nat} {F G : List Nat} (hf : F.length = 0) (hg : G.length = 0) : xgcdP p F G = ([], [], []) := by unfold xgcdP; simp [hf, hg]
theorem xg2 {p : Nat} {F G : List Nat} (hf : F.length ≠ 0) (hg : G.length = 0) : xgcdP p F G = (gcdP p F G, [invN p (leadP F)], []) := by unfold xgcdP; simp [hf, hg]
theorem xg3 {p : Nat} {F G : List Nat} (hg : G.length ≠ 0) (h : G.length = (gcdP p F G).length) : xgcdP p F G = (gcdP p F G, [], [invN p (leadP G)]) := by unfold xgcdP; rw [if_neg hg, if_pos h]
theorem xg4 {p : Nat} {F G q1 r1 c u m s q6 r6 : List Nat} (hg : G.length ≠ 0) (h : G.length ≠ (gcdP p F G).length) (e1 : divP p G (gcdP p F G) = (q1, r1)) (e2 : c = cofP p F G) (e3 : u = (divP p c q1).2) (e4 : m = mulP p u F) (e5 : s = subP p (gcdP p F G) m) (e6 : divP p s G = (q6, r6)) : xgcdP p F G = (gcdP p F G, u, q6) := by
  unfold xgcdP
  rw [if_neg hg, if_neg h]
  dsimp only
  rw [e1]
  dsimp only
  rw [← e2, ← e3, ← e4, ← e5, e6]
end Go.Gx

/-
  What the walks of polynomials modulo a number want. Plain numbers; no program in sight.
-/
namespace Go.Gx
theorem prime4N {p : Nat} (h : p = 2 ∨ p = 3 ∨ p = 5 ∨ p = 7) : PrimeN p := by
  refine ⟨by omega, fun a h0 h1 => ?_⟩
  rcases h with rfl | rfl | rfl | rfl
  · obtain rfl : a = 1 := by omega
    rfl
  · rcases (by omega : a = 1 ∨ a = 2) with rfl | rfl <;> decide
  · rcases (by omega : a = 1 ∨ a = 2 ∨ a = 3 ∨ a = 4) with rfl | rfl | rfl | rfl <;> decide
  · rcases (by omega : a = 1 ∨ a = 2 ∨ a = 3 ∨ a = 4 ∨ a = 5 ∨ a = 6) with rfl | rfl | rfl | rfl | rfl | rfl <;> decide
theorem map_snocN {F : Nat → Nat} {d L : List Nat} {k x : Nat} (h : L = (d.take k).map F) (hk : k < d.length) (hx : x = F (d.getD k 0)) : L ++ [x] = (d.take (k + 1)).map F := by
  rw [h, hx, List.take_add_one, List.getElem?_eq_getElem hk, List.map_append]
  simp [List.getD, List.getElem?_eq_getElem hk]
theorem map_fullN {F : Nat → Nat} {d L : List Nat} {k : Nat} (h : L = (d.take k).map F) (hk : d.length ≤ k) : L = d.map F := by rw [h, List.take_of_length_le hk]
theorem range_snocN {F : Nat → Nat} {L : List Nat} {k x : Nat} (h : L = (List.range k).map F) (hx : x = F k) : L ++ [x] = (List.range (k + 1)).map F := by
  rw [h, hx, List.range_succ, List.map_append]; rfl
theorem range_co {p : Nat} {l : List Int} {n : Nat} (hn : l.length = n) : (List.range n).map (fun i => md p (co l i)) = l.map (md p) := by
  refine list_eq (by simp [hn]) fun i => ?_
  rcases Nat.lt_or_ge i n with h | h
  · rw [List.getD, List.getElem?_map, List.getElem?_range h, getD_mapZ _ _ (md_zero p)]; rfl
  · rw [List.getD, List.getElem?_eq_none (by simpa using h), getD_mapZ _ _ (md_zero p), co_ge (by omega), md_zero]; rfl
theorem getD_map_mod (d : List Nat) (m i : Nat) : (d.map (· % m)).getD i 0 = d.getD i 0 % m := by
  simp only [List.getD, List.getElem?_map]
  cases d[i]? <;> simp
theorem deg_down {d : List Nat} {k m : Nat} (h : ∀ j, k ≤ j → (d.map (· % m)).getD j 0 = 0) (h1 : d.getD (k - 1) 0 % m = 0) : ∀ j, k - 1 ≤ j → (d.map (· % m)).getD j 0 = 0 :=
  zeros_down h (by rw [getD_map_mod]; exact h1)
theorem deg_end {d : List Nat} {k m : Nat} (hk : k ≤ d.length) (h : ∀ j, k ≤ j → (d.map (· % m)).getD j 0 = 0) (hl : k = 0 ∨ d.getD (k - 1) 0 % m ≠ 0) : (nrmP m d).length = k := by
  have h1 := trimN_of (ds := d.map (· % m)) (k := k) (by simpa using hk) h (hl.imp id fun hh => by rw [getD_map_mod]; exact hh)
  unfold nrmP
  rw [← h1]
  simp; omega
theorem cmp_getD {F G : List Nat} {k : Nat} : co (zl F) (k - 1) = co (zl G) (k - 1) ↔ F.getD (k - 1) 0 = G.getD (k - 1) 0 := by rw [co_zl, co_zl]; omega
theorem same_zl {F G : List Nat} : cmpP (zl F) (zl G) = 0 ↔ F = G := by
  rw [cmpP_zero]
  constructor
  · intro h
    refine list_eq (by have := congrArg List.length h; simpa [zl_len] using this) fun i => ?_
    have := congrArg (fun l => co l i) h
    simp only [co_zl] at this
    omega
  · intro h; rw [h]
/-- Sums and differences, cell by cell. -/
theorem mid_setN {L X : List Nat} {k v : Nat} (hL : L.length = k) (hk : k < X.length) : (L ++ X.drop k).set k v = (L ++ [v]) ++ X.drop (k + 1) := by
  rw [List.set_append_right _ _ (by omega), hL, Nat.sub_self, List.drop_eq_getElem_cons hk, List.set_cons_zero, List.append_assoc]
  rfl
theorem mid_getN {L X : List Nat} {k : Nat} (hL : L.length = k) : (L ++ X.drop k).getD k 0 = X.getD k 0 := by
  simp only [List.getD]
  rw [List.getElem?_append_right (by omega), hL, Nat.sub_self, List.getElem?_drop]
  simp
theorem pad_get (d : List Nat) (n i : Nat) : (d ++ List.replicate n 0).getD i 0 = d.getD i 0 := by
  simp only [List.getD]
  rcases Nat.lt_or_ge i d.length with h | h
  · rw [List.getElem?_append_left h]
  · rw [List.getElem?_append_right h, List.getElem?_eq_none h, List.getElem?_replicate]
    split <;> rfl
theorem sub_fill {p n N : Nat} {f g L X : List Nat} (hp : 0 < p) (hX : ∀ i, X.getD i 0 = f.getD i 0) (hXl : X.length = N) (hN : N = max f.length g.length) (hL : L.length = g.length) (h : ∀ i, i < g.length → L.getD i 0 = md p (((f.getD i 0 : Nat) : Int) - (g.getD i 0 : Nat))) : nrmP p (L ++ X.drop g.length) = subP p f g := by
  unfold nrmP subP redP
  congr 1
  refine list_eq ?_ fun i => ?_
  · simp [psub, zl_len, hL, hXl]; omega
  · rw [getD_map_mod, getD_mapZ _ _ (md_zero p), co_psub, co_zl, co_zl]
    rcases Nat.lt_or_ge i g.length with h1 | h1
    · have e : (L ++ X.drop g.length).getD i 0 = L.getD i 0 := by simp only [List.getD]; rw [List.getElem?_append_left (by omega)]
      rw [e, h i h1, Nat.mod_eq_of_lt (md_lt hp _)]
    · have e : (L ++ X.drop g.length).getD i 0 = f.getD i 0 := by
        rw [← hX]
        simp only [List.getD]
        rw [List.getElem?_append_right (by omega), List.getElem?_drop, hL, show g.length + (i - g.length) = i by omega]
      have e2 : g.getD i 0 = 0 := by rw [List.getD, List.getElem?_eq_none h1]; rfl
      rw [e, e2, show ((f.getD i 0 : Nat) : Int) - ((0 : Nat) : Int) = (f.getD i 0 : Nat) by omega, md_nat hp]
theorem fill_snoc {F : Nat → Nat} {L : List Nat} {k x : Nat} (hL : L.length = k) (h : ∀ i, i < k → L.getD i 0 = F i) (hx : x = F k) : ∀ i, i < k + 1 → (L ++ [x]).getD i 0 = F i := fun i hi => by
  simp only [List.getD]
  rcases Nat.lt_or_ge i k with h1 | h1
  · rw [List.getElem?_append_left (by omega)]; exact h i h1
  · obtain rfl : i = k := by omega
    rw [List.getElem?_append_right (by omega), hL, Nat.sub_self]; exact hx
theorem sym_range {p : Nat} {d : List Nat} {L : List Int} {n : Nat} (h : L = (List.range n).map fun i => symN p (d.getD i 0)) (hn : d.length = n) : L = d.map (symN p) := by
  subst hn
  rw [h]
  refine List.ext_getElem (by simp) fun i h1 h2 => ?_
  simp at h1
  simp [List.getD, List.getElem?_eq_getElem h1]
theorem mulP_nil {p : Nat} {f g F G : List Nat} (hF : F = nrmP p f) (hG : G = nrmP p g) (h : F.length = 0 ∨ G.length = 0) : [] = mulP p f g := by
  unfold mulP
  rw [← hF, ← hG]
  have : pmul (zl F) (zl G) = [] := by unfold pmul; rw [if_pos (by simpa [zl_len] using h)]
  rw [this]; rfl
theorem monic_co {p : Nat} {d : List Nat} (hp : PrimeN p) (hc : CanP p d) (hn : 0 < d.length) : Nat.gcd (d.getD (d.length - 1) 0) p = 1 := hp.2 _ (hc.last hn).1 (hc.last hn).2
theorem lt_BS {p : Nat} {l : List Nat} (hp : p < 4294967296) (h : ∀ d ∈ l, d < p) : ∀ d ∈ l, d < BS := fun d hd => by have := h d hd; simp only [BS]; omega
theorem lt_snocP {p : Nat} {l : List Nat} {v : Nat} (h : ∀ d ∈ l, d < p) (hv : v < p) : ∀ d ∈ l ++ [v], d < p := fun d hd => by
  rcases List.mem_append.1 hd with h1 | h1
  · exact h d h1
  · simp at h1; omega
theorem lt_midX {L X : List Nat} {k : Nat} (h : ∀ d ∈ L, d < BS) (hX : ∀ d ∈ X, d < BS) : ∀ d ∈ L ++ X.drop k, d < BS := fun d hd => by
  rcases List.mem_append.1 hd with h1 | h1
  · exact h d h1
  · exact hX d (List.mem_of_mem_drop h1)
theorem lt_fillP {p m : Nat} {L : List Nat} (h : ∀ d ∈ L, d < p) (hp : 0 < p) : ∀ d ∈ L ++ List.replicate m 0, d < p := fun d hd => by
  rcases List.mem_append.1 hd with h1 | h1
  · exact h d h1
  · rw [List.eq_of_mem_replicate h1]; exact hp
theorem lt_set {p : Nat} {l : List Nat} {i v : Nat} (h : ∀ d ∈ l, d < p) (hv : v < p) : ∀ d ∈ l.set i v, d < p := fun d hd => by
  rcases List.mem_or_eq_of_mem_set hd with h1 | h1
  · exact h d h1
  · omega
end Go.Gx

/-
  Lists of polynomials modulo a number: what is read, what is filled, cofactors. No program in sight.
-/
namespace Go.Gx
open Go.RowKit
structure NE where
  A : Option Addr
  n : Nat
  c : Nat
  d : List Nat
def NE.zero : NE := ⟨none, 0, 0, []⟩
/-- Polynomials modulo a number. -/
def LN : LK NE := ⟨fun f => .slice f.A f.n f.c, fun w S f => NatR w S f.A f.n f.c f.d, fun _ => rfl, fun h f hd => h.frmB f hd, fun h f => h.ext f, fun h hs => h.sub hs⟩
def dsN (l : List NE) : List (List Nat) := l.map NE.d
theorem dsN_get {l : List NE} {i : Nat} {A : Option Addr} {n c : Nat} {d : List Nat} (h : l[i]? = some ⟨A, n, c, d⟩) : (dsN l).getD i [] = d := by
  simp [dsN, List.getD, h]
theorem dsN_len {l : List NE} : (dsN l).length = l.length := by simp [dsN]
section
variable {α : Type} {L : LK α} {w : World} {S : Nat → Prop} {A : Option Addr} {n c : Nat} {l : List α}
theorem GListR.take {m : Nat} (h : GListR L w S A n c l) (hm : m ≤ n) : GListR L w S A m c (l.take m) := by
  refine ⟨?_, fun f hf => h.2 f (List.mem_of_mem_take hf)⟩
  have := h.1.take hm
  rw [Nat.mul_one, ← List.map_take] at this
  exact this
theorem GListR.of_blk {g : Nat} {t : TypeId} (h : Blk w g t (l.map L.v)) (ha : ∀ f ∈ l, L.R w S f) (hS : S g) (hl : l.length = n) (hc : n ≤ c) (hm : c ≤ CapMax) : GListR L w S (some ⟨g, 0, none⟩) n c l :=
  ⟨Rd.of_blk h hS (by rw [List.length_map, hl, Nat.mul_one]) hc hm, ha⟩
end
def AllM (w : World) (S : Nat → Prop) (M : Nat) (l : List NE) : Prop := ∀ r ∈ l, NatR w S r.A r.n r.c r.d ∧ r.n ≤ M
section
variable {w w' : World} {S S' G : Nat → Prop} {M M' : Nat} {l l' : List NE}
theorem AllM.frmB (h : AllM w S M l) (f : Frm G w w') (hd : ∀ b, b < w.heap.size → S b → ¬ G b) : AllM w' S M l := fun r hr => ⟨(h r hr).1.frmB f hd, (h r hr).2⟩
theorem AllM.nil : AllM w S M [] := fun r hr => by cases hr
theorem AllM.snoc {r : NE} (h : AllM w S M l) (hn : NatR w S r.A r.n r.c r.d) (hm : r.n ≤ M) : AllM w S M (l ++ [r]) := fun x hx => by
  rcases List.mem_append.1 hx with h1 | h1
  · exact h x h1
  · simp at h1; subst h1; exact ⟨hn, hm⟩
theorem AllM.app (h : AllM w S M l) (h' : AllM w S M l') : AllM w S M (l ++ l') := fun x hx => by
  rcases List.mem_append.1 hx with h1 | h1
  · exact h x h1
  · exact h' x h1
theorem AllM.zeros (m : Nat) : AllM w S M (List.replicate m NE.zero) := fun x hx => by
  rw [List.eq_of_mem_replicate hx]; exact ⟨NatR.nil, Nat.zero_le _⟩
end
theorem fillM_set {L : List NE} {m m' k : Nat} {r : NE} (hk : L.length = k) (hm : m = m' + 1) : (L ++ List.replicate m NE.zero).set k r = (L ++ [r]) ++ List.replicate m' NE.zero := by
  subst hk hm
  rw [List.replicate_succ]
  simp
theorem dsN_snoc {L : List NE} {k : Nat} {F : Nat → List Nat} {r : NE} (h : dsN L = (List.range k).map F) (hr : r.d = F k) : dsN (L ++ [r]) = (List.range (k + 1)).map F := by
  show (L ++ [r]).map NE.d = _
  rw [List.map_append, List.range_succ, List.map_append, show L.map NE.d = _ from h]
  simp [hr]
/-- The product of the others, modulo g. -/
def othP (p : Nat) (g : List Nat) (i : Nat) (l : List (List Nat)) : Nat → List Nat
  | 0 => [1]
  | k + 1 => if k = i then othP p g i l k else (divP p (nrmP p (mulP p (othP p g i l k) (l.getD k []))) (nrmP p g)).2
theorem othP_eq {p : Nat} {g : List Nat} {i : Nat} {l : List (List Nat)} {k : Nat} (h : k = i) : othP p g i l (k + 1) = othP p g i l k := by
  rw [othP, if_pos h]
theorem othP_ne {p : Nat} {g : List Nat} {i : Nat} {l : List (List Nat)} {k : Nat} {u d m q r : List Nat} (hu : u = othP p g i l k) (h : k ≠ i) (hd : l.getD k [] = d) (em : m = mulP p u d) (e : divP p (nrmP p m) (nrmP p g) = (q, r)) : r = othP p g i l (k + 1) := by
  rw [othP, if_neg h, hd, ← hu, ← em, e]
/-- The cofactor of the polynomial at i. -/
def cofG (p : Nat) (l : List (List Nat)) (i : Nat) : List Nat := (xgcdP p (nrmP p (othP p (l.getD i []) i l l.length)) (nrmP p (l.getD i []))).2.1
theorem cofG_of {p : Nat} {l : List (List Nat)} {i : Nat} {g u a b c : List Nat} (hg : l.getD i [] = g) (hu : u = othP p g i l l.length) (e : xgcdP p (nrmP p u) (nrmP p g) = (a, b, c)) : b = cofG p l i := by
  unfold cofG
  rw [hg, ← hu, e]
/-- All cofactors. -/
def cofsG (p : Nat) (l : List (List Nat)) : List (List Nat) := (List.range l.length).map (cofG p l)
end Go.Gx

/-
  The lift of a factorization: what the rounds reach. Plain numbers; no program in sight.
-/
namespace Go.Gx
/-- f is its leading coefficient times the product of the list. -/
def isFac (f : List Int) (L : List (List Int)) : Prop := trimZ f = trimZ (foldMul [ldP f] L)
instance (f : List Int) (L : List (List Int)) : Decidable (isFac f L) := by unfold isFac; infer_instance
def monL (p : Nat) (l : List (List Nat)) : List (List Nat) := l.map fun d => monicP p (nrmP p d)
def prodM (p : Nat) (a : List Nat) (l : List (List Nat)) : List Nat := l.foldl (mulP p) a
def symL (p : Nat) (l : List (List Nat)) : List (List Int) := l.map fun d => trimZ (d.map (symN p))
theorem prodM_next {p i : Nat} {a u r : List Nat} {l : List (List Nat)} {d : List Nat} (h : u = prodM p a (l.take i)) (hi : i < l.length) (hd : l.getD i [] = d) (hr : r = mulP p u d) : r = prodM p a (l.take (i + 1)) := by
  have h1 : l[i]? = some d := by rw [← hd, List.getD, List.getElem?_eq_getElem hi]; rfl
  unfold prodM at h ⊢
  rw [List.take_add_one, h1, List.foldl_append, ← h, hr]
  rfl
theorem monL_range {p n : Nat} {l m : List (List Nat)} (h : m = (List.range n).map fun i => monicP p (nrmP p (l.getD i []))) (hn : l.length = n) : m = monL p l := by
  subst hn
  rw [h]
  refine List.ext_getElem (by simp [monL]) fun i h1 h2 => ?_
  simp at h1
  simp [monL, List.getD, h1]
theorem symL_next {p i : Nat} {l : List (List Nat)} {fo : List PE} {r : PE} {d : List Nat} (h : zsL fo = symL p (l.take i)) (hi : i < l.length) (hd : l.getD i [] = d) (hr : zs r.l = trimZ (d.map (symN p))) : zsL (fo ++ [r]) = symL p (l.take (i + 1)) := by
  have h1 : l[i]? = some d := by rw [← hd, List.getD, List.getElem?_eq_getElem hi]; rfl
  unfold symL at h ⊢
  rw [List.take_add_one, h1, List.map_append, ← h, zsL, List.map_append]
  simp [zsL, hr]
theorem symL_end {p i : Nat} {l : List (List Nat)} {fo : List PE} (h : zsL fo = symL p (l.take i)) (hi : l.length ≤ i) : zsL fo = symL p l := by
  rw [h, List.take_of_length_le hi]
/-- The pairs of lists, and their exponent, that the rounds of the lift reach. -/
inductive LReach (p k : Nat) (f : List Int) (A0 A1 : List (List Int)) : List (List Int) → List (List Int) → Nat → Prop
  | start : LReach p k f A0 A1 A0 A1 1
  | next {L0 L1 : List (List Int)} {e : Nat} {x K : Int} (h : LReach p k f A0 A1 L0 L1 e) (he : e < k) (hn : ¬ isFac f L0) (hx : x * ldP f = 1 + ((p ^ (e + min e (k - e)) : Nat) : Int) * K) (hs : x = symZ (p ^ (e + min e (k - e))) x) :
      LReach p k f A0 A1 (step0 (p ^ (e + min e (k - e))) x f L0 L1) (step1 (p ^ (e + min e (k - e))) x f L0 L1) (e + min e (k - e))
theorem cop_pow {p n : Nat} {a : Int} (hp : PrimeN p) (h : md p a ≠ 0) : Int.gcd a ((p ^ n : Nat) : Int) = 1 := by
  have h0 : 0 < p := by have := hp.1; omega
  have hm : (md p a : Nat) < p := md_lt h0 a
  have h1 : Nat.gcd (md p a) p = 1 := hp.2 _ (by omega) hm
  have h2 : Int.gcd a p = 1 := by
    obtain ⟨k, hk⟩ := md_ex h0 a
    obtain ⟨u, v, huv⟩ := bez (md p a) p
    rw [h1] at huv
    have e1 : u * a + (v - u * k) * p = 1 := by rw [hk]; grind
    have h3 : ((Int.gcd a p : Nat) : Int) ∣ 1 := by
      rw [← e1]
      exact Int.dvd_add (Int.dvd_mul_of_dvd_right (Int.gcd_dvd_left ..)) (Int.dvd_mul_of_dvd_right (Int.gcd_dvd_right ..))
    have h4 : (Int.gcd a p) ∣ 1 := by exact_mod_cast h3
    exact Nat.dvd_one.1 h4
  rw [Int.gcd] at h2 ⊢
  rw [Int.natAbs_natCast] at h2 ⊢
  exact Nat.Coprime.pow_right n h2
theorem pow_small {p e : Nat} (hp : p < 16) (he : e ≤ 64) : p ^ e ≤ 2 ^ 256 := by
  calc p ^ e ≤ 16 ^ e := Nat.pow_le_pow_left (by omega) e
    _ ≤ 16 ^ 64 := Nat.pow_le_pow_right (by decide) he
    _ = 2 ^ 256 := by decide
theorem pow_tight {p e : Nat} {g : Bool} {d : List Nat} (hp : p < 16) (he : e ≤ 64) (hv : zval g d = ((p ^ e : Nat) : Int)) : (zval g d).natAbs < BS ^ 9 := by
  rw [hv, Int.natAbs_natCast]
  have h1 := pow_small hp he
  have h2 : (2 : Nat) ^ 256 < BS ^ 9 := by decide
  omega
theorem powI_ne {p e : Nat} (hp : 0 < p) : ((p ^ e : Nat) : Int) ≠ 0 := by
  have := Nat.pow_pos (n := e) hp
  omega
theorem mod_next {p e m : Nat} {u v : Int} {x : Int} (hu : u = ((p ^ e : Nat) : Int)) (hv : v = (p : Int) ^ x.toNat) (hx : x = (m : Int)) : u * v = ((p ^ (e + m) : Nat) : Int) := by
  subst hx hu hv
  rw [Int.toNat_natCast, Nat.pow_add, Int.natCast_mul, Int.natCast_pow, Int.natCast_pow]
theorem natAbs_pow {p e : Nat} {u : Int} (h : u = ((p ^ e : Nat) : Int)) : u.natAbs = p ^ e := by rw [h, Int.natAbs_natCast]
end Go.Gx

/-
  Two lists of polynomials that grow side by side and are held in cells of a known block. No program in sight.
-/
namespace Go.Gx
open Go.RowKit
def OwnY (M g : Nat) (w : World) (B : Nat) (el : TypeId) (A : Option Addr) (n c : Nat) (l : List PE) (A' : Option Addr) (n' c' : Nat) (l' : List PE) : Prop := g < B ∧ OwnT (LPx M g) (LPx M g) w B el el A n c l A' n' c' l'
section
variable {M g : Nat} {w w' : World} {B : Nat} {el : TypeId} {A A' : Option Addr} {n c n' c' : Nat} {l l' : List PE} {G : Nat → Prop}
theorem OwnY.nil (h : g < B) : OwnY M g w B el none 0 0 [] none 0 0 [] := ⟨h, OwnT.nil⟩
theorem OwnY.ext (h : OwnY M g w B el A n c l A' n' c' l') (k : Ext w w') : OwnY M g w' B el A n c l A' n' c' l' := ⟨h.1, h.2.ext k⟩
theorem OwnY.frmB (h : OwnY M g w B el A n c l A' n' c' l') (f : Frm G w w') (hd : ∀ b, b < w.heap.size → g < b → ¬ G b) : OwnY M g w' B el A n c l A' n' c' l' :=
  ⟨h.1, ⟨h.2.a.frmG f fun b hb hB => hd b hb (by have := h.1; omega), h.2.b.frmG f fun b hb hB => hd b hb (by have := h.1; omega), fun x hx => PolyR.frmB (h.2.ea x hx) f fun b hb hs => hd b hb hs.2, fun x hx => PolyR.frmB (h.2.eb x hx) f fun b hb hs => hd b hb hs.2, h.2.s⟩⟩
theorem OwnY.swap (h : OwnY M g w B el A n c l A' n' c' l') : OwnY M g w B el A' n' c' l' A n c l := ⟨h.1, h.2.swap⟩
theorem OwnY.lkm (h : OwnY M g w B el A n c l A' n' c' l') : (l.length = n ∧ n ≤ c ∧ c ≤ 9223372036854775807) ∧ l'.length = n' ∧ n' ≤ c' ∧ c' ≤ 9223372036854775807 := h.2.lkm
theorem OwnY.left (h : OwnY M g w B el A n c l A' n' c' l') : PolysR w (fun b => g < b ∧ b < w.heap.size) A n c l M :=
  GListR.polys ⟨h.2.a.rd.sub fun b hb hB => ⟨by have := h.1; omega, hb⟩, fun f hf => PolyR.sub (h.2.ea f hf) fun b hb hs => ⟨hs.2, hb⟩⟩
theorem OwnY.right (h : OwnY M g w B el A n c l A' n' c' l') : PolysR w (fun b => g < b ∧ b < w.heap.size) A' n' c' l' M := h.swap.left
end
end Go.Gx

/-
  The fixed example of the laws on the lift. Plain numbers; no program in sight.
-/
namespace Go.Gx
def fitL : List (List Nat) := [[2, 1], [3, 1]]
theorem fit_mon : monL 5 fitL = [[2, 1], [3, 1]] := by decide +kernel
theorem fit_A0 : symL 5 (monL 5 fitL) = [[2, 1], [-2, 1]] := by decide +kernel
theorem fit_step : step0 25 1 [1, 0, 1] (symL 5 (monL 5 fitL)) (symL 5 (cofsG 5 (monL 5 fitL))) = [[7, 1], [-7, 1]] := by decide +kernel
theorem fit_reach {L0 L1 : List (List Int)} {e : Nat} (h : LReach 5 2 [1, 0, 1] (symL 5 (monL 5 fitL)) (symL 5 (cofsG 5 (monL 5 fitL))) L0 L1 e) :
    (e = 1 ∧ L0 = symL 5 (monL 5 fitL) ∧ L1 = symL 5 (cofsG 5 (monL 5 fitL))) ∨ (e = 2 ∧ L0 = [[7, 1], [-7, 1]]) := by
  induction h with
  | start => exact .inl ⟨rfl, rfl, rfl⟩
  | @next L0 L1 e x K h he hn hx hs ih =>
    rcases ih with ⟨rfl, rfl, rfl⟩ | ⟨rfl, _⟩
    · refine .inr ⟨rfl, ?_⟩
      have e25 : 5 ^ (1 + min 1 (2 - 1)) = 25 := by decide
      rw [e25] at hx hs ⊢
      rw [show ldP [1, 0, 1] = 1 by decide +kernel] at hx
      have hb := symZ_rng (m := 25) (by decide) x
      rw [← hs] at hb
      obtain rfl : x = 1 := by omega
      exact fit_step
    · omega
theorem fit_ok : ∀ L0 L1 e, LReach 5 2 [1, 0, 1] (symL 5 (monL 5 fitL)) (symL 5 (cofsG 5 (monL 5 fitL))) L0 L1 e → ∀ u ∈ L0, 0 < (trimZ u).length := by
  intro L0 L1 e h
  rcases fit_reach h with ⟨_, h, _⟩ | ⟨_, h⟩
  · rw [h, fit_A0]; decide +kernel
  · rw [h]; decide +kernel
theorem fit_end {L0 : List (List Int)} (h : ∃ L1 e, LReach 5 2 [1, 0, 1] (symL 5 (monL 5 fitL)) (symL 5 (cofsG 5 (monL 5 fitL))) L0 L1 e ∧ (e = 2 ∨ isFac [1, 0, 1] L0)) : L0 = [[7, 1], [-7, 1]] := by
  obtain ⟨L1, e, h, hx⟩ := h
  rcases fit_reach h with ⟨rfl, h, _⟩ | ⟨_, h⟩
  · exfalso
    rcases hx with hx | hx
    · omega
    · rw [h, fit_A0] at hx
      revert hx
      decide +kernel
  · exact h
theorem fit_deg : ∀ d ∈ monL 5 fitL, 2 ≤ (nrmP 5 d).length := by rw [fit_mon]; decide +kernel
theorem fit_co : ∀ (i j : Nat) (f g : List Nat), j < i → (monL 5 fitL)[i]? = some f → (monL 5 fitL)[j]? = some g → (gcdP 5 (nrmP 5 f) (nrmP 5 g)).length ≤ 1 := by
  rw [fit_mon]
  intro i j f g h h1 h2
  obtain ⟨rfl, rfl⟩ : i = 1 ∧ j = 0 := by
    have := (List.getElem?_eq_some_iff.1 h1).1
    simp at this
    omega
  simp at h1 h2
  subst h1 h2
  decide +kernel
theorem fit_lead : md 5 (ldP [1, 0, 1]) ≠ 0 := by decide +kernel
theorem fit_same : nrmP 5 (prodM 5 [md 5 (ldP [1, 0, 1])] (monL 5 fitL)) = nrmP 5 (redP 5 [1, 0, 1]) := by decide +kernel
theorem zsL_get {fl : List PE} {L : List (List Int)} {i : Nat} {A : Option Addr} {n c : Nat} {l : List RI} {z : List Int} (h : zsL fl = L) (he : fl[i]? = some ⟨A, n, c, l⟩) (hz : L[i]? = some z) : zs l = z := by
  rw [← h] at hz
  simpa [zsL, he] using hz
end Go.Gx

/-
  Polynomials that are congruent modulo a number; a factorization modulo a prime has one lift. Plain numbers; no program in sight.
-/
namespace Go.Gx
end Go.Gx

/-
  A list of factors modulo a prime has one lift; one step of the lift is right. Plain numbers; no program in sight.
-/
namespace Go.Gx
end Go.Gx

/-
  Plain facts for the laws on the lift. No program in sight.
-/
namespace Go.Gx
theorem exp_gt {x u v z : Int} {p k : Nat} (e : x = cmpZ u v) (hu : u = ((p ^ k : Nat) : Int)) (hv : v = ((z + z).natAbs : Int)) (h : 2 * z.natAbs < p ^ k) : x > 0 := by
  have h1 := cmpZ_cases u v
  omega
theorem exp_le {x u v z : Int} {p k : Nat} (e : x = cmpZ u v) (hu : u = ((p ^ k : Nat) : Int)) (hv : v = ((z + z).natAbs : Int)) (h : p ^ k ≤ 2 * z.natAbs) : x ≤ 0 := by
  have h1 := cmpZ_cases u v
  omega
end Go.Gx
