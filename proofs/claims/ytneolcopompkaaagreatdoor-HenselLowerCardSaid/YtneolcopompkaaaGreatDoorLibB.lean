/-
  The laws of the walks and the plain laws of numbers and polynomials, part 2: RefPreds, RatMath, EvMath, SqMath, SqMath2, Det, Subres, EndMath, InvMath, QPoly, Gauss, CountMath, Norm, Bound, GcdMath, ValMath, GcdPreds, SqfMath, QuoMath, YunMath, FacPreds, PolysPreds, HenPreds, ZPreds, PZPreds, IntPreds, ListPreds, StepMath, StepPreds, Laws4, ModTab, MulIMath, ModMath2, ModDiv, ModGcd, ModWalk, LiftMath, ModPreds, LiftPreds, FitMath, LiftThy, LiftThy2, LawMath12, LiftThy3, LiftThy4, LiftThy5, LiftThy6, LiftThy7, RetMath, MonWalk, Known, Known2, TripPreds, FacThy, FacThy2.
-/
import Derived.Test.YtneolcopompkaaaGreatDoorLibA
import Derived.Laws.AppendOwn
/-
 What the references hold: lists of small numbers, integers as a sign and bits, lists of these; slices that grow by append. No program in sight.
-/
namespace Go.Gx
open Go.RowKit
variable {dfs : List Deferred}
section
variable {b : Nat} {w w' : World} {S S' G : Nat → Prop} {A : Option Addr} {n c : Nat} {ds : List Nat}
end
def Own (w : World) (B : Nat) (e : TypeId) (k : Nat) (A : Option Addr) (n c : Nat) (cs : List Value) : Prop := w.ownsRow B e k (.slice A n c) n cs
def notIn (A : Option Addr) (b : Nat) : Prop := ∀ a, A = some a → a.block ≠ b
section
variable {w w' : World} {B : Nat} {e : TypeId} {k : Nat} {A : Option Addr} {n c : Nat} {cs : List Value}
theorem Own.nil : Own w B e k none 0 0 [] := World.ownsRow_nil w B e k
theorem Own.lt (h : Own w B e k A n c cs) : ∀ a, A = some a → B ≤ a.block ∧ a.block < w.heap.size := fun a ha => by
 subst ha
 exact World.ownsRow.lt h a.block rfl
theorem Own.ext (h : Own w B e k A n c cs) (f : Ext w w') : Own w' B e k A n c cs :=
 World.ownsRow.kept (row := none) h ⟨f.os, f.tape, f.output, f.size, fun i hi _ => f.block i hi fun g => g⟩ (by cases (Value.slice A n c).ownBlock <;> simp)
theorem Own.rd (h : Own w B e k A n c cs) : Rd w (fun b => B ≤ b) A n c k cs := by
 refine ⟨h.1, ?_⟩
 rcases h.2 with ⟨hv, rfl⟩ | ⟨g, cap, cur, hv, hb, hg, hnc, hm, _, _⟩
 ·injection hv with h1 h2 h3
  subst h3
  exact ⟨Nat.le_refl _, Nat.zero_le _, fun h0 => absurd h0 (by omega)⟩
 ·injection hv with h1 h2 h3
  subst h1 h3
  refine ⟨hnc, by simp only [maxLen, CapMax] at hm ⊢; omega, fun _ => ⟨g, 0, rfl, hb, (Array.getElem?_eq_some_iff.1 hg).1, fun j v hj => ?_⟩⟩
  have := World.ownsRow.cells h (g := g) rfl j v hj
  rw [addr_add] at this
  exact this
theorem Own.cap (h : Own w B e k A n c cs) : n ≤ c := h.rd.2.1
theorem Own.max (h : Own w B e k A n c cs) : c ≤ 9223372036854775807 := h.rd.2.2.1
theorem Own.natR {ds : List Nat} (h : Own w B e 1 A n c (ds.map u32)) (hd : ∀ d ∈ ds, d < BS) : NatR w (fun b => B ≤ b) A n c ds := ⟨h.rd, hd⟩
theorem Own.low {B' : Nat} (h : Own w B e k A n c cs) (hB : B' ≤ B) : Own w B' e k A n c cs := by
 refine ⟨h.1, ?_⟩
 rcases h.2 with h1 | ⟨g, cap, cur, hv, hb, rest⟩
 ·exact .inl h1
 ·exact .inr ⟨g, cap, cur, hv, Nat.le_trans hB hb, rest⟩
theorem Own.open_ (h : Own w B e 1 A n c cs) (hn : 0 < n) : ∃ g sp, A = some ⟨g, 0, none⟩ ∧ B ≤ g ∧ Blk w g e (cs ++ sp) ∧ (cs ++ sp).length = c := by
 rcases h.2 with ⟨_, h0⟩ | ⟨g, cap, cur, hv, hb, hg, hnc, hm, hsz, htake⟩
 ·omega
 ·injection hv with h1 h2 h3
  subst h1 h3
  have e1 : cs ++ cur.toList.drop (n * 1) = cur.toList := by rw [← htake, List.take_append_drop]
  refine ⟨g, cur.toList.drop (n * 1), rfl, hb, ?_, ?_⟩
  ·unfold Blk; rw [e1]; exact hg
  ·rw [e1]; simp [hsz]
theorem Own.close {g : Nat} {sp : List Value} (hb : B ≤ g) (h : Blk w g e (cs ++ sp)) (hl : (cs ++ sp).length = c) (hn : cs.length = n) (hm : c ≤ CapMax) : Own w B e 1 (some ⟨g, 0, none⟩) n c cs := by
 have hnc : n ≤ c := by rw [← hl, ← hn]; simp
 refine ⟨by simpa using hn, .inr ⟨g, c, (cs ++ sp).toArray, rfl, hb, h, hnc, ?_, by simpa using hl, ?_⟩⟩
 ·simp only [maxLen, CapMax] at hm ⊢; omega
 ·simp [← hn]
theorem Own.whole {g : Nat} (hb : B ≤ g) (h : Blk w g e cs) (hn : cs.length = n) (hm : n ≤ CapMax) : Own w B e 1 (some ⟨g, 0, none⟩) n n cs :=
 Own.close (sp := []) hb (by rwa [List.append_nil]) (by simpa using hn) hn hm
end
theorem append_place {P : Program} {w w' : World} {t ty el : TypeId} {i : TypeInfo} {z : Value} {k bytes B m c g : Nat} {A : Option Addr} {a : Addr} {c' : Nat} {cs vs : List Value} (ht : P.underlying t = some (.slice el)) (hi : P.info? el = some i) (hz : i.zero = some z) (hsize : i.size = k)
  (hby : i.bytes = bytes) (hO : Own w B el k A m c cs) (hl : vs.length = 1 * k) (hnews : ∀ j u, vs[j]? = some u → w.cell? ((⟨g, 0, none⟩ : Addr).add j) = some u) (h1 : ∀ u ∈ vs, u.oneCell' = true) (hm : (m + 1) * bytes ≤ 140737488355328) (hm2 : m + 1 ≤ 9223372036854775807)
  (hr : (Builtin.append_ #[t, t] ty #[.slice A m c, .slice (some ⟨g, 0, none⟩) 1 1]).run P w = .ok (.slice (some a) (m + 1) c') w') : A = some a ∨ w.heap.size ≤ a.block := by
 subst hsize
 subst hby
 rcases hO.2 with ⟨hv, rfl⟩ | ⟨g0, cap, cur, hv, hbg, hg, hnc, hcm, hcs, htake⟩
 ·injection hv with e1 e2 e3
  subst e1 e3
  have h := run_append_nil (P := P) w t ty el i z ht hi hz ⟨g, 0, none⟩ 1 1 vs hl hnews (by omega) (by omega) (by omega)
  rw [h] at hr
  injection hr with e4
  injection e4 with e5
  injection e5 with e6
  right; rw [← e6]; exact Nat.le_refl _
 ·injection hv with e1 e2 e3
  subst e1 e3
  by_cases hroom : m + 1 ≤ c
  ·have hfit : m * i.size + vs.length ≤ cur.size := by rw [hl, hcs, ← Nat.add_mul]; exact Nat.mul_le_mul_right _ hroom
   have h := run_append_room (P := P) w t ty el i ht hi g0 m c cur hg ⟨g, 0, none⟩ 1 1 vs hl hnews h1 hroom hfit
   rw [h] at hr
   injection hr with e4
   injection e4 with e5
   exact .inl e5
  ·have holds : ∀ j u, cs[j]? = some u → w.cell? ((⟨g0, 0, none⟩ : Addr).add j) = some u := World.ownsRow.cells hO (g := g0) rfl
   have h := run_append_grow (P := P) w t ty el i z ht hi hz ⟨g0, 0, none⟩ m c cs hO.1 holds ⟨g, 0, none⟩ 1 1 vs hl hnews (by omega) (by omega) (growslice_fits (by omega) hm)
   rw [h] at hr
   injection hr with e4
   injection e4 with e5
   injection e5 with e6
   right; rw [← e6]; exact Nat.le_refl _
section
variable {P : Program} {n : Nat} {e : Nat → Value} {w : World} {K : Act → World → Prop} {Q : Exit → Act → World → Prop} {ty : TypeId} {pos : String} {af : Array Edge} {gd : Option (Nat × Bool)}
theorem oApp {d : Nat} {s x : Operand} {t el bt : TypeId} {z : Value} {k bytes B m c g : Nat} {A : Option Addr} {cs vs : List Value} (ht : P.underlying t = some (.slice el))
  (hi : (P.info? el).map (fun i => (i.zero, i.size, i.bytes)) = some (some z, k, bytes)) (hz : z.cells.size = k) (hk : 0 < k) (hs : ev n e s = .slice A m c) (hx : ev n e x = .slice (some ⟨g, 0, none⟩) 1 1) (hO : Own w B el k A m c cs) (hb : Blk w g bt vs) (hl : vs.length = k)
  (h1 : vs.all Value.oneCell' = true) (hm : (m + 1) * bytes ≤ 140737488355328) (hm2 : m + 1 ≤ 9223372036854775807) (hB : B ≤ w.heap.size)
  (kk : ∀ A' c' w', Own w' B el k A' (m + 1) c' (cs ++ vs) → Frm (fun b => B ≤ b) w w' → (∀ G : Nat → Prop, (∀ b, G b → notIn A b) → Frm (fun b => ¬ G b) w w') → (∀ a, A' = some a → A = some a ∨ w.heap.size ≤ a.block) → K (mkA dfs n (upd e d (.slice A' (m + 1) c'))) w') :
  OpW P ⟨some d, .call { callee := .builtin .append, args := #[s, x], argTypes := #[t, t] }, ty, pos, af, gd⟩ (mkA dfs n e) w K Q := by
 obtain ⟨i, hi', hz', hsz, hby⟩ := info_parts hi
 unfold OpW
 obtain ⟨v', w', hr, h2, h3, h4⟩ := run_append_own (P := P) w B t ty el i z k bytes ht hi' hz' hsz hby hz hk (.slice A m c) m cs hO ⟨g, 0, none⟩ 1 1 vs (by simpa using hl) (fun j u hj => by rw [addr_add, Nat.zero_add]; exact hb.at_ hj) (List.all_eq_true.1 h1) (by simp only [maxLen]; omega) hm hB
 have hkeep : ∀ a, (Value.slice A m c).ownBlock = some a → B ≤ a := fun a ha => (World.ownsRow.lt hO a ha).1
 obtain ⟨A', c', rfl⟩ : ∃ A' c', v' = .slice A' (m + 1) c' := by
  rcases h2.2 with ⟨_, h0⟩ | ⟨g', cap, cur, hv, _⟩
  ·omega
  ·exact ⟨_, _, hv⟩
 have hF : Frm (fun b => (Value.slice A m c).ownBlock = some b) w w' := ⟨h3.os, h3.tape, h3.output, h3.size, append_drawn ht hi' hz' hsz hby hO (by simpa using hl) (fun j u hj => by rw [addr_add, Nat.zero_add]; exact hb.at_ hj) (List.all_eq_true.1 h1) hm2 hm hr, fun i hi hg => h3.block i hi fun e => hg e.symm⟩
 have hnew : ∀ a, A' = some a → A = some a ∨ w.heap.size ≤ a.block := by
  intro a ha
  subst ha
  exact append_place ht hi' hz' hsz hby hO (by simpa using hl) (fun j u hj => by rw [addr_add, Nat.zero_add]; exact hb.at_ hj) (List.all_eq_true.1 h1) hm hm2 hr
 unfold Oper.wp execOp
 rw [eval_mkA]
 simp only [resolve, invoke, builtin, Sem.run_bind, Sem.run_pure, Result.andThen_ok, List.map_toArray, List.map_cons, List.map_nil, hs, hx, hr, Oper.upon, put_mkA]
 exact kk A' c' w' h2 (hF.mono fun b _ hb => hkeep b hb) (fun G hG => hF.mono fun b _ hb hGb => by
  cases A with
  | none => simp [Value.ownBlock] at hb
  | some a => simp [Value.ownBlock] at hb; exact hG b hGb a rfl hb) hnew
end
end Go.Gx
namespace Go.Gx
variable {dfs : List Deferred}
end Go.Gx
namespace Go.Gx
variable {dfs : List Deferred}
section
variable {P : Program} {n : Nat} {e : Nat → Value} {w : World} {ty : TypeId} {pos : String} {af : Array Edge} {gd : Option (Nat × Bool)}
theorem evAndOne {d : Option Nat} {t t' : TypeId} {x y : Operand} {a : Nat} (hx : ev n e x = .int .i64 (a : Int)) (hy : ev n e y = .int .i64 1) (ha : a ≤ 9223372036854775807) :
  Ev P n e ⟨d, .binOp .and t x y t', ty, pos, af, gd⟩ w (.int .i64 ((a % 2 : Nat) : Int)) := by
 have e1 : (Op.intBits .and .i64 (a : Int) 1) = pure (.int .i64 (IntKind.i64.wrap ((BitVec.ofInt 64 (a : Int) &&& BitVec.ofInt 64 1).toNat : Int))) := rfl
 have e2 : (BitVec.ofInt 64 (a : Int) &&& BitVec.ofInt 64 1).toNat = a % 2 := by
  have h1 : BitVec.ofInt 64 (a : Int) = BitVec.ofNat 64 a := by simp
  have h2 : BitVec.ofInt 64 1 = BitVec.ofNat 64 1 := by decide
  rw [h1, h2, BitVec.toNat_and, BitVec.toNat_ofNat, BitVec.toNat_ofNat, Nat.mod_eq_of_lt (by omega)]
  exact Nat.and_one_is_mod a
 rw [e2, wI64 (z := ((a % 2 : Nat) : Int)) ⟨rfl, by omega, by omega⟩] at e1
 simp only [Ev, execOp, hx, hy, eqGuard, binOp, e1]
 simp
end
end Go.Gx

/-
 Fractions. Plain numbers; no program in sight.
-/
namespace Go.Gx
end Go.Gx

/-
 Values of polynomials at fractions. Plain numbers; no program in sight.
-/
namespace Go.Gx
def evQ : List Int → Rat → Rat
 | [], _ => 0
 | a :: l, q => (a : Rat) + q * evQ l q
theorem cast_pow (d : Int) (k : Nat) : ((d ^ k : Int) : Rat) = (d : Rat) ^ k := by
 induction k with
 | zero => simp
 | succ k ih => rw [Int.pow_succ, Rat.intCast_mul, ih, Rat.pow_succ]
theorem cast_ne {d : Int} (h : d ≠ 0) : (d : Rat) ≠ 0 := fun e => h (Rat.intCast_inj.1 (by rw [e]; rfl))
theorem evQ_head (f : List Int) (q : Rat) : evQ f q = ((co f 0 : Int) : Rat) + q * evQ f.tail q := by
 cases f with
 | nil => simp [evQ, co]; grind
 | cons a l => simp [evQ, co]
theorem co_tail (f : List Int) (i : Nat) : co f.tail i = co f (i + 1) := by cases f <;> simp [co]
theorem evQ_ext (q : Rat) : ∀ (n : Nat) (f g : List Int), f.length + g.length ≤ n → (∀ i, co f i = co g i) → evQ f q = evQ g q
 | 0, f, g, hn, _ => by
  have h1 : f = [] := List.eq_nil_of_length_eq_zero (by omega)
  have h2 : g = [] := List.eq_nil_of_length_eq_zero (by omega)
  rw [h1, h2]
 | n + 1, f, g, hn, h => by
  rcases Nat.eq_zero_or_pos (f.length + g.length) with h0 | h0
  ·have h1 : f = [] := List.eq_nil_of_length_eq_zero (by omega)
   have h2 : g = [] := List.eq_nil_of_length_eq_zero (by omega)
   rw [h1, h2]
  ·rw [evQ_head f, evQ_head g, h 0, evQ_ext q n f.tail g.tail (by simp; omega) (fun i => by rw [co_tail, co_tail]; exact h (i + 1))]
theorem evQ_congr {f g : List Int} (q : Rat) (h : ∀ i, co f i = co g i) : evQ f q = evQ g q := evQ_ext q _ f g (Nat.le_refl _) h
theorem evQ_trim (f : List Int) (q : Rat) : evQ (trimZ f) q = evQ f q := evQ_congr q fun i => co_trim f i
theorem evQ_padd (q : Rat) : ∀ f g : List Int, evQ (padd f g) q = evQ f q + evQ g q
 | [], g => by rw [evQ_congr q (g := g) (fun i => by rw [co_padd]; simp [co])]; simp [evQ]; grind
 | a :: f, [] => by rw [evQ_congr q (g := a :: f) (fun i => by rw [co_padd]; simp [co])]; simp [evQ]; grind
 | a :: f, b :: g => by
  rw [evQ_congr q (g := (a + b) :: padd f g) (fun i => by
   rw [co_padd]
   cases i with
   | zero => simp [co]
   | succ i =>
    have := co_padd f g i
    simp only [co, List.getD_cons_succ] at this ⊢
    omega)]
  simp only [evQ, evQ_padd q f g, Rat.intCast_add]
  grind
theorem evQ_scale (q : Rat) (c : Int) : ∀ f : List Int, evQ (scaleP f c) q = (c : Rat) * evQ f q
 | [] => by simp [scaleP, evQ]
 | a :: f => by
  have ih := evQ_scale q c f
  simp only [scaleP, List.map_cons, evQ, Rat.intCast_mul] at ih ⊢
  rw [ih]
  grind
theorem co_pmul_cons (a : Int) (f g : List Int) (k : Nat) : co (pmul (a :: f) g) k = co (padd (scaleP g a) (0 :: pmul f g)) k := by
 rw [co_pmul, co_padd, co_scaleP]
 unfold conv convF
 rw [rsum_head]
 cases k with
 | zero => simp [rsum, co, Int.mul_comm]
 | succ k =>
  have e1 : co (0 :: pmul f g) (k + 1) = conv f g k := by rw [← co_pmul]; simp [co]
  rw [e1]
  unfold conv convF
  have e2 : rsum (fun i => co (a :: f) (i + 1) * co g (k + 1 - (i + 1))) (k + 1) = rsum (fun i => co f i * co g (k - i)) (k + 1) := rsum_congr fun i _ => by simp [co]
  rw [e2]
  simp [co, Int.mul_comm]
theorem evQ_pmul (q : Rat) : ∀ f g : List Int, evQ (pmul f g) q = evQ f q * evQ g q
 | [], g => by simp [pmul, evQ]
 | a :: f, g => by
  rw [evQ_congr q (co_pmul_cons a f g), evQ_padd, evQ_scale]
  simp only [evQ, evQ_pmul q f g]
  simp
  grind
end Go.Gx

/-
 Contents and primitive parts of polynomials. Plain numbers; no program in sight.
-/
namespace Go.Gx
def ldP (F : List Int) : Int := coI (trimZ F) (((trimZ F).length : Int) - 1)
theorem co_pow1 (a : Int) : ∀ (n i : Nat), co (ppow [a] n) i = if i = 0 then a ^ n else 0
 | 0, i => by cases i <;> simp [ppow, co]
 | n + 1, i => by
  show co (pmul (ppow [a] n) [a]) i = _
  rw [co_pmul]
  unfold conv convF
  cases i with
  | zero =>
   have e := co_pow1 a n 0
   simp [rsum, co, Int.pow_succ] at e ⊢
   rw [e]
  | succ i =>
   rw [if_neg (by omega)]
   have : rsum (fun j => co (ppow [a] n) j * co [a] (i + 1 - j)) (i + 1 + 1) = rsum (fun _ => 0) (i + 1 + 1) := rsum_congr fun j hj => by
    rw [co_pow1 a n]
    by_cases h0 : j = 0
    ·subst h0; simp [co]
    ·rw [if_neg h0, Int.zero_mul]
   rw [this]
   have z : ∀ m, rsum (fun _ => (0 : Int)) m = 0 := by intro m; induction m with | zero => rfl | succ m ih => simp [rsum, ih]
   exact z _
theorem ld_pow1 {a : Int} {n : Nat} {F : List Int} (h : F = trimZ (ppow [a] n)) : ldP F = a ^ n := by
 have hF : trimZ F = F := by rw [h]; exact canon_trim isZI _
 have hc : ∀ i, co F i = if i = 0 then a ^ n else 0 := fun i => by rw [h, co_trim, co_pow1]
 unfold ldP
 rw [hF]
 rcases Nat.eq_zero_or_pos F.length with h0 | h0
 ·rw [← coI_out (.inl (by omega))]
  have := hc 0
  rw [if_pos rfl, List.eq_nil_of_length_eq_zero h0] at this
  simpa [co] using this
 ·rw [show ((F.length : Int) - 1) = ((F.length - 1 : Nat) : Int) by omega, coI_nat]
  have h1 := canon_last (f := F) (by rw [h]; exact canon_trim isZI _) (by omega)
  rw [hc] at h1 ⊢
  by_cases e : F.length - 1 = 0
  ·rw [if_pos e]
  ·rw [if_neg e] at h1; exact absurd rfl h1
end Go.Gx

/-
 Division of polynomials, step by step. Plain numbers; no program in sight.
-/
namespace Go.Gx
def cs (G : List Int) (low i : Nat) : Int := if low ≤ i then co G (i - low) else 0
theorem co_takeZ (R : List Int) (t i : Nat) : co (R.take t) i = if i < t then co R i else 0 := by
 simp only [co, List.getD, List.getElem?_take]
 by_cases h : i < t
 ·rw [if_pos h, if_pos h]
 ·rw [if_neg h, if_neg h]; rfl
theorem co_setZ {L : List Int} {k : Nat} {v : Int} (hk : k < L.length) (j : Nat) : co (L.set k v) j = if j = k then v else co L j := by
 by_cases e : j = k
 ·subst e; rw [if_pos rfl]; simp [co, List.getD, List.getElem?_set_self hk]
 ·rw [if_neg e]; simp only [co, List.getD]; rw [List.getElem?_set_ne (Ne.symm e)]
theorem evQ_ppow (g : List Int) (x : Rat) : ∀ k, evQ (ppow g k) x = evQ g x ^ k
 | 0 => by
  show evQ [1] x = _
  simp only [evQ]
  have e1 : ((1 : Int) : Rat) = 1 := rfl
  rw [e1, Rat.pow_zero]; grind
 | k + 1 => by
  show evQ (pmul (ppow g k) g) x = _
  rw [evQ_pmul, evQ_ppow g x k, Rat.pow_succ]
end Go.Gx

/-
 Determinants by expansion along columns. Plain numbers; no program in sight.
-/
namespace Go.Gx
abbrev Row := Nat → Int
def lap (D : List Row → Int) (c : Nat) : List Row → List Row → Int
 | _, [] => 0
 | pre, r :: rs => r c * D (pre ++ rs) - lap D c (pre ++ [r]) rs
def det : List Nat → List Row → Int
 | [], [] => 1
 | [], _ :: _ => 0
 | c :: cl, rs => lap (det cl) c [] rs
structure Multi (D : List Row → Int) : Prop where
 add : ∀ (A : List Row) (u v : Row) (B : List Row), D (A ++ (fun c => u c + v c) :: B) = D (A ++ u :: B) + D (A ++ v :: B)
 smul : ∀ (A : List Row) (k : Int) (u : Row) (B : List Row), D (A ++ (fun c => k * u c) :: B) = k * D (A ++ u :: B)
 alt : ∀ (A : List Row) (u : Row) (B : List Row), D (A ++ u :: u :: B) = 0
section
variable {D : List Row → Int} (h : Multi D) (c : Nat)
include h
end
section
variable {D : List Row → Int} (h : Multi D)
include h
end
end Go.Gx

/-
 The subresultant sequence: its divisions are exact. Plain numbers; no program in sight.
-/
namespace Go.Gx
section
variable {a0 b0 a b q R r : List Int} {n0 m0 n m d nr : Nat} {l s D l' s' : Int}
end
end Go.Gx

/-
 Signs of polynomials beyond their roots. Plain numbers; no program in sight.
-/
namespace Go.Gx
def evI : List Int → Int → Int
 | [], _ => 0
 | a :: l, x => a + x * evI l x
theorem evQ_int (x : Int) : ∀ f : List Int, evQ f (x : Rat) = ((evI f x : Int) : Rat)
 | [] => rfl
 | a :: l => by simp only [evQ, evI, evQ_int x l, Rat.intCast_add, Rat.intCast_mul]
theorem big_sign {x : Int} {H : Nat} (hx : (H : Int) + 2 ≤ x ∨ x ≤ -((H : Int) + 2)) : ∀ (F : List Int), F.length ≠ 0 → co F (F.length - 1) ≠ 0 → hgt F ≤ H → evI F x ≠ 0 ∧ (0 < x → (0 < evI F x ↔ 0 < co F (F.length - 1))) ∧ (x < 0 → (0 < evI F x ↔ (if (F.length - 1) % 2 = 0 then 0 < co F (F.length - 1) else co F (F.length - 1) < 0)))
 | [], h, _, _ => absurd rfl h
 | [a], _, h1, _ => by simp [evI, co] at h1 ⊢; exact h1
 | a :: b :: l, _, h1, h2 => by
  have e1 : co (a :: b :: l) ((a :: b :: l).length - 1) = co (b :: l) ((b :: l).length - 1) := by simp [co]
  rw [e1] at h1 ⊢
  simp only [hgt] at h2
  have ih := big_sign hx (b :: l) (by simp) h1 (by simp only [hgt]; omega)
  have ha : a.natAbs ≤ H := by omega
  show a + x * evI (b :: l) x ≠ 0 ∧ (0 < x → (0 < a + x * evI (b :: l) x ↔ _)) ∧ (x < 0 → (0 < a + x * evI (b :: l) x ↔ _))
  generalize evI (b :: l) x = E at *
  generalize co (b :: l) ((b :: l).length - 1) = c at *
  obtain ⟨hE, hp, hn⟩ := ih
  have hl : (a :: b :: l).length - 1 = (b :: l).length - 1 + 1 := by simp
  rw [hl]
  generalize (b :: l).length - 1 = k at *
  rcases hx with hx | hx
  ·rcases Int.lt_or_gt_of_ne hE with h | h
   ·have h3 : x * E ≤ x * (-1) := Int.mul_le_mul_of_nonneg_left (by omega) (by omega)
    refine ⟨by omega, fun _ => ⟨fun h4 => by omega, fun h4 => ?_⟩, fun h4 => by omega⟩
    have := (hp (by omega)).2 h4; omega
   ·have h3 : x * 1 ≤ x * E := Int.mul_le_mul_of_nonneg_left (by omega) (by omega)
    refine ⟨by omega, fun _ => ⟨fun _ => (hp (by omega)).1 h, fun h4 => by omega⟩, fun h4 => by omega⟩
  ·have hn' := hn (by omega)
   rcases Int.lt_or_gt_of_ne hE with h | h
   ·have h3 : (-x) * 1 ≤ (-x) * (-E) := Int.mul_le_mul_of_nonneg_left (by omega) (by omega)
    rw [Int.neg_mul_neg] at h3
    have hpos : 0 < a + x * E := by omega
    refine ⟨by omega, fun h4 => by omega, fun _ => ⟨fun _ => ?_, fun _ => hpos⟩⟩
    have hne : ¬ (if k % 2 = 0 then 0 < c else c < 0) := fun h5 => by have := hn'.2 h5; omega
    by_cases hk : k % 2 = 0
    ·rw [if_pos hk] at hne; rw [if_neg (by omega)]; omega
    ·rw [if_neg hk] at hne; rw [if_pos (by omega)]; omega
   ·have h3 : (-x) * 1 ≤ (-x) * E := Int.mul_le_mul_of_nonneg_left (by omega) (by omega)
    have e3 : (-x) * E = -(x * E) := Int.neg_mul x E
    have hneg : a + x * E < 0 := by omega
    refine ⟨by omega, fun h4 => by omega, fun _ => ⟨fun h4 => by omega, fun h5 => ?_⟩⟩
    exfalso
    have h6 := hn'.1 h
    by_cases hk : k % 2 = 0
    ·rw [if_pos hk] at h6; rw [if_neg (by omega)] at h5; omega
    ·rw [if_neg hk] at h6; rw [if_pos (by omega)] at h5; omega
end Go.Gx
namespace Go.Gx
end Go.Gx

/-
 Inverses of shifts and reversals; sums of fractions. Plain numbers; no program in sight.
-/
namespace Go.Gx
theorem evQ_zero {f : List Int} (h : ∀ x : Int, evI f x = 0) : trimZ f = [] := by
 by_cases h0 : (trimZ f).length = 0
 ·exact List.eq_nil_of_length_eq_zero h0
 ·exfalso
  have hl := canon_last (canon_trim isZI f) h0
  have hb := big_sign (x := (hgt (trimZ f) : Int) + 2) (H := hgt (trimZ f)) (.inl (Int.le_refl _)) (trimZ f) h0 hl (Nat.le_refl _)
  apply hb.1
  have e : ((evI (trimZ f) ((hgt (trimZ f) : Int) + 2) : Int) : Rat) = ((evI f ((hgt (trimZ f) : Int) + 2) : Int) : Rat) := by rw [← evQ_int, ← evQ_int, evQ_trim]
  rw [Rat.intCast_inj.1 e]
  exact h _
theorem evQ_psub (q : Rat) (f g : List Int) : evQ (psub f g) q = evQ f q - evQ g q := by
 rw [evQ_congr q (g := padd f (scaleP g (-1))) (fun i => by rw [co_psub, co_padd, co_scaleP]; omega), evQ_padd, evQ_scale]
 show evQ f q + ((-1 : Int) : Rat) * evQ g q = _
 have : ((-1 : Int) : Rat) = -1 := rfl
 rw [this]; grind
theorem poly_eq {f g : List Int} (h : ∀ x : Int, evQ f (x : Rat) = evQ g (x : Rat)) : trimZ f = trimZ g := by
 have h1 : trimZ (psub f g) = [] := evQ_zero fun x => by
  have := evQ_psub (x : Rat) f g
  rw [h x, evQ_int] at this
  have e : evQ g (x : Rat) - evQ g (x : Rat) = ((0 : Int) : Rat) := by
   have : ((0 : Int) : Rat) = 0 := rfl
   rw [this]; grind
  rw [e] at this
  exact Rat.intCast_inj.1 this
 refine trim_inj fun i => ?_
 have h2 := co_trim (psub f g) i
 rw [h1, co_psub] at h2
 have : co [] i = 0 := by simp [co]
 omega
end Go.Gx
namespace Go.Gx
theorem prod_rule_co (F G : List Int) (k : Nat) : co (derivP (pmul F G)) k = co (padd (pmul (derivP F) G) (pmul F (derivP G))) k := by
 rw [co_derivP, co_pmul, co_padd, co_pmul, co_pmul]
 have hA : conv (derivP F) G k = rsum (fun j => ((j : Nat) : Int) * (co F j * co G (k + 1 - j))) (k + 2) := by
  rw [rsum_head]
  unfold conv convF
  rw [rsum_congr (G := fun i => ((i + 1 : Nat) : Int) * (co F (i + 1) * co G (k + 1 - (i + 1)))) (fun i hi => by
   rw [co_derivP, show k + 1 - (i + 1) = k - i by omega]; grind)]
  simp
 have hB : conv F (derivP G) k = rsum (fun j => ((k + 1 - j : Nat) : Int) * (co F j * co G (k + 1 - j))) (k + 2) := by
  rw [rsum_succ]
  unfold conv convF
  rw [rsum_congr (G := fun j => ((k + 1 - j : Nat) : Int) * (co F j * co G (k + 1 - j))) (fun i hi => by
   rw [co_derivP, show k - i + 1 = k + 1 - i by omega]; grind)]
  simp
 rw [hA, hB, ← rsum_add]
 unfold conv convF
 rw [← rsum_mul_r]
 refine rsum_congr fun j hj => ?_
 have e : ((j : Nat) : Int) + ((k + 1 - j : Nat) : Int) = ((k + 1 : Nat) : Int) := by omega
 rw [← Int.add_mul, e, Int.mul_comm]
theorem deriv_rule (F G : List Int) : trimZ (trimZ (derivP (trimZ (pmul F G)))) = trimZ (trimZ (padd (trimZ (pmul (trimZ (derivP F)) G)) (trimZ (pmul F (trimZ (derivP G)))))) := by
 refine trim_inj fun i => ?_
 rw [co_trim, co_trim, co_derivP, co_trim, ← co_derivP, prod_rule_co, co_padd, co_padd, co_trim, co_trim, co_pmul, co_pmul, co_pmul, co_pmul]
 congr 1
 ·exact (conv_congr (fun j => co_trim _ j) (fun _ => rfl)).symm
 ·exact (conv_congr (fun _ => rfl) (fun j => co_trim _ j)).symm
end Go.Gx

/-
 Polynomials with rational coefficients: degrees, divisibility, division with rest, common divisors. Plain numbers; no program in sight.
-/
namespace Go.Gx
structure QP where
 v : Rat → Rat
 p : ∃ (c : Int) (l : List Int), c ≠ 0 ∧ ∀ x, (c : Rat) * v x = evQ l x
theorem one_cast : ((1 : Int) : Rat) = 1 := rfl
def P (l : List Int) : QP := ⟨evQ l, 1, l, by decide, fun x => by rw [one_cast]; grind⟩
instance : Add QP := ⟨fun f g => ⟨fun x => f.v x + g.v x, by
 obtain ⟨c, l, hc, h⟩ := f.p
 obtain ⟨d, m, hd, k⟩ := g.p
 exact ⟨c * d, padd (scaleP l d) (scaleP m c), Int.mul_ne_zero hc hd, fun x => by rw [evQ_padd, evQ_scale, evQ_scale, ← h, ← k, Rat.intCast_mul]; grind⟩⟩⟩
instance : Neg QP := ⟨fun f => ⟨fun x => - f.v x, by
 obtain ⟨c, l, hc, h⟩ := f.p
 exact ⟨-c, l, by omega, fun x => by rw [← h, Rat.intCast_neg]; grind⟩⟩⟩
instance : Sub QP := ⟨fun f g => ⟨fun x => f.v x - g.v x, by
 obtain ⟨c, l, hc, h⟩ := f.p
 obtain ⟨d, m, hd, k⟩ := g.p
 exact ⟨c * d, psub (scaleP l d) (scaleP m c), Int.mul_ne_zero hc hd, fun x => by rw [evQ_psub, evQ_scale, evQ_scale, ← h, ← k, Rat.intCast_mul]; grind⟩⟩⟩
instance : Mul QP := ⟨fun f g => ⟨fun x => f.v x * g.v x, by
 obtain ⟨c, l, hc, h⟩ := f.p
 obtain ⟨d, m, hd, k⟩ := g.p
 exact ⟨c * d, pmul l m, Int.mul_ne_zero hc hd, fun x => by rw [evQ_pmul, ← h, ← k, Rat.intCast_mul]; grind⟩⟩⟩
theorem den_ne (r : Rat) : ((r.den : Int) : Rat) ≠ 0 := cast_ne (by have := r.den_nz; omega)
theorem den_mul (r : Rat) : ((r.den : Int) : Rat) * r = (r.num : Rat) := by
 have h : (r.num : Rat) / ((r.den : Int) : Rat) = r := by
  rw [← Rat.divInt_eq_div]; exact Rat.num_divInt_den r
 have := den_ne r
 grind
def K (r : Rat) : QP := ⟨fun _ => r, r.den, [r.num], by have := r.den_nz; omega, fun x => by rw [den_mul]; simp only [evQ]; grind⟩
instance : OfNat QP 0 := ⟨K 0⟩
instance : OfNat QP 1 := ⟨K 1⟩
theorem rat_mul_pow (a b : Rat) : ∀ n : Nat, (a * b) ^ n = a ^ n * b ^ n
 | 0 => by simp only [Rat.pow_zero]; grind
 | n + 1 => by simp only [Rat.pow_succ, rat_mul_pow a b n]; grind
instance : HPow QP Nat QP := ⟨fun f n => ⟨fun x => f.v x ^ n, by
 obtain ⟨c, l, hc, h⟩ := f.p
 refine ⟨c ^ n, ppow l n, Int.pow_ne_zero hc, fun x => ?_⟩
 rw [evQ_ppow, ← h, rat_mul_pow, cast_pow]⟩⟩
noncomputable def dg (f : QP) : Nat := (trimZ (Classical.choose (Classical.choose_spec f.p))).length
instance : Dvd QP := ⟨fun g f => ∃ q, f = q * g⟩
def Mul_ (f g : QP) (k : Nat) : Prop := ∃ r, f = r * g ^ k ∧ ¬ g ∣ r
end Go.Gx

/-
 Primitive polynomials: Gauss' lemma, exact division. Plain numbers; no program in sight.
-/
namespace Go.Gx
theorem rsum_but {p : Int} {F : Nat → Int} {i : Nat} : ∀ n, (∀ a, a < n → a ≠ i → p ∣ F a) → p ∣ rsum F n - (if i < n then F i else 0)
 | 0, _ => by simp [rsum]
 | n + 1, h => by
  have ih := rsum_but (p := p) (F := F) (i := i) n fun a ha hi => h a (by omega) hi
  rw [rsum_succ]
  by_cases h1 : n = i
  ·subst h1
   rw [if_neg (by omega)] at ih
   rw [if_pos (by omega), show rsum F n + F n - F n = rsum F n - 0 by omega]
   exact ih
  ·have h2 := h n (by omega) h1
   by_cases h3 : i < n
   ·rw [if_pos h3] at ih
    rw [if_pos (by omega), show rsum F n + F n - F i = (rsum F n - F i) + F n by omega]
    exact Int.dvd_add ih h2
   ·rw [if_neg h3] at ih
    rw [if_neg (by omega), show rsum F n + F n - 0 = (rsum F n - 0) + F n by omega]
    exact Int.dvd_add ih h2
end Go.Gx

/-
 Divisibility and multiplicities, as the program finds them. Plain numbers; no program in sight.
-/
namespace Go.Gx
end Go.Gx

/-
 Sizes of coefficients; the law on multiplicities. No program in sight.
-/
namespace Go.Gx
def nrm (l : List Int) : Nat := l.foldr (fun a s => a.natAbs + s) 0
end Go.Gx

/-
 Bounds on subresultants and on divisors of polynomials. Plain numbers; no program in sight.
-/
namespace Go.Gx
end Go.Gx

/-
 Greatest common divisors, as the subresultant sequence finds them. Plain numbers; no program in sight.
-/
namespace Go.Gx
section
variable {a0 b0 a b q R r : List Int} {l s D : Int}
end
end Go.Gx

/-
 Irreducible polynomials over the rationals, their multiplicities, derivatives. Plain numbers; no program in sight.
-/
namespace Go.Gx
noncomputable def va (π f : QP) : Nat := @dite _ (∃ k, Mul_ f π k) (Classical.propDecidable _) (fun h => Classical.choose h) (fun _ => 0)
end Go.Gx

/-
 Sizes of numbers in memory out of their values; greatest common divisors as the program returns them. No program in sight.
-/
namespace Go.Gx
theorem int_tight {g : Bool} {d : List Nat} {n K : Nat} (hc : ICan g d) (hl : d.length = n) (hv : (zval g d).natAbs < BS ^ K) : n ≤ K := by
 have e2 : (zval g d).natAbs = val d := by unfold zval; split <;> omega
 have := lt_val_len hc.1 (k := K) (by omega)
 omega
end Go.Gx
namespace Go.Gx
end Go.Gx

/-
 Square-free parts. Plain numbers; no program in sight.
-/
namespace Go.Gx
end Go.Gx

/-
 Lengths of exact quotients. Plain numbers; no program in sight.
-/
namespace Go.Gx
end Go.Gx

/-
 The square-free decomposition. Plain numbers; no program in sight.
-/
namespace Go.Gx
section
variable {p rest other U g r1 o1 : QP} {k : Nat}
end
end Go.Gx

/-
 Lists of factors in memory; what a decomposition says. No program in sight.
-/
namespace Go.Gx
open Go.RowKit
structure FE where
 A : Option Addr
 n : Nat
 c : Nat
 l : List RI
 k : Int
section
variable {w w' : World} {S S' G : Nat → Prop} {A : Option Addr} {n c M : Nat} {l : List FE}
end
section
variable {w w' : World} {B : Nat} {el : TypeId} {A : Option Addr} {n c M : Nat} {l : List FE}
theorem Own.frmG {k : Nat} {cs : List Value} {G : Nat → Prop} (h : Own w B el k A n c cs) (f : Frm G w w') (hd : ∀ b, b < w.heap.size → B ≤ b → ¬ G b) : Own w' B el k A n c cs := by
 refine ⟨h.1, ?_⟩
 rcases h.2 with h1 | ⟨g, cap, cur, hv, hb, hg, rest⟩
 ·exact .inl h1
 ·have hlt := (Array.getElem?_eq_some_iff.1 hg).1
  exact .inr ⟨g, cap, cur, hv, hb, (f.block g hlt (hd g hlt hb)).trans hg, rest⟩
end
section
variable {dfs : List Deferred} {P : Program} {n : Nat} {e : Nat → Value} {w : World} {K : Act → World → Prop} {Q : Exit → Act → World → Prop} {ty : TypeId} {pos : String} {af : Array Edge} {gd : Option (Nat × Bool)}
end
end Go.Gx
namespace Go.Gx
end Go.Gx

/-
 Lists of polynomials in memory. No program in sight.
-/
namespace Go.Gx
open Go.RowKit
structure PE where
 A : Option Addr
 n : Nat
 c : Nat
 l : List RI
def PE.v (f : PE) : Value := .slice f.A f.n f.c
def cellsP (l : List PE) : List Value := l.map PE.v
theorem cellsP_len (l : List PE) : (cellsP l).length = l.length := by simp [cellsP]
def AllP (w : World) (S : Nat → Prop) (M : Nat) (l : List PE) : Prop := ∀ f ∈ l, PolyR w S f.A f.n f.c f.l M
def PolysR (w : World) (S : Nat → Prop) (A : Option Addr) (n c : Nat) (l : List PE) (M : Nat) : Prop := Rd w S A n c 1 (cellsP l) ∧ AllP w S M l
section
variable {w w' : World} {S S' G : Nat → Prop} {A : Option Addr} {n c M M' : Nat} {l : List PE}
theorem PolysR.frmB (h : PolysR w S A n c l M) (f : Frm G w w') (hd : ∀ b, b < w.heap.size → S b → ¬ G b) : PolysR w' S A n c l M := ⟨h.1.frmB f hd, fun x hx => (h.2 x hx).frmB f hd⟩
theorem PolysR.ext (h : PolysR w S A n c l M) (f : Ext w w') : PolysR w' S A n c l M := ⟨h.1.ext f, fun x hx => (h.2 x hx).ext f⟩
theorem PolysR.sub (h : PolysR w S A n c l M) (hs : ∀ b, b < w.heap.size → S b → S' b) : PolysR w S' A n c l M := ⟨h.1.sub hs, fun x hx => (h.2 x hx).sub hs⟩
theorem PolysR.low (h : PolysR w S A n c l M) : PolysR w (· < w.heap.size) A n c l M := h.sub fun _ hb _ => hb
theorem PolysR.le (h : PolysR w S A n c l M) (hm : M ≤ M') : PolysR w S A n c l M' := ⟨h.1, fun x hx => (h.2 x hx).le hm⟩
theorem PolysR.nil : PolysR w S none 0 0 [] M := ⟨Rd.nil, fun f hf => by cases hf⟩
theorem PolysR.len (h : PolysR w S A n c l M) : l.length = n := by have := h.1.1; rw [cellsP_len] at this; omega
theorem PolysR.lkm (h : PolysR w S A n c l M) : l.length = n ∧ n ≤ c ∧ c ≤ 9223372036854775807 := ⟨h.len, h.1.2.1, h.1.2.2.1⟩
theorem PolysR.base (h : PolysR w S A n c l M) (hn : 0 < n) : ∃ b off, A = some ⟨b, off, none⟩ := h.1.base hn
theorem PolysR.at_ {b off i : Nat} (h : PolysR w S (some ⟨b, off, none⟩) n c l M) (hi : i < n) :
  ∃ f, l[i]? = some f ∧ w.cell? ⟨b, off + i, none⟩ = some (.slice f.A f.n f.c) ∧ PolyR w S f.A f.n f.c f.l M ∧ S b ∧ b < w.heap.size := by
 have hl : i < l.length := by rw [h.len]; exact hi
 obtain ⟨b', off', e, hS, hb, _⟩ := h.1.2.2.2 (by omega)
 injection e with e
 injection e with e1 e2
 subst e1 e2
 obtain ⟨r, hr⟩ : ∃ r, l[i]? = some r := ⟨_, List.getElem?_eq_getElem hl⟩
 have hc : (cellsP l)[i]? = some (.slice r.A r.n r.c) := by simp [cellsP, hr, PE.v]
 exact ⟨r, hr, h.1.cell hc, h.2 _ (List.mem_of_getElem? hr), hS, hb⟩
end
section
variable {P : Program} {n : Nat} {e : Nat → Value} {w : World} {ty : TypeId} {pos : String} {af : Array Edge} {gd : Option (Nat × Bool)}
theorem evArr {d : Option Nat} {t el : TypeId} {x ix : Operand} {b off len size : Nat} {k : IntKind} {z : Int} (i : Nat) (ht : P.underlying t = some (.array len el)) (hs : ∀ w, (sizeOf el).run P w = .ok size w)
  (hx : ev n e x = .pointer (some ⟨b, off, none⟩)) (hi : ev n e ix = .int k z) (p : Nat) (hz : z = (i : Int) := by omega) (hlt : i < len := by omega) (hp : off + i * size = p := by omega) :
  Ev P n e ⟨d, .indexAddr t x ix, ty, pos, af, gd⟩ w (.pointer (some ⟨b, p, none⟩)) := by
 subst hz hp
 have h1 : (0 : Int) ≤ (i : Int) ∧ (i : Int) < (len : Int) := ⟨by omega, by omega⟩
 simp [Ev, execOp, hx, hi, Instr.indexAt, Instr.sureAddr, asIntOf, run_underlying ht, hs, hlt, addr_add]
end
end Go.Gx

/-
 Polynomials of one coefficient; products of lists of polynomials. No program in sight.
-/
namespace Go.Gx
open Go.RowKit
theorem PolyR.one {w : World} {S S' : Nat → Prop} {g : Nat} {t : TypeId} {b : Bool} {A : Option Addr} {n c M : Nat} {d : List Nat} (hb : Blk w g t [.bool b, .slice A n c]) (h : NatR w S A n c d) (hS : ∀ b, b < w.heap.size → S b → S' b) (hg : S' g) (hM : n ≤ M) : PolyR w S' (some ⟨g, 0, none⟩) 1 1 [⟨b, A, n, c, d⟩] M :=
 PolyR.of_blk (l := [⟨b, A, n, c, d⟩]) hb (fun r hr => by simp at hr; subst hr; exact ⟨h.sub hS, hM⟩) hg rfl (Nat.le_refl _) (by decide)
theorem pow_lit {p : Nat} {n : Nat} : trimZ (ppow (trimZ [(p : Int)]) n) = trimZ (ppow [(p : Int)] n) := trim_inj fun i => ppow_congr (fun j => co_trim _ j) n i
def foldMul (p : List Int) (gs : List (List Int)) : List Int := gs.foldl (fun p g => trimZ (pmul p g)) p
theorem foldMul_next {p : List Int} {fl : List PE} {i : Nat} {f : PE} (h : fl[i]? = some f) : foldMul p ((fl.take (i + 1)).map fun f => zs f.l) = trimZ (pmul (foldMul p ((fl.take i).map fun f => zs f.l)) (zs f.l)) := by
 unfold foldMul
 rw [List.take_add_one, h, List.map_append, List.foldl_append]
 rfl
def sumStep (m : Nat) (x : List Int × List Int) (y : List Int × List Int) : List Int × List Int :=
 (redZ m (trimZ (padd (trimZ (pmul x.1 y.1)) (trimZ (pmul y.2 x.2)))), redZ m (trimZ (pmul x.2 y.1)))
def sumZ (m : Nat) (gs ss : List (List Int)) : List Int × List Int := (gs.zip ss).foldl (sumStep m) ([], trimZ [1])
theorem zip_next {α β : Type} {a : List α} {b : List β} {i : Nat} {x : α} {y : β} (h1 : a[i]? = some x) (h2 : b[i]? = some y) : (a.take (i + 1)).zip (b.take (i + 1)) = (a.take i).zip (b.take i) ++ [(x, y)] := by
 have hl1 := (List.getElem?_eq_some_iff.1 h1).1
 have hl2 := (List.getElem?_eq_some_iff.1 h2).1
 rw [List.take_add_one, List.take_add_one, h1, h2, Option.toList_some, Option.toList_some, List.zip_append (by simp; omega)]
 rfl
theorem sumZ_next {m : Nat} {fl gl : List PE} {i : Nat} {f g : PE} (h1 : fl[i]? = some f) (h2 : gl[i]? = some g) : sumZ m ((fl.take (i + 1)).map fun f => zs f.l) ((gl.take (i + 1)).map fun f => zs f.l) = sumStep m (sumZ m ((fl.take i).map fun f => zs f.l) ((gl.take i).map fun f => zs f.l)) (zs f.l, zs g.l) := by
 unfold sumZ
 have e1 : (fl.map fun f => zs f.l)[i]? = some (zs f.l) := by simp [h1]
 have e2 : (gl.map fun f => zs f.l)[i]? = some (zs g.l) := by simp [h2]
 rw [List.map_take, List.map_take, zip_next e1 e2, List.foldl_append, List.map_take, List.map_take]
 rfl
def subAt (R G : List Int) (n k : Nat) (c : Int) : List Int := (List.range R.length).map fun t => if n ≤ t ∧ t - n < k then co R t - c * co G (t - n) else co R t
theorem subAt_len {R G : List Int} {n k : Nat} {c : Int} : (subAt R G n k c).length = R.length := by simp [subAt]
theorem co_subAt {R G : List Int} {n k : Nat} {c : Int} {t : Nat} (h : t < R.length) : co (subAt R G n k c) t = if n ≤ t ∧ t - n < k then co R t - c * co G (t - n) else co R t := by
 simp only [subAt]
 rw [co_map_range, if_pos h]
theorem co_eqL {a b : List Int} (hl : a.length = b.length) (h : ∀ i, i < a.length → co a i = co b i) : a = b := by
 apply List.ext_getElem hl
 intro i h1 h2
 have := h i h1
 simpa [co, List.getD, List.getElem?_eq_getElem h1, List.getElem?_eq_getElem h2] using this
theorem subAt_zero {R G : List Int} {n : Nat} {c : Int} : R = subAt R G n 0 c := by
 refine co_eqL subAt_len.symm fun t ht => ?_
 rw [co_subAt ht, if_neg (by omega)]
theorem subAt_step {R G L : List Int} {n k : Nat} {c v : Int} (h : L = subAt R G n k c) (hk : n + k < R.length) (hv : v = co L (n + k) - c * co G k) : L.set (n + k) v = subAt R G n (k + 1) c := by
 have hl : L.length = R.length := by rw [h, subAt_len]
 refine co_eqL (by simp [hl, subAt_len]) fun t ht => ?_
 simp only [List.length_set] at ht
 rw [co_setZ (by omega), co_subAt (by omega)]
 by_cases hi : t = n + k
 ·subst hi
  rw [if_pos rfl, if_pos (by omega), hv, h, co_subAt hk, if_neg (by omega), show n + k - n = k by omega]
 ·rw [if_neg hi, h, co_subAt (by omega)]
  by_cases h1 : n ≤ t ∧ t - n < k
  ·rw [if_pos h1, if_pos (by omega)]
  ·rw [if_neg h1, if_neg (by omega)]
def remGo (m : Nat) (G : List Int) (d : Nat) : Nat → List Int → List Int
 | 0, R => R
 | n + 1, R => remGo m G d n (if symZ m (co R (n + d)) = 0 then R else subAt R G n d (symZ m (co R (n + d))))
def remZ (m : Nat) (F G : List Int) : List Int :=
 redZ m ((remGo m G ((trimZ G).length - 1) ((redZ m F).length - ((trimZ G).length - 1)) (redZ m F)).take (min (redZ m F).length ((trimZ G).length - 1)))
theorem remL_zero {m n u d : Nat} {G R X : List Int} (h : remGo m G d n R = X) (hn : n = u - 1 - d + 1) (hu : d < u) (h0 : symZ m (co R (u - 1)) = 0) : remGo m G d (u - 1 - d) R = X := by
 subst hn
 rw [remGo, show u - 1 - d + d = u - 1 by omega, if_pos h0] at h
 exact h
theorem remL_sub {m n u d j : Nat} {G R L X : List Int} {c : Int} (h : remGo m G d n R = X) (hn : n = u - 1 - d + 1) (hu : d < u) (hc : c = symZ m (co R (u - 1))) (h0 : c ≠ 0) (hL : L = subAt R G (u - 1 - d) j c) (hj : j = d) : remGo m G d (u - 1 - d) L = X := by
 subst hn hj hL hc
 rw [remGo, show u - 1 - j + j = u - 1 by omega, if_neg h0] at h
 exact h
theorem remL_fin {m n d N : Nat} {F G R0 R r : List Int} (hd : (trimZ G).length = d + 1) (h0 : R0 = redZ m F) (hN : R0.length = N) (h : remGo m G d n R = remGo m G d (N - d) R0) (hn : n = 0) (hr : r = redZ m (R.take (min N d))) : r = remZ m F G := by
 subst hn h0 hN
 unfold remZ
 rw [hd, Nat.add_sub_cancel, ← h, hr]
 rfl
end Go.Gx

/-
 Integers of the reference: a sign and bits; lists of these. No program in sight.
-/
namespace Go.Gx
open Go.RowKit
section
variable {w w' : World} {S S' G : Nat → Prop} {s : Int} {A : Option Addr} {n c : Nat} {z : Int}
end
end Go.Gx

/-
 Lists of integers of the reference; such lists that grow. No program in sight.
-/
namespace Go.Gx
open Go.RowKit
variable {dfs : List Deferred}
section
variable {w w' : World} {S S' G : Nat → Prop} {A : Option Addr} {n c M M' : Nat} {f : List Int}
end
section
variable {T : Nat → Prop} {w w' : World} {B : Nat} {el : TypeId} {S G : Nat → Prop} {A : Option Addr} {n c M : Nat} {f : List Int}
end
section
variable {P : Program} {n : Nat} {e : Nat → Value} {w : World} {K : Act → World → Prop} {Q : Exit → Act → World → Prop} {ty : TypeId} {pos : String} {af : Array Edge} {gd : Option (Nat × Bool)}
end
end Go.Gx
namespace Go.Gx
open Go.RowKit
variable {dfs : List Deferred}
section
variable {P : Program} {n : Nat} {e : Nat → Value} {w : World} {K : Act → World → Prop} {Q : Exit → Act → World → Prop} {ty : TypeId} {pos : String} {af : Array Edge} {gd : Option (Nat × Bool)}
end
end Go.Gx

/-
 Slices of int, lists of these, factors of the reference. No program in sight.
-/
namespace Go.Gx
open Go.RowKit
section
variable {w w' : World} {S S' G : Nat → Prop} {A : Option Addr} {n c : Nat} {xs : List Int}
end
structure IE where
 A : Option Addr
 n : Nat
 c : Nat
 x : List Int
 k : Int
section
variable {w w' : World} {S S' G : Nat → Prop} {A : Option Addr} {n c : Nat} {l : List IE}
end
section
variable {T : Nat → Prop} {w w' : World} {B : Nat} {el : TypeId} {A : Option Addr} {n c : Nat} {l : List IE}
end
section
variable {dfs : List Deferred} {P : Program} {n : Nat} {e : Nat → Value} {w : World} {K : Act → World → Prop} {Q : Exit → Act → World → Prop} {ty : TypeId} {pos : String} {af : Array Edge} {gd : Option (Nat × Bool)}
end
end Go.Gx

/-
 Lists whose elements are slices, of any kind: what is read, and what grows. No program in sight.
-/
namespace Go.Gx
open Go.RowKit
structure LK (α : Type) where
 v : α → Value
 R : World → (Nat → Prop) → α → Prop
 one : ∀ a, (v a).oneCell' = true
 frmB : ∀ {w w' : World} {S G : Nat → Prop} {a : α}, R w S a → Frm G w w' → (∀ b, b < w.heap.size → S b → ¬ G b) → R w' S a
 ext : ∀ {w w' : World} {S : Nat → Prop} {a : α}, R w S a → Ext w w' → R w' S a
 sub : ∀ {w : World} {S S' : Nat → Prop} {a : α}, R w S a → (∀ b, b < w.heap.size → S b → S' b) → R w S' a
def GListR {α : Type} (L : LK α) (w : World) (S : Nat → Prop) (A : Option Addr) (n c : Nat) (l : List α) : Prop := Rd w S A n c 1 (l.map L.v) ∧ ∀ f ∈ l, L.R w S f
section
variable {α : Type} {L : LK α} {w w' : World} {S S' G : Nat → Prop} {A : Option Addr} {n c : Nat} {l : List α}
theorem GListR.frmB (h : GListR L w S A n c l) (f : Frm G w w') (hd : ∀ b, b < w.heap.size → S b → ¬ G b) : GListR L w' S A n c l := ⟨h.1.frmB f hd, fun x hx => L.frmB (h.2 x hx) f hd⟩
theorem GListR.ext (h : GListR L w S A n c l) (f : Ext w w') : GListR L w' S A n c l := ⟨h.1.ext f, fun x hx => L.ext (h.2 x hx) f⟩
theorem GListR.sub (h : GListR L w S A n c l) (hs : ∀ b, b < w.heap.size → S b → S' b) : GListR L w S' A n c l := ⟨h.1.sub hs, fun x hx => L.sub (h.2 x hx) hs⟩
theorem GListR.low (h : GListR L w S A n c l) : GListR L w (· < w.heap.size) A n c l := h.sub fun _ hb _ => hb
theorem GListR.nil : GListR L w S none 0 0 [] := ⟨Rd.nil, fun f hf => by cases hf⟩
theorem GListR.len (h : GListR L w S A n c l) : l.length = n := by have := h.1.1; simp at this; omega
theorem GListR.lkm (h : GListR L w S A n c l) : l.length = n ∧ n ≤ c ∧ c ≤ 9223372036854775807 := ⟨h.len, h.1.2.1, h.1.2.2.1⟩
theorem GListR.base (h : GListR L w S A n c l) (hn : 0 < n) : ∃ b off, A = some ⟨b, off, none⟩ := h.1.base hn
theorem GListR.at_ {b off i : Nat} (h : GListR L w S (some ⟨b, off, none⟩) n c l) (hi : i < n) :
  ∃ f, l[i]? = some f ∧ w.cell? ⟨b, off + i, none⟩ = some (L.v f) ∧ L.R w S f ∧ S b ∧ b < w.heap.size := by
 have hl : i < l.length := by rw [h.len]; exact hi
 obtain ⟨b', off', e, hS, hb, _⟩ := h.1.2.2.2 (by omega)
 injection e with e
 injection e with e1 e2
 subst e1 e2
 obtain ⟨r, hr⟩ : ∃ r, l[i]? = some r := ⟨_, List.getElem?_eq_getElem hl⟩
 have hc : (l.map L.v)[i]? = some (L.v r) := by simp [hr]
 exact ⟨r, hr, h.1.cell hc, h.2 _ (List.mem_of_getElem? hr), hS, hb⟩
end
def OwnG {α : Type} (L : LK α) (w : World) (B : Nat) (el : TypeId) (A : Option Addr) (n c : Nat) (l : List α) : Prop := Own w B el 1 A n c (l.map L.v) ∧ ∀ f ∈ l, L.R w (fun b => notIn A b) f
section
variable {α : Type} {L : LK α} {w w' : World} {B : Nat} {el : TypeId} {A : Option Addr} {n c : Nat} {l : List α}
theorem OwnG.nil : OwnG L w B el none 0 0 [] := ⟨Own.nil, fun f hf => by cases hf⟩
theorem OwnG.ext (h : OwnG L w B el A n c l) (k : Ext w w') : OwnG L w' B el A n c l := ⟨h.1.ext k, fun f hf => L.ext (h.2 f hf) k⟩
theorem OwnG.len (h : OwnG L w B el A n c l) : l.length = n := by have := h.1.1; simp at this; omega
theorem OwnG.lkm (h : OwnG L w B el A n c l) : l.length = n ∧ n ≤ c ∧ c ≤ 9223372036854775807 := ⟨h.len, h.1.cap, h.1.max⟩
theorem OwnG.list (h : OwnG L w B el A n c l) : GListR L w (fun _ => True) A n c l := ⟨h.1.rd.sub fun _ _ _ => trivial, fun f hf => L.sub (h.2 f hf) fun _ _ _ => trivial⟩
end
section
variable {dfs : List Deferred} {P : Program} {n : Nat} {e : Nat → Value} {w : World} {K : Act → World → Prop} {Q : Exit → Act → World → Prop} {ty : TypeId} {pos : String} {af : Array Edge} {gd : Option (Nat × Bool)}
theorem oAppG {α : Type} {L : LK α} {d : Nat} {s x : Operand} {t el bt : TypeId} {zv : Value} {bytes B m c g : Nat} {A : Option Addr} {l : List α} {S : Nat → Prop} {f : α} (ht : P.underlying t = some (.slice el))
  (hi : (P.info? el).map (fun i => (i.zero, i.size, i.bytes)) = some (some zv, 1, bytes)) (hzv : zv.cells.size = 1) (hs : ev n e s = .slice A m c) (hx : ev n e x = .slice (some ⟨g, 0, none⟩) 1 1) (hO : OwnG L w B el A m c l) (hb : Blk w g bt [L.v f])
  (hp : L.R w S f) (hS : ∀ b, b < w.heap.size → S b → notIn A b) (hm : (m + 1) * bytes ≤ 140737488355328) (hm2 : m + 1 ≤ 9223372036854775807) (hB : B ≤ w.heap.size)
  (kk : ∀ A2 c2 w', OwnG L w' B el A2 (m + 1) c2 (l ++ [f]) → Frm (fun b => B ≤ b) w w' → (∀ G : Nat → Prop, (∀ b, G b → notIn A b) → Frm (fun b => ¬ G b) w w') → (∀ a, A2 = some a → A = some a ∨ w.heap.size ≤ a.block) → K (mkA dfs n (upd e d (.slice A2 (m + 1) c2))) w') :
  OpW P ⟨some d, .call { callee := .builtin .append, args := #[s, x], argTypes := #[t, t] }, ty, pos, af, gd⟩ (mkA dfs n e) w K Q := by
 refine oApp ht hi hzv (by decide) hs hx hO.1 hb rfl (by simp [L.one f]) hm hm2 hB fun A2 c2 w' hO' hF hF2 hnew => ?_
 have hk := hF2 (notIn A) fun _ h => h
 have key : ∀ {S : Nat → Prop} {a3 : α}, (∀ b, b < w.heap.size → S b → notIn A b) → L.R w S a3 → L.R w' (fun b => notIn A2 b) a3 := by
  intro S a3 hS h
  have h4 := L.frmB (L.sub (S' := fun b => notIn A b ∧ b < w.heap.size) h fun b hb hs => ⟨hS b hb hs, hb⟩) hk fun b _ hs hn => hn hs.1
  refine L.sub h4 fun b _ hb a ha => ?_
  rcases hnew a ha with h5 | h5
  ·exact hb.1 a h5
  ·have := hb.2; omega
 refine kk A2 c2 w' ⟨by rw [List.map_append]; exact hO', fun x hx => ?_⟩ hF hF2 hnew
 rcases List.mem_append.1 hx with h5 | h5
 ·exact key (fun _ _ h => h) (hO.2 x h5)
 ·simp at h5; subst h5; exact key hS hp
end
structure OwnT {α β : Type} (L : LK α) (L' : LK β) (w : World) (B : Nat) (el el' : TypeId) (A : Option Addr) (n c : Nat) (l : List α) (A' : Option Addr) (n' c' : Nat) (l' : List β) : Prop where
 a : Own w B el 1 A n c (l.map L.v)
 b : Own w B el' 1 A' n' c' (l'.map L'.v)
 ea : ∀ f ∈ l, L.R w (fun b => notIn A b ∧ notIn A' b) f
 eb : ∀ f ∈ l', L'.R w (fun b => notIn A b ∧ notIn A' b) f
 s : ∀ x y, A = some x → A' = some y → x.block ≠ y.block
section
variable {α β : Type} {L : LK α} {L' : LK β} {w w' : World} {B : Nat} {el el' : TypeId} {A A' : Option Addr} {n c n' c' : Nat} {l : List α} {l' : List β}
theorem OwnT.nil : OwnT L L' w B el el' none 0 0 [] none 0 0 [] := ⟨Own.nil, Own.nil, fun f hf => (by cases hf), fun f hf => (by cases hf), fun x y h => (by cases h)⟩
theorem OwnT.ext (h : OwnT L L' w B el el' A n c l A' n' c' l') (k : Ext w w') : OwnT L L' w' B el el' A n c l A' n' c' l' := ⟨h.a.ext k, h.b.ext k, fun f hf => L.ext (h.ea f hf) k, fun f hf => L'.ext (h.eb f hf) k, h.s⟩
theorem OwnT.swap (h : OwnT L L' w B el el' A n c l A' n' c' l') : OwnT L' L w B el' el A' n' c' l' A n c l :=
 ⟨h.b, h.a, fun f hf => L'.sub (h.eb f hf) fun _ _ hs => ⟨hs.2, hs.1⟩, fun f hf => L.sub (h.ea f hf) fun _ _ hs => ⟨hs.2, hs.1⟩, fun x y hx hy e => h.s y x hy hx e.symm⟩
theorem OwnT.left (h : OwnT L L' w B el el' A n c l A' n' c' l') : GListR L w (fun b => b < w.heap.size) A n c l := ⟨h.a.rd.sub fun _ hb _ => hb, fun f hf => L.sub (h.ea f hf) fun _ hb _ => hb⟩
theorem OwnT.right (h : OwnT L L' w B el el' A n c l A' n' c' l') : GListR L' w (fun b => b < w.heap.size) A' n' c' l' := h.swap.left
theorem OwnT.lkm (h : OwnT L L' w B el el' A n c l A' n' c' l') : (l.length = n ∧ n ≤ c ∧ c ≤ 9223372036854775807) ∧ l'.length = n' ∧ n' ≤ c' ∧ c' ≤ 9223372036854775807 := ⟨h.left.lkm, h.right.lkm⟩
end
section
variable {dfs : List Deferred} {P : Program} {n : Nat} {e : Nat → Value} {w : World} {K : Act → World → Prop} {Q : Exit → Act → World → Prop} {ty : TypeId} {pos : String} {af : Array Edge} {gd : Option (Nat × Bool)}
theorem oAppT {α β : Type} {L : LK α} {L' : LK β} {d : Nat} {s x : Operand} {t el el' bt : TypeId} {zv : Value} {bytes B m c n2 c2 g : Nat} {A A' : Option Addr} {l : List α} {l' : List β} {S : Nat → Prop} {f : α} (ht : P.underlying t = some (.slice el))
  (hi : (P.info? el).map (fun i => (i.zero, i.size, i.bytes)) = some (some zv, 1, bytes)) (hzv : zv.cells.size = 1) (hs : ev n e s = .slice A m c) (hx : ev n e x = .slice (some ⟨g, 0, none⟩) 1 1) (hO : OwnT L L' w B el el' A m c l A' n2 c2 l') (hb : Blk w g bt [L.v f])
  (hp : L.R w S f) (hS : ∀ b, b < w.heap.size → S b → notIn A b ∧ notIn A' b) (hm : (m + 1) * bytes ≤ 140737488355328) (hm2 : m + 1 ≤ 9223372036854775807) (hB : B ≤ w.heap.size)
  (kk : ∀ A2 c2' w', OwnT L L' w' B el el' A2 (m + 1) c2' (l ++ [f]) A' n2 c2 l' → Frm (fun b => B ≤ b) w w' → K (mkA dfs n (upd e d (.slice A2 (m + 1) c2'))) w') :
  OpW P ⟨some d, .call { callee := .builtin .append, args := #[s, x], argTypes := #[t, t] }, ty, pos, af, gd⟩ (mkA dfs n e) w K Q := by
 refine oApp ht hi hzv (by decide) hs hx hO.a hb rfl (by simp [L.one f]) hm hm2 hB fun A2 c2' w' hO' hF hF2 hnew => ?_
 have hk := hF2 (notIn A) fun _ h => h
 have key : ∀ {γ : Type} {M : LK γ} {S : Nat → Prop} {a3 : γ}, (∀ b, b < w.heap.size → S b → notIn A b ∧ notIn A' b) → M.R w S a3 → M.R w' (fun b => notIn A2 b ∧ notIn A' b) a3 := by
  intro γ M S a3 hS h
  have h4 := M.frmB (M.sub (S' := fun b => (notIn A b ∧ notIn A' b) ∧ b < w.heap.size) h fun b hb hs => ⟨hS b hb hs, hb⟩) hk fun b _ hs hn => hn hs.1.1
  refine M.sub h4 fun b _ hb => ⟨fun a ha => ?_, hb.1.2⟩
  rcases hnew a ha with h5 | h5
  ·exact hb.1.1 a h5
  ·have := hb.2; omega
 refine kk A2 c2' w' ⟨by rw [List.map_append]; exact hO', ?_, fun x hx => ?_, fun x hx => key (fun _ _ h => h) (hO.eb x hx), fun x y hx hy => ?_⟩ hF
 ·refine ⟨hO.b.1, ?_⟩
  rcases hO.b.2 with h1 | ⟨g', cap, cur, hv, hb', hg, rest⟩
  ·exact .inl h1
  ·have hlt := (Array.getElem?_eq_some_iff.1 hg).1
   refine .inr ⟨g', cap, cur, hv, hb', (hk.block g' hlt fun hn => hn fun a ha => ?_).trans hg, rest⟩
   injection hv with e1 e2 e3
   subst e1
   exact hO.s a _ ha rfl
 ·rcases List.mem_append.1 hx with h5 | h5
  ·exact key (fun _ _ h => h) (hO.ea x h5)
  ·simp at h5; subst h5; exact key hS hp
 ·rcases hnew x hx with h5 | h5
  ·exact hO.s x y h5 hy
  ·have := (hO.b.lt y hy).2; omega
end
def LP (M : Nat) : LK PE := ⟨fun f => .slice f.A f.n f.c, fun w S f => PolyR w S f.A f.n f.c f.l M, fun _ => rfl, fun h f hd => h.frmB f hd, fun h f => h.ext f, fun h hs => h.sub hs⟩
theorem GListR.polys {w : World} {S : Nat → Prop} {A : Option Addr} {n c M : Nat} {l : List PE} (h : GListR (LP M) w S A n c l) : PolysR w S A n c l M := h
end Go.Gx

/-
 One step of the lift: the next factors and cofactors. Plain numbers; no program in sight.
-/
namespace Go.Gx
def missZ (m : Nat) (x : Int) (f : List Int) (lead : Int) (prod : List Int) : List Int := redZ m (trimZ (scaleP (redZ m (trimZ (psub f (trimZ (scaleP prod lead))))) x))
def nxt0 (m : Nat) (ms g s : List Int) : List Int := redZ m (trimZ (padd g (remZ m (trimZ (pmul s ms)) g)))
def exZ (m : Nat) (one : List Int) : List Int := redZ m (trimZ (psub one (trimZ [1])))
def nxt1 (m : Nat) (ex s g : List Int) : List Int := redZ m (trimZ (psub s (remZ m (trimZ (pmul s ex)) g)))
def step0 (m : Nat) (x : Int) (f : List Int) (gs ss : List (List Int)) : List (List Int) := (gs.zip ss).map fun p => nxt0 m (missZ m x f (ldP f) (sumZ m gs ss).2) p.1 p.2
def step1 (m : Nat) (x : Int) (f : List Int) (gs ss : List (List Int)) : List (List Int) := (ss.zip (step0 m x f gs ss)).map fun p => nxt1 m (exZ m (sumZ m (step0 m x f gs ss) ss).1) p.1 p.2
def zsL (l : List PE) : List (List Int) := l.map fun f => zs f.l
theorem zmap_next {F : List Int × List Int → List Int} {fl gl fo : List PE} {f g r : PE} {i : Nat} (h : zsL fo = ((zsL (fl.take i)).zip (zsL (gl.take i))).map F) (h1 : fl[i]? = some f) (h2 : gl[i]? = some g) (hr : zs r.l = F (zs f.l, zs g.l)) :
  zsL (fo ++ [r]) = ((zsL (fl.take (i + 1))).zip (zsL (gl.take (i + 1)))).map F := by
 have e1 : (zsL fl)[i]? = some (zs f.l) := by simp [zsL, h1]
 have e2 : (zsL gl)[i]? = some (zs g.l) := by simp [zsL, h2]
 unfold zsL at h e1 e2 ⊢
 rw [List.map_append, h, List.map_take, List.map_take, List.map_take, List.map_take, zip_next e1 e2, List.map_append, List.map_cons, List.map_nil, List.map_cons, List.map_nil, hr]
theorem zmap_end {F : List Int × List Int → List Int} {fl gl fo : List PE} {i : Nat} (h : zsL fo = ((zsL (fl.take i)).zip (zsL (gl.take i))).map F) (h1 : fl.length ≤ i) (h2 : gl.length ≤ i) : zsL fo = ((zsL fl).zip (zsL gl)).map F := by
 rw [h, List.take_of_length_le h1, List.take_of_length_le h2]
theorem lenL_snoc {N : Nat} {fo : List PE} {r : PE} (h : ∀ x ∈ fo, x.n ≤ N) (hr : r.n ≤ N) : ∀ x ∈ fo ++ [r], x.n ≤ N := fun x hx => by
 rcases List.mem_append.1 hx with h1 | h1
 ·exact h x h1
 ·simp at h1; subst h1; exact hr
end Go.Gx

/-
 A list of polynomials that grows and is held in a cell of a known block. No program in sight.
-/
namespace Go.Gx
open Go.RowKit
def LPx (M g : Nat) : LK PE := ⟨fun f => .slice f.A f.n f.c, fun w S f => PolyR w (fun b => S b ∧ g < b) f.A f.n f.c f.l M, fun _ => rfl, fun h f hd => h.frmB f fun b hb hs => hd b hb hs.1, fun h f => h.ext f, fun h hs => h.sub fun b hb h1 => ⟨hs b hb h1.1, h1.2⟩⟩
def OwnX (M g : Nat) (w : World) (B : Nat) (el : TypeId) (A : Option Addr) (n c : Nat) (l : List PE) : Prop := g < B ∧ OwnG (LPx M g) w B el A n c l
section
variable {M g : Nat} {w w' : World} {B : Nat} {el : TypeId} {A : Option Addr} {n c : Nat} {l : List PE} {G : Nat → Prop}
theorem OwnX.nil (h : g < B) : OwnX M g w B el none 0 0 [] := ⟨h, OwnG.nil⟩
theorem OwnX.ext (h : OwnX M g w B el A n c l) (k : Ext w w') : OwnX M g w' B el A n c l := ⟨h.1, h.2.ext k⟩
theorem OwnX.frmB (h : OwnX M g w B el A n c l) (f : Frm G w w') (hd : ∀ b, b < w.heap.size → g < b → ¬ G b) : OwnX M g w' B el A n c l :=
 ⟨h.1, h.2.1.frmG f fun b hb hB => hd b hb (by have := h.1; omega), fun x hx => PolyR.frmB (h.2.2 x hx) f fun b hb hs => hd b hb hs.2⟩
theorem OwnX.lkm (h : OwnX M g w B el A n c l) : l.length = n ∧ n ≤ c ∧ c ≤ 9223372036854775807 := h.2.lkm
theorem OwnX.polys (h : OwnX M g w B el A n c l) : PolysR w (fun b => g < b ∧ b < w.heap.size) A n c l M :=
 GListR.polys ⟨h.2.1.rd.sub fun b hb hB => ⟨by have := h.1; omega, hb⟩, fun f hf => PolyR.sub (h.2.2 f hf) fun b hb hs => ⟨hs.2, hb⟩⟩
end
end Go.Gx

/-
 Elements of arrays that are values. No program in sight.
-/
namespace Go.Gx
open Go.RowKit
variable {dfs : List Deferred}
section
variable {P : Program} {n : Nat} {e : Nat → Value} {w : World} {ty : TypeId} {pos : String} {af : Array Edge} {gd : Option (Nat × Bool)}
theorem evIdxA {d : Option Nat} {t el : TypeId} {len : Nat} {cs : Array Value} {v : Value} {x y : Operand} {k : IntKind} {z : Int} (i : Nat) (ht : P.underlying t = some (.array len el)) (h1 : oneB P el = true) (hs : ∀ w, (sizeOf el).run P w = .ok 1 w)
  (hx : ev n e x = .agg cs) (hy : ev n e y = .int k z) (hz : z = (i : Int)) (hi : i < len) (hc : cs[i]? = some v) : Ev P n e ⟨d, .index t x y, ty, pos, af, gd⟩ w v := by
 subst hz
 have hn : (0 : Int) ≤ (i : Int) ∧ (i : Int) < (len : Int) := by omega
 simp [Ev, execOp, hx, hy, Instr.index, asIntOf, run_underlying ht, hn, hs, part, run_isAgg_one h1, hc]
 intro h; omega
theorem res4 {f : ResultVar → Sem Value} {r s t q : ResultVar} {v u x y : Value} (h : (f r).run P w = .ok v w) (h' : (f s).run P w = .ok u w) (h'' : (f t).run P w = .ok x w) (h3 : (f q).run P w = .ok y w) :
  ((do let vs ← #[r, s, t, q].mapM f; pure (if h : vs.size = 1 then vs[0] else .tuple vs)) : Sem Value).run P w = .ok (.tuple #[v, u, x, y]) w := by
 simp [h, h', h'', h3]
theorem ret4 {fn : Func} {φ : Value → World → Prop} {r s t q : ResultVar} (v u x y : Value) (hr : fn.results = #[r, s, t, q]) (h1 : ResIs P n e w r v) (h2 : ResIs P n e w s u) (h3 : ResIs P n e w t x) (h4 : ResIs P n e w q y)
  (h : φ (.tuple #[v, u, x, y]) w) : bodyPost P fn (Ret φ) .ret (mkA [] n e) w := by
 refine ⟨defers_mkA _ _, _, ?_, _, rfl, h⟩
 unfold results
 rw [hr]
 refine res4 ?_ ?_ ?_ ?_
 ·cases r with
  | tmp t => simp only [ResIs] at h1; simp [getD2, h1]
  | cell a t => obtain ⟨p, hp, hl⟩ := h1; simp [getD2, hp, asAddr_ptr, hl]
 ·cases s with
  | tmp t => simp only [ResIs] at h2; simp [getD2, h2]
  | cell a t => obtain ⟨p, hp, hl⟩ := h2; simp [getD2, hp, asAddr_ptr, hl]
 ·cases t with
  | tmp t => simp only [ResIs] at h3; simp [getD2, h3]
  | cell a t => obtain ⟨p, hp, hl⟩ := h3; simp [getD2, hp, asAddr_ptr, hl]
 ·cases q with
  | tmp t => simp only [ResIs] at h4; simp [getD2, h4]
  | cell a t => obtain ⟨p, hp, hl⟩ := h4; simp [getD2, hp, asAddr_ptr, hl]
theorem idx_u32 {cs : Array Value} {l : List Nat} {i : Nat} (h : cs = (l.map fun a => Value.int .u32 ((a : Nat) : Int)).toArray) (hi : i < l.length) : cs[i]? = some (.int .u32 ((l.getD i 0 : Nat) : Int)) := by
 subst h
 simp [List.getD, List.getElem?_eq_getElem hi]
end
end Go.Gx

/-
 The table of trailing zeros; the primes up to 13. No program in sight.
-/
namespace Go.Gx
open Go.RowKit
def tabL : List Nat := [0, 1, 28, 2, 29, 14, 24, 3, 30, 22, 20, 15, 25, 17, 4, 8, 31, 27, 13, 23, 21, 19, 16, 7, 26, 12, 18, 6, 11, 5, 10, 9]
def u8v (x : Nat) : Value := .int .u8 (x : Int)
def TabR (w : World) : Prop := Rd w (fun b => b = 0) (some ⟨0, 0, none⟩) 32 32 1 (tabL.map u8v)
section
variable {w w' : World} {G : Nat → Prop}
theorem TabR.frmB (h : TabR w) (f : Frm G w w') (hd : ∀ b, b < w.heap.size → b = 0 → ¬ G b) : TabR w' := Rd.frmB h f hd
theorem TabR.ext (h : TabR w) (f : Ext w w') : TabR w' := Rd.ext h f
theorem TabR.lt0 (h : TabR w) : 0 < w.heap.size := by
 obtain ⟨b, off, _, hb, hl, _⟩ := h.2.2.2 (by omega)
 omega
theorem TabR.cell {i x : Nat} (h : TabR w) (hi : tabL[i]? = some x) : w.cell? ⟨0, i, none⟩ = some (.int .u8 (x : Int)) := by
 have h1 := Rd.cell h (j := i) (v := u8v x) (by simp [hi])
 rw [Nat.zero_add] at h1
 exact h1
end
def tzA (n : Nat) : Nat := if n = 10 then 2 else 4
def tzB (n : Nat) : Nat := if n = 10 then 251226722 else 502453444
def tzN (n : Nat) : Nat := if n = 10 then 1 else 2
theorem tz_facts {n : Nat} (h : n = 10 ∨ n = 12) : (BitVec.ofNat 32 n &&& BitVec.ofNat 32 (4294967296 - n)).toNat = tzA n ∧ tzA n * 125613361 = tzB n ∧ tzB n < 4294967296 ∧ tzB n / 2 ^ 27 < 32 ∧ tabL[tzB n / 2 ^ 27]? = some (tzN n) ∧ tzN n ≤ 2 ∧ tzA n < 8 := by
 rcases h with rfl | rfl <;> decide
theorem prime6 {n i : Nat} (hp : n = 2 ∨ n = 3 ∨ n = 5 ∨ n = 7 ∨ n = 11 ∨ n = 13) (hi : i < 5) (h : n % [2, 3, 5, 7, 61].getD i 0 = 0) : n = [2, 3, 5, 7, 61].getD i 0 := by
 have h5 : i = 0 ∨ i = 1 ∨ i = 2 ∨ i = 3 ∨ i = 4 := by omega
 rcases h5 with rfl | rfl | rfl | rfl | rfl <;> rcases hp with rfl | rfl | rfl | rfl | rfl | rfl <;> revert h <;> decide
theorem prime6_left {n i : Nat} (hp : n = 2 ∨ n = 3 ∨ n = 5 ∨ n = 7 ∨ n = 11 ∨ n = 13) (hi : 5 ≤ i) (hj : ∀ j, j < i → n % [2, 3, 5, 7, 61].getD j 0 ≠ 0) : n = 11 ∨ n = 13 := by
 rcases hp with rfl | rfl | rfl | rfl | h
 ·exact (hj 0 (by omega) (by decide)).elim
 ·exact (hj 1 (by omega) (by decide)).elim
 ·exact (hj 2 (by omega) (by decide)).elim
 ·exact (hj 3 (by omega) (by decide)).elim
 ·exact h
theorem prob_ok {n b t x : Nat} (h : n = 11 ∧ t = 1 ∨ n = 13 ∧ t = 2) (hb : b = 2 ∨ b = 7 ∨ b = 61) (hx : x = b ^ ((n - 1) / 2 ^ t) % n) : n = 11 ∧ t = 1 ∧ x = 10 ∨ n = 13 ∧ t = 2 ∧ (x = 1 ∨ x = 12 ∨ x * x % 13 = 12) := by
 rcases h with ⟨rfl, rfl⟩ | ⟨rfl, rfl⟩ <;> rcases hb with rfl | rfl | rfl <;> subst hx <;> decide
theorem base3 {i : Nat} (h : i < 3) : [2, 7, 61].getD i 0 = 2 ∨ [2, 7, 61].getD i 0 = 7 ∨ [2, 7, 61].getD i 0 = 61 := by
 have h3 : i = 0 ∨ i = 1 ∨ i = 2 := by omega
 rcases h3 with rfl | rfl | rfl <;> decide
theorem powm_odd {a n r m X s q : Nat} (h : r * a ^ n % m = X) (ho : n % 2 ≠ 0) (es : s = r * a % m) (eq : q = a * a % m) : s * q ^ (n / 2 ^ 1) % m = X := by
 subst es eq
 rw [← h, Nat.pow_one]
 have e : n = 2 * (n / 2) + 1 := by omega
 have h1 : r * a % m * (a * a % m) ^ (n / 2) % m = r * a * (a * a) ^ (n / 2) % m := by
  rw [Nat.mul_mod (r * a % m), Nat.mod_mod, ← Nat.pow_mod, ← Nat.mul_mod]
 rw [h1]
 conv => rhs; rw [e, Nat.pow_succ, Nat.pow_mul, Nat.pow_two]
 congr 1
 grind
theorem powm_even {a n r m X q : Nat} (h : r * a ^ n % m = X) (ho : ¬ n % 2 ≠ 0) (eq : q = a * a % m) : r * q ^ (n / 2 ^ 1) % m = X := by
 subst eq
 have e : n = 2 * (n / 2) := by omega
 rw [← h, Nat.pow_one, Nat.mul_mod, ← Nat.pow_mod, ← Nat.mul_mod]
 conv => rhs; rw [e, Nat.pow_mul]
 rw [Nat.pow_two]
section
variable {P : Program} {n : Nat} {e : Nat → Value} {w : World} {ty : TypeId} {pos : String} {af : Array Edge} {gd : Option (Nat × Bool)}
theorem evAndOneU {d : Option Nat} {t t' : TypeId} {x y : Operand} {a : Nat} (hx : ev n e x = .int .u64 (a : Int)) (hy : ev n e y = .int .u64 1) (ha : a < 18446744073709551616) :
  Ev P n e ⟨d, .binOp .and t x y t', ty, pos, af, gd⟩ w (.int .u64 ((a % 2 : Nat) : Int)) := by
 have e1 : (Op.intBits .and .u64 (a : Int) 1) = pure (.int .u64 (IntKind.u64.wrap ((BitVec.ofInt 64 (a : Int) &&& BitVec.ofInt 64 1).toNat : Int))) := rfl
 have e2 : (BitVec.ofInt 64 (a : Int) &&& BitVec.ofInt 64 1).toNat = a % 2 := by
  have h1 : BitVec.ofInt 64 (a : Int) = BitVec.ofNat 64 a := by simp
  have h2 : BitVec.ofInt 64 1 = BitVec.ofNat 64 1 := by decide
  rw [h1, h2, BitVec.toNat_and, BitVec.toNat_ofNat, BitVec.toNat_ofNat, Nat.mod_eq_of_lt (by omega)]
  exact Nat.and_one_is_mod a
 rw [e2, wU64 (z := ((a % 2 : Nat) : Int)) ⟨rfl, by omega, by omega⟩] at e1
 simp only [Ev, execOp, hx, hy, eqGuard, binOp, e1]
 simp
end
end Go.Gx

/-
 Products of polynomials, cell by cell. Plain numbers; no program in sight.
-/
namespace Go.Gx
def mulI (f g : List Int) (i k j : Nat) : Int := co (pmul (f.take i) g) j + (if i ≤ j ∧ j - i < k then co f i * co g (j - i) else 0)
theorem mulI_start (f g : List Int) (j : Nat) : mulI f g 0 0 j = 0 := by
 unfold mulI
 rw [if_neg (by omega), co_pmul, List.take_zero, show conv [] g j = 0 from rsum_zero fun i _ => by simp]
 rfl
theorem mulI_row {f g : List Int} {i : Nat} (j : Nat) : mulI f g i g.length j = mulI f g (i + 1) 0 j := by
 unfold mulI
 rw [if_neg (c := i + 1 ≤ j ∧ j - (i + 1) < 0) (by omega), co_pmul, co_pmul, Int.add_zero]
 have h1 : conv (f.take (i + 1)) g j = rsum (fun a => co (f.take i) a * co g (j - a) + (if a = i then co f i * co g (j - i) else 0)) (j + 1) := by
  refine rsum_congr fun a ha => ?_
  show co (f.take (i + 1)) a * co g (j - a) = co (f.take i) a * co g (j - a) + _
  rw [co_takeZ, co_takeZ]
  by_cases h : a = i
  ·subst h; rw [if_pos (by omega), if_neg (by omega), if_pos rfl]; omega
  ·rw [if_neg h]
   by_cases h2 : a < i
   ·rw [if_pos (by omega), if_pos h2]; omega
   ·rw [if_neg (by omega), if_neg h2]; omega
 rw [h1, rsum_add]
 congr 1
 by_cases hij : i ≤ j
 ·rw [rsum_single (j := i) (by omega) fun a _ hne => if_neg hne, if_pos rfl]
  split
  ·rfl
  ·rename_i h
   rw [co_ge (f := g) (i := j - i) (by omega), Int.mul_zero]
 ·rw [if_neg (by omega), rsum_zero fun a ha => if_neg (by omega)]
end Go.Gx

/-
 Products and quotients of polynomials modulo a number. Plain numbers; no program in sight.
-/
namespace Go.Gx
theorem getD_set (l : List Nat) {i : Nat} (v j : Nat) (hi : i < l.length) : (l.set i v).getD j 0 = if j = i then v else l.getD j 0 := by
 simp only [List.getD, List.getElem?_set]
 by_cases h : i = j
 ·subst h; simp [hi]
 ·rw [if_neg h, if_neg (Ne.symm h)]
theorem mulP_zero {p : Nat} {f g : List Int} (m j : Nat) : (List.replicate m 0).getD j 0 = md p (mulI f g 0 0 j) := by
 rw [mulI_start]
 have : md p 0 = 0 := by simp [md]
 rw [this]
 simp only [List.getD, List.getElem?_replicate]
 split <;> rfl
theorem mulP_cell {p : Nat} (hp : 0 < p) {f g : List Int} {o : List Nat} {i k v a b : Nat} (h : ∀ j, o.getD j 0 = md p (mulI f g i k j)) (hk : i + k < o.length) (hv : v = (o.getD (i + k) 0 + a * b % p) % p) (ha : co f i = a) (hb : co g k = b) : ∀ j, (o.set (i + k) v).getD j 0 = md p (mulI f g i (k + 1) j) := fun j => by
 rw [getD_set _ _ _ hk]
 by_cases hj : j = i + k
 ·subst hj
  rw [if_pos rfl, hv, h]
  refine md_is (Nat.mod_lt _ hp) ((cg_mod _).trans ?_)
  rw [Int.natCast_add]
  have e : mulI f g i (k + 1) (i + k) = mulI f g i k (i + k) + (a : Int) * b := by
   unfold mulI
   rw [if_pos (by omega), if_neg (by omega), show i + k - i = k by omega, ha, hb]; omega
  rw [e]
  refine (cg_md hp _).add ((cg_mod _).trans ?_)
  rw [Int.natCast_mul]; exact Cg.refl p _
 ·rw [if_neg hj, h]
  congr 1
  unfold mulI
  by_cases h1 : i ≤ j ∧ j - i < k
  ·rw [if_pos h1, if_pos (by omega)]
  ·rw [if_neg h1, if_neg (by omega)]
theorem mulP_next {p : Nat} {f g : List Int} {o : List Nat} {i : Nat} (h : ∀ j, o.getD j 0 = md p (mulI f g i g.length j)) : ∀ j, o.getD j 0 = md p (mulI f g (i + 1) 0 j) := fun j => by rw [h, mulI_row]
theorem list_eq {a b : List Nat} (hl : a.length = b.length) (h : ∀ i, a.getD i 0 = b.getD i 0) : a = b := by
 apply List.ext_getElem hl
 intro i h1 h2
 have := h i
 simpa [List.getD, List.getElem?_eq_getElem h1, List.getElem?_eq_getElem h2] using this
theorem getD_mapZ {p : Nat} (l : List Int) (i : Nat) (h0 : md p 0 = 0) : (l.map (md p)).getD i 0 = md p (co l i) := by
 simp only [co, List.getD, List.getElem?_map]
 cases l[i]? with
 | none => exact h0.symm
 | some x => rfl
theorem md_zero (p : Nat) : md p 0 = 0 := by simp [md]
theorem mulP_end {p : Nat} {f g : List Int} {o : List Nat} {i : Nat} (h : ∀ j, o.getD j 0 = md p (mulI f g i 0 j)) (hi : f.length ≤ i) (hl : o.length = f.length + g.length - 1) (hf : f.length ≠ 0) (hg : g.length ≠ 0) : trimN o = redP p (pmul f g) := by
 unfold redP
 congr 1
 refine list_eq ?_ fun j => ?_
 ·rw [List.length_map, hl]; unfold pmul; rw [if_neg (by omega)]; simp
 ·rw [h, getD_mapZ _ _ (md_zero p)]
  unfold mulI
  rw [if_neg (by omega), List.take_of_length_le hi, Int.add_zero]
def nrmP (p : Nat) (f : List Nat) : List Nat := trimN (f.map (· % p))
theorem nrmP_red {p : Nat} (f : List Nat) : nrmP p f = redP p (zl f) := by
 unfold nrmP redP zl
 rw [List.map_map]
 rfl
end Go.Gx

/-
 Division, greatest common divisors and cofactors of polynomials modulo a prime, as the program reckons them. Plain numbers; no program in sight.
-/
namespace Go.Gx
def PrimeN (p : Nat) : Prop := 2 ≤ p ∧ ∀ a, 0 < a → a < p → Nat.gcd a p = 1
def addAt (p : Nat) (g : List Nat) (n c k : Nat) (r : List Nat) : List Nat := (List.range r.length).map fun i => if n ≤ i ∧ i - n < k then (r.getD i 0 + c * g.getD (i - n) 0 % p) % p else r.getD i 0
theorem addAt_len {p n c k : Nat} {g r : List Nat} : (addAt p g n c k r).length = r.length := by simp [addAt]
theorem addAt_getD {p n c k : Nat} {g r : List Nat} (i : Nat) (hi : i < r.length) : (addAt p g n c k r).getD i 0 = if n ≤ i ∧ i - n < k then (r.getD i 0 + c * g.getD (i - n) 0 % p) % p else r.getD i 0 := by
 simp only [addAt]
 rw [List.getD, List.getElem?_map, List.getElem?_range hi]
 rfl
theorem addAt_zero {p n c : Nat} {g r : List Nat} : addAt p g n c 0 r = r := by
 refine list_eq addAt_len fun i => ?_
 rcases Nat.lt_or_ge i r.length with h | h
 ·rw [addAt_getD i h, if_neg (by omega)]
 ·simp [List.getD, List.getElem?_eq_none, addAt_len, h]
theorem addAt_step {p n c k v : Nat} {g r : List Nat} (hk : n + k < r.length) (hv : v = ((addAt p g n c k r).getD (n + k) 0 + c * g.getD k 0 % p) % p) : (addAt p g n c k r).set (n + k) v = addAt p g n c (k + 1) r := by
 refine list_eq (by simp [addAt_len]) fun i => ?_
 rw [getD_set _ _ _ (by rw [addAt_len]; exact hk)]
 rcases Nat.lt_or_ge i r.length with h | h
 ·by_cases hi : i = n + k
  ·subst hi
   rw [if_pos rfl, hv, addAt_getD (k := k) _ hk, if_neg (by omega), addAt_getD (k := k + 1) _ hk, if_pos (by omega), show n + k - n = k by omega]
  ·rw [if_neg hi, addAt_getD (k := k) i h, addAt_getD (k := k + 1) i h]
   by_cases h1 : n ≤ i ∧ i - n < k
   ·rw [if_pos h1, if_pos (by omega)]
   ·rw [if_neg h1, if_neg (by omega)]
 ·rw [if_neg (by omega)]
  simp [List.getD, List.getElem?_eq_none, addAt_len, h]
theorem addAt_lt {p n c k : Nat} {g r : List Nat} (hr : ∀ d ∈ r, d < p) (hp : 0 < p) : ∀ d ∈ addAt p g n c k r, d < p := fun d hd => by
 obtain ⟨i, hi, rfl⟩ := List.getElem_of_mem hd
 have hi2 : i < r.length := by rw [← addAt_len (p := p) (n := n) (c := c) (k := k) (g := g)]; exact hi
 have h := addAt_getD (p := p) (n := n) (c := c) (k := k) (g := g) i hi2
 rw [List.getD, List.getElem?_eq_getElem hi, Option.getD_some] at h
 rw [h]
 split
 ·exact Nat.mod_lt _ hp
 ·rw [List.getD, List.getElem?_eq_getElem hi2, Option.getD_some]; exact hr _ (List.getElem_mem hi2)
def divGo (p inv : Nat) (g : List Nat) : Nat → List Nat × List Nat → List Nat × List Nat
 | 0, s => s
 | n + 1, (q, r) => let c := r.getD (n + (g.length - 1)) 0 * inv % p; divGo p inv g n (q.set n c, if c = 0 then r else addAt p g n (p - c) g.length r)
def divP (p : Nat) (f g : List Nat) : List Nat × List Nat :=
 if f.length ≤ g.length - 1 then ([], f)
 else let s := divGo p (invN p (g.getD (g.length - 1) 0)) g (f.length - (g.length - 1)) (List.replicate (f.length - (g.length - 1)) 0, f); (trimN s.1, trimN s.2)
theorem divGo_len {p inv : Nat} {g : List Nat} : ∀ (n : Nat) (q r : List Nat), (divGo p inv g n (q, r)).1.length = q.length ∧ (divGo p inv g n (q, r)).2.length = r.length
 | 0, q, r => ⟨rfl, rfl⟩
 | n + 1, q, r => by
  rw [divGo]
  have ⟨h1, h2⟩ := divGo_len (p := p) (inv := inv) (g := g) n (q.set n (r.getD (n + (g.length - 1)) 0 * inv % p)) (if r.getD (n + (g.length - 1)) 0 * inv % p = 0 then r else addAt p g n (p - r.getD (n + (g.length - 1)) 0 * inv % p) g.length r)
  refine ⟨h1.trans (by simp), h2.trans ?_⟩
  split
  ·rfl
  ·exact addAt_len
theorem divGo_lt {p inv : Nat} {g : List Nat} (hp : 0 < p) : ∀ (n : Nat) (q r : List Nat), (∀ d ∈ q, d < p) → (∀ d ∈ r, d < p) → (∀ d ∈ (divGo p inv g n (q, r)).1, d < p) ∧ ∀ d ∈ (divGo p inv g n (q, r)).2, d < p
 | 0, q, r, h1, h2 => ⟨h1, h2⟩
 | n + 1, q, r, h1, h2 => by
  rw [divGo]
  refine divGo_lt hp n _ _ (fun d hd => ?_) fun d hd => ?_
  ·rcases List.mem_or_eq_of_mem_set hd with h | h
   ·exact h1 d h
   ·rw [h]; exact Nat.mod_lt _ hp
  ·split at hd
   ·exact h2 d hd
   ·exact addAt_lt h2 hp d hd
theorem bez (a b : Nat) : ∃ u v : Int, u * a + v * b = (Nat.gcd a b : Nat) := by
 induction a using Nat.strongRecOn generalizing b with
 | ind a ih =>
  rcases Nat.eq_zero_or_pos a with h | h
  ·subst h; exact ⟨0, 1, by simp⟩
  ·obtain ⟨u, v, e⟩ := ih (b % a) (Nat.mod_lt _ h) a
   rw [← Nat.gcd_rec] at e
   refine ⟨v - u * (b / a : Nat), u, ?_⟩
   have hm : ((a * (b / a) + b % a : Nat) : Int) = b := by rw [Nat.div_add_mod]
   simp only [Int.natCast_add, Int.natCast_mul] at hm
   rw [← e]
   grind
theorem invN_spec {p a : Nat} (hp : PrimeN p) (ha : 0 < a) (hap : a < p) : invN p a < p ∧ a * invN p a % p = 1 := by
 have hg := hp.2 a ha hap
 have h2 := hp.1
 obtain ⟨u, v, e⟩ := bez a p
 rw [hg] at e
 have h1 : a * md p u % p = 1 % p := by
  rw [md_mul (by omega), Nat.mod_eq_of_lt (by omega : 1 < p)]
  have c : Cg p ((a : Int) * (md p u : Nat)) 1 := (Cg.mul (Cg.refl p _) (cg_md (by omega) u)).trans ⟨-v, by grind⟩
  rw [md_cg (by omega) c]
  exact md_self (r := 1) (by omega)
 have h3 := invN_eq (by omega) (md_lt (by omega) u) h1
 rw [h3]
 exact ⟨md_lt (by omega) u, by rw [h1, Nat.mod_eq_of_lt (by omega)]⟩
theorem divGo_top {p : Nat} {g : List Nat} (hp : PrimeN p) (hg : 0 < g.length) (hl : 0 < g.getD (g.length - 1) 0) (hlt : ∀ d ∈ g, d < p) : ∀ (n : Nat) (q r : List Nat), (∀ d ∈ r, d < p) → r.length = n + (g.length - 1) ∨ n + (g.length - 1) ≤ r.length → (∀ i, n + (g.length - 1) ≤ i → r.getD i 0 = 0) →
  ∀ i, g.length - 1 ≤ i → (divGo p (invN p (g.getD (g.length - 1) 0)) g n (q, r)).2.getD i 0 = 0
 | 0, q, r, _, _, h => fun i hi => h i (by omega)
 | n + 1, q, r, hr, hrl, h => by
  rw [divGo]
  have hp2 := hp.1
  have hgl : g.getD (g.length - 1) 0 < p := by
   rw [List.getD, List.getElem?_eq_getElem (by omega), Option.getD_some]; exact hlt _ (List.getElem_mem _)
  have ⟨hi1, hi2⟩ := invN_spec hp hl hgl
  have hrlen : n + (g.length - 1) < r.length := by omega
  refine divGo_top hp hg hl hlt n _ _ ?_ ?_ ?_
  ·split
   ·exact hr
   ·exact addAt_lt hr (by omega)
  ·right
   split
   ·omega
   ·rw [addAt_len]; omega
  ·intro i hi
   have hrn : r.getD (n + (g.length - 1)) 0 < p := by
    rw [List.getD, List.getElem?_eq_getElem hrlen, Option.getD_some]; exact hr _ (List.getElem_mem _)
   split
   ·rename_i hc
    rcases Nat.lt_or_ge (n + (g.length - 1)) i with h1 | h1
    ·exact h i (by omega)
    ·obtain rfl : i = n + (g.length - 1) := by omega
     -- r * inv = 0 means r = 0
     have c1 : Cg p ((r.getD (n + (g.length - 1)) 0 : Nat) : Int) 0 := by
      have a1 : Cg p (((r.getD (n + (g.length - 1)) 0 : Nat) : Int) * (invN p (g.getD (g.length - 1) 0) : Nat)) 0 := by
       have := (cg_mod (p := p) (r.getD (n + (g.length - 1)) 0 * invN p (g.getD (g.length - 1) 0))).symm
       rw [hc] at this
       simpa using this
      have a2 : Cg p (((g.getD (g.length - 1) 0 : Nat) : Int) * (invN p (g.getD (g.length - 1) 0) : Nat)) 1 := by
       have := (cg_mod (p := p) (g.getD (g.length - 1) 0 * invN p (g.getD (g.length - 1) 0))).symm
       rw [hi2] at this
       simpa using this
      have a3 := Cg.mul (Cg.refl p ((r.getD (n + (g.length - 1)) 0 : Nat) : Int)) a2
      have a4 := Cg.mul a1 (Cg.refl p ((g.getD (g.length - 1) 0 : Nat) : Int))
      rw [Int.mul_one] at a3
      refine a3.symm.trans ?_
      rw [Int.zero_mul] at a4
      rw [show ∀ x y z : Int, x * (y * z) = x * z * y by intros; grind]
      exact a4
     have := (md_self hrn).symm.trans (md_cg (by omega) c1)
     rw [this, md_zero]
   ·rcases Nat.lt_or_ge i r.length with h0 | h0
    ·rw [addAt_getD i h0]
     rcases Nat.lt_or_ge (n + (g.length - 1)) i with h1 | h1
     ·rw [if_neg (by omega)]; exact h i (by omega)
     ·obtain rfl : i = n + (g.length - 1) := by omega
      rw [if_pos (by omega), show n + (g.length - 1) - n = g.length - 1 by omega]
      generalize hcc : r.getD (n + (g.length - 1)) 0 * invN p (g.getD (g.length - 1) 0) % p = c
      have hcp : c < p := by rw [← hcc]; exact Nat.mod_lt _ (by omega)
      have a1 : Cg p ((c : Nat) : Int) (((r.getD (n + (g.length - 1)) 0 : Nat) : Int) * (invN p (g.getD (g.length - 1) 0) : Nat)) := by
       rw [← hcc]; refine (cg_mod _).trans ?_; rw [Int.natCast_mul]; exact Cg.refl p _
      have a2 : Cg p (((g.getD (g.length - 1) 0 : Nat) : Int) * (invN p (g.getD (g.length - 1) 0) : Nat)) 1 := by
       have := (cg_mod (p := p) (g.getD (g.length - 1) 0 * invN p (g.getD (g.length - 1) 0))).symm
       rw [hi2] at this
       simpa using this
      have a3 : Cg p (((r.getD (n + (g.length - 1)) 0 + (p - c) * g.getD (g.length - 1) 0 % p : Nat)) : Int) 0 := by
       rw [Int.natCast_add]
       have b1 : Cg p (((p - c) * g.getD (g.length - 1) 0 % p : Nat) : Int) (-(c : Int) * (g.getD (g.length - 1) 0 : Nat)) := by
        refine (cg_mod _).trans ?_
        rw [Int.natCast_mul]
        exact (cg_sub_nat (Nat.le_of_lt hcp)).mul (Cg.refl p _)
       refine ((Cg.refl p _).add b1).trans ?_
       have b2 : Cg p (-(c : Int) * (g.getD (g.length - 1) 0 : Nat)) (-((r.getD (n + (g.length - 1)) 0 : Nat) : Int)) := by
        refine (a1.neg.mul (Cg.refl p _)).trans ?_
        have b3 := ((Cg.refl p ((r.getD (n + (g.length - 1)) 0 : Nat) : Int)).mul a2).neg
        rw [Int.mul_one] at b3
        rw [show ∀ x y z : Int, -(x * y) * z = -(x * (z * y)) by intros; grind]
        exact b3
       have b4 := (Cg.refl p ((r.getD (n + (g.length - 1)) 0 : Nat) : Int)).add b2
       rw [show ∀ x : Int, x + -x = 0 by intros; omega] at b4
       exact b4
      have a4 := md_cg (by omega) ((cg_mod (p := p) (r.getD (n + (g.length - 1)) 0 + (p - c) * g.getD (g.length - 1) 0 % p)).trans a3)
      rw [md_zero, md_self (Nat.mod_lt _ (by omega))] at a4
      exact a4
    ·rw [List.getD, List.getElem?_eq_none (by rw [addAt_len]; omega)]; rfl
theorem divP_len {p : Nat} {f g : List Nat} (hp : PrimeN p) (hg : 0 < g.length) (hl : 0 < g.getD (g.length - 1) 0) (hlt : ∀ d ∈ g, d < p) (hf : ∀ d ∈ f, d < p) : (divP p f g).2.length < g.length := by
 unfold divP
 split
 ·dsimp only; omega
 ·rename_i h
  dsimp only
  have h1 := divGo_top hp hg hl hlt (f.length - (g.length - 1)) (List.replicate (f.length - (g.length - 1)) 0) f hf (.inr (by omega)) (fun i hi => by rw [List.getD, List.getElem?_eq_none (by omega)]; rfl)
  have h2 : (trimN (divGo p (invN p (g.getD (g.length - 1) 0)) g (f.length - (g.length - 1)) (List.replicate (f.length - (g.length - 1)) 0, f)).2).length ≤ g.length - 1 := by
   apply Nat.le_of_not_lt
   intro hn
   generalize hX : (divGo p (invN p (g.getD (g.length - 1) 0)) g (f.length - (g.length - 1)) (List.replicate (f.length - (g.length - 1)) 0, f)).2 = X at *
   have e : trimN X = X.take (trimN X).length := trimB_take isZ X
   rcases snoc_cases (trimN X) with h0 | ⟨k, x, h0⟩
   ·rw [h0] at hn; simp at hn
   ·have h3 := trimB_last isZ X h0
    have h4 : k.length + 1 = (trimN X).length := by rw [h0]; simp
    have h5 : X.getD k.length 0 = x := by
     have h6 : (trimN X).getD k.length 0 = x := by rw [h0]; simp [List.getD]
     rw [e] at h6
     rw [← h6]
     simp only [List.getD]
     rw [List.getElem?_take_of_lt (by omega)]
    rw [h1 k.length (by omega)] at h5
    subst h5
    simp [isZ] at h3
  omega
theorem divP_lt {p : Nat} {f g : List Nat} (hp : 0 < p) (hf : ∀ d ∈ f, d < p) : (∀ d ∈ (divP p f g).1, d < p) ∧ ∀ d ∈ (divP p f g).2, d < p := by
 unfold divP
 split
 ·exact ⟨fun d hd => (by cases hd), hf⟩
 ·have h := divGo_lt (inv := invN p (g.getD (g.length - 1) 0)) (g := g) hp (f.length - (g.length - 1)) (List.replicate (f.length - (g.length - 1)) 0) f (fun d hd => by rw [List.eq_of_mem_replicate hd]; exact hp) hf
  exact ⟨fun d hd => h.1 d (trimB_mem _ _ hd), fun d hd => h.2 d (trimB_mem _ _ hd)⟩
end Go.Gx

/-
 Greatest common divisors and cofactors of polynomials modulo a prime, as the program reckons them. Plain numbers; no program in sight.
-/
namespace Go.Gx
def CanP (p : Nat) (l : List Nat) : Prop := (∀ d ∈ l, d < p) ∧ (l.length ≠ 0 → 0 < l.getD (l.length - 1) 0)
theorem CanP.nil {p : Nat} : CanP p [] := ⟨fun d hd => (by cases hd), fun h => absurd rfl h⟩
theorem canP_trim {p : Nat} {l : List Nat} (h : ∀ d ∈ l, d < p) : CanP p (trimN l) := by
 refine ⟨fun d hd => h d (trimB_mem _ _ hd), fun hn => ?_⟩
 rcases snoc_cases (trimN l) with h0 | ⟨k, x, h0⟩
 ·rw [h0] at hn; exact absurd rfl hn
 ·have h3 := trimB_last isZ l h0
  rw [h0]
  simp [List.getD]
  simp [isZ] at h3
  omega
theorem canP_red {p : Nat} (hp : 0 < p) (l : List Int) : CanP p (redP p l) := canP_trim fun d hd => by
 obtain ⟨z, _, rfl⟩ := List.mem_map.1 hd
 exact md_lt hp z
theorem canP_nrm {p : Nat} (hp : 0 < p) (l : List Nat) : CanP p (nrmP p l) := by rw [nrmP_red]; exact canP_red hp _
theorem CanP.trim {p : Nat} {l : List Nat} (h : CanP p l) : trimN l = l := by
 rcases snoc_cases l with h0 | ⟨k, x, h0⟩
 ·subst h0; rfl
 ·subst h0
  have h1 := h.2 (by simp)
  simp [List.getD] at h1
  exact trimB_snoc_no isZ k x (by simp [isZ]; omega)
theorem CanP.nrm {p : Nat} {l : List Nat} (h : CanP p l) : nrmP p l = l := by
 have e : l.map (· % p) = l := by
  conv => rhs; rw [← List.map_id l]
  exact List.map_congr_left fun a ha => Nat.mod_eq_of_lt (h.1 a ha)
 unfold nrmP
 rw [e]; exact h.trim
theorem CanP.last {p : Nat} {l : List Nat} (h : CanP p l) (hl : 0 < l.length) : 0 < l.getD (l.length - 1) 0 ∧ l.getD (l.length - 1) 0 < p := by
 refine ⟨h.2 (by omega), ?_⟩
 rw [List.getD, List.getElem?_eq_getElem (by omega), Option.getD_some]
 exact h.1 _ (List.getElem_mem _)
theorem divP_can {p : Nat} {f g : List Nat} (hp : 0 < p) (hf : CanP p f) : CanP p (divP p f g).1 ∧ CanP p (divP p f g).2 := by
 have h := divP_lt (g := g) hp hf.1
 unfold divP at h ⊢
 split
 ·exact ⟨CanP.nil, hf⟩
 ·rename_i hh
  rw [if_neg hh] at h
  have h2 := divGo_lt (inv := invN p (g.getD (g.length - 1) 0)) (g := g) hp (f.length - (g.length - 1)) (List.replicate (f.length - (g.length - 1)) 0) f (fun d hd => by rw [List.eq_of_mem_replicate hd]; exact hp) hf.1
  exact ⟨canP_trim h2.1, canP_trim h2.2⟩
def scalP (p : Nat) (f : List Nat) (c : Nat) : List Nat := trimN (f.map fun a => a * c % p)
def leadP (f : List Nat) : Nat := f.getD (f.length - 1) 0
def monicP (p : Nat) (f : List Nat) : List Nat := if f.length = 0 then [] else scalP p f (invN p (leadP f))
def mulP (p : Nat) (f g : List Nat) : List Nat := redP p (pmul (zl (nrmP p f)) (zl (nrmP p g)))
def subP (p : Nat) (f g : List Nat) : List Nat := redP p (psub (zl f) (zl g))
def addP (p : Nat) (f g : List Nat) : List Nat := redP p (padd (zl f) (zl g))
theorem canP_scal {p : Nat} (hp : 0 < p) (f : List Nat) (c : Nat) : CanP p (scalP p f c) := canP_trim fun d hd => by
 obtain ⟨a, _, rfl⟩ := List.mem_map.1 hd
 exact Nat.mod_lt _ hp
theorem canP_monic {p : Nat} (hp : 0 < p) (f : List Nat) : CanP p (monicP p f) := by
 unfold monicP
 split
 ·exact CanP.nil
 ·exact canP_scal hp _ _
def gcdGo (p : Nat) : Nat → List Nat → List Nat → List Nat
 | 0, f, _ => monicP p f
 | n + 1, f, g => if g.length = 0 then monicP p f else gcdGo p n g (divP p f g).2
def gcdP (p : Nat) (f g : List Nat) : List Nat := gcdGo p g.length f g
def cofGo (p : Nat) : Nat → List Nat → List Nat → List Nat → List Nat → List Nat
 | 0, f, _, u, _ => scalP p u (invN p (leadP f))
 | n + 1, f, g, u, v => if g.length = 0 then scalP p u (invN p (leadP f)) else cofGo p n g (divP p f g).2 v (subP p u (mulP p (divP p f g).1 v))
def cofP (p : Nat) (f g : List Nat) : List Nat := cofGo p g.length f g [1] []
theorem gcdGo_nil {p : Nat} {f g : List Nat} (hg : g.length = 0) (n : Nat) : gcdGo p n f g = monicP p f := by
 cases n with
 | zero => rfl
 | succ n => rw [gcdGo, if_pos hg]
theorem cofGo_nil {p : Nat} {f g u v : List Nat} (hg : g.length = 0) (n : Nat) : cofGo p n f g u v = scalP p u (invN p (leadP f)) := by
 cases n with
 | zero => rfl
 | succ n => rw [cofGo, if_pos hg]
theorem gcdGo_fuel {p : Nat} (hp : PrimeN p) : ∀ (n m : Nat) (f g : List Nat), CanP p f → CanP p g → g.length ≤ n → g.length ≤ m → gcdGo p n f g = gcdGo p m f g
 | n, m, f, g, hf, hg, hn, hm => by
  rcases Nat.eq_zero_or_pos g.length with h0 | h0
  ·rw [gcdGo_nil h0, gcdGo_nil h0]
  ·match n, m, hn, hm with
   | 0, _, hn, _ => omega
   | _, 0, _, hm => omega
   | n + 1, m + 1, hn, hm =>
    rw [gcdGo, gcdGo, if_neg (by omega), if_neg (by omega)]
    have hl := hg.last h0
    have h1 := divP_len hp h0 hl.1 hg.1 hf.1
    exact gcdGo_fuel hp n m g _ hg (divP_can (by have := hp.1; omega) hf).2 (by omega) (by omega)
theorem cofGo_fuel {p : Nat} (hp : PrimeN p) : ∀ (n m : Nat) (f g u v : List Nat), CanP p f → CanP p g → g.length ≤ n → g.length ≤ m → cofGo p n f g u v = cofGo p m f g u v
 | n, m, f, g, u, v, hf, hg, hn, hm => by
  rcases Nat.eq_zero_or_pos g.length with h0 | h0
  ·rw [cofGo_nil h0, cofGo_nil h0]
  ·match n, m, hn, hm with
   | 0, _, hn, _ => omega
   | _, 0, _, hm => omega
   | n + 1, m + 1, hn, hm =>
    rw [cofGo, cofGo, if_neg (by omega), if_neg (by omega)]
    have hl := hg.last h0
    have h1 := divP_len hp h0 hl.1 hg.1 hf.1
    exact cofGo_fuel hp n m g _ _ _ hg (divP_can (by have := hp.1; omega) hf).2 (by omega) (by omega)
theorem gcd_turn {p : Nat} (hp : PrimeN p) {f g : List Nat} (hf : CanP p f) (hg : CanP p g) (h0 : 0 < g.length) : gcdP p f g = gcdP p g (divP p f g).2 := by
 have hl := hg.last h0
 have h1 := divP_len hp h0 hl.1 hg.1 hf.1
 have h2 := (divP_can (g := g) (by have := hp.1; omega) hf).2
 unfold gcdP
 obtain ⟨n, hn⟩ : ∃ n, g.length = n + 1 := ⟨g.length - 1, by omega⟩
 rw [hn, gcdGo, if_neg (by omega)]
 exact gcdGo_fuel hp _ _ _ _ hg h2 (by omega) (Nat.le_refl _)
theorem gcd_end {p : Nat} {f g : List Nat} (h0 : g.length = 0) : gcdP p f g = monicP p f := gcdGo_nil h0 _
theorem cof_turn {p : Nat} (hp : PrimeN p) {f g u v : List Nat} (hf : CanP p f) (hg : CanP p g) (h0 : 0 < g.length) : cofGo p g.length f g u v = cofGo p (divP p f g).2.length g (divP p f g).2 v (subP p u (mulP p (divP p f g).1 v)) := by
 have hl := hg.last h0
 have h1 := divP_len hp h0 hl.1 hg.1 hf.1
 have h2 := (divP_can (g := g) (by have := hp.1; omega) hf).2
 obtain ⟨n, hn⟩ : ∃ n, g.length = n + 1 := ⟨g.length - 1, by omega⟩
 rw [hn, cofGo, if_neg (by omega)]
 exact cofGo_fuel hp _ _ _ _ _ _ hg h2 (by omega) (Nat.le_refl _)
theorem cof_end {p : Nat} {f g u v : List Nat} (h0 : g.length = 0) : cofGo p g.length f g u v = scalP p u (invN p (leadP f)) := cofGo_nil h0 _
def xgcdP (p : Nat) (f g : List Nat) : List Nat × List Nat × List Nat :=
 let d := gcdP p f g
 if g.length = 0 then (if f.length = 0 then ([], [], []) else (d, [invN p (leadP f)], []))
 else if g.length = d.length then (d, [], [invN p (leadP g)])
 else let u := (divP p (cofP p f g) (divP p g d).1).2; (d, u, (divP p (subP p d (mulP p u f)) g).1)
end Go.Gx
namespace Go.Gx
theorem scal_len {p c : Nat} {f : List Nat} (hf : 0 < f.length) (h : leadP f * c % p ≠ 0) : (scalP p f c).length = f.length := by
 have h1 := trimN_of (ds := f.map fun a => a * c % p) (k := f.length) (by simp) (fun j hj => by rw [List.getD, List.getElem?_eq_none (by simpa using hj)]; rfl) (.inr (by
  simp only [List.getD, List.getElem?_map, List.getElem?_eq_getElem (show f.length - 1 < f.length by omega)]
  simp only [leadP, List.getD, List.getElem?_eq_getElem (show f.length - 1 < f.length by omega)] at h
  exact h))
 unfold scalP
 rw [← h1]
 simp
theorem monic_len {p : Nat} {f : List Nat} (hp : PrimeN p) (hf : CanP p f) : (monicP p f).length = f.length := by
 unfold monicP
 split
 ·rename_i h; rw [h]; rfl
 ·rename_i h
  have hl := hf.last (by omega)
  refine scal_len (by omega) ?_
  show f.getD (f.length - 1) 0 * invN p (f.getD (f.length - 1) 0) % p ≠ 0
  rw [(invN_spec hp hl.1 hl.2).2]; omega
theorem gcdGo_ne {p : Nat} (hp : PrimeN p) : ∀ (n : Nat) (f g : List Nat), CanP p f → CanP p g → g.length ≤ n → 0 < f.length + g.length → 0 < (gcdGo p n f g).length ∧ (0 < g.length → (gcdGo p n f g).length ≤ g.length)
 | 0, f, g, hf, hg, hn, h => by
  rw [gcdGo_nil (by omega), monic_len hp hf]; omega
 | n + 1, f, g, hf, hg, hn, h => by
  rcases Nat.eq_zero_or_pos g.length with h0 | h0
  ·rw [gcdGo_nil h0, monic_len hp hf]; omega
  ·rw [gcdGo, if_neg (by omega)]
   have hl := hg.last h0
   have h1 := divP_len hp h0 hl.1 hg.1 hf.1
   have h2 := (divP_can (g := g) (by have := hp.1; omega) hf).2
   have ⟨h3, h4⟩ := gcdGo_ne hp n g _ hg h2 (by omega) (by omega)
   refine ⟨h3, fun _ => ?_⟩
   rcases Nat.eq_zero_or_pos (divP p f g).2.length with h5 | h5
   ·rw [gcdGo_nil h5, monic_len hp hg]; omega
   ·have := h4 h5; omega
theorem gcd_ne {p : Nat} (hp : PrimeN p) {f g : List Nat} (hf : CanP p f) (hg : CanP p g) (h : 0 < f.length + g.length) : 0 < (gcdP p f g).length := (gcdGo_ne hp _ f g hf hg (Nat.le_refl _) h).1
theorem gcd_len {p : Nat} (hp : PrimeN p) {f g : List Nat} (hf : CanP p f) (hg : CanP p g) (h : 0 < g.length) : (gcdP p f g).length ≤ g.length := (gcdGo_ne hp _ f g hf hg (Nat.le_refl _) (by omega)).2 h
theorem gcdGo_can {p : Nat} (hp : 0 < p) : ∀ (n : Nat) (f g : List Nat), CanP p (gcdGo p n f g)
 | 0, f, g => canP_monic hp f
 | n + 1, f, g => by
  rw [gcdGo]
  split
  ·exact canP_monic hp f
  ·exact gcdGo_can hp n _ _
theorem val_zero_getD : ∀ (l : List Nat), val l = 0 → ∀ n, l.getD n 0 = 0
 | [], _, n => by simp [List.getD]
 | d :: l, h, 0 => by simp only [val, BS] at h; simp [List.getD]; omega
 | d :: l, h, n + 1 => by
  have := val_zero_getD l (by simp only [val, BS] at h; omega) n
  simpa [List.getD] using this
theorem divGo_keep {p inv : Nat} {g : List Nat} : ∀ (n : Nat) (q r : List Nat) (i : Nat), n ≤ i → (divGo p inv g n (q, r)).1.getD i 0 = q.getD i 0
 | 0, _, _, _, _ => rfl
 | n + 1, q, r, i, hi => by
  rw [divGo]
  rw [divGo_keep n _ _ i (by omega)]
  simp only [List.getD, List.getElem?_set]
  rw [if_neg (by omega)]
theorem divP_qne {p : Nat} {f g : List Nat} (hp : PrimeN p) (hf : CanP p f) (hg : CanP p g) (h0 : 0 < g.length) (hl : g.length ≤ f.length) : 0 < (divP p f g).1.length := by
 unfold divP
 rw [if_neg (by omega)]
 dsimp only
 obtain ⟨n, hn⟩ : ∃ n, f.length - (g.length - 1) = n + 1 := ⟨f.length - g.length, by omega⟩
 rw [hn]
 have hgl := hg.last h0
 have hfl := hf.last (by omega)
 have hiv := invN_spec hp hgl.1 hgl.2
 generalize hI : invN p (g.getD (g.length - 1) 0) = I at *
 have hp2 := hp.1
 have htop : (divGo p I g (n + 1) (List.replicate (n + 1) 0, f)).1.getD n 0 ≠ 0 := by
  rw [divGo]
  rw [divGo_keep n _ _ n (Nat.le_refl _), getD_set _ _ _ (by simp), if_pos rfl, show n + (g.length - 1) = f.length - 1 by omega]
  intro h
  have c1 : Cg p (((f.getD (f.length - 1) 0 : Nat) : Int) * (I : Nat)) 0 := by
   have := (cg_mod (p := p) (f.getD (f.length - 1) 0 * I)).symm
   rw [h] at this
   simpa using this
  have c2 : Cg p (((g.getD (g.length - 1) 0 : Nat) : Int) * (I : Nat)) 1 := by
   have := (cg_mod (p := p) (g.getD (g.length - 1) 0 * I)).symm
   rw [hiv.2] at this
   simpa using this
  have c3 := (Cg.refl p ((f.getD (f.length - 1) 0 : Nat) : Int)).mul c2
  rw [Int.mul_one] at c3
  have c4 := c1.mul (Cg.refl p ((g.getD (g.length - 1) 0 : Nat) : Int))
  rw [Int.zero_mul] at c4
  have c5 : Cg p ((f.getD (f.length - 1) 0 : Nat) : Int) 0 := by
   refine c3.symm.trans ?_
   rw [show ∀ x y z : Int, x * (y * z) = x * z * y by intros; grind]
   exact c4
  have := (md_self hfl.2).symm.trans (md_cg (by omega) c5)
  rw [md_zero] at this
  omega
 apply Nat.pos_of_ne_zero
 intro hz
 have h1 : trimN (divGo p I g (n + 1) (List.replicate (n + 1) 0, f)).1 = [] := List.eq_nil_of_length_eq_zero hz
 have h2 := val_trim (divGo p I g (n + 1) (List.replicate (n + 1) 0, f)).1
 rw [h1] at h2
 exact htop (val_zero_getD _ h2.symm n)
theorem divP_lq {p : Nat} {f g : List Nat} : (divP p f g).1.length ≤ f.length + 1 - g.length ∧ (divP p f g).2.length ≤ f.length := by
 unfold divP
 split
 ·exact ⟨Nat.zero_le _, Nat.le_refl _⟩
 ·rename_i h
  dsimp only
  have ⟨h1, h2⟩ := divGo_len (p := p) (inv := invN p (g.getD (g.length - 1) 0)) (g := g) (f.length - (g.length - 1)) (List.replicate (f.length - (g.length - 1)) 0) f
  have h3 := trimB_len isZ (divGo p (invN p (g.getD (g.length - 1) 0)) g (f.length - (g.length - 1)) (List.replicate (f.length - (g.length - 1)) 0, f)).1
  have h4 := trimB_len isZ (divGo p (invN p (g.getD (g.length - 1) 0)) g (f.length - (g.length - 1)) (List.replicate (f.length - (g.length - 1)) 0, f)).2
  simp only [List.length_replicate] at h1
  refine ⟨?_, ?_⟩
  ·show (trimB isZ _).length ≤ _; omega
  ·show (trimB isZ _).length ≤ _; omega
theorem divP_can2 {p : Nat} {f g q r : List Nat} (hp : PrimeN p) (hf : CanP p f) (hg : CanP p g) (h0 : 0 < g.length) (h : divP p f g = (q, r)) : CanP p q ∧ CanP p r ∧ r.length < g.length ∧ q.length ≤ f.length + 1 - g.length ∧ r.length ≤ f.length ∧ (g.length ≤ f.length → 0 < q.length) := by
 have h1 := divP_can (g := g) (by have := hp.1; omega) hf
 have hl := hg.last h0
 have h2 := divP_len hp h0 hl.1 hg.1 hf.1
 have h3 := divP_lq (p := p) (f := f) (g := g)
 have h4 := divP_qne hp hf hg h0
 rw [h] at h1 h2 h3 h4
 exact ⟨h1.1, h1.2, h2, h3.1, h3.2, h4⟩
theorem div_zero {p inv c low n : Nat} {g Q R : List Nat} {S : List Nat × List Nat} (h : divGo p inv g n (Q, R) = S) (hn : n = low + 1) (hc : c = R.getD (low + (g.length - 1)) 0 * inv % p) (h0 : c = 0) : divGo p inv g low (Q.set low c, R) = S := by
 subst hn
 rw [divGo] at h
 rw [← hc, if_pos h0] at h
 exact h
theorem div_add {p inv c low n j : Nat} {g Q R : List Nat} {S : List Nat × List Nat} (h : divGo p inv g n (Q, R) = S) (hn : n = low + 1) (hc : c = R.getD (low + (g.length - 1)) 0 * inv % p) (h0 : c ≠ 0) (hj : j = g.length) : divGo p inv g low (Q.set low c, addAt p g low (p - c) j R) = S := by
 subst hn hj
 rw [divGo] at h
 rw [← hc, if_neg h0] at h
 exact h
theorem div_fin {p inv n m : Nat} {f g Q R q r : List Nat} (hn : ¬ f.length ≤ g.length - 1) (hi : inv = invN p (g.getD (g.length - 1) 0)) (h : divGo p inv g n (Q, R) = divGo p inv g m (List.replicate m 0, f)) (h0 : n = 0) (hm : m = f.length - (g.length - 1)) (hq : q = trimN Q) (hr : r = trimN R) : divP p f g = (q, r) := by
 subst h0 hm hi
 unfold divP
 rw [if_neg hn]
 dsimp only
 rw [← h, hq, hr]
 rfl
end Go.Gx
namespace Go.Gx
theorem cof_step {p nb nr : Nat} (hp : PrimeN p) {f g u v q r m s : List Nat} {X : List Nat} (hf : CanP p f) (hg : CanP p g) (h0 : 0 < g.length) (e : divP p f g = (q, r)) (em : m = mulP p q v) (es : s = subP p u m) (h : cofGo p nb f g u v = X) (hn : nb = g.length) (hr : nr = r.length) : cofGo p nr g r v s = X := by
 subst hn hr em es
 rw [cof_turn hp hf hg h0, e] at h
 exact h
theorem xg1 {p : Nat} {F G : List Nat} (hf : F.length = 0) (hg : G.length = 0) : xgcdP p F G = ([], [], []) := by unfold xgcdP; simp [hf, hg]
theorem xg2 {p : Nat} {F G : List Nat} (hf : F.length ≠ 0) (hg : G.length = 0) : xgcdP p F G = (gcdP p F G, [invN p (leadP F)], []) := by unfold xgcdP; simp [hf, hg]
theorem xg3 {p : Nat} {F G : List Nat} (hg : G.length ≠ 0) (h : G.length = (gcdP p F G).length) : xgcdP p F G = (gcdP p F G, [], [invN p (leadP G)]) := by unfold xgcdP; rw [if_neg hg, if_pos h]
theorem xg4 {p : Nat} {F G q1 r1 c u m s q6 r6 : List Nat} (hg : G.length ≠ 0) (h : G.length ≠ (gcdP p F G).length) (e1 : divP p G (gcdP p F G) = (q1, r1)) (e2 : c = cofP p F G) (e3 : u = (divP p c q1).2) (e4 : m = mulP p u F) (e5 : s = subP p (gcdP p F G) m) (e6 : divP p s G = (q6, r6)) : xgcdP p F G = (gcdP p F G, u, q6) := by
 unfold xgcdP
 rw [if_neg hg, if_neg h]
 dsimp only
 rw [e1]
 dsimp only
 rw [← e2, ← e3, ← e4, ← e5, e6]
end Go.Gx

/-
 What the walks of polynomials modulo a number want. Plain numbers; no program in sight.
-/
namespace Go.Gx
theorem prime4N {p : Nat} (h : p = 2 ∨ p = 3 ∨ p = 5 ∨ p = 7 ∨ p = 11 ∨ p = 13) : PrimeN p := by
 have key : ∀ q, q = 2 ∨ q = 3 ∨ q = 5 ∨ q = 7 ∨ q = 11 ∨ q = 13 → ∀ a, a < q → 0 < a → Nat.gcd a q = 1 := by
  intro q hq
  rcases hq with rfl | rfl | rfl | rfl | rfl | rfl <;> decide
 exact ⟨by omega, fun a h0 h1 => key p h a h1 h0⟩
theorem map_snocN {F : Nat → Nat} {d L : List Nat} {k x : Nat} (h : L = (d.take k).map F) (hk : k < d.length) (hx : x = F (d.getD k 0)) : L ++ [x] = (d.take (k + 1)).map F := by
 rw [h, hx, List.take_add_one, List.getElem?_eq_getElem hk, List.map_append]
 simp [List.getD, List.getElem?_eq_getElem hk]
theorem map_fullN {F : Nat → Nat} {d L : List Nat} {k : Nat} (h : L = (d.take k).map F) (hk : d.length ≤ k) : L = d.map F := by rw [h, List.take_of_length_le hk]
theorem range_snocN {F : Nat → Nat} {L : List Nat} {k x : Nat} (h : L = (List.range k).map F) (hx : x = F k) : L ++ [x] = (List.range (k + 1)).map F := by
 rw [h, hx, List.range_succ, List.map_append]; rfl
theorem range_co {p : Nat} {l : List Int} {n : Nat} (hn : l.length = n) : (List.range n).map (fun i => md p (co l i)) = l.map (md p) := by
 refine list_eq (by simp [hn]) fun i => ?_
 rcases Nat.lt_or_ge i n with h | h
 ·rw [List.getD, List.getElem?_map, List.getElem?_range h, getD_mapZ _ _ (md_zero p)]; rfl
 ·rw [List.getD, List.getElem?_eq_none (by simpa using h), getD_mapZ _ _ (md_zero p), co_ge (by omega), md_zero]; rfl
theorem getD_map_mod (d : List Nat) (m i : Nat) : (d.map (· % m)).getD i 0 = d.getD i 0 % m := by
 simp only [List.getD, List.getElem?_map]
 cases d[i]? <;> simp
theorem deg_down {d : List Nat} {k m : Nat} (h : ∀ j, k ≤ j → (d.map (· % m)).getD j 0 = 0) (h1 : d.getD (k - 1) 0 % m = 0) : ∀ j, k - 1 ≤ j → (d.map (· % m)).getD j 0 = 0 :=
 zeros_down h (by rw [getD_map_mod]; exact h1)
theorem deg_end {d : List Nat} {k m : Nat} (hk : k ≤ d.length) (h : ∀ j, k ≤ j → (d.map (· % m)).getD j 0 = 0) (hl : k = 0 ∨ d.getD (k - 1) 0 % m ≠ 0) : (nrmP m d).length = k := by
 have h1 := trimN_of (ds := d.map (· % m)) (k := k) (by simpa using hk) h (hl.imp id fun hh => by rw [getD_map_mod]; exact hh)
 unfold nrmP
 rw [← h1]
 simp; omega
theorem cmp_getD {F G : List Nat} {k : Nat} : co (zl F) (k - 1) = co (zl G) (k - 1) ↔ F.getD (k - 1) 0 = G.getD (k - 1) 0 := by rw [co_zl, co_zl]; omega
theorem same_zl {F G : List Nat} : cmpP (zl F) (zl G) = 0 ↔ F = G := by
 rw [cmpP_zero]
 constructor
 ·intro h
  refine list_eq (by have := congrArg List.length h; simpa [zl_len] using this) fun i => ?_
  have := congrArg (fun l => co l i) h
  simp only [co_zl] at this
  omega
 ·intro h; rw [h]
theorem mid_setN {L X : List Nat} {k v : Nat} (hL : L.length = k) (hk : k < X.length) : (L ++ X.drop k).set k v = (L ++ [v]) ++ X.drop (k + 1) := by
 rw [List.set_append_right _ _ (by omega), hL, Nat.sub_self, List.drop_eq_getElem_cons hk, List.set_cons_zero, List.append_assoc]
 rfl
theorem mid_getN {L X : List Nat} {k : Nat} (hL : L.length = k) : (L ++ X.drop k).getD k 0 = X.getD k 0 := by
 simp only [List.getD]
 rw [List.getElem?_append_right (by omega), hL, Nat.sub_self, List.getElem?_drop]
 simp
theorem pad_get (d : List Nat) (n i : Nat) : (d ++ List.replicate n 0).getD i 0 = d.getD i 0 := by
 simp only [List.getD]
 rcases Nat.lt_or_ge i d.length with h | h
 ·rw [List.getElem?_append_left h]
 ·rw [List.getElem?_append_right h, List.getElem?_eq_none h, List.getElem?_replicate]
  split <;> rfl
theorem sub_fill {p n N : Nat} {f g L X : List Nat} (hp : 0 < p) (hX : ∀ i, X.getD i 0 = f.getD i 0) (hXl : X.length = N) (hN : N = max f.length g.length) (hL : L.length = g.length) (h : ∀ i, i < g.length → L.getD i 0 = md p (((f.getD i 0 : Nat) : Int) - (g.getD i 0 : Nat))) : nrmP p (L ++ X.drop g.length) = subP p f g := by
 unfold nrmP subP redP
 congr 1
 refine list_eq ?_ fun i => ?_
 ·simp [psub, zl_len, hL, hXl]; omega
 ·rw [getD_map_mod, getD_mapZ _ _ (md_zero p), co_psub, co_zl, co_zl]
  rcases Nat.lt_or_ge i g.length with h1 | h1
  ·have e : (L ++ X.drop g.length).getD i 0 = L.getD i 0 := by simp only [List.getD]; rw [List.getElem?_append_left (by omega)]
   rw [e, h i h1, Nat.mod_eq_of_lt (md_lt hp _)]
  ·have e : (L ++ X.drop g.length).getD i 0 = f.getD i 0 := by
    rw [← hX]
    simp only [List.getD]
    rw [List.getElem?_append_right (by omega), List.getElem?_drop, hL, show g.length + (i - g.length) = i by omega]
   have e2 : g.getD i 0 = 0 := by rw [List.getD, List.getElem?_eq_none h1]; rfl
   rw [e, e2, show ((f.getD i 0 : Nat) : Int) - ((0 : Nat) : Int) = (f.getD i 0 : Nat) by omega, md_nat hp]
theorem add_fillP {p n N : Nat} {f g L X : List Nat} (hp : 0 < p) (hX : ∀ i, X.getD i 0 = f.getD i 0) (hXl : X.length = N) (hN : N = max f.length g.length) (hL : L.length = g.length) (h : ∀ i, i < g.length → L.getD i 0 = md p (((f.getD i 0 : Nat) : Int) + (g.getD i 0 : Nat))) : nrmP p (L ++ X.drop g.length) = addP p f g := by
 unfold nrmP addP redP
 congr 1
 refine list_eq ?_ fun i => ?_
 ·simp [padd, zl_len, hL, hXl]; omega
 ·rw [getD_map_mod, getD_mapZ _ _ (md_zero p), co_padd, co_zl, co_zl]
  rcases Nat.lt_or_ge i g.length with h1 | h1
  ·have e : (L ++ X.drop g.length).getD i 0 = L.getD i 0 := by simp only [List.getD]; rw [List.getElem?_append_left (by omega)]
   rw [e, h i h1, Nat.mod_eq_of_lt (md_lt hp _)]
  ·have e : (L ++ X.drop g.length).getD i 0 = f.getD i 0 := by
    rw [← hX]
    simp only [List.getD]
    rw [List.getElem?_append_right (by omega), List.getElem?_drop, hL, show g.length + (i - g.length) = i by omega]
   have e2 : g.getD i 0 = 0 := by rw [List.getD, List.getElem?_eq_none h1]; rfl
   rw [e, e2, show ((f.getD i 0 : Nat) : Int) + ((0 : Nat) : Int) = (f.getD i 0 : Nat) by omega, md_nat hp]
theorem fill_snoc {F : Nat → Nat} {L : List Nat} {k x : Nat} (hL : L.length = k) (h : ∀ i, i < k → L.getD i 0 = F i) (hx : x = F k) : ∀ i, i < k + 1 → (L ++ [x]).getD i 0 = F i := fun i hi => by
 simp only [List.getD]
 rcases Nat.lt_or_ge i k with h1 | h1
 ·rw [List.getElem?_append_left (by omega)]; exact h i h1
 ·obtain rfl : i = k := by omega
  rw [List.getElem?_append_right (by omega), hL, Nat.sub_self]; exact hx
theorem sym_range {p : Nat} {d : List Nat} {L : List Int} {n : Nat} (h : L = (List.range n).map fun i => symN p (d.getD i 0)) (hn : d.length = n) : L = d.map (symN p) := by
 subst hn
 rw [h]
 refine List.ext_getElem (by simp) fun i h1 h2 => ?_
 simp at h1
 simp [List.getD, List.getElem?_eq_getElem h1]
theorem mulP_nil {p : Nat} {f g F G : List Nat} (hF : F = nrmP p f) (hG : G = nrmP p g) (h : F.length = 0 ∨ G.length = 0) : [] = mulP p f g := by
 unfold mulP
 rw [← hF, ← hG]
 have : pmul (zl F) (zl G) = [] := by unfold pmul; rw [if_pos (by simpa [zl_len] using h)]
 rw [this]; rfl
theorem monic_co {p : Nat} {d : List Nat} (hp : PrimeN p) (hc : CanP p d) (hn : 0 < d.length) : Nat.gcd (d.getD (d.length - 1) 0) p = 1 := hp.2 _ (hc.last hn).1 (hc.last hn).2
theorem lt_BS {p : Nat} {l : List Nat} (hp : p < 4294967296) (h : ∀ d ∈ l, d < p) : ∀ d ∈ l, d < BS := fun d hd => by have := h d hd; simp only [BS]; omega
theorem lt_snocP {p : Nat} {l : List Nat} {v : Nat} (h : ∀ d ∈ l, d < p) (hv : v < p) : ∀ d ∈ l ++ [v], d < p := fun d hd => by
 rcases List.mem_append.1 hd with h1 | h1
 ·exact h d h1
 ·simp at h1; omega
theorem lt_midX {L X : List Nat} {k : Nat} (h : ∀ d ∈ L, d < BS) (hX : ∀ d ∈ X, d < BS) : ∀ d ∈ L ++ X.drop k, d < BS := fun d hd => by
 rcases List.mem_append.1 hd with h1 | h1
 ·exact h d h1
 ·exact hX d (List.mem_of_mem_drop h1)
theorem lt_fillP {p m : Nat} {L : List Nat} (h : ∀ d ∈ L, d < p) (hp : 0 < p) : ∀ d ∈ L ++ List.replicate m 0, d < p := fun d hd => by
 rcases List.mem_append.1 hd with h1 | h1
 ·exact h d h1
 ·rw [List.eq_of_mem_replicate h1]; exact hp
theorem lt_set {p : Nat} {l : List Nat} {i v : Nat} (h : ∀ d ∈ l, d < p) (hv : v < p) : ∀ d ∈ l.set i v, d < p := fun d hd => by
 rcases List.mem_or_eq_of_mem_set hd with h1 | h1
 ·exact h d h1
 ·omega
end Go.Gx

/-
 The lift of a factorization: what the rounds reach. Plain numbers; no program in sight.
-/
namespace Go.Gx
def isFac (f : List Int) (L : List (List Int)) : Prop := trimZ f = trimZ (foldMul [ldP f] L)
instance (f : List Int) (L : List (List Int)) : Decidable (isFac f L) := by unfold isFac; infer_instance
def monL (p : Nat) (l : List (List Nat)) : List (List Nat) := l.map fun d => monicP p (nrmP p d)
def prodN (p : Nat) (a : List Nat) (l : List (List Nat)) : List Nat := l.foldl (mulP p) a
def BadL (p : Nat) (f : List Int) (ml : List (List Nat)) : Prop := md p (ldP f) = 0 ∨ nrmP p (prodN p [md p (ldP f)] ml) ≠ nrmP p (redP p f)
def symL (p : Nat) (l : List (List Nat)) : List (List Int) := l.map fun d => trimZ (d.map (symN p))
theorem prodN_next {p i : Nat} {a u r : List Nat} {l : List (List Nat)} {d : List Nat} (h : u = prodN p a (l.take i)) (hi : i < l.length) (hd : l.getD i [] = d) (hr : r = mulP p u d) : r = prodN p a (l.take (i + 1)) := by
 have h1 : l[i]? = some d := by rw [← hd, List.getD, List.getElem?_eq_getElem hi]; rfl
 unfold prodN at h ⊢
 rw [List.take_add_one, h1, List.foldl_append, ← h, hr]
 rfl
theorem monL_range {p n : Nat} {l m : List (List Nat)} (h : m = (List.range n).map fun i => monicP p (nrmP p (l.getD i []))) (hn : l.length = n) : m = monL p l := by
 subst hn
 rw [h]
 refine List.ext_getElem (by simp [monL]) fun i h1 h2 => ?_
 simp at h1
 simp [monL, List.getD, h1]
theorem symL_next {p i : Nat} {l : List (List Nat)} {fo : List PE} {r : PE} {d : List Nat} (h : zsL fo = symL p (l.take i)) (hi : i < l.length) (hd : l.getD i [] = d) (hr : zs r.l = trimZ (d.map (symN p))) : zsL (fo ++ [r]) = symL p (l.take (i + 1)) := by
 have h1 : l[i]? = some d := by rw [← hd, List.getD, List.getElem?_eq_getElem hi]; rfl
 unfold symL at h ⊢
 rw [List.take_add_one, h1, List.map_append, ← h, zsL, List.map_append]
 simp [zsL, hr]
theorem symL_end {p i : Nat} {l : List (List Nat)} {fo : List PE} (h : zsL fo = symL p (l.take i)) (hi : l.length ≤ i) : zsL fo = symL p l := by
 rw [h, List.take_of_length_le hi]
inductive LReach (p k : Nat) (f : List Int) (A0 A1 : List (List Int)) : List (List Int) → List (List Int) → Nat → Prop
 | start : LReach p k f A0 A1 A0 A1 1
 | next {L0 L1 : List (List Int)} {e : Nat} {x K : Int} (h : LReach p k f A0 A1 L0 L1 e) (he : e < k) (hn : ¬ isFac f L0) (hx : x * ldP f = 1 + ((p ^ (e + min e (k - e)) : Nat) : Int) * K) (hs : x = symZ (p ^ (e + min e (k - e))) x) :
   LReach p k f A0 A1 (step0 (p ^ (e + min e (k - e))) x f L0 L1) (step1 (p ^ (e + min e (k - e))) x f L0 L1) (e + min e (k - e))
theorem cop_pow {p n : Nat} {a : Int} (hp : PrimeN p) (h : md p a ≠ 0) : Int.gcd a ((p ^ n : Nat) : Int) = 1 := by
 have h0 : 0 < p := by have := hp.1; omega
 have hm : (md p a : Nat) < p := md_lt h0 a
 have h1 : Nat.gcd (md p a) p = 1 := hp.2 _ (by omega) hm
 have h2 : Int.gcd a p = 1 := by
  obtain ⟨k, hk⟩ := md_ex h0 a
  obtain ⟨u, v, huv⟩ := bez (md p a) p
  rw [h1] at huv
  have e1 : u * a + (v - u * k) * p = 1 := by rw [hk]; grind
  have h3 : ((Int.gcd a p : Nat) : Int) ∣ 1 := by
   rw [← e1]
   exact Int.dvd_add (Int.dvd_mul_of_dvd_right (Int.gcd_dvd_left ..)) (Int.dvd_mul_of_dvd_right (Int.gcd_dvd_right ..))
  have h4 : (Int.gcd a p) ∣ 1 := by exact_mod_cast h3
  exact Nat.dvd_one.1 h4
 rw [Int.gcd] at h2 ⊢
 rw [Int.natAbs_natCast] at h2 ⊢
 exact Nat.Coprime.pow_right n h2
theorem pow_small {p e : Nat} (hp : p < 16) (he : e ≤ 64) : p ^ e ≤ 2 ^ 256 := by
 calc p ^ e ≤ 16 ^ e := Nat.pow_le_pow_left (by omega) e
  _ ≤ 16 ^ 64 := Nat.pow_le_pow_right (by decide) he
  _ = 2 ^ 256 := by decide
theorem pow_tight {p e : Nat} {g : Bool} {d : List Nat} (hp : p < 16) (he : e ≤ 64) (hv : zval g d = ((p ^ e : Nat) : Int)) : (zval g d).natAbs < BS ^ 9 := by
 rw [hv, Int.natAbs_natCast]
 have h1 := pow_small hp he
 have h2 : (2 : Nat) ^ 256 < BS ^ 9 := by decide
 omega
theorem powI_ne {p e : Nat} (hp : 0 < p) : ((p ^ e : Nat) : Int) ≠ 0 := by
 have := Nat.pow_pos (n := e) hp
 omega
theorem mod_next {p e m : Nat} {u v : Int} {x : Int} (hu : u = ((p ^ e : Nat) : Int)) (hv : v = (p : Int) ^ x.toNat) (hx : x = (m : Int)) : u * v = ((p ^ (e + m) : Nat) : Int) := by
 subst hx hu hv
 rw [Int.toNat_natCast, Nat.pow_add, Int.natCast_mul, Int.natCast_pow, Int.natCast_pow]
theorem natAbs_pow {p e : Nat} {u : Int} (h : u = ((p ^ e : Nat) : Int)) : u.natAbs = p ^ e := by rw [h, Int.natAbs_natCast]
def GC (p : Nat) (f g : List Nat) : Prop := (gcdP p (nrmP p f) (nrmP p g)).length ≤ 1
def CoA (p : Nat) (l : List (List Nat)) : Prop := ∀ (i j : Nat) (f g : List Nat), j < i → l[i]? = some f → l[j]? = some g → GC p f g
end Go.Gx

/-
 Lists of polynomials modulo a number: what is read, what is filled, cofactors. No program in sight.
-/
namespace Go.Gx
open Go.RowKit
structure NE where
 A : Option Addr
 n : Nat
 c : Nat
 d : List Nat
def NE.zero : NE := ⟨none, 0, 0, []⟩
def LN : LK NE := ⟨fun f => .slice f.A f.n f.c, fun w S f => NatR w S f.A f.n f.c f.d, fun _ => rfl, fun h f hd => h.frmB f hd, fun h f => h.ext f, fun h hs => h.sub hs⟩
def dsN (l : List NE) : List (List Nat) := l.map NE.d
theorem dsN_get {l : List NE} {i : Nat} {A : Option Addr} {n c : Nat} {d : List Nat} (h : l[i]? = some ⟨A, n, c, d⟩) : (dsN l).getD i [] = d := by
 simp [dsN, List.getD, h]
theorem dsN_len {l : List NE} : (dsN l).length = l.length := by simp [dsN]
section
variable {α : Type} {L : LK α} {w : World} {S : Nat → Prop} {A : Option Addr} {n c : Nat} {l : List α}
theorem GListR.take {m : Nat} (h : GListR L w S A n c l) (hm : m ≤ n) : GListR L w S A m c (l.take m) := by
 refine ⟨?_, fun f hf => h.2 f (List.mem_of_mem_take hf)⟩
 have := h.1.take hm
 rw [Nat.mul_one, ← List.map_take] at this
 exact this
theorem GListR.of_blk {g : Nat} {t : TypeId} (h : Blk w g t (l.map L.v)) (ha : ∀ f ∈ l, L.R w S f) (hS : S g) (hl : l.length = n) (hc : n ≤ c) (hm : c ≤ CapMax) : GListR L w S (some ⟨g, 0, none⟩) n c l :=
 ⟨Rd.of_blk h hS (by rw [List.length_map, hl, Nat.mul_one]) hc hm, ha⟩
end
def AllM (w : World) (S : Nat → Prop) (M : Nat) (l : List NE) : Prop := ∀ r ∈ l, NatR w S r.A r.n r.c r.d ∧ r.n ≤ M
section
variable {w w' : World} {S S' G : Nat → Prop} {M M' : Nat} {l l' : List NE}
theorem AllM.frmB (h : AllM w S M l) (f : Frm G w w') (hd : ∀ b, b < w.heap.size → S b → ¬ G b) : AllM w' S M l := fun r hr => ⟨(h r hr).1.frmB f hd, (h r hr).2⟩
theorem AllM.nil : AllM w S M [] := fun r hr => by cases hr
theorem AllM.snoc {r : NE} (h : AllM w S M l) (hn : NatR w S r.A r.n r.c r.d) (hm : r.n ≤ M) : AllM w S M (l ++ [r]) := fun x hx => by
 rcases List.mem_append.1 hx with h1 | h1
 ·exact h x h1
 ·simp at h1; subst h1; exact ⟨hn, hm⟩
theorem AllM.app (h : AllM w S M l) (h' : AllM w S M l') : AllM w S M (l ++ l') := fun x hx => by
 rcases List.mem_append.1 hx with h1 | h1
 ·exact h x h1
 ·exact h' x h1
theorem AllM.zeros (m : Nat) : AllM w S M (List.replicate m NE.zero) := fun x hx => by
 rw [List.eq_of_mem_replicate hx]; exact ⟨NatR.nil, Nat.zero_le _⟩
end
theorem fillM_set {L : List NE} {m m' k : Nat} {r : NE} (hk : L.length = k) (hm : m = m' + 1) : (L ++ List.replicate m NE.zero).set k r = (L ++ [r]) ++ List.replicate m' NE.zero := by
 subst hk hm
 rw [List.replicate_succ]
 simp
theorem dsN_snoc {L : List NE} {k : Nat} {F : Nat → List Nat} {r : NE} (h : dsN L = (List.range k).map F) (hr : r.d = F k) : dsN (L ++ [r]) = (List.range (k + 1)).map F := by
 show (L ++ [r]).map NE.d = _
 rw [List.map_append, List.range_succ, List.map_append, show L.map NE.d = _ from h]
 simp [hr]
def othP (p : Nat) (g : List Nat) (i : Nat) (l : List (List Nat)) : Nat → List Nat
 | 0 => [1]
 | k + 1 => if k = i then othP p g i l k else (divP p (nrmP p (mulP p (othP p g i l k) (l.getD k []))) (nrmP p g)).2
theorem othP_eq {p : Nat} {g : List Nat} {i : Nat} {l : List (List Nat)} {k : Nat} (h : k = i) : othP p g i l (k + 1) = othP p g i l k := by
 rw [othP, if_pos h]
theorem othP_ne {p : Nat} {g : List Nat} {i : Nat} {l : List (List Nat)} {k : Nat} {u d m q r : List Nat} (hu : u = othP p g i l k) (h : k ≠ i) (hd : l.getD k [] = d) (em : m = mulP p u d) (e : divP p (nrmP p m) (nrmP p g) = (q, r)) : r = othP p g i l (k + 1) := by
 rw [othP, if_neg h, hd, ← hu, ← em, e]
def cofG (p : Nat) (l : List (List Nat)) (i : Nat) : List Nat := (xgcdP p (nrmP p (othP p (l.getD i []) i l l.length)) (nrmP p (l.getD i []))).2.1
theorem cofG_of {p : Nat} {l : List (List Nat)} {i : Nat} {g u a b c : List Nat} (hg : l.getD i [] = g) (hu : u = othP p g i l l.length) (e : xgcdP p (nrmP p u) (nrmP p g) = (a, b, c)) : b = cofG p l i := by
 unfold cofG
 rw [hg, ← hu, e]
def cofsG (p : Nat) (l : List (List Nat)) : List (List Nat) := (List.range l.length).map (cofG p l)
theorem coa_full {p n : Nat} {fl : List NE} (h : ∀ (a b : Nat) (f g : NE), b < a → a < n → fl[a]? = some f → fl[b]? = some g → GC p f.d g.d) (hn : fl.length ≤ n) : CoA p (dsN fl) := by
 intro i j f g hj h1 h2
 unfold dsN at h1 h2
 rw [List.getElem?_map] at h1 h2
 cases e1 : fl[i]? with
 | none => rw [e1] at h1; cases h1
 | some x =>
  cases e2 : fl[j]? with
  | none => rw [e2] at h2; cases h2
  | some y =>
   rw [e1] at h1; rw [e2] at h2
   cases h1; cases h2
   exact h i j x y hj (by have := (List.getElem?_eq_some_iff.1 e1).1; omega) e1 e2
theorem coa_not {p a b : Nat} {fl : List NE} {f g : NE} (h1 : fl[a]? = some f) (h2 : fl[b]? = some g) (h : b < a) (hn : ¬ GC p f.d g.d) : ¬ CoA p (dsN fl) := fun hc => hn (hc a b f.d g.d h (by simp [dsN, h1]) (by simp [dsN, h2]))
theorem coa_next {p i j : Nat} {fl : List NE} {x : NE} (h : ∀ (a b : Nat) (f g : NE), b < a → a < i → fl[a]? = some f → fl[b]? = some g → GC p f.d g.d) (hx : fl[i]? = some x) (h3 : ∀ (b : Nat) (g : NE), b < j → fl[b]? = some g → GC p x.d g.d) (hj : i ≤ j) :
  ∀ (a b : Nat) (f g : NE), b < a → a < i + 1 → fl[a]? = some f → fl[b]? = some g → GC p f.d g.d := fun a b f g hb ha h1 h2 => by
 rcases Nat.lt_or_ge a i with h4 | h4
 ·exact h a b f g hb h4 h1 h2
 ·obtain rfl : a = i := by omega
  rw [hx] at h1; cases h1
  exact h3 b g (by omega) h2
theorem coa_in {p j : Nat} {fl : List NE} {d : List Nat} {y : NE} (h : ∀ (b : Nat) (g : NE), b < j → fl[b]? = some g → GC p d g.d) (hy : fl[j]? = some y) (hg : GC p d y.d) : ∀ (b : Nat) (g : NE), b < j + 1 → fl[b]? = some g → GC p d g.d := fun b g hb h2 => by
 rcases Nat.lt_or_ge b j with h4 | h4
 ·exact h b g h4 h2
 ·obtain rfl : b = j := by omega
  rw [hy] at h2; cases h2
  exact hg
end Go.Gx

/-
 Two lists of polynomials that grow side by side and are held in cells of a known block. No program in sight.
-/
namespace Go.Gx
open Go.RowKit
def OwnY (M g : Nat) (w : World) (B : Nat) (el : TypeId) (A : Option Addr) (n c : Nat) (l : List PE) (A' : Option Addr) (n' c' : Nat) (l' : List PE) : Prop := g < B ∧ OwnT (LPx M g) (LPx M g) w B el el A n c l A' n' c' l'
section
variable {M g : Nat} {w w' : World} {B : Nat} {el : TypeId} {A A' : Option Addr} {n c n' c' : Nat} {l l' : List PE} {G : Nat → Prop}
theorem OwnY.nil (h : g < B) : OwnY M g w B el none 0 0 [] none 0 0 [] := ⟨h, OwnT.nil⟩
theorem OwnY.ext (h : OwnY M g w B el A n c l A' n' c' l') (k : Ext w w') : OwnY M g w' B el A n c l A' n' c' l' := ⟨h.1, h.2.ext k⟩
theorem OwnY.frmB (h : OwnY M g w B el A n c l A' n' c' l') (f : Frm G w w') (hd : ∀ b, b < w.heap.size → g < b → ¬ G b) : OwnY M g w' B el A n c l A' n' c' l' :=
 ⟨h.1, ⟨h.2.a.frmG f fun b hb hB => hd b hb (by have := h.1; omega), h.2.b.frmG f fun b hb hB => hd b hb (by have := h.1; omega), fun x hx => PolyR.frmB (h.2.ea x hx) f fun b hb hs => hd b hb hs.2, fun x hx => PolyR.frmB (h.2.eb x hx) f fun b hb hs => hd b hb hs.2, h.2.s⟩⟩
theorem OwnY.swap (h : OwnY M g w B el A n c l A' n' c' l') : OwnY M g w B el A' n' c' l' A n c l := ⟨h.1, h.2.swap⟩
theorem OwnY.lkm (h : OwnY M g w B el A n c l A' n' c' l') : (l.length = n ∧ n ≤ c ∧ c ≤ 9223372036854775807) ∧ l'.length = n' ∧ n' ≤ c' ∧ c' ≤ 9223372036854775807 := h.2.lkm
theorem OwnY.left (h : OwnY M g w B el A n c l A' n' c' l') : PolysR w (fun b => g < b ∧ b < w.heap.size) A n c l M :=
 GListR.polys ⟨h.2.a.rd.sub fun b hb hB => ⟨by have := h.1; omega, hb⟩, fun f hf => PolyR.sub (h.2.ea f hf) fun b hb hs => ⟨hs.2, hb⟩⟩
theorem OwnY.right (h : OwnY M g w B el A n c l A' n' c' l') : PolysR w (fun b => g < b ∧ b < w.heap.size) A' n' c' l' M := h.swap.left
end
end Go.Gx

/-
 The fixed example of the laws on the lift. Plain numbers; no program in sight.
-/
namespace Go.Gx
def fitL : List (List Nat) := [[2, 1], [3, 1]]
theorem fit_mon : monL 5 fitL = [[2, 1], [3, 1]] := by decide +kernel
theorem fit_A0 : symL 5 (monL 5 fitL) = [[2, 1], [-2, 1]] := by decide +kernel
theorem fit_step : step0 25 1 [1, 0, 1] (symL 5 (monL 5 fitL)) (symL 5 (cofsG 5 (monL 5 fitL))) = [[7, 1], [-7, 1]] := by decide +kernel
theorem fit_reach {L0 L1 : List (List Int)} {e : Nat} (h : LReach 5 2 [1, 0, 1] (symL 5 (monL 5 fitL)) (symL 5 (cofsG 5 (monL 5 fitL))) L0 L1 e) :
  (e = 1 ∧ L0 = symL 5 (monL 5 fitL) ∧ L1 = symL 5 (cofsG 5 (monL 5 fitL))) ∨ (e = 2 ∧ L0 = [[7, 1], [-7, 1]]) := by
 induction h with
 | start => exact .inl ⟨rfl, rfl, rfl⟩
 | @next L0 L1 e x K h he hn hx hs ih =>
  rcases ih with ⟨rfl, rfl, rfl⟩ | ⟨rfl, _⟩
  ·refine .inr ⟨rfl, ?_⟩
   have e25 : 5 ^ (1 + min 1 (2 - 1)) = 25 := by decide
   rw [e25] at hx hs ⊢
   rw [show ldP [1, 0, 1] = 1 by decide +kernel] at hx
   have hb := symZ_rng (m := 25) (by decide) x
   rw [← hs] at hb
   obtain rfl : x = 1 := by omega
   exact fit_step
  ·omega
theorem fit_ok : ∀ L0 L1 e, LReach 5 2 [1, 0, 1] (symL 5 (monL 5 fitL)) (symL 5 (cofsG 5 (monL 5 fitL))) L0 L1 e → ∀ u ∈ L0, 0 < (trimZ u).length := by
 intro L0 L1 e h
 rcases fit_reach h with ⟨_, h, _⟩ | ⟨_, h⟩
 ·rw [h, fit_A0]; decide +kernel
 ·rw [h]; decide +kernel
theorem fit_end {L0 : List (List Int)} (h : ∃ L1 e, LReach 5 2 [1, 0, 1] (symL 5 (monL 5 fitL)) (symL 5 (cofsG 5 (monL 5 fitL))) L0 L1 e ∧ (e = 2 ∨ isFac [1, 0, 1] L0)) : L0 = [[7, 1], [-7, 1]] := by
 obtain ⟨L1, e, h, hx⟩ := h
 rcases fit_reach h with ⟨rfl, h, _⟩ | ⟨_, h⟩
 ·exfalso
  rcases hx with hx | hx
  ·omega
  ·rw [h, fit_A0] at hx
   revert hx
   decide +kernel
 ·exact h
theorem fit_deg : ∀ d ∈ monL 5 fitL, 2 ≤ (nrmP 5 d).length := by rw [fit_mon]; decide +kernel
theorem fit_co : ∀ (i j : Nat) (f g : List Nat), j < i → (monL 5 fitL)[i]? = some f → (monL 5 fitL)[j]? = some g → (gcdP 5 (nrmP 5 f) (nrmP 5 g)).length ≤ 1 := by
 rw [fit_mon]
 intro i j f g h h1 h2
 obtain ⟨rfl, rfl⟩ : i = 1 ∧ j = 0 := by
  have := (List.getElem?_eq_some_iff.1 h1).1
  simp at this
  omega
 simp at h1 h2
 subst h1 h2
 decide +kernel
theorem fit_lead : md 5 (ldP [1, 0, 1]) ≠ 0 := by decide +kernel
theorem fit_same : nrmP 5 (prodN 5 [md 5 (ldP [1, 0, 1])] (monL 5 fitL)) = nrmP 5 (redP 5 [1, 0, 1]) := by decide +kernel
theorem fit_coa : CoA 5 (monL 5 fitL) := fit_co
theorem fit_end2 {L0 : List (List Int)} {o : Int} {n : Nat} (h : (¬ CoA 5 (monL 5 fitL) ∧ o = 5 ∧ n = 0) ∨ (CoA 5 (monL 5 fitL) ∧ BadL 5 [1, 0, 1] (monL 5 fitL) ∧ o = 3 ∧ n = 0) ∨ (CoA 5 (monL 5 fitL) ∧ ¬ BadL 5 [1, 0, 1] (monL 5 fitL) ∧ o = 0 ∧ (∃ L1 e, LReach 5 2 [1, 0, 1] (symL 5 (monL 5 fitL)) (symL 5 (cofsG 5 (monL 5 fitL))) L0 L1 e ∧ (e = 2 ∨ isFac [1, 0, 1] L0)) ∧ n = 2)) : L0 = [[7, 1], [-7, 1]] ∧ o = 0 ∧ n = 2 := by
 rcases h with ⟨h, _⟩ | ⟨_, h, _⟩ | ⟨_, _, h1, h2, h3⟩
 ·exact absurd fit_coa h
 ·exact absurd h fun h => h.elim fit_lead fun h => h fit_same
 ·exact ⟨fit_end h2, h1, h3⟩
theorem zsL_get {fl : List PE} {L : List (List Int)} {i : Nat} {A : Option Addr} {n c : Nat} {l : List RI} {z : List Int} (h : zsL fl = L) (he : fl[i]? = some ⟨A, n, c, l⟩) (hz : L[i]? = some z) : zs l = z := by
 rw [← h] at hz
 simpa [zsL, he] using hz
end Go.Gx

/-
 Polynomials that are congruent modulo a number; a factorization modulo a prime has one lift. Plain numbers; no program in sight.
-/
namespace Go.Gx
theorem evI_of {f : List Int} {x v : Int} (h : evQ f (x : Rat) = ((v : Int) : Rat)) : evI f x = v := by
 rw [evQ_int] at h; exact_mod_cast h
theorem evI_congr {f g : List Int} (h : ∀ i, co f i = co g i) (x : Int) : evI f x = evI g x := evI_of (by rw [evQ_congr _ h, evQ_int])
theorem evI_trim (f : List Int) (x : Int) : evI (trimZ f) x = evI f x := evI_congr (fun i => co_trim f i) x
theorem evI_padd (f g : List Int) (x : Int) : evI (padd f g) x = evI f x + evI g x := evI_of (by rw [evQ_padd, evQ_int, evQ_int, ← Rat.intCast_add])
theorem evI_psub (f g : List Int) (x : Int) : evI (psub f g) x = evI f x - evI g x := evI_of (by rw [evQ_psub, evQ_int, evQ_int, ← Rat.intCast_sub])
theorem evI_pmul (f g : List Int) (x : Int) : evI (pmul f g) x = evI f x * evI g x := evI_of (by rw [evQ_pmul, evQ_int, evQ_int, ← Rat.intCast_mul])
theorem evI_scale (f : List Int) (c x : Int) : evI (scaleP f c) x = c * evI f x := evI_of (by rw [evQ_scale, evQ_int, ← Rat.intCast_mul])
theorem evI_eq {f g : List Int} (h : ∀ x : Int, evI f x = evI g x) : trimZ f = trimZ g := poly_eq fun x => by rw [evQ_int, evQ_int, h]
theorem evI_co {f g : List Int} (h : ∀ x : Int, evI f x = evI g x) (i : Nat) : co f i = co g i := by rw [← co_trim f, ← co_trim g, evI_eq h]
def CgV (m : Int) (f g : List Int) : Prop := ∃ h : List Int, ∀ x : Int, evI f x = evI g x + m * evI h x
theorem CgV.refl (m : Int) (f : List Int) : CgV m f f := ⟨[], fun x => by simp only [evI]; grind⟩
theorem CgV.symm {m : Int} {f g : List Int} (h : CgV m f g) : CgV m g f := by
 obtain ⟨a, h⟩ := h
 exact ⟨scaleP a (-1), fun x => by rw [evI_scale, h]; grind⟩
theorem CgV.trans {m : Int} {f g k : List Int} (h : CgV m f g) (h2 : CgV m g k) : CgV m f k := by
 obtain ⟨a, h⟩ := h; obtain ⟨b, h2⟩ := h2
 exact ⟨padd a b, fun x => by rw [evI_padd, h, h2]; grind⟩
theorem CgV.mul {m : Int} {f g k l : List Int} (h : CgV m f g) (h2 : CgV m k l) : CgV m (pmul f k) (pmul g l) := by
 obtain ⟨a, h⟩ := h; obtain ⟨b, h2⟩ := h2
 exact ⟨padd (padd (pmul a l) (pmul g b)) (scaleP (pmul a b) m), fun x => by simp only [evI_padd, evI_pmul, evI_scale, h, h2]; grind⟩
theorem CgV.low {m n : Int} {f g : List Int} (h : CgV (m * n) f g) : CgV m f g := by
 obtain ⟨a, h⟩ := h
 exact ⟨scaleP a n, fun x => by rw [evI_scale, h]; grind⟩
theorem CgV.dvd {m n : Int} {f g : List Int} (h : CgV n f g) (hd : m ∣ n) : CgV m f g := by
 obtain ⟨k, rfl⟩ := hd
 exact h.low
theorem CgV.cof {m : Int} {f g : List Int} (h : CgV m f g) (i : Nat) : ∃ k, co f i = co g i + m * k := by
 obtain ⟨a, h⟩ := h
 have h2 := evI_co (f := f) (g := padd g (scaleP a m)) (fun x => by rw [evI_padd, evI_scale, h]) i
 exact ⟨co a i, by rw [h2, co_padd, co_scaleP]; grind⟩
theorem CgV.of {m : Int} {f g : List Int} (h : ∀ i, m ∣ co f i - co g i) : CgV m f g := by
 refine ⟨(List.range (max f.length g.length)).map fun i => (co f i - co g i) / m, fun x => ?_⟩
 have e : ∀ i, co f i = co (padd g (scaleP ((List.range (max f.length g.length)).map fun i => (co f i - co g i) / m) m)) i := fun i => by
  rw [co_padd, co_scaleP, co_map_range]
  split
  ·have := Int.ediv_mul_cancel (h i); omega
  ·rw [co_ge (f := f) (by omega), co_ge (f := g) (by omega)]; simp
 rw [evI_congr e, evI_padd, evI_scale]
def Mon (f : List Int) (d : Nat) : Prop := co f d = 1 ∧ ∀ i, d < i → co f i = 0
theorem mon_zero {m : Int} {C W S : List Int} {d : Nat} (hC : Mon C d) (h : CgV m (pmul C W) S) (hS : ∀ i, d ≤ i → m ∣ co S i) : CgV m W [] := by
 have key : ∀ n j, W.length ≤ j + n → m ∣ co W j := by
  intro n
  induction n with
  | zero => intro j hj; rw [co_ge (by omega)]; exact Int.dvd_zero _
  | succ n ih =>
   intro j hj
   obtain ⟨k, hk⟩ := h.cof (d + j)
   rw [co_pmul, show conv C W (d + j) = rsum (fun i => co C i * co W (d + j - i)) (d + j + 1) from rfl] at hk
   have h1 := rsum_but (p := m) (F := fun i => co C i * co W (d + j - i)) (i := d) (d + j + 1) (fun a ha hne => by
    rcases Nat.lt_or_ge a d with h2 | h2
    ·exact Int.dvd_mul_of_dvd_right (ih (d + j - a) (by omega))
    ·rw [hC.2 a (by omega), Int.zero_mul]; exact Int.dvd_zero _)
   rw [if_pos (by omega)] at h1
   rw [hC.1, Int.one_mul, show d + j - d = j by omega, hk] at h1
   have h3 := hS (d + j) (by omega)
   have h4 : m ∣ (co S (d + j) + m * k) := Int.dvd_add h3 (Int.dvd_mul_right _ _)
   have h5 := Int.dvd_sub h4 h1
   rw [show co S (d + j) + m * k - (co S (d + j) + m * k - co W j) = co W j by omega] at h5
   exact h5
 exact CgV.of fun i => by
  have := key W.length i (by omega)
  rw [show co ([] : List Int) i = 0 by simp [Go.Gx.co]]
  simpa using this
theorem split_low {m : Int} {A C : List Int} {d : Nat} (hm : m ≠ 0) (hA : Mon A d) (hC : Mon C d) (h : CgV m A C) : ∃ S : List Int, (∀ x, evI A x = evI C x + m * evI S x) ∧ ∀ i, d ≤ i → co S i = 0 := by
 obtain ⟨S, hS⟩ := h
 refine ⟨S, hS, fun i hi => ?_⟩
 have h2 := evI_co (f := A) (g := padd C (scaleP S m)) (fun x => by rw [evI_padd, evI_scale, hS]) i
 rw [co_padd, co_scaleP] at h2
 have h3 : co A i = co C i := by
  rcases Nat.lt_or_ge d i with h4 | h4
  ·rw [hA.2 i h4, hC.2 i h4]
  ·obtain rfl : i = d := by omega
   rw [hA.1, hC.1]
 have h4 : co S i * m = 0 := by omega
 exact (Int.mul_eq_zero.1 h4).resolve_right hm
theorem uniq2 {p : Nat} {A B C D u v : List Int} {c d N : Nat} (hp : 0 < p) (hA : Mon A c) (hC : Mon C c) (hB : Mon B d) (hD : Mon D d) (h1 : CgV (p : Int) A C) (h2 : CgV (p : Int) B D) (hc : CgV (p : Int) (padd (pmul u C) (pmul v D)) [1]) (h : CgV (((p ^ N : Nat) : Int)) (pmul A B) (pmul C D)) :
  ∀ n, n ≤ N → CgV ((p ^ n : Nat) : Int) A C ∧ CgV ((p ^ n : Nat) : Int) B D := by
 intro n
 induction n with
 | zero => intro _; constructor <;> exact CgV.of fun i => by simp
 | succ n ih =>
  intro hn
  rcases Nat.eq_zero_or_pos n with h0 | h0
  ·subst h0
   simp only [Nat.zero_add, Nat.pow_one]
   exact ⟨h1, h2⟩
  obtain ⟨i1, i2⟩ := ih (by omega)
  have hq : ((p ^ n : Nat) : Int) ≠ 0 := by have := Nat.pow_pos (n := n) hp; omega
  obtain ⟨S, hS, lS⟩ := split_low hq hA hC i1
  obtain ⟨T, hT, lT⟩ := split_low hq hB hD i2
  obtain ⟨E, hE⟩ := hc
  have h' : CgV ((p ^ n : Nat) * (p : Int)) (pmul A B) (pmul C D) := by
   refine h.dvd ?_
   rw [← Int.natCast_mul, ← Nat.pow_succ]
   exact_mod_cast Nat.pow_dvd_pow p hn
  obtain ⟨K, hK⟩ := h'
  obtain ⟨n', rfl⟩ : ∃ n', n = n' + 1 := ⟨n - 1, by omega⟩
  generalize hQ : ((p ^ (n' + 1) : Nat) : Int) = q at *
  have hqp : q = ((p ^ n' : Nat) : Int) * p := by rw [← hQ, Nat.pow_succ, Int.natCast_mul]
  -- S D + C T is a multiple of p
  let K2 := psub K (scaleP (pmul S T) ((p ^ n' : Nat) : Int))
  have hK2 : ∀ x, evI S x * evI D x + evI C x * evI T x = p * evI K2 x := by
   intro x
   have a1 := hK x
   rw [evI_pmul, evI_pmul, hS, hT] at a1
   have a2 : evI K2 x = evI K x - ((p ^ n' : Nat) : Int) * (evI S x * evI T x) := by rw [evI_psub, evI_scale, evI_pmul]
   have a3 : q * (evI S x * evI D x + evI C x * evI T x) = q * (p * evI K2 x) := by rw [a2]; grind
   exact Int.eq_of_mul_eq_mul_left hq a3
  have e1 : ∀ x, evI u x * evI C x + evI v x * evI D x = 1 + p * evI E x := by
   intro x
   have := hE x
   rw [evI_padd, evI_pmul, evI_pmul] at this
   simp only [evI] at this
   omega
  have w1 : CgV (p : Int) (psub (pmul S u) (pmul v T)) [] := mon_zero (C := C) (S := S) hC ⟨psub (pmul S E) (pmul v K2), fun x => by
   simp only [evI_pmul, evI_psub]
   have a1 := hK2 x
   have a2 := e1 x
   grind⟩ (fun i hi => by rw [lS i hi]; exact Int.dvd_zero _)
  obtain ⟨W, hW⟩ := w1
  have s1 : ∀ x, evI S x = p * evI (psub (padd (pmul C W) (pmul v K2)) (pmul S E)) x := by
   intro x
   have a1 := hK2 x
   have a2 := e1 x
   have a3 := hW x
   simp only [evI_psub, evI_pmul, evI_padd, evI] at a3 ⊢
   grind
  have t1 : CgV (p : Int) T [] := mon_zero (C := C) (S := []) hC ⟨psub K2 (pmul D (psub (padd (pmul C W) (pmul v K2)) (pmul S E))), fun x => by
   have a1 := hK2 x
   have a2 := s1 x
   simp only [evI_psub, evI_pmul, evI_padd, evI] at a2 ⊢
   grind⟩ (fun i _ => by simp [co])
  obtain ⟨T2, hT2⟩ := t1
  have hq2 : ((p ^ (n' + 1 + 1) : Nat) : Int) = q * p := by rw [Nat.pow_succ, Int.natCast_mul, hQ]
  rw [hq2]
  exact ⟨⟨psub (padd (pmul C W) (pmul v K2)) (pmul S E), fun x => by rw [hS, s1]; grind⟩, ⟨T2, fun x => by rw [hT, hT2]; simp only [evI]; grind⟩⟩
end Go.Gx

/-
 A list of factors modulo a prime has one lift; one step of the lift is right. Plain numbers; no program in sight.
-/
namespace Go.Gx
theorem CgV.add {m : Int} {f g k l : List Int} (h : CgV m f g) (h2 : CgV m k l) : CgV m (padd f k) (padd g l) := by
 obtain ⟨a, h⟩ := h; obtain ⟨b, h2⟩ := h2
 exact ⟨padd a b, fun x => by rw [evI_padd, evI_padd, evI_padd, h, h2]; grind⟩
theorem CgV.sub {m : Int} {f g k l : List Int} (h : CgV m f g) (h2 : CgV m k l) : CgV m (psub f k) (psub g l) := by
 obtain ⟨a, h⟩ := h; obtain ⟨b, h2⟩ := h2
 exact ⟨psub a b, fun x => by rw [evI_psub, evI_psub, evI_psub, h, h2]; grind⟩
theorem CgV.scale {m : Int} {f g : List Int} (h : CgV m f g) (c : Int) : CgV m (scaleP f c) (scaleP g c) := by
 obtain ⟨a, h⟩ := h
 exact ⟨scaleP a c, fun x => by rw [evI_scale, evI_scale, evI_scale, h]; grind⟩
theorem CgV.eqv {m : Int} {f g : List Int} (h : ∀ x, evI f x = evI g x) : CgV m f g := ⟨[], fun x => by rw [h]; simp [evI]⟩
theorem CgV.trim {m : Int} (f : List Int) : CgV m (trimZ f) f := CgV.eqv fun x => evI_trim f x
theorem CgV.red {m : Nat} (f : List Int) : CgV (m : Int) (redZ m f) f := CgV.of fun i => by
 obtain ⟨k, hk⟩ := redZ_cg m f i
 exact ⟨k, by omega⟩
def pL : List (List Int) → List Int
 | [] => [1]
 | a :: l => pmul a (pL l)
def tL : List (List Int) → List (List Int) → List Int
 | g :: gs, s :: ss => padd (pmul s (pL gs)) (pmul g (tL gs ss))
 | _, _ => []
def Cop (p : Int) (a b : List Int) : Prop := ∃ u v, CgV p (padd (pmul u a) (pmul v b)) [1]
inductive Fit (p : Int) : List (List Int) → List (List Int) → Prop
 | nil : Fit p [] []
 | cons {a b : List Int} {as bs : List (List Int)} (d : Nat) (ha : Mon a d) (hb : Mon b d) (h : CgV p a b) (t : Fit p as bs) : Fit p (a :: as) (b :: bs)
def Pw (p : Int) : List (List Int) → Prop
 | [] => True
 | b :: bs => (∀ c ∈ bs, Cop p b c) ∧ Pw p bs
theorem Cop.prod {p : Int} {b : List Int} : ∀ {bs : List (List Int)}, (∀ c ∈ bs, Cop p b c) → Cop p b (pL bs)
 | [], _ => ⟨[], [1], CgV.eqv fun x => by simp [evI_padd, evI_pmul, pL, evI]⟩
 | c :: bs, h => by
  obtain ⟨u, v, e, he⟩ := h c (List.mem_cons_self ..)
  obtain ⟨u', v', e', he'⟩ := Cop.prod (bs := bs) fun c hc => h c (List.mem_cons_of_mem _ hc)
  refine ⟨padd (pmul u (padd (pmul u' b) (pmul v' (pL bs)))) (pmul (pmul v c) u'), pmul v v', padd (padd e e') (scaleP (pmul e e') p), fun x => ?_⟩
  have a1 := he x
  have a2 := he' x
  simp only [evI_padd, evI_pmul, evI_scale, pL, evI] at a1 a2 ⊢
  generalize evI u x = U at *; generalize evI v x = V at *; generalize evI u' x = U' at *; generalize evI v' x = V' at *
  generalize evI b x = B at *; generalize evI c x = C at *; generalize evI (pL bs) x = D at *
  have a3 : (U * B + V * C) * (U' * B + V' * D) = (1 + p * evI e x) * (1 + p * evI e' x) := by rw [a1, a2]; grind
  grind
theorem co_pmul_hi {f g : List Int} {a b : Nat} (hf : ∀ i, a ≤ i → co f i = 0) (hg : ∀ i, b < i → co g i = 0) (i : Nat) (hi : a + b ≤ i) : co (pmul f g) i = 0 := by
 rw [co_pmul]
 refine rsum_zero fun j hj => ?_
 rcases Nat.lt_or_ge j a with h | h
 ·show co f j * co g (i - j) = 0
  rw [hg (i - j) (by omega), Int.mul_zero]
 ·show co f j * co g (i - j) = 0
  rw [hf j h, Int.zero_mul]
theorem Mon.mul {f g : List Int} {a b : Nat} (hf : Mon f a) (hg : Mon g b) : Mon (pmul f g) (a + b) := by
 constructor
 ·rw [co_pmul]
  refine (rsum_single (j := a) (by omega) fun j hj hne => ?_).trans ?_
  ·rcases Nat.lt_or_ge j a with h | h
   ·show co f j * co g (a + b - j) = 0
    rw [hg.2 _ (by omega), Int.mul_zero]
   ·show co f j * co g (a + b - j) = 0
    rw [hf.2 j (by omega), Int.zero_mul]
  ·show co f a * co g (a + b - a) = 1
   rw [show a + b - a = b by omega, hf.1, hg.1]; rfl
 ·exact fun i hi => co_pmul_hi (a := a + 1) (b := b) (fun j hj => hf.2 j (by omega)) hg.2 i (by omega)
theorem mon_one : Mon [1] 0 := ⟨rfl, fun i hi => by rw [co_ge]; simp; omega⟩
theorem Fit.prod {p : Int} {as bs : List (List Int)} (h : Fit p as bs) : ∃ d, Mon (pL as) d ∧ Mon (pL bs) d ∧ CgV p (pL as) (pL bs) := by
 induction h with
 | nil => exact ⟨0, mon_one, mon_one, CgV.refl _ _⟩
 | cons d ha hb h t ih => obtain ⟨e, h1, h2, h3⟩ := ih; exact ⟨d + e, ha.mul h1, hb.mul h2, h.mul h3⟩
theorem uniqL {p N : Nat} (hp : 0 < p) {as bs : List (List Int)} (h : Fit (p : Int) as bs) : Pw (p : Int) bs → CgV ((p ^ N : Nat) : Int) (pL as) (pL bs) → ∀ (i : Nat) (a b : List Int), as[i]? = some a → bs[i]? = some b → CgV ((p ^ N : Nat) : Int) a b := by
 induction h with
 | nil => intro _ _ i a b h; simp at h
 | @cons a b as bs d ha hb h t ih =>
  intro hw hc
  obtain ⟨e, h1, h2, h3⟩ := t.prod
  obtain ⟨u, v, huv⟩ := Cop.prod hw.1
  have h4 := uniq2 hp ha hb h1 h2 h h3 huv hc N (Nat.le_refl _)
  intro i x y hx hy
  cases i with
  | zero => simp at hx hy; subst hx hy; exact h4.1
  | succ i => simp at hx hy; exact ih hw.2 h4.2 i x y hx hy
theorem sumStep_cg {m : Nat} {T P g s T' P' : List Int} (h : sumStep m (T, P) (g, s) = (T', P')) : CgV (m : Int) T' (padd (pmul T g) (pmul s P)) ∧ CgV (m : Int) P' (pmul P g) := by
 unfold sumStep at h
 obtain ⟨rfl, rfl⟩ := Prod.mk.inj h
 exact ⟨(CgV.red _).trans ((CgV.trim _).trans ((CgV.trim _).add (CgV.trim _))), (CgV.red _).trans (CgV.trim _)⟩
theorem sumZ_fold {m : Nat} (gs : List (List Int)) : ∀ (ss : List (List Int)) (T P T2 P2 : List Int), gs.length = ss.length → (gs.zip ss).foldl (sumStep m) (T, P) = (T2, P2) → CgV (m : Int) T2 (padd (pmul T (pL gs)) (pmul P (tL gs ss))) ∧ CgV (m : Int) P2 (pmul P (pL gs)) := by
 induction gs with
 | nil =>
  intro ss T P T2 P2 h e
  rw [List.zip_nil_left, List.foldl_nil] at e
  obtain ⟨rfl, rfl⟩ := Prod.mk.inj e
  exact ⟨CgV.eqv fun x => by simp [evI_padd, evI_pmul, pL, tL, evI], CgV.eqv fun x => by simp [evI_pmul, pL, evI]⟩
 | cons g gs ih =>
  intro ss T P T2 P2 h e
  match ss, h, e with
  | s :: ss, h, e =>
   rw [List.zip_cons_cons, List.foldl_cons] at e
   rcases hs : sumStep m (T, P) (g, s) with ⟨T', P'⟩
   rw [hs] at e
   obtain ⟨e1, e2⟩ := sumStep_cg hs
   obtain ⟨i1, i2⟩ := ih ss T' P' T2 P2 (by simpa using h) e
   refine ⟨i1.trans (((e1.mul (CgV.refl _ _)).add (e2.mul (CgV.refl _ _))).trans (CgV.eqv fun x => ?_)), i2.trans ((e2.mul (CgV.refl _ _)).trans (CgV.eqv fun x => ?_))⟩
   ·simp only [evI_padd, evI_pmul, pL, tL]; grind
   ·simp only [evI_pmul, pL]; grind
theorem sumZ_cg {m : Nat} {gs ss : List (List Int)} (h : gs.length = ss.length) : CgV (m : Int) (sumZ m gs ss).1 (tL gs ss) ∧ CgV (m : Int) (sumZ m gs ss).2 (pL gs) := by
 obtain ⟨h1, h2⟩ := sumZ_fold (m := m) gs ss [] (trimZ [1]) (sumZ m gs ss).1 (sumZ m gs ss).2 h rfl
 exact ⟨h1.trans (CgV.eqv fun x => by simp [evI_padd, evI_pmul, evI_trim, evI]), h2.trans (CgV.eqv fun x => by simp [evI_pmul, evI_trim, evI])⟩
theorem remGo_cg {m d : Nat} {G : List Int} (hG : Mon G d) : ∀ (n : Nat) (R : List Int), n + d ≤ R.length → ∃ w, CgV (m : Int) ((remGo m G d n R).take d) (psub (R.take (n + d)) (pmul w G))
 | 0, R, _ => ⟨[], CgV.eqv fun x => by simp [remGo, evI_psub, evI_pmul, evI]⟩
 | n + 1, R, h => by
  rw [remGo]
  have hc : ∃ k : Int, symZ m (co R (n + d)) = co R (n + d) + m * k := symZ_cg m _
  split
  ·rename_i h0
   obtain ⟨w, hw⟩ := remGo_cg (m := m) hG n R (by omega)
   refine ⟨w, hw.trans ((CgV.of fun i => ?_).sub (CgV.refl _ _))⟩
   rw [co_take, co_take]
   by_cases h1 : i < n + d
   ·rw [if_pos h1, if_pos (by omega)]; simp
   ·rw [if_neg h1]
    split
    ·obtain ⟨k, hk⟩ := hc
     obtain rfl : i = n + d := by omega
     rw [h0] at hk
     exact ⟨k, by omega⟩
    ·simp
  ·obtain ⟨w, hw⟩ := remGo_cg (m := m) hG n (subAt R G n d (symZ m (co R (n + d)))) (by rw [subAt_len]; omega)
   refine ⟨padd w (List.replicate n 0 ++ [symZ m (co R (n + d))]), hw.trans ?_⟩
   have key : CgV (m : Int) ((subAt R G n d (symZ m (co R (n + d)))).take (n + d)) (psub (R.take (n + 1 + d)) (pmul (List.replicate n 0 ++ [symZ m (co R (n + d))]) G)) := by
    refine CgV.of fun i => ?_
    rw [co_psub, co_take, co_take]
    have e1 : co (pmul (List.replicate n 0 ++ [symZ m (co R (n + d))]) G) i = if n ≤ i then symZ m (co R (n + d)) * co G (i - n) else 0 := by
     rw [co_pmul]
     have hx : ∀ j, co (List.replicate n 0 ++ [symZ m (co R (n + d))]) j = if j = n then symZ m (co R (n + d)) else 0 := fun j => by
      unfold co
      rcases Nat.lt_trichotomy j n with h1 | h1 | h1
      ·rw [if_neg (by omega)]; simp [List.getD, List.getElem?_append, h1, List.getElem?_replicate]
      ·subst h1; simp [List.getD]
      ·rw [if_neg (by omega)]; simp [List.getD, List.getElem?_append, show ¬ j < n by omega, show ¬ j - n = 0 by omega, show 0 < j - n by omega]
     by_cases h1 : n ≤ i
     ·rw [if_pos h1]
      refine (rsum_single (j := n) (by omega) fun j hj hne => ?_).trans ?_
      ·show co (List.replicate n 0 ++ [symZ m (co R (n + d))]) j * co G (i - j) = 0
       rw [hx, if_neg hne, Int.zero_mul]
      ·show co (List.replicate n 0 ++ [symZ m (co R (n + d))]) n * co G (i - n) = _
       rw [hx, if_pos rfl]
     ·rw [if_neg h1]
      refine rsum_zero fun j hj => ?_
      show co (List.replicate n 0 ++ [symZ m (co R (n + d))]) j * co G (i - j) = 0
      rw [hx, if_neg (by omega), Int.zero_mul]
    rw [e1]
    by_cases h1 : i < n + d
    ·rw [if_pos h1, if_pos (by omega), co_subAt (by omega)]
     by_cases h2 : n ≤ i
     ·rw [if_pos ⟨h2, by omega⟩, if_pos h2]; simp
     ·rw [if_neg (by omega), if_neg h2]; simp
    ·rw [if_neg h1]
     rcases Nat.eq_or_lt_of_le (show n + d ≤ i by omega) with h2 | h2
     ·subst h2
      rw [if_pos (by omega), if_pos (by omega), show n + d - n = d by omega, hG.1]
      obtain ⟨k, hk⟩ := hc
      exact ⟨k, by rw [hk]; omega⟩
     ·rw [if_neg (by omega), if_pos (by omega), hG.2 _ (by omega)]; simp
   refine (key.sub (CgV.refl _ _)).trans (CgV.eqv fun x => ?_)
   simp only [evI_psub, evI_pmul, evI_padd]; grind
theorem Mon.len {G : List Int} {d : Nat} (h : Mon G d) : (trimZ G).length = d + 1 := by
 have h1 : co (trimZ G) d = 1 := by rw [co_trim]; exact h.1
 have h2 : d < (trimZ G).length := by
  rcases Nat.lt_or_ge d (trimZ G).length with h3 | h3
  ·exact h3
  ·rw [co_ge h3] at h1; cases h1
 rcases Nat.eq_or_lt_of_le (show d + 1 ≤ (trimZ G).length by omega) with h3 | h3
 ·omega
 ·exfalso
  have h4 := canon_last (f := trimZ G) (canon_trim isZI G) (by omega)
  rw [co_trim] at h4
  exact h4 (h.2 _ (by omega))
theorem remZ_cg {m d : Nat} {F G : List Int} (hG : Mon G d) : ∃ w, CgV (m : Int) (remZ m F G) (psub F (pmul w G)) := by
 unfold remZ
 rw [hG.len, Nat.add_sub_cancel]
 rcases Nat.lt_or_ge (redZ m F).length d with h | h
 ·refine ⟨[], (CgV.red _).trans ?_⟩
  rw [show (redZ m F).length - d = 0 by omega, remGo, List.take_of_length_le (by omega)]
  exact (CgV.red _).trans (CgV.eqv fun x => by simp [evI_psub, evI_pmul, evI])
 ·obtain ⟨w, hw⟩ := remGo_cg (m := m) hG ((redZ m F).length - d) (redZ m F) (by omega)
  rw [Nat.min_eq_right h]
  refine ⟨w, (CgV.red _).trans (hw.trans (CgV.sub ?_ (CgV.refl _ _)))⟩
  rw [Nat.sub_add_cancel h, List.take_length]
  exact CgV.red _
theorem remZ_deg {m d : Nat} {F G : List Int} (hG : Mon G d) (i : Nat) (hi : d ≤ i) : co (remZ m F G) i = 0 := by
 unfold remZ
 rw [hG.len, Nat.add_sub_cancel, co_redZ, co_take, if_neg (by omega), symZ_zero]
end Go.Gx

/-
 Plain facts for the laws on the lift. No program in sight.
-/
namespace Go.Gx
theorem dv_tmod {a b r : Int} {g : Bool} (e : g = decide (r = 0)) (h : r = b.tmod a) : g = decide (a ∣ b) := by
 rw [e, h]
 exact decide_eq_decide.2 Int.dvd_iff_tmod_eq_zero.symm
theorem dv_zero {a b : Int} {g : Bool} (e : g = decide (b = 0)) (h : a = 0) : g = decide (a ∣ b) := by
 rw [e, h]
 exact decide_eq_decide.2 Int.zero_dvd.symm
theorem dv_true {m c a b : Int} {g : Bool} (e : g = decide (m ∣ c)) (hc : c = a - b) (h : m ∣ a - b) : g = true := by
 rw [e, hc]; exact decide_eq_true h
end Go.Gx

/-
 One step of the lift is right: the product and the cofactors modulo the square. Plain numbers; no program in sight.
-/
namespace Go.Gx
inductive MS : List (List Int) → List (List Int) → Nat → Prop
 | nil : MS [] [] 0
 | cons {g s : List Int} {gs ss : List (List Int)} {d n : Nat} (hg : Mon g d) (hs : ∀ i, d ≤ i → co s i = 0) (t : MS gs ss n) : MS (g :: gs) (s :: ss) (d + n)
theorem MS.len {gs ss : List (List Int)} {n : Nat} (h : MS gs ss n) : gs.length = ss.length := by
 induction h with
 | nil => rfl
 | cons _ _ _ ih => simp [ih]
theorem MS.prod {gs ss : List (List Int)} {n : Nat} (h : MS gs ss n) : Mon (pL gs) n := by
 induction h with
 | nil => exact mon_one
 | cons hg _ _ ih => exact hg.mul ih
theorem MS.deg {gs ss : List (List Int)} {n : Nat} (h : MS gs ss n) : ∀ i, n ≤ i → co (tL gs ss) i = 0 := by
 induction h with
 | nil => intro i _; simp [tL, co]
 | @cons g s gs ss d n hg hs t ih =>
  intro i hi
  rw [tL, co_padd, co_pmul_hi hs (fun j hj => t.prod.2 j hj) i hi]
  have h1 : co (pmul g (tL gs ss)) i = co (pmul (tL gs ss) g) i := by rw [co_pmul, co_pmul, conv_comm]
  rw [h1, co_pmul_hi (a := n) (b := d) ih hg.2 i (by omega)]
  rfl
theorem CgV.sq {q m : Int} {a b : List Int} (hm : m ∣ q * q) (ha : CgV q a []) (hb : CgV q b []) : CgV m (pmul a b) [] := by
 obtain ⟨u, hu⟩ := ha; obtain ⟨v, hv⟩ := hb
 refine CgV.dvd (n := q * q) ⟨pmul u v, fun x => ?_⟩ hm
 rw [evI_pmul, evI_pmul, hu, hv]
 simp only [evI]
 grind
theorem CgV.nil_mul {q : Int} {a b : List Int} (ha : CgV q a []) : CgV q (pmul a b) [] := by
 obtain ⟨u, hu⟩ := ha
 exact ⟨pmul u b, fun x => by rw [evI_pmul, evI_pmul, hu]; simp only [evI]; grind⟩
theorem CgV.mul_nil {q : Int} {a b : List Int} (hb : CgV q b []) : CgV q (pmul a b) [] := by
 obtain ⟨u, hu⟩ := hb
 exact ⟨pmul a u, fun x => by rw [evI_pmul, evI_pmul, hu]; simp only [evI]; grind⟩
theorem change_cg {q m : Nat} {g s μ : List Int} {d : Nat} (hq : (q : Int) ∣ m) (hg : Mon g d) (hμ : CgV (q : Int) μ []) :
  ∃ w, CgV (m : Int) (remZ m (trimZ (pmul s μ)) g) (psub (pmul s μ) (pmul w g)) ∧ CgV (q : Int) w [] := by
 obtain ⟨w, hw⟩ := remZ_cg (m := m) (F := trimZ (pmul s μ)) hg
 have hw2 : CgV (m : Int) (remZ m (trimZ (pmul s μ)) g) (psub (pmul s μ) (pmul w g)) := hw.trans ((CgV.trim _).sub (CgV.refl _ _))
 refine ⟨w, hw2, ?_⟩
 obtain ⟨E, hE⟩ := hw2.dvd hq
 obtain ⟨U, hU⟩ := hμ
 refine mon_zero (C := g) (S := scaleP (remZ m (trimZ (pmul s μ)) g) (-1)) hg ⟨padd (pmul s U) E, fun x => ?_⟩ fun i hi => ?_
 ·have a1 := hE x
  have a2 := hU x
  simp only [evI_psub, evI_pmul, evI_scale, evI_padd, evI] at a1 a2 ⊢
  rw [a2] at a1
  grind
 ·rw [co_scaleP, remZ_deg hg i hi, Int.zero_mul]; exact Int.dvd_zero _
theorem symZ_one {m : Nat} (hm : 2 ≤ m) : symZ m 1 = 1 := symZ_self (by omega) (by omega)
theorem facs_cg {q m : Nat} {μ : List Int} (hm2 : 2 ≤ m) (hq : (q : Int) ∣ m) (hm : (m : Int) ∣ (q : Int) * q) (hμ : CgV (q : Int) μ []) {gs ss : List (List Int)} {n : Nat} (h : MS gs ss n) :
  ∃ W, CgV (q : Int) W [] ∧ CgV (m : Int) (pL ((gs.zip ss).map fun p => nxt0 m μ p.1 p.2)) (psub (padd (pL gs) (pmul μ (tL gs ss))) (pmul W (pL gs))) ∧ MS ((gs.zip ss).map fun p => nxt0 m μ p.1 p.2) ss n := by
 induction h with
 | nil => exact ⟨[], CgV.refl _ _, CgV.eqv fun x => by simp [pL, tL, evI_psub, evI_padd, evI_pmul, evI], .nil⟩
 | @cons g s gs ss d n hg hs t ih =>
  obtain ⟨W, h1, h2, h3⟩ := ih
  obtain ⟨w, c1, c2⟩ := change_cg (s := s) hq hg hμ
  have n1 : CgV (m : Int) (nxt0 m μ g s) (padd g (psub (pmul s μ) (pmul w g))) := (CgV.red _).trans ((CgV.trim _).trans ((CgV.refl _ _).add c1))
  have n2 : Mon (nxt0 m μ g s) d := by
   unfold nxt0
   refine ⟨?_, fun i hi => ?_⟩
   ·rw [co_redZ, co_trim, co_padd, hg.1, remZ_deg hg d (Nat.le_refl _), Int.add_zero, symZ_one hm2]
   ·rw [co_redZ, co_trim, co_padd, hg.2 i hi, remZ_deg hg i (by omega), Int.add_zero, symZ_zero]
  refine ⟨padd W w, ?_, ?_, .cons n2 hs h3⟩
  ·exact (h1.add c2).trans (CgV.eqv fun x => by simp [evI_padd, evI])
  ·rw [List.zip_cons_cons, List.map_cons]
   refine (n1.mul h2).trans ?_
   have a1 : CgV (q : Int) (psub (pmul s μ) (pmul w g)) [] := ((CgV.mul_nil hμ).sub (CgV.nil_mul c2)).trans (CgV.eqv fun x => by simp [evI_psub, evI])
   have a2 : CgV (q : Int) (psub (pmul μ (tL gs ss)) (pmul W (pL gs))) [] := ((CgV.nil_mul hμ).sub (CgV.nil_mul h1)).trans (CgV.eqv fun x => by simp [evI_psub, evI])
   obtain ⟨E, hE⟩ := CgV.sq hm a1 a2
   refine ⟨E, fun x => ?_⟩
   have a3 := hE x
   simp only [evI_psub, evI_pmul, evI_padd, pL, tL, evI] at a3 ⊢
   generalize evI g x = G at *; generalize evI s x = S at *; generalize evI μ x = M at *; generalize evI w x = w' at *; generalize evI W x = W' at *
   generalize evI (pL gs) x = P at *; generalize evI (tL gs ss) x = T at *; generalize evI E x = E' at *
   have a4 : (G + (S * M - w' * G)) * (P + M * T - W' * P) = G * P + M * (S * P + G * T) - (W' + w') * (G * P) + (S * M - w' * G) * (M * T - W' * P) := by grind
   rw [a4, a3]; grind
theorem cofs_cg {q m : Nat} {ε : List Int} (hm2 : 2 ≤ m) (hq : (q : Int) ∣ m) (hε : CgV (q : Int) ε []) {gs ss : List (List Int)} {n : Nat} (h : MS gs ss n) :
  ∃ V, CgV (m : Int) (tL gs ((ss.zip gs).map fun p => nxt1 m ε p.1 p.2)) (padd (psub (tL gs ss) (pmul ε (tL gs ss))) (pmul V (pL gs))) ∧ MS gs ((ss.zip gs).map fun p => nxt1 m ε p.1 p.2) n := by
 induction h with
 | nil => exact ⟨[], CgV.eqv fun x => by simp [pL, tL, evI_psub, evI_padd, evI_pmul, evI], .nil⟩
 | @cons g s gs ss d n hg hs t ih =>
  obtain ⟨V, h2, h3⟩ := ih
  obtain ⟨w, c1, _⟩ := change_cg (s := s) hq hg hε
  have n1 : CgV (m : Int) (nxt1 m ε s g) (psub s (psub (pmul s ε) (pmul w g))) := (CgV.red _).trans ((CgV.trim _).trans ((CgV.refl _ _).sub c1))
  have n2 : ∀ i, d ≤ i → co (nxt1 m ε s g) i = 0 := fun i hi => by
   unfold nxt1
   rw [co_redZ, co_trim, co_psub, hs i hi, remZ_deg hg i hi, Int.sub_zero, symZ_zero]
  refine ⟨padd V w, ?_, .cons hg n2 h3⟩
  rw [List.zip_cons_cons, List.map_cons, tL]
  refine ((n1.mul (CgV.refl _ _)).add ((CgV.refl _ _).mul h2)).trans (CgV.eqv fun x => ?_)
  simp only [evI_psub, evI_pmul, evI_padd, pL, tL]
  grind
theorem pL_cg {q : Int} {F : List Int → List Int → List Int} (hF : ∀ g s, (∃ d, Mon g d) → CgV q (F g s) g) {gs ss : List (List Int)} {n : Nat} (h : MS gs ss n) : CgV q (pL ((gs.zip ss).map fun p => F p.1 p.2)) (pL gs) := by
 induction h with
 | nil => exact CgV.refl _ _
 | cons hg _ _ ih => exact (hF _ _ ⟨_, hg⟩).mul ih
theorem tL_cg {q : Int} {F : List Int → List Int → List Int} (hF : ∀ g s, (∃ d, Mon g d) → CgV q (F g s) g) {gs ss : List (List Int)} {n : Nat} (h : MS gs ss n) : CgV q (tL ((gs.zip ss).map fun p => F p.1 p.2) ss) (tL gs ss) := by
 induction h with
 | nil => exact CgV.refl _ _
 | cons hg _ t ih => exact ((CgV.refl _ _).mul (pL_cg hF t)).add ((hF _ _ ⟨_, hg⟩).mul ih)
theorem nxt0_cg {q m : Nat} {μ : List Int} (hq : (q : Int) ∣ m) (hμ : CgV (q : Int) μ []) (g s : List Int) (hg : ∃ d, Mon g d) : CgV (q : Int) (nxt0 m μ g s) g := by
 obtain ⟨d, hg⟩ := hg
 obtain ⟨w, c1, c2⟩ := change_cg (s := s) hq hg hμ
 have b1 : CgV (q : Int) (psub (pmul s μ) (pmul w g)) [] := ((CgV.mul_nil hμ).sub (CgV.nil_mul c2)).trans (CgV.eqv fun y => by simp [evI_psub, evI])
 exact ((CgV.red _).dvd hq).trans ((CgV.trim _).trans (((CgV.refl _ _).add ((c1.dvd hq).trans b1)).trans (CgV.eqv fun y => by simp [evI_padd, evI])))
theorem stepA {q m : Nat} {x ld : Int} {f μ : List Int} {gs ss : List (List Int)} {n : Nat} (hm2 : 2 ≤ m) (hq : (q : Int) ∣ m) (hm : (m : Int) ∣ (q : Int) * q) (h : MS gs ss n) (hx : (m : Int) ∣ x * ld - 1) (hf : co f n = ld ∧ ∀ i, n < i → co f i = 0)
  (h1 : CgV (q : Int) (scaleP (pL gs) ld) f) (h2 : CgV (q : Int) (tL gs ss) [1]) (hμ : CgV (m : Int) μ (psub (scaleP f x) (pL gs))) :
  CgV (q : Int) μ [] ∧ MS ((gs.zip ss).map fun p => nxt0 m μ p.1 p.2) ss n ∧ CgV (m : Int) (scaleP (pL ((gs.zip ss).map fun p => nxt0 m μ p.1 p.2)) ld) f := by
 obtain ⟨hx1, hx2⟩ : ∃ k, x * ld = 1 + m * k := by obtain ⟨k, hk⟩ := hx; exact ⟨k, by omega⟩
 obtain ⟨q1, hq1⟩ := hq
 have hμq : CgV (q : Int) μ [] := by
  refine (hμ.dvd ⟨q1, hq1⟩).trans ?_
  obtain ⟨E, hE⟩ := h1
  refine ⟨padd (scaleP E (-x)) (scaleP (pL gs) (q1 * hx1)), fun y => ?_⟩
  have a1 := hE y
  simp only [evI_psub, evI_scale, evI_padd, evI] at a1 ⊢
  have a2 : evI f y = ld * evI (pL gs) y - q * evI E y := by omega
  rw [a2]
  have a3 : x * (ld * evI (pL gs) y - q * evI E y) = (x * ld) * evI (pL gs) y - x * (q * evI E y) := by grind
  rw [a3, hx2, hq1]; grind
 obtain ⟨W, w1, w2, w3⟩ := facs_cg hm2 ⟨q1, hq1⟩ hm hμq h
 generalize ((gs.zip ss).map fun p => nxt0 m μ p.1 p.2) = gs' at *
 have hT : CgV (m : Int) (pmul μ (tL gs ss)) μ := by
  have a1 : CgV (q : Int) (psub (tL gs ss) [1]) [] := (h2.sub (CgV.refl _ [1])).trans (CgV.eqv fun y => by simp [evI_psub, evI])
  obtain ⟨E, hE⟩ := CgV.sq hm hμq a1
  refine ⟨E, fun y => ?_⟩
  have a2 := hE y
  simp only [evI_psub, evI_pmul, evI] at a2 ⊢
  grind
 have hpr : CgV (m : Int) (pL gs') (psub (scaleP f x) (pmul W (pL gs))) := by
  refine w2.trans ((((CgV.refl _ _).add (hT.trans hμ)).sub (CgV.refl _ _)).trans (CgV.eqv fun y => ?_))
  simp only [evI_psub, evI_padd, evI_pmul, evI_scale]; grind
 have hW : CgV (m : Int) W [] := by
  obtain ⟨E, hE⟩ := hpr
  refine mon_zero (C := pL gs) (S := psub (scaleP f x) (pL gs')) h.prod ⟨E, fun y => ?_⟩ fun i hi => ?_
  ·have a1 := hE y
   simp only [evI_psub, evI_pmul, evI_scale] at a1 ⊢
   grind
  ·rw [co_psub, co_scaleP]
   rcases Nat.eq_or_lt_of_le hi with h5 | h5
   ·subst h5; rw [hf.1, w3.prod.1, Int.mul_comm]; exact hx
   ·rw [hf.2 i h5, w3.prod.2 i h5]; simp
 have hpr2 : CgV (m : Int) (pL gs') (scaleP f x) := by
  obtain ⟨E, hE⟩ := hW
  exact hpr.trans ⟨scaleP (pmul E (pL gs)) (-1), fun y => by simp only [evI_psub, evI_pmul, evI_scale, hE, evI]; grind⟩
 refine ⟨hμq, w3, (hpr2.scale _).trans ⟨scaleP f hx1, fun y => ?_⟩⟩
 simp only [evI_scale]
 rw [show ld * (x * evI f y) = (x * ld) * evI f y by grind, hx2]; grind
theorem stepB {q m : Nat} {ε : List Int} {gs ss : List (List Int)} {n : Nat} (hm2 : 2 ≤ m) (hq : (q : Int) ∣ m) (hm : (m : Int) ∣ (q : Int) * q) (h : MS gs ss n) (hn : 0 < n) (h2 : CgV (q : Int) (tL gs ss) [1]) (hε : CgV (m : Int) ε (psub (tL gs ss) [1])) :
  MS gs ((ss.zip gs).map fun p => nxt1 m ε p.1 p.2) n ∧ CgV (m : Int) (tL gs ((ss.zip gs).map fun p => nxt1 m ε p.1 p.2)) [1] := by
 have hεq : CgV (q : Int) ε [] := (hε.dvd hq).trans ((h2.sub (CgV.refl _ _)).trans (CgV.eqv fun y => by simp [evI_psub, evI]))
 obtain ⟨V, v1, v2⟩ := cofs_cg hm2 hq hεq h
 generalize ((ss.zip gs).map fun p => nxt1 m ε p.1 p.2) = ss' at *
 have hT2 : CgV (m : Int) (tL gs ss') (padd [1] (pmul V (pL gs))) := by
  obtain ⟨E, hE⟩ := CgV.sq hm hεq hεq
  obtain ⟨F, hF⟩ := hε
  refine CgV.trans v1 ⟨psub (pmul F (psub ε [1])) E, fun y => ?_⟩
  have a1 := hE y
  have a2 := hF y
  simp only [evI_psub, evI_pmul, evI_padd, evI] at a1 a2 ⊢
  generalize evI ε y = e at *
  generalize evI (tL gs ss) y = T at *
  generalize evI F y = F' at *
  generalize evI E y = E' at *
  have a3 : T = e + 1 - m * F' := by omega
  rw [a3]; grind
 have hV : CgV (m : Int) V [] := by
  obtain ⟨E, hE⟩ := hT2
  refine mon_zero (C := pL gs) (S := psub (tL gs ss') [1]) h.prod ⟨scaleP E (-1), fun y => ?_⟩ fun i hi => ?_
  ·have a1 := hE y
   simp only [evI_psub, evI_pmul, evI_padd, evI_scale, evI] at a1 ⊢
   grind
  ·rw [co_psub, v2.deg i hi, co_ge (f := [1]) (by simp; omega)]; simp
 refine ⟨v2, hT2.trans ?_⟩
 obtain ⟨E, hE⟩ := hV
 exact ⟨pmul E (pL gs), fun y => by simp only [evI_padd, evI_pmul, hE, evI]; grind⟩
theorem miss_cg {m : Nat} {x ld k : Int} {f P Q : List Int} (hx : x * ld = 1 + m * k) (hP : CgV (m : Int) P Q) : CgV (m : Int) (missZ m x f ld P) (psub (scaleP f x) Q) := by
 unfold missZ
 refine (CgV.red _).trans ((CgV.trim _).trans ?_)
 refine (((CgV.red _).trans ((CgV.trim _).trans ((CgV.refl _ f).sub ((CgV.trim _).trans (hP.scale _))))).scale x).trans ⟨scaleP Q (-k), fun y => ?_⟩
 simp only [evI_psub, evI_scale]
 have : x * (evI f y - ld * evI Q y) = x * evI f y - (x * ld) * evI Q y := by grind
 rw [this, hx]; grind
theorem ex_cg {m : Nat} {T S : List Int} (h : CgV (m : Int) T S) : CgV (m : Int) (exZ m T) (psub S [1]) := (CgV.red _).trans ((CgV.trim _).trans (h.sub (CgV.trim _)))
theorem step_ok {q m : Nat} {x : Int} {f : List Int} {gs ss : List (List Int)} {n : Nat} (hm2 : 2 ≤ m) (hq : (q : Int) ∣ m) (hm : (m : Int) ∣ (q : Int) * q) (h : MS gs ss n) (hn : 0 < n) (hx : (m : Int) ∣ x * ldP f - 1) (hf : co f n = ldP f ∧ ∀ i, n < i → co f i = 0)
  (h1 : CgV (q : Int) (scaleP (pL gs) (ldP f)) f) (h2 : CgV (q : Int) (tL gs ss) [1]) :
  MS (step0 m x f gs ss) (step1 m x f gs ss) n ∧ CgV (m : Int) (scaleP (pL (step0 m x f gs ss)) (ldP f)) f ∧ CgV (m : Int) (tL (step0 m x f gs ss) (step1 m x f gs ss)) [1] := by
 obtain ⟨k, hk⟩ : ∃ k, x * ldP f = 1 + m * k := by obtain ⟨k, hk⟩ := hx; exact ⟨k, by omega⟩
 have hμ := miss_cg (f := f) hk (sumZ_cg (m := m) h.len).2
 obtain ⟨a1, a2, a3⟩ := stepA hm2 hq hm h hx hf h1 h2 hμ
 have a4 := (tL_cg (nxt0_cg hq a1) h).trans h2
 obtain ⟨b1, b2⟩ := stepB hm2 hq hm a2 hn a4 (ex_cg (sumZ_cg (m := m) a2.len).1)
 exact ⟨b1, a3, b2⟩
end Go.Gx

/-
 Polynomials modulo a prime: division, Bezout, cofactors of a list. Plain numbers; no program in sight.
-/
namespace Go.Gx
theorem zl_trim (l : List Nat) : zl (trimN l) = trimZ (zl l) := by
 unfold zl trimN trimZ trimB
 rw [← List.map_reverse, List.dropWhile_map, List.map_reverse]
 have : (isZI ∘ fun (a : Nat) => (a : Int)) = isZ := by
  funext a
  show ((a : Int) == 0) = (a == 0)
  by_cases h : a = 0
  ·subst h; rfl
  ·rw [beq_eq_false_iff_ne.2 (show ((a : Nat) : Int) ≠ 0 by omega), beq_eq_false_iff_ne.2 h]
 rw [this]
theorem co_zltrim (l : List Nat) (i : Nat) : co (zl (trimN l)) i = ((l.getD i 0 : Nat) : Int) := by rw [zl_trim, co_trim, co_zl]
theorem getD_mapF {F : Nat → Nat} (h0 : F 0 = 0) (l : List Nat) (i : Nat) : (l.map F).getD i 0 = F (l.getD i 0) := by
 simp only [List.getD, List.getElem?_map]
 cases l[i]? with
 | none => exact h0.symm
 | some x => rfl
theorem dvd_md {p : Nat} (hp : 0 < p) (z : Int) : (p : Int) ∣ ((md p z : Nat) : Int) - z := by
 obtain ⟨k, hk⟩ := md_ex hp z
 exact ⟨-k, by rw [Int.mul_neg]; omega⟩
theorem dvd_modN {p : Nat} (a : Nat) : (p : Int) ∣ ((a % p : Nat) : Int) - (a : Int) := by
 obtain ⟨k, hk⟩ := cg_mod (p := p) a
 exact ⟨k, by omega⟩
theorem cgN_red {p : Nat} (hp : 0 < p) (l : List Int) : CgV (p : Int) (zl (redP p l)) l := CgV.of fun i => by
 rw [redP, co_zltrim, getD_mapZ l i (md_zero p)]
 exact dvd_md hp _
theorem cgN_nrm {p : Nat} (hp : 0 < p) (f : List Nat) : CgV (p : Int) (zl (nrmP p f)) (zl f) := by rw [nrmP_red]; exact cgN_red hp _
theorem cgN_mul {p : Nat} (hp : 0 < p) (f g : List Nat) : CgV (p : Int) (zl (mulP p f g)) (pmul (zl f) (zl g)) := (cgN_red hp _).trans ((cgN_nrm hp f).mul (cgN_nrm hp g))
theorem cgN_sub {p : Nat} (hp : 0 < p) (f g : List Nat) : CgV (p : Int) (zl (subP p f g)) (psub (zl f) (zl g)) := cgN_red hp _
theorem cgN_scal {p : Nat} (f : List Nat) (c : Nat) : CgV (p : Int) (zl (scalP p f c)) (scaleP (zl f) c) := CgV.of fun i => by
 rw [scalP, co_zltrim, co_scaleP, co_zl, getD_mapF (by simp)]
 have := dvd_modN (p := p) (f.getD i 0 * c)
 rwa [Int.natCast_mul] at this
theorem evI_shift (c x : Int) : ∀ n, evI (List.replicate n 0 ++ [c]) x = c * x ^ n
 | 0 => by simp [evI]
 | n + 1 => by rw [List.replicate_succ, List.cons_append, evI, evI_shift c x n, Int.pow_succ]; grind
theorem co_mono {c : Int} {G : List Int} {n : Nat} (i : Nat) : co (pmul (List.replicate n 0 ++ [c]) G) i = if n ≤ i then c * co G (i - n) else 0 := by
 rw [co_pmul]
 have hx : ∀ j, co (List.replicate n 0 ++ [c]) j = if j = n then c else 0 := fun j => by
  unfold co
  rcases Nat.lt_trichotomy j n with h1 | h1 | h1
  ·rw [if_neg (by omega)]; simp [List.getD, List.getElem?_append, h1, List.getElem?_replicate]
  ·subst h1; simp [List.getD]
  ·rw [if_neg (by omega)]; simp [List.getD, List.getElem?_append, show ¬ j < n by omega, show ¬ j - n = 0 by omega, show 0 < j - n by omega]
 by_cases h1 : n ≤ i
 ·rw [if_pos h1]
  refine (rsum_single (j := n) (by omega) fun j hj hne => ?_).trans ?_
  ·show co (List.replicate n 0 ++ [c]) j * co G (i - j) = 0
   rw [hx, if_neg hne, Int.zero_mul]
  ·show co (List.replicate n 0 ++ [c]) n * co G (i - n) = _
   rw [hx, if_pos rfl]
 ·rw [if_neg h1]
  refine rsum_zero fun j hj => ?_
  show co (List.replicate n 0 ++ [c]) j * co G (i - j) = 0
  rw [hx, if_neg (by omega), Int.zero_mul]
theorem set_zero {q : List Nat} {n : Nat} (h : q.getD n 0 = 0) : q.set n 0 = q := by
 refine List.ext_getElem (by simp) fun i h1 h2 => ?_
 rw [List.getElem_set]
 split
 ·rename_i he; subst he; simpa [List.getD, h2] using h.symm
 ·rfl
theorem evI_set {q : List Nat} {n c : Nat} (hn : n < q.length) (h : q.getD n 0 = 0) (x : Int) : evI (zl (q.set n c)) x = evI (zl q) x + c * x ^ n := by
 have e : ∀ i, co (zl (q.set n c)) i = co (padd (zl q) (List.replicate n 0 ++ [(c : Int)])) i := fun i => by
  rw [co_padd, co_zl, co_zl, getD_set q c i hn]
  have h2 : co (List.replicate n 0 ++ [(c : Int)]) i = if i = n then (c : Int) else 0 := by
   unfold co
   rcases Nat.lt_trichotomy i n with h1 | h1 | h1
   ·rw [if_neg (by omega)]; simp [List.getD, List.getElem?_append, h1, List.getElem?_replicate]
   ·subst h1; simp [List.getD]
   ·rw [if_neg (by omega)]; simp [List.getD, List.getElem?_append, show ¬ i < n by omega, show ¬ i - n = 0 by omega, show 0 < i - n by omega]
  rw [h2]
  split
  ·rename_i h3; subst h3; rw [h]; simp
  ·simp
 rw [evI_congr e, evI_padd, evI_shift]
theorem divGo_cg {p inv : Nat} {g : List Nat} (hp : 0 < p) : ∀ (n : Nat) (q r : List Nat), (∀ j, j < n → q.getD j 0 = 0) → n ≤ q.length → n + (g.length - 1) ≤ r.length →
  CgV (p : Int) (padd (pmul (zl (divGo p inv g n (q, r)).1) (zl g)) (zl (divGo p inv g n (q, r)).2)) (padd (pmul (zl q) (zl g)) (zl r))
 | 0, q, r, _, _, _ => CgV.refl _ _
 | n + 1, q, r, h, hl, hr => by
  rw [divGo]
  generalize hc : r.getD (n + (g.length - 1)) 0 * inv % p = c
  have hcp : c < p := by rw [← hc]; exact Nat.mod_lt _ hp
  show CgV (p : Int) (padd (pmul (zl (divGo p inv g n (q.set n c, if c = 0 then r else addAt p g n (p - c) g.length r)).1) (zl g)) (zl (divGo p inv g n (q.set n c, if c = 0 then r else addAt p g n (p - c) g.length r)).2)) _
  have h0 : q.getD n 0 = 0 := h n (by omega)
  split
  ·rename_i h1
   subst h1
   rw [set_zero h0]
   exact divGo_cg hp n q r (fun j hj => h j (by omega)) (by omega) (by omega)
  ·rename_i h1
   refine (divGo_cg hp n (q.set n c) (addAt p g n (p - c) g.length r) (fun j hj => ?_) (by simp; omega) (by rw [addAt_len]; omega)).trans ?_
   ·rw [getD_set q c j (by omega), if_neg (by omega)]; exact h j (by omega)
   ·have key : CgV (p : Int) (zl (addAt p g n (p - c) g.length r)) (psub (zl r) (pmul (List.replicate n 0 ++ [(c : Int)]) (zl g))) := by
     refine CgV.of fun i => ?_
     rw [co_psub, co_mono, co_zl, co_zl]
     rcases Nat.lt_or_ge i r.length with hi | hi
     ·rw [addAt_getD i hi]
      by_cases h2 : n ≤ i
      ·rw [if_pos h2, co_zl]
       by_cases h3 : i - n < g.length
       ·rw [if_pos ⟨h2, h3⟩]
        obtain ⟨k1, e1⟩ := dvd_modN (p := p) (r.getD i 0 + (p - c) * g.getD (i - n) 0 % p)
        obtain ⟨k2, e2⟩ := dvd_modN (p := p) ((p - c) * g.getD (i - n) 0)
        refine ⟨k1 + k2 + (g.getD (i - n) 0 : Nat), ?_⟩
        rw [Int.natCast_add] at e1
        rw [Int.natCast_mul, Int.natCast_sub (by omega)] at e2
        grind
       ·rw [if_neg (by omega), show g.getD (i - n) 0 = 0 by rw [List.getD, List.getElem?_eq_none (by omega)]; rfl]; simp
      ·rw [if_neg h2, if_neg (by omega)]; simp
     ·rw [show (addAt p g n (p - c) g.length r).getD i 0 = 0 by rw [List.getD, List.getElem?_eq_none (by rw [addAt_len]; omega)]; rfl, show r.getD i 0 = 0 by rw [List.getD, List.getElem?_eq_none (by omega)]; rfl]
      by_cases h2 : n ≤ i
      ·rw [if_pos h2, co_zl, show g.getD (i - n) 0 = 0 by rw [List.getD, List.getElem?_eq_none (by omega)]; rfl]; simp
      ·rw [if_neg h2]; simp
    obtain ⟨E, hE⟩ := key
    refine ⟨E, fun x => ?_⟩
    have a1 := hE x
    simp only [evI_padd, evI_psub, evI_pmul, evI_shift, evI_set (show n < q.length by omega) h0] at a1 ⊢
    grind
theorem evI_zltrim (l : List Nat) (x : Int) : evI (zl (trimN l)) x = evI (zl l) x := by rw [zl_trim, evI_trim]
theorem divP_cg {p : Nat} {f g q r : List Nat} (hp : 0 < p) (h : divP p f g = (q, r)) : CgV (p : Int) (padd (pmul (zl q) (zl g)) (zl r)) (zl f) := by
 unfold divP at h
 split at h
 ·obtain ⟨rfl, rfl⟩ := Prod.mk.inj h
  exact CgV.eqv fun x => by simp [evI_padd, evI_pmul, zl, evI]
 ·rename_i h1
  obtain ⟨rfl, rfl⟩ := Prod.mk.inj h
  have h2 := divGo_cg (inv := invN p (g.getD (g.length - 1) 0)) (g := g) hp (f.length - (g.length - 1)) (List.replicate (f.length - (g.length - 1)) 0) f (fun j hj => by simp [List.getD, List.getElem?_replicate, hj]) (by simp) (by omega)
  have h3 : ∀ k x, evI (zl (List.replicate k 0)) x = 0 := fun k x => by
   induction k with
   | zero => rfl
   | succ k ih => rw [List.replicate_succ]; show (0 : Int) + x * evI (zl (List.replicate k 0)) x = 0; rw [ih]; simp
  obtain ⟨E, hE⟩ := h2
  refine ⟨E, fun x => ?_⟩
  have a1 := hE x
  simp only [evI_padd, evI_pmul, evI_zltrim, h3] at a1 ⊢
  rw [a1]; simp
def MdG (p : Int) (G f u F : List Int) : Prop := ∃ y, CgV p f (padd (pmul u F) (pmul y G))
theorem cof_gcd {p : Nat} (hp : PrimeN p) {F G : List Int} : ∀ (n : Nat) (f g u v : List Nat), CanP p f → CanP p g → g.length ≤ n → 0 < f.length + g.length → MdG p G (zl f) (zl u) F → MdG p G (zl g) (zl v) F → MdG p G (zl (gcdGo p n f g)) (zl (cofGo p n f g u v)) F := by
 have hp0 : 0 < p := by have := hp.1; omega
 have fin : ∀ (f u : List Nat), 0 < f.length → MdG p G (zl f) (zl u) F → MdG p G (zl (monicP p f)) (zl (scalP p u (invN p (leadP f)))) F := by
  intro f u hf ⟨y, hy⟩
  unfold monicP
  rw [if_neg (by omega)]
  refine ⟨scaleP y (invN p (leadP f)), ?_⟩
  obtain ⟨a, ha⟩ := cgN_scal (p := p) f (invN p (leadP f))
  obtain ⟨b, hb⟩ := cgN_scal (p := p) u (invN p (leadP f))
  obtain ⟨c, hc⟩ := hy
  refine ⟨psub (padd a (scaleP c (invN p (leadP f)))) (pmul b F), fun x => ?_⟩
  have a1 := ha x; have a2 := hb x; have a3 := hc x
  simp only [evI_padd, evI_psub, evI_pmul, evI_scale] at a1 a2 a3 ⊢
  rw [a1, a2, a3]; grind
 intro n
 induction n with
 | zero => intro f g u v hf hg hl h0 h1 h2; exact fin f u (by omega) h1
 | succ n ih =>
  intro f g u v hf hg hl h0 h1 h2
  rw [gcdGo, cofGo]
  split
  ·exact fin f u (by omega) h1
  ·rename_i hne
   rcases hd : divP p f g with ⟨q, r⟩
   have hk := divP_can2 hp hf hg (by omega) hd
   refine ih g r v (subP p u (mulP p q v)) hg hk.2.1 (by have := hk.2.2.1; omega) (by omega) h2 ?_
   obtain ⟨y1, z1, e1⟩ := h1
   obtain ⟨y2, z2, e2⟩ := h2
   obtain ⟨d, ed⟩ := divP_cg hp0 hd
   obtain ⟨s, es⟩ := cgN_sub hp0 u (mulP p q v)
   obtain ⟨m, em⟩ := cgN_mul hp0 q v
   refine ⟨psub y1 (pmul (zl q) y2), padd (psub (padd d z1) (pmul (zl q) z2)) (psub (pmul m F) (pmul s F)), fun x => ?_⟩
   have a1 := e1 x; have a2 := e2 x; have a3 := ed x; have a4 := es x; have a5 := em x
   simp only [evI_padd, evI_psub, evI_pmul] at a1 a2 a3 a4 a5 ⊢
   rw [a4, a5]
   grind
def Dv (p : Int) (a b : List Int) : Prop := ∃ w, CgV p b (pmul w a)
theorem gcd_dv {p : Nat} (hp : PrimeN p) : ∀ (n : Nat) (f g : List Nat), CanP p f → CanP p g → g.length ≤ n → 0 < f.length + g.length → Dv p (zl (gcdGo p n f g)) (zl f) ∧ Dv p (zl (gcdGo p n f g)) (zl g) := by
 have hp0 : 0 < p := by have := hp.1; omega
 have fin : ∀ (f : List Nat), CanP p f → 0 < f.length → Dv p (zl (monicP p f)) (zl f) := by
  intro f hc hf
  unfold monicP
  rw [if_neg (by omega)]
  have hl := hc.last hf
  obtain ⟨a, ha⟩ := cgN_scal (p := p) f (invN p (leadP f))
  obtain ⟨k, hk⟩ := dvd_modN (p := p) (leadP f * invN p (leadP f))
  rw [show leadP f * invN p (leadP f) % p = 1 from (invN_spec hp hl.1 hl.2).2, Int.natCast_mul] at hk
  refine ⟨[(leadP f : Int)], scaleP (padd (scaleP (zl f) k) (scaleP a (-(leadP f : Int)))) 1, fun x => ?_⟩
  have a1 := ha x
  simp only [evI_padd, evI_pmul, evI_scale, evI] at a1 ⊢
  rw [a1]
  simp only [Int.natCast_one] at hk
  grind
 have nilD : ∀ (d : List Int) (g : List Nat), g.length = 0 → Dv p d (zl g) := fun d g hg => by
  rw [List.eq_nil_of_length_eq_zero hg]; exact ⟨[], CgV.eqv fun x => by simp [zl, evI_pmul, evI]⟩
 intro n
 induction n with
 | zero => intro f g hf hg hl h0; exact ⟨fin f hf (by omega), nilD _ g (by omega)⟩
 | succ n ih =>
  intro f g hf hg hl h0
  rw [gcdGo]
  split
  ·rename_i h1; exact ⟨fin f hf (by omega), nilD _ g h1⟩
  ·rename_i hne
   rcases hd : divP p f g with ⟨q, r⟩
   have hk := divP_can2 hp hf hg (by omega) hd
   obtain ⟨⟨a, a', ha⟩, b, b', hb⟩ := ih g r hg hk.2.1 (by have := hk.2.2.1; omega) (by omega)
   obtain ⟨d, ed⟩ := divP_cg hp0 hd
   refine ⟨⟨padd (pmul (zl q) a) b, psub (padd (pmul (zl q) a') b') d, fun x => ?_⟩, a, a', ha⟩
   have a1 := ha x; have a2 := hb x; have a3 := ed x
   simp only [evI_padd, evI_psub, evI_pmul] at a1 a2 a3 ⊢
   grind
theorem monic_lead {p : Nat} (hp : PrimeN p) {f : List Nat} (hf : CanP p f) (h0 : 0 < f.length) : (monicP p f).getD (f.length - 1) 0 = 1 := by
 have hl := hf.last h0
 have hp1 := hp.1
 have h1 : co (zl (monicP p f)) (f.length - 1) = 1 := by
  unfold monicP
  rw [if_neg (by omega), scalP, co_zltrim, getD_mapF (by simp)]
  show ((leadP f * invN p (leadP f) % p : Nat) : Int) = 1
  rw [show leadP f * invN p (leadP f) % p = 1 from (invN_spec hp hl.1 hl.2).2]; rfl
 rw [co_zl] at h1
 exact_mod_cast h1
theorem gcdGo_monic {p : Nat} (hp : PrimeN p) : ∀ (n : Nat) (f g : List Nat), CanP p f → CanP p g → g.length ≤ n → 0 < f.length + g.length → (gcdGo p n f g).getD ((gcdGo p n f g).length - 1) 0 = 1 := by
 have fin : ∀ (f : List Nat), CanP p f → 0 < f.length → (monicP p f).getD ((monicP p f).length - 1) 0 = 1 := fun f hc hf => by rw [monic_len hp hc]; exact monic_lead hp hc hf
 intro n
 induction n with
 | zero => intro f g hf hg hl h0; exact fin f hf (by omega)
 | succ n ih =>
  intro f g hf hg hl h0
  rw [gcdGo]
  split
  ·exact fin f hf (by omega)
  ·rcases hd : divP p f g with ⟨q, r⟩
   have hk := divP_can2 hp hf hg (by omega) hd
   exact ih g r hg hk.2.1 (by have := hk.2.2.1; omega) (by omega)
theorem gcd_one {p : Nat} (hp : PrimeN p) {f g : List Nat} (hf : CanP p f) (hg : CanP p g) (h0 : 0 < f.length + g.length) (h : (gcdP p f g).length ≤ 1) : gcdP p f g = [1] := by
 have h1 := gcd_ne hp hf hg h0
 have h2 := gcdGo_monic hp g.length f g hf hg (Nat.le_refl _) h0
 change (gcdP p f g).getD ((gcdP p f g).length - 1) 0 = 1 at h2
 match gcdP p f g, h, h1, h2 with
 | [a], _, _, h2 => simp [List.getD] at h2; rw [h2]
 | _ :: _ :: _, h, _, _ => simp at h
theorem mdG_start {p : Nat} {F G : List Int} : MdG p G F (zl [1]) F ∧ MdG p G G (zl []) F :=
 ⟨⟨[], CgV.eqv fun x => by simp [evI_padd, evI_pmul, zl, evI]⟩, ⟨[1], CgV.eqv fun x => by simp [evI_padd, evI_pmul, zl, evI]⟩⟩
theorem cofP_one {p : Nat} (hp : PrimeN p) {f g : List Nat} (hf : CanP p f) (hg : CanP p g) (h0 : 0 < f.length + g.length) (h : (gcdP p f g).length ≤ 1) : MdG p (zl g) [1] (zl (cofP p f g)) (zl f) := by
 have h1 := cof_gcd hp (F := zl f) (G := zl g) g.length f g [1] [] hf hg (Nat.le_refl _) h0 mdG_start.1 mdG_start.2
 rw [show gcdGo p g.length f g = [1] from gcd_one hp hf hg h0 h] at h1
 exact h1
theorem cop_of_gcd {p : Nat} (hp : PrimeN p) {f g : List Nat} (hf : CanP p f) (hg : CanP p g) (h0 : 0 < f.length + g.length) (h : (gcdP p f g).length ≤ 1) : Cop p (zl f) (zl g) := by
 obtain ⟨y, hy⟩ := cofP_one hp hf hg h0 h
 exact ⟨_, y, hy.symm⟩
theorem gcd_of_cop {p : Nat} (hp : PrimeN p) {f g : List Nat} (hf : CanP p f) (hg : CanP p g) (h0 : 0 < f.length + g.length) (h : Cop p (zl f) (zl g)) : (gcdP p f g).length ≤ 1 := by
 have hp1 := hp.1
 obtain ⟨⟨a, a', ha⟩, b, b', hb⟩ := gcd_dv hp g.length f g hf hg (Nat.le_refl _) h0
 obtain ⟨u, v, e, he⟩ := h
 have hm := gcdGo_monic hp g.length f g hf hg (Nat.le_refl _) h0
 change ∀ x, evI (zl f) x = evI (pmul a (zl (gcdP p f g))) x + _ at ha
 change ∀ x, evI (zl g) x = evI (pmul b (zl (gcdP p f g))) x + _ at hb
 change (gcdP p f g).getD ((gcdP p f g).length - 1) 0 = 1 at hm
 rcases Nat.lt_or_ge 1 (gcdP p f g).length with h1 | h1
 ·exfalso
  have hM : Mon (zl (gcdP p f g)) ((gcdP p f g).length - 1) := ⟨by rw [co_zl, hm]; rfl, fun i hi => by rw [co_ge]; rw [zl_len]; omega⟩
  have hw : CgV (p : Int) (pmul (zl (gcdP p f g)) (padd (pmul u a) (pmul v b))) [1] := ⟨psub e (padd (pmul u a') (pmul v b')), fun x => by
   have a1 := ha x; have a2 := hb x; have a3 := he x
   simp only [evI_padd, evI_psub, evI_pmul] at a1 a2 a3 ⊢
   rw [a1, a2] at a3
   grind⟩
  have hz := mon_zero hM hw (fun i hi => by rw [co_ge (f := [1]) (by simp; omega)]; exact Int.dvd_zero _)
  have h3 : CgV (p : Int) [1] [] := hw.symm.trans (CgV.mul_nil hz)
  obtain ⟨k, hk⟩ := h3.cof 0
  have h4 : (1 : Int) = p * k := by simpa [co] using hk
  have h5 : (p : Int) ∣ 1 := ⟨k, h4⟩
  have h6 := Int.le_of_dvd (by omega) h5
  omega
 ·exact h1
end Go.Gx

/-
 Where the lift starts: the cofactors modulo the prime are right. Plain numbers; no program in sight.
-/
namespace Go.Gx
theorem Cop.symm {p : Int} {a b : List Int} (h : Cop p a b) : Cop p b a := by
 obtain ⟨u, v, e, h⟩ := h
 exact ⟨v, u, e, fun x => by rw [← h x, evI_padd, evI_padd]; omega⟩
theorem Cop.cg {p : Int} {a b a' b' : List Int} (h : Cop p a b) (ha : CgV p a a') (hb : CgV p b b') : Cop p a' b' := by
 obtain ⟨u, v, h⟩ := h
 exact ⟨u, v, (((CgV.refl _ _).mul ha).add ((CgV.refl _ _).mul hb)).symm.trans h⟩
theorem pw_of {p : Int} : ∀ {L : List (List Int)}, (∀ (i j : Nat) (f g : List Int), j < i → L[i]? = some f → L[j]? = some g → Cop p f g) → Pw p L
 | [], _ => trivial
 | b :: bs, h => ⟨fun c hc => by
   obtain ⟨i, hi⟩ := List.getElem?_of_mem hc
   exact (h (i + 1) 0 c b (by omega) (by simpa using hi) rfl).symm, pw_of fun i j f g hj h1 h2 => h (i + 1) (j + 1) f g (by omega) (by simpa using h1) (by simpa using h2)⟩
theorem Pw.at {p : Int} : ∀ {L : List (List Int)}, Pw p L → ∀ (i j : Nat) (f g : List Int), j ≠ i → L[i]? = some f → L[j]? = some g → Cop p f g
 | [], _, i, j, f, g, _, h, _ => by simp at h
 | b :: bs, hw, 0, 0, f, g, hne, _, _ => absurd rfl hne
 | b :: bs, hw, i + 1, 0, f, g, _, h1, h2 => by
  simp at h1 h2; subst h2; exact (hw.1 f (List.mem_of_getElem? h1)).symm
 | b :: bs, hw, 0, j + 1, f, g, _, h1, h2 => by
  simp at h1 h2; subst h1; exact hw.1 g (List.mem_of_getElem? h2)
 | b :: bs, hw, i + 1, j + 1, f, g, hne, h1, h2 => by
  simp at h1 h2; exact hw.2.at i j f g (by omega) h1 h2
theorem dv_prod {p : Int} {Y : List Int} : ∀ {gs : List (List Int)}, Pw p gs → (∀ g ∈ gs, Dv p g Y) → Dv p (pL gs) Y
 | [], _, _ => ⟨Y, CgV.eqv fun x => by simp [pL, evI_pmul, evI]⟩
 | g :: gs, hw, h => by
  obtain ⟨w, w', hw1⟩ := h g (List.mem_cons_self ..)
  obtain ⟨y, y', hy⟩ := dv_prod hw.2 fun a ha => h a (List.mem_cons_of_mem _ ha)
  obtain ⟨u, v, e, he⟩ := Cop.prod hw.1
  refine ⟨padd (pmul u y) (pmul v w), psub (padd (pmul (pmul u g) y') (pmul (pmul v (pL gs)) w')) (pmul e Y), fun x => ?_⟩
  have a1 := hw1 x; have a2 := hy x; have a3 := he x
  simp only [evI_padd, evI_psub, evI_pmul, pL, evI] at a1 a2 a3 ⊢
  generalize evI Y x = Y' at *; generalize evI g x = G at *; generalize evI (pL gs) x = P at *
  generalize evI u x = U at *; generalize evI v x = V at *; generalize evI e x = E at *
  generalize evI w x = W at *; generalize evI w' x = W' at *; generalize evI y x = y2 at *; generalize evI y' x = y3 at *
  have a4 : (U * G + V * P) * Y' = U * G * (y2 * P + p * y3) + V * P * (W * G + p * W') := by
   have : U * G * Y' = U * G * (y2 * P + p * y3) := by rw [a2]
   have : V * P * Y' = V * P * (W * G + p * W') := by rw [a1]
   grind
  rw [a3] at a4
  grind
theorem tL_at {p : Int} : ∀ {gs ss : List (List Int)}, gs.length = ss.length → ∀ (i : Nat) (g s : List Int), gs[i]? = some g → ss[i]? = some s → ∃ y, CgV p (tL gs ss) (padd (pmul s (pL (gs.eraseIdx i))) (pmul y g))
 | [], _, _, i, g, s, h, _ => by simp at h
 | _ :: _, [], hl, _, _, _, _, _ => by simp at hl
 | a :: gs, b :: ss, hl, 0, g, s, h1, h2 => by
  simp at h1 h2; subst h1 h2
  exact ⟨tL gs ss, CgV.eqv fun x => by simp only [tL, List.eraseIdx_cons_zero, evI_padd, evI_pmul]; grind⟩
 | a :: gs, b :: ss, hl, i + 1, g, s, h1, h2 => by
  simp at h1 h2
  obtain ⟨y, e, he⟩ := tL_at (p := p) (by simpa using hl) i g s h1 h2
  obtain ⟨z, hz⟩ := pL_at h1
  refine ⟨padd (pmul b z) (pmul a y), pmul a e, fun x => ?_⟩
  have a1 := he x; have a2 := hz x
  simp only [tL, pL, List.eraseIdx_cons_succ, evI_padd, evI_pmul] at a1 a2 ⊢
  rw [a1, a2]; grind
where
 pL_at : ∀ {gs : List (List Int)} {i : Nat} {g : List Int}, gs[i]? = some g → ∃ z : List Int, ∀ x, evI (pL gs) x = evI (pmul z g) x
 | [], i, g, h => by simp at h
 | a :: gs, 0, g, h => by simp at h; subst h; exact ⟨pL gs, fun x => by simp only [pL, evI_pmul]; grind⟩
 | a :: gs, i + 1, g, h => by
  simp at h
  obtain ⟨z, hz⟩ := pL_at h
  exact ⟨pmul a z, fun x => by have := hz x; simp only [pL, evI_pmul] at this ⊢; rw [this]; grind⟩
theorem crt {p : Int} {gs ss : List (List Int)} {n : Nat} (h : MS gs ss n) (hn : 0 < n) (hw : Pw p gs) (hi : ∀ (i : Nat) (g s : List Int), gs[i]? = some g → ss[i]? = some s → ∃ y, CgV p (pmul s (pL (gs.eraseIdx i))) (padd [1] (pmul y g))) : CgV p (tL gs ss) [1] := by
 have h1 : Dv p (pL gs) (psub (tL gs ss) [1]) := dv_prod hw fun g hg => by
  obtain ⟨i, hg⟩ := List.getElem?_of_mem hg
  obtain ⟨s, hs⟩ : ∃ s, ss[i]? = some s := ⟨_, List.getElem?_eq_getElem (by have := (List.getElem?_eq_some_iff.1 hg).1; have := h.len; omega)⟩
  obtain ⟨y, e, he⟩ := tL_at (p := p) h.len i g s hg hs
  obtain ⟨z, d, hd⟩ := hi i g s hg hs
  refine ⟨padd y z, padd e d, fun x => ?_⟩
  have a1 := he x; have a2 := hd x
  simp only [evI_padd, evI_psub, evI_pmul] at a1 a2 ⊢
  rw [a1, a2]; grind
 obtain ⟨w, e, he⟩ := h1
 have h2 : CgV p w [] := mon_zero (C := pL gs) (S := psub (tL gs ss) [1]) h.prod ⟨scaleP e (-1), fun x => by
  have a1 := he x
  simp only [evI_psub, evI_pmul, evI_scale] at a1 ⊢
  rw [a1]; grind⟩ fun i hi => by rw [co_psub, h.deg i hi, co_ge (f := [1]) (by simp; omega)]; simp
 obtain ⟨d, hd⟩ := h2
 exact ⟨padd (pmul d (pL gs)) e, fun x => by
  have a1 := he x; have a2 := hd x
  simp only [evI_padd, evI_psub, evI_pmul, evI] at a1 a2 ⊢
  rw [a2] at a1
  grind⟩
def pO (i : Nat) (L : List (List Int)) : Nat → List Int
 | 0 => [1]
 | k + 1 => if k = i then pO i L k else pmul (pO i L k) (L.getD k [])
theorem pL_snoc (L : List (List Int)) (a : List Int) (x : Int) : evI (pL (L ++ [a])) x = evI (pL L) x * evI a x := by
 induction L with
 | nil => simp [pL, evI_pmul, evI]
 | cons b L ih => simp only [List.cons_append, pL, evI_pmul, ih]; grind
theorem pO_eq (i : Nat) (L : List (List Int)) (x : Int) : ∀ k, k ≤ L.length → evI (pO i L k) x = evI (pL ((L.take k).eraseIdx i)) x
 | 0, _ => by simp [pO, pL]
 | k + 1, h => by
  have ih := pO_eq i L x k (by omega)
  have hk : L[k]? = some (L.getD k []) := by rw [List.getD, List.getElem?_eq_getElem (by omega)]; rfl
  rw [List.take_add_one, hk, Option.toList_some, pO]
  split
  ·rename_i e; subst e
   have e0 : k - (L.take k).length = 0 := by simp; omega
   rw [ih, List.eraseIdx_of_length_le (by simp; omega), List.eraseIdx_append_of_length_le (by simp; omega), e0, List.eraseIdx_cons_zero, List.append_nil]
  ·rename_i e
   rw [evI_pmul, ih]
   rcases Nat.lt_or_ge i k with h1 | h1
   ·rw [List.eraseIdx_append_of_lt_length (by simp; omega), pL_snoc]
   ·rw [List.eraseIdx_of_length_le (l := L.take k) (by simp; omega), List.eraseIdx_of_length_le (by simp; omega), pL_snoc]
structure MonN (p : Nat) (d : List Nat) : Prop where
 can : CanP p d
 pos : 2 ≤ d.length
 one : d.getD (d.length - 1) 0 = 1
theorem othP_cg {p i : Nat} (hp : PrimeN p) {g : List Nat} {l : List (List Nat)} (hg : MonN p g) : ∀ k, ∃ y, CgV (p : Int) (zl (othP p g i l k)) (padd (pO i (l.map zl) k) (pmul y (zl g)))
 | 0 => ⟨[], CgV.eqv fun x => by simp [othP, pO, zl, evI_padd, evI_pmul, evI]⟩
 | k + 1 => by
  have hp0 : 0 < p := by have := hp.1; omega
  obtain ⟨y, e, he⟩ := othP_cg (i := i) (l := l) hp hg k
  rw [othP, pO]
  split
  ·exact ⟨y, e, he⟩
  ·rcases hd : divP p (nrmP p (mulP p (othP p g i l k) (l.getD k []))) (nrmP p g) with ⟨q, r⟩
   rw [hg.can.nrm] at hd
   obtain ⟨a, ha⟩ := divP_cg hp0 hd
   obtain ⟨b, hb⟩ := (cgN_nrm hp0 (mulP p (othP p g i l k) (l.getD k []))).trans (cgN_mul hp0 _ _)
   have hz : zl (l.getD k []) = (l.map zl).getD k [] := by
    simp only [List.getD, List.getElem?_map]
    cases l[k]? <;> rfl
   rw [← hz]
   refine ⟨psub (pmul y (zl (l.getD k []))) (zl q), padd (padd b (pmul e (zl (l.getD k [])))) a, fun x => ?_⟩
   have a1 := ha x; have a2 := hb x; have a3 := he x
   simp only [evI_padd, evI_psub, evI_pmul] at a1 a2 a3 ⊢
   rw [a2, a3] at a1
   grind
theorem cofGo_can {p : Nat} (hp0 : 0 < p) : ∀ (n : Nat) (f g u v : List Nat), CanP p (cofGo p n f g u v)
 | 0, f, g, u, v => canP_scal hp0 _ _
 | n + 1, f, g, u, v => by
  rw [cofGo]
  split
  ·exact canP_scal hp0 _ _
  ·exact cofGo_can hp0 n _ _ _ _
theorem cofG_ok {p i : Nat} (hp : PrimeN p) {l : List (List Nat)} {g : List Nat} (hl : ∀ d ∈ l, MonN p d) (hi : l[i]? = some g) (hw : Pw (p : Int) (l.map zl)) :
  (cofG p l i).length < g.length ∧ ∃ y, CgV (p : Int) (pmul (zl (cofG p l i)) (pL ((l.map zl).eraseIdx i))) (padd [1] (pmul y (zl g))) := by
 have hp0 : 0 < p := by have := hp.1; omega
 have hg := hl g (List.mem_of_getElem? hi)
 have hlt := (List.getElem?_eq_some_iff.1 hi).1
 have hgd : l.getD i [] = g := by rw [List.getD, hi]; rfl
 unfold cofG
 rw [hgd, hg.can.nrm]
 obtain ⟨y, e, he⟩ := othP_cg (i := i) (l := l) hp hg l.length
 have hF := canP_nrm hp0 (othP p g i l l.length)
 obtain ⟨b, hb⟩ := cgN_nrm hp0 (othP p g i l l.length)
 generalize nrmP p (othP p g i l l.length) = F at *
 -- F is the product of the others modulo g
 have hFP : ∀ x, evI (zl F) x = evI (padd (pL ((l.map zl).eraseIdx i)) (pmul y (zl g))) x + p * evI (padd b e) x := fun x => by
  have a1 := he x; have a2 := hb x
  have a3 := pO_eq i (l.map zl) x l.length (by simp)
  rw [List.take_of_length_le (by simp)] at a3
  simp only [evI_padd, evI_pmul] at a1 a2 a3 ⊢
  rw [a2, a1, a3]; grind
 have hcop : Cop (p : Int) (zl F) (zl g) := by
  have h1 : Cop (p : Int) (zl g) (pL ((l.map zl).eraseIdx i)) := Cop.prod fun c hc => by
   obtain ⟨j, hj, hjc⟩ := List.mem_eraseIdx_iff_getElem?.1 hc
   exact hw.at i j _ c hj (by simp [hi]) hjc
  obtain ⟨u, v, d, hd⟩ := h1
  refine ⟨v, psub u (pmul v y), padd d (pmul v (padd b e)), fun x => ?_⟩
  have a1 := hd x; have a2 := hFP x
  simp only [evI_padd, evI_psub, evI_pmul] at a1 a2 ⊢
  rw [a2]
  grind
 have h0 : 0 < F.length + g.length := by have := hg.pos; omega
 have hgc := gcd_of_cop hp hF hg.can h0 hcop
 have hone := gcd_one hp hF hg.can h0 hgc
 obtain ⟨z, c, hc⟩ := cofP_one hp hF hg.can h0 hgc
 rw [xgcdP]
 simp only [hone]
 rw [if_neg (by have := hg.pos; omega), if_neg (by have := hg.pos; simp; omega)]
 have c1 : CanP p [1] := ⟨fun d hd => by simp at hd; have := hp.1; omega, fun _ => by simp [List.getD]⟩
 rcases hq : divP p g [1] with ⟨q, r⟩
 have hk := divP_can2 hp hg.can c1 (by simp) hq
 have hr : r = [] := List.eq_nil_of_length_eq_zero (by have h9 : r.length < 1 := hk.2.2.1; omega)
 subst hr
 have hq0 : 0 < q.length := hk.2.2.2.2.2 (by have := hg.pos; simp; omega)
 have hql : q.length ≤ g.length := by have h9 : q.length ≤ g.length + 1 - 1 := hk.2.2.2.1; omega
 obtain ⟨a, ha⟩ := divP_cg hp0 hq
 rcases hu : divP p (cofP p F g) q with ⟨t, u⟩
 have hk2 := divP_can2 hp (cofGo_can hp0 _ _ _ _ _) hk.1 hq0 hu
 obtain ⟨a2, ha2⟩ := divP_cg hp0 hu
 show u.length < g.length ∧ ∃ y, CgV (p : Int) (pmul (zl u) (pL ((l.map zl).eraseIdx i))) (padd [1] (pmul y (zl g)))
 refine ⟨by have := hk2.2.2.1; omega, ?_⟩
 -- u F = 1 modulo g
 have e1 : ∃ y2 d2, ∀ x, evI (zl u) x * evI (zl F) x = 1 + evI y2 x * evI (zl g) x + p * evI d2 x := by
  refine ⟨psub (scaleP z (-1)) (pmul (zl t) (zl F)), padd (padd (scaleP c (-1)) (pmul a2 (zl F))) (scaleP (pmul (pmul (zl t) (zl F)) a) (-1)), fun x => ?_⟩
  have b1 := hc x; have b2 := ha x; have b3 := ha2 x
  simp only [evI_padd, evI_psub, evI_pmul, evI_scale, zl, List.map_nil, List.map_cons, evI] at b1 b2 b3 ⊢
  grind
 obtain ⟨y2, d2, hd2⟩ := e1
 refine ⟨psub y2 (pmul (zl u) y), psub d2 (pmul (zl u) (padd b e)), fun x => ?_⟩
 have b1 := hd2 x; have b2 := hFP x
 rw [b2] at b1
 simp only [evI_padd, evI_psub, evI_pmul, evI] at b1 ⊢
 grind
end Go.Gx

/-
 What the rounds of the lift reach is the lift; it is the only one. Plain numbers; no program in sight.
-/
namespace Go.Gx
theorem symN_cg (p a : Nat) : (p : Int) ∣ symN p a - (a : Int) := by
 unfold symN
 obtain ⟨k, hk⟩ := dvd_modN (p := p) a
 split
 ·exact ⟨k - 1, by rw [Int.mul_sub]; omega⟩
 ·exact ⟨k, hk⟩
theorem symN_zero (p : Nat) : symN p 0 = 0 := by unfold symN; rw [Nat.zero_mod, if_neg (by omega)]; rfl
theorem co_mapN {F : Nat → Int} (h0 : F 0 = 0) (d : List Nat) (i : Nat) : co (d.map F) i = F (d.getD i 0) := by
 simp only [co, List.getD, List.getElem?_map]
 cases d[i]? with
 | none => exact h0.symm
 | some x => rfl
theorem co_sym (p : Nat) (d : List Nat) (i : Nat) : co (trimZ (d.map (symN p))) i = symN p (d.getD i 0) := by rw [co_trim, co_mapN (symN_zero p)]
theorem sym_cg (p : Nat) (d : List Nat) : CgV (p : Int) (trimZ (d.map (symN p))) (zl d) := CgV.of fun i => by rw [co_sym, co_zl]; exact symN_cg p _
theorem symN_one {p : Nat} (hp : 2 ≤ p) : symN p 1 = 1 := by
 unfold symN
 rcases Nat.eq_or_lt_of_le hp with h | h
 ·subst h; rfl
 ·rw [Nat.mod_eq_of_lt (by omega), if_neg (by omega)]; rfl
theorem MonN.mon {p : Nat} {d : List Nat} (hp : 2 ≤ p) (h : MonN p d) : Mon (trimZ (d.map (symN p))) (d.length - 1) := by
 refine ⟨by rw [co_sym, h.one, symN_one hp], fun i hi => ?_⟩
 have := h.pos
 rw [co_sym, show d.getD i 0 = 0 by rw [List.getD, List.getElem?_eq_none (by omega)]; rfl, symN_zero]
theorem start_ms {p : Nat} (hp2 : 2 ≤ p) : ∀ {ds ss : List (List Nat)}, ds.length = ss.length → (∀ d ∈ ds, MonN p d) → (∀ (i : Nat) (d s : List Nat), ds[i]? = some d → ss[i]? = some s → s.length < d.length) →
  ∃ n, MS (symL p ds) (symL p ss) n ∧ ds.length ≤ n
 | [], [], _, _, _ => ⟨0, .nil, Nat.le_refl _⟩
 | [], _ :: _, h, _, _ => by cases h
 | _ :: _, [], h, _, _ => by cases h
 | d :: ds, s :: ss, h, hd, hs => by
  obtain ⟨n, h1, h2⟩ := start_ms hp2 (ds := ds) (ss := ss) (by simpa using h) (fun x hx => hd x (List.mem_cons_of_mem _ hx)) fun i a b ha hb => hs (i + 1) a b (by simpa using ha) (by simpa using hb)
  have hm := hd d (List.mem_cons_self ..)
  have hl := hs 0 d s rfl rfl
  refine ⟨(d.length - 1) + n, .cons (hm.mon hp2) (fun i hi => ?_) h1, by have := hm.pos; simp; omega⟩
  rw [co_sym, show s.getD i 0 = 0 by rw [List.getD, List.getElem?_eq_none (by omega)]; rfl, symN_zero]
theorem symL_get {p i : Nat} {ds : List (List Nat)} {a : List Int} (h : (symL p ds)[i]? = some a) : ∃ d, ds[i]? = some d ∧ a = trimZ (d.map (symN p)) := by
 unfold symL at h
 rw [List.getElem?_map] at h
 cases hd : ds[i]? with
 | none => rw [hd] at h; cases h
 | some d => rw [hd] at h; exact ⟨d, rfl, (Option.some.inj h).symm⟩
theorem pL_cgl {q : Int} : ∀ {as bs : List (List Int)}, as.length = bs.length → (∀ (i : Nat) (a b : List Int), as[i]? = some a → bs[i]? = some b → CgV q a b) → CgV q (pL as) (pL bs)
 | [], [], _, _ => CgV.refl _ _
 | [], _ :: _, h, _ => by cases h
 | _ :: _, [], h, _ => by cases h
 | a :: as, b :: bs, h, hi => (hi 0 a b rfl rfl).mul (pL_cgl (by simpa using h) fun i x y hx hy => hi (i + 1) x y (by simpa using hx) (by simpa using hy))
theorem cofsG_get {p i : Nat} {l : List (List Nat)} {s : List Nat} (h : (cofsG p l)[i]? = some s) : i < l.length ∧ s = cofG p l i := by
 unfold cofsG at h
 rw [List.getElem?_map] at h
 rcases Nat.lt_or_ge i l.length with h1 | h1
 ·rw [List.getElem?_range h1] at h; exact ⟨h1, (Option.some.inj h).symm⟩
 ·rw [List.getElem?_eq_none (by simpa using h1)] at h; cases h
structure LInv (p : Nat) (f : List Int) (A0 L0 L1 : List (List Int)) (e n : Nat) : Prop where
 ms : MS L0 L1 n
 pr : CgV ((p ^ e : Nat) : Int) (scaleP (pL L0) (ldP f)) f
 cof : 0 < n → CgV ((p ^ e : Nat) : Int) (tL L0 L1) [1]
 fit : Fit (p : Int) L0 A0
 red : ∀ u ∈ L0, ∀ i, symZ (p ^ e) (co u i) = co u i
 he : 1 ≤ e
theorem prodN_cg {p : Nat} (hp0 : 0 < p) : ∀ (l : List (List Nat)) (a : List Nat), CgV (p : Int) (zl (prodN p a l)) (pmul (zl a) (pL (l.map zl)))
 | [], a => CgV.eqv fun x => by simp [prodN, pL, evI_pmul, evI]
 | g :: l, a => by
  have h1 : prodN p a (g :: l) = prodN p (mulP p a g) l := by unfold prodN; rw [List.foldl_cons]
  rw [h1]
  have h2 := prodN_cg hp0 l (mulP p a g)
  have h3 := cgN_mul hp0 a g
  generalize zl (mulP p a g) = X at h2 h3
  exact h2.trans ((h3.mul (CgV.refl _ _)).trans (CgV.eqv fun x => by simp only [List.map_cons, pL, evI_pmul]; grind))
theorem Fit.self {p : Int} : ∀ {gs ss : List (List Int)} {n : Nat}, MS gs ss n → Fit p gs gs := fun h => by
 induction h with
 | nil => exact .nil
 | cons hg _ _ ih => exact .cons _ hg hg (CgV.refl _ _) ih
theorem symZ_symN {p : Nat} (a : Nat) : symZ p (symN p a) = symN p a := by
 rcases Nat.eq_zero_or_pos p with h | h
 ·subst h; unfold symZ symN; simp
 ·have h1 := Nat.mod_lt a h
  refine symZ_self ?_ ?_ <;> (unfold symN; split <;> omega)
theorem lead_cg {p : Nat} (hp0 : 0 < p) {P Q : List Int} {ld : Int} (h : CgV (p : Int) P Q) : CgV (p : Int) (scaleP P ld) (pmul (zl [md p ld]) Q) := by
 obtain ⟨k, hk⟩ := md_ex hp0 ld
 obtain ⟨E, hE⟩ := h
 refine ⟨padd (scaleP Q k) (scaleP E ld), fun x => ?_⟩
 have a1 := hE x
 simp only [evI_scale, evI_pmul, evI_padd, zl, List.map_cons, List.map_nil, evI] at a1 ⊢
 rw [a1]
 generalize evI Q x = Q' at *
 generalize evI E x = E' at *
 generalize ((md p ld : Nat) : Int) = M at *
 subst hk
 grind
theorem linv_start {p : Nat} (hp : PrimeN p) {f : List Int} {ds : List (List Nat)} (hd : ∀ d ∈ ds, MonN p d) (hw : Pw (p : Int) (ds.map zl)) (hs : nrmP p (prodN p [md p (ldP f)] ds) = nrmP p (redP p f)) :
  ∃ n, LInv p f (symL p ds) (symL p ds) (symL p (cofsG p ds)) 1 n ∧ Pw (p : Int) (symL p ds) ∧ ds.length ≤ n := by
 have hp2 : 2 ≤ p := hp.1
 have hp0 : 0 < p := by omega
 have hlen : ds.length = (cofsG p ds).length := by simp [cofsG]
 have hz : ∀ (i : Nat) (a : List Int) (d : List Nat), (symL p ds)[i]? = some a → ds[i]? = some d → CgV (p : Int) a (zl d) := fun i a d ha hda => by
  obtain ⟨d', h1, h2⟩ := symL_get ha
  rw [hda] at h1; obtain rfl := Option.some.inj h1
  rw [h2]; exact sym_cg p d
 obtain ⟨n, hms, hn⟩ := start_ms hp2 hlen hd fun i d s h1 h2 => by
  obtain ⟨_, rfl⟩ := cofsG_get h2
  exact (cofG_ok hp hd h1 hw).1
 have hpw : Pw (p : Int) (symL p ds) := pw_of fun i j a b hj ha hb => by
  obtain ⟨d, h1, rfl⟩ := symL_get ha
  obtain ⟨d', h2, rfl⟩ := symL_get hb
  exact (hw.at i j (zl d) (zl d') (by omega) (by simp [h1]) (by simp [h2])).cg (sym_cg p d).symm (sym_cg p d').symm
 have hprod : ∀ i, CgV (p : Int) (pL ((symL p ds).eraseIdx i)) (pL ((ds.map zl).eraseIdx i)) := fun i => by
  refine pL_cgl (by simp [symL, List.length_eraseIdx]) fun j a b ha hb => ?_
  rw [List.getElem?_eraseIdx] at ha hb
  split at ha
  ·rename_i h1
   rw [if_pos h1] at hb
   rw [List.getElem?_map] at hb
   cases hdj : ds[j]? with
   | none => rw [hdj] at hb; cases hb
   | some d => rw [hdj] at hb; obtain rfl := Option.some.inj hb; exact hz j a d ha hdj
  ·rename_i h1
   rw [if_neg h1] at hb
   rw [List.getElem?_map] at hb
   cases hdj : ds[j + 1]? with
   | none => rw [hdj] at hb; cases hb
   | some d => rw [hdj] at hb; obtain rfl := Option.some.inj hb; exact hz (j + 1) a d ha hdj
 have hall : CgV (p : Int) (pL (symL p ds)) (pL (ds.map zl)) := pL_cgl (by simp [symL]) fun j a b ha hb => by
  rw [List.getElem?_map] at hb
  cases hdj : ds[j]? with
  | none => rw [hdj] at hb; cases hb
  | some d => rw [hdj] at hb; obtain rfl := Option.some.inj hb; exact hz j a d ha hdj
 refine ⟨n, ⟨hms, ?_, fun hn0 => ?_, Fit.self hms, ?_, Nat.le_refl _⟩, hpw, hn⟩
 ·rw [Nat.pow_one]
  have h1 : CgV (p : Int) (zl (prodN p [md p (ldP f)] ds)) f := ((cgN_nrm hp0 _).symm.trans (by rw [hs]; exact cgN_nrm hp0 _)).trans (cgN_red hp0 f)
  have h2 := (prodN_cg hp0 ds [md p (ldP f)]).symm.trans h1
  have h3 : CgV (p : Int) (scaleP (pL (symL p ds)) (ldP f)) (pmul (zl [md p (ldP f)]) (pL (ds.map zl))) := lead_cg hp0 hall
  exact h3.trans h2
 ·rw [Nat.pow_one]
  refine crt hms hn0 hpw fun i g s hg hs' => ?_
  obtain ⟨d, h1, rfl⟩ := symL_get hg
  obtain ⟨t, h2, rfl⟩ := symL_get hs'
  obtain ⟨_, rfl⟩ := cofsG_get h2
  obtain ⟨_, y, hy⟩ := cofG_ok hp hd h1 hw
  exact ⟨y, (((sym_cg p _).mul (hprod i)).trans hy).trans ((CgV.refl _ _).add ((CgV.refl _ _).mul (sym_cg p d).symm))⟩
 ·rw [Nat.pow_one]
  intro u hu i
  obtain ⟨d, _, rfl⟩ := List.mem_map.1 hu
  rw [co_sym, symZ_symN]
theorem LInv.degf {p : Nat} {f : List Int} {A0 L0 L1 : List (List Int)} {e n : Nat} (h : LInv p f A0 L0 L1 e n) (hl : ¬ (p : Int) ∣ ldP f) : co f n = ldP f ∧ ∀ i, n < i → co f i = 0 := by
 have hM := h.ms.prod
 have hp : (p : Int) ∣ ((p ^ e : Nat) : Int) := by
  have := h.he
  exact_mod_cast Nat.dvd_of_pow_dvd (k := 1) (by omega) (by rw [Nat.pow_one]; exact dvd_pow_self_nat (by omega))
 have hc : ∀ i, ∃ k, ldP f * co (pL L0) i = co f i + p * k := fun i => by
  obtain ⟨k, hk⟩ := (h.pr.dvd hp).cof i
  rw [co_scaleP] at hk
  exact ⟨k, by rw [Int.mul_comm]; exact hk⟩
 have hne : ldP f ≠ 0 := fun h0 => hl (h0 ▸ Int.dvd_zero _)
 have hpos : 0 < (trimZ f).length := by
  rcases Nat.eq_zero_or_pos (trimZ f).length with h0 | h0
  ·exfalso; apply hne; unfold ldP; rw [h0, List.eq_nil_of_length_eq_zero h0]; rfl
  ·exact h0
 have hld : ldP f = co f ((trimZ f).length - 1) := by
  unfold ldP
  rw [show (((trimZ f).length : Int) - 1) = (((trimZ f).length - 1 : Nat) : Int) by omega, coI_nat, co_trim]
 have h1 : (trimZ f).length - 1 = n := by
  rcases Nat.lt_trichotomy ((trimZ f).length - 1) n with h2 | h2 | h2
  ·exfalso
   obtain ⟨k, hk⟩ := hc n
   have h3 : co f n = 0 := by rw [← co_trim, co_ge (by omega)]
   rw [hM.1, h3] at hk
   exact hl ⟨k, by omega⟩
  ·exact h2
  ·exfalso
   obtain ⟨k, hk⟩ := hc ((trimZ f).length - 1)
   rw [hM.2 _ h2, ← hld] at hk
   exact hl ⟨-k, by rw [Int.mul_neg]; omega⟩
 exact ⟨by rw [hld, h1], fun i hi => by rw [← co_trim, co_ge (by omega)]⟩
where
 dvd_pow_self_nat {p e : Nat} (he : e ≠ 0) : p ∣ p ^ e := Nat.dvd_of_pow_dvd (k := 1) (Nat.le_refl _) (by rw [Nat.pow_one]; exact ⟨p ^ (e - 1), by rw [← Nat.pow_succ']; congr 1; omega⟩)
theorem Fit.step {p : Int} {q m : Nat} {μ : List Int} (hp : p ∣ q) (hm2 : 2 ≤ m) (hq : (q : Int) ∣ m) (hμ : CgV (q : Int) μ []) {gs A : List (List Int)} (h : Fit p gs A) : ∀ {ss : List (List Int)}, gs.length = ss.length → Fit p ((gs.zip ss).map fun x => nxt0 m μ x.1 x.2) A := by
 induction h with
 | nil => intro ss h; cases ss with
  | nil => exact .nil
  | cons _ _ => cases h
 | @cons a b as bs d ha hb h t ih =>
  intro ss hl
  match ss, hl with
  | s :: ss, hl =>
   refine .cons d ?_ hb (((nxt0_cg hq hμ a s ⟨d, ha⟩).dvd hp).trans h) (ih (by simpa using hl))
   unfold nxt0
   refine ⟨?_, fun i hi => ?_⟩
   ·rw [co_redZ, co_trim, co_padd, ha.1, remZ_deg ha d (Nat.le_refl _), Int.add_zero, symZ_one hm2]
   ·rw [co_redZ, co_trim, co_padd, ha.2 i hi, remZ_deg ha i (by omega), Int.add_zero, symZ_zero]
theorem linv_next {p k : Nat} (hp : PrimeN p) {f : List Int} {A0 L0 L1 : List (List Int)} {e n : Nat} {x K : Int} (h : LInv p f A0 L0 L1 e n) (hn : 0 < n) (hl : ¬ (p : Int) ∣ ldP f) (he : e < k) (hx : x * ldP f = 1 + ((p ^ (e + min e (k - e)) : Nat) : Int) * K) :
  LInv p f A0 (step0 (p ^ (e + min e (k - e))) x f L0 L1) (step1 (p ^ (e + min e (k - e))) x f L0 L1) (e + min e (k - e)) n := by
 have hp2 := hp.1
 have he1 := h.he
 have hq : ((p ^ e : Nat) : Int) ∣ ((p ^ (e + min e (k - e)) : Nat) : Int) := by exact_mod_cast Nat.pow_dvd_pow p (by omega)
 have hm : ((p ^ (e + min e (k - e)) : Nat) : Int) ∣ ((p ^ e : Nat) : Int) * ((p ^ e : Nat) : Int) := by
  rw [← Int.natCast_mul, ← Nat.pow_add]
  exact_mod_cast Nat.pow_dvd_pow p (by omega)
 have hm2 : 2 ≤ p ^ (e + min e (k - e)) := by
  calc 2 ≤ p := hp2
   _ = p ^ 1 := (Nat.pow_one p).symm
   _ ≤ _ := Nat.pow_le_pow_right (by omega) (by omega)
 have hpq : (p : Int) ∣ ((p ^ e : Nat) : Int) := by
  have : p ^ 1 ∣ p ^ e := Nat.pow_dvd_pow p he1
  rw [Nat.pow_one] at this
  exact_mod_cast this
 have hxd : ((p ^ (e + min e (k - e)) : Nat) : Int) ∣ x * ldP f - 1 := ⟨K, by omega⟩
 have hf := h.degf hl
 obtain ⟨s1, s2, s3⟩ := step_ok hm2 hq hm h.ms hn hxd hf h.pr (h.cof hn)
 have hμ := (stepA hm2 hq hm h.ms hxd hf h.pr (h.cof hn) (miss_cg (f := f) hx (sumZ_cg (m := p ^ (e + min e (k - e))) h.ms.len).2)).1
 refine ⟨s1, s2, fun _ => s3, h.fit.step hpq hm2 hq hμ h.ms.len, fun u hu i => ?_, by omega⟩
 obtain ⟨y, _, rfl⟩ := List.mem_map.1 hu
 unfold nxt0
 rw [co_redZ, symZ_idem (by omega)]
theorem no_factors {p : Nat} {f : List Int} {A0 L0 L1 : List (List Int)} {e : Nat} (h : LInv p f A0 L0 L1 e 0) (h0 : L0 = []) (hl : ¬ (p : Int) ∣ ldP f) : isFac f L0 := by
 subst h0
 have hf := h.degf hl
 unfold isFac foldMul
 refine trim_inj fun i => ?_
 cases i with
 | zero => rw [hf.1]; rfl
 | succ i => rw [hf.2 _ (by omega), List.foldl_nil, co_ge (by simp)]
theorem reach_inv {p k : Nat} (hp : PrimeN p) {f : List Int} {A0 A1 L0 L1 : List (List Int)} {e n : Nat} (h0 : LInv p f A0 A0 A1 1 n) (hn : A0.length ≤ n ∧ (A0.length = 0 → n = 0)) (hl : ¬ (p : Int) ∣ ldP f) (h : LReach p k f A0 A1 L0 L1 e) : LInv p f A0 L0 L1 e n := by
 induction h with
 | start => exact h0
 | @next L0 L1 e x K h he hnf hx hs ih =>
  rcases Nat.eq_zero_or_pos A0.length with h1 | h1
  ·exfalso
   have hn0 := hn.2 h1
   subst hn0
   have h2 : L0 = [] := by
    have h3 := ih.fit
    rw [List.eq_nil_of_length_eq_zero h1] at h3
    cases h3; rfl
   exact hnf (no_factors ih h2 hl)
  ·exact linv_next hp ih (by omega) hl he hx
end Go.Gx

/-
 Monic integer factors are found again. Plain numbers; no program in sight.
-/
namespace Go.Gx
theorem evI_fold (x : Int) : ∀ (L : List (List Int)) (p : List Int), evI (foldMul p L) x = evI p x * evI (pL L) x
 | [], p => by simp [foldMul, pL, evI]
 | g :: L, p => by
  have h1 : foldMul p (g :: L) = foldMul (trimZ (pmul p g)) L := by unfold foldMul; rw [List.foldl_cons]
  rw [h1, evI_fold x L, evI_trim, evI_pmul, pL, evI_pmul]; grind
theorem cop_dvd {c m z : Int} (h : Int.gcd c m = 1) (hd : m ∣ c * z) : m ∣ z := by
 have h1 : m.natAbs ∣ c.natAbs * z.natAbs := by rw [← Int.natAbs_mul]; exact Int.natAbs_dvd_natAbs.2 hd
 have h2 : Nat.Coprime m.natAbs c.natAbs := by rw [Nat.Coprime, Nat.gcd_comm]; exact h
 exact Int.natAbs_dvd_natAbs.1 (h2.dvd_of_dvd_mul_left h1)
theorem Fit.len {p : Int} {as bs : List (List Int)} (h : Fit p as bs) : as.length = bs.length := by
 induction h with
 | nil => rfl
 | cons _ _ _ _ _ ih => simp [ih]
theorem Fit.at {p : Int} {as bs : List (List Int)} (h : Fit p as bs) : ∀ (i : Nat) (a b : List Int), as[i]? = some a → bs[i]? = some b → ∃ d, Mon a d ∧ Mon b d ∧ CgV p a b := by
 induction h with
 | nil => intro i a b h; simp at h
 | cons d ha hb h t ih =>
  intro i a b h1 h2
  cases i with
  | zero => simp at h1 h2; subst h1 h2; exact ⟨d, ha, hb, h⟩
  | succ i => simp at h1 h2; exact ih i a b h1 h2
theorem Mon.same {f : List Int} {a b : Nat} (h : Mon f a) (g : Mon f b) : a = b := by
 rcases Nat.lt_trichotomy a b with h1 | h1 | h1
 ·have := h.2 b h1; rw [g.1] at this; cases this
 ·exact h1
 ·have := g.2 a h1; rw [h.1] at this; cases this
theorem Fit.trans {p : Int} {as bs : List (List Int)} (h : Fit p as bs) : ∀ {cs : List (List Int)}, Fit p bs cs → Fit p as cs := by
 induction h with
 | nil => intro cs h; exact h
 | cons d ha hb h t ih =>
  intro cs hc
  cases hc with
  | cons d' hb' hc' h' t' =>
   obtain rfl := hb.same hb'
   exact .cons d ha hc' (h.trans h') (ih t')
theorem monic_self {p : Nat} (hp : 2 ≤ p) {d : List Nat} (h : MonN p d) : monicP p (nrmP p d) = d := by
 have h2 := h.pos
 have h1 : invN p 1 = 1 := invN_eq (by omega) (by omega) (by rw [Nat.one_mul])
 rw [h.can.nrm]
 unfold monicP leadP
 rw [if_neg (by omega), h.one, h1]
 have h3 : d.map (fun a => a * 1 % p) = d := by
  refine (List.map_congr_left fun a ha => ?_).trans (List.map_id d)
  rw [Nat.mul_one, Nat.mod_eq_of_lt (h.can.1 a ha)]; rfl
 rw [scalP, h3, h.can.trim]
end Go.Gx

/-
 What the law HenselReturns wants of the lift. Plain numbers; no program in sight.
-/
namespace Go.Gx
theorem redP_eq {p : Nat} (hp : 0 < p) {l l' : List Int} (h : CgV (p : Int) l l') : redP p l = redP p l' := by
 have key : ∀ l : List Int, zl (redP p l) = trimZ (zl (redP p l)) := fun l => by rw [← zl_trim, (canP_red hp l).trim]
 have h1 : zl (redP p l) = zl (redP p l') := by
  rw [key l, key l']
  refine trim_inj fun i => ?_
  have e : ∀ l : List Int, co (zl (redP p l)) i = ((md p (co l i) : Nat) : Int) := fun l => by rw [redP, co_zltrim, getD_mapZ l i (md_zero p)]
  rw [e, e]
  obtain ⟨k, hk⟩ := h.cof i
  rw [md_cg hp (show Cg p (co l i) (co l' i) from ⟨k, hk⟩)]
 have h3 : ∀ l : List Nat, (zl l).map Int.toNat = l := fun l => by
  unfold zl
  rw [List.map_map]
  exact (List.map_congr_left fun a _ => Int.toNat_natCast a).trans (List.map_id l)
 have h2 : ∀ a b : List Nat, zl a = zl b → a = b := fun a b hab => by rw [← h3 a, hab, h3]
 exact h2 _ _ h1
section
variable {p : Nat} {Gs : List (List Int)} {ds : List (List Nat)} {f : List Int} {c : Int}
end
end Go.Gx

/-
 What the walks of the law HenselReturns want. No program in sight.
-/
namespace Go.Gx
open Go.RowKit
section
variable {P : Program} {n : Nat} {e : Nat → Value} {w : World} {ty : TypeId} {pos : String} {af : Array Edge} {gd : Option (Nat × Bool)}
end
theorem o_zero {A B : Prop} {o : Int} {n m : Nat} {Q : Prop} (h : (¬ A ∧ o = 5 ∧ n = 0) ∨ (A ∧ B ∧ o = 3 ∧ n = 0) ∨ (A ∧ ¬ B ∧ o = 0 ∧ Q ∧ n = m)) (ha : A) (hb : B) : o = 3 ∧ n = 0 := by
 rcases h with ⟨h, _⟩ | ⟨_, _, h⟩ | ⟨_, h, _⟩
 ·exact absurd ha h
 ·exact h
 ·exact absurd hb h
theorem o_ok {A B : Prop} {o : Int} {n m : Nat} {Q : Prop} (h : (¬ A ∧ o = 5 ∧ n = 0) ∨ (A ∧ B ∧ o = 3 ∧ n = 0) ∨ (A ∧ ¬ B ∧ o = 0 ∧ Q ∧ n = m)) (ha : A) (hb : ¬ B) : o = 0 ∧ Q ∧ n = m := by
 rcases h with ⟨h, _⟩ | ⟨_, h, _⟩ | ⟨_, _, h⟩
 ·exact absurd ha h
 ·exact absurd h hb
 ·exact h
end Go.Gx
namespace Go.Gx
theorem small6 {i : Nat} (h : i < 6) : [2, 3, 5, 7, 11, 13].getD i 0 = 2 ∨ [2, 3, 5, 7, 11, 13].getD i 0 = 3 ∨ [2, 3, 5, 7, 11, 13].getD i 0 = 5 ∨ [2, 3, 5, 7, 11, 13].getD i 0 = 7 ∨ [2, 3, 5, 7, 11, 13].getD i 0 = 11 ∨ [2, 3, 5, 7, 11, 13].getD i 0 = 13 := by
 have h6 : i = 0 ∨ i = 1 ∨ i = 2 ∨ i = 3 ∨ i = 4 ∨ i = 5 := by omega
 rcases h6 with rfl | rfl | rfl | rfl | rfl | rfl <;> decide
end Go.Gx

/-
 Products of known small polynomials: what the reference of chapter 11 computes. Plain numbers; no program in sight.
-/
namespace Go.Gx
end Go.Gx

/-
 Factors of the reference, their products and decomposition. Plain numbers; no program in sight.
-/
namespace Go.Gx
end Go.Gx
namespace Go.Gx
end Go.Gx
namespace Go.Gx
end Go.Gx

/-
 Lists of arrays of three int8; what the walks of the reference want. No program in sight.
-/
namespace Go.Gx
open Go.RowKit
abbrev T3 := Int × Int × Int
section
variable {w w' : World} {S S' G : Nat → Prop} {A : Option Addr} {n c : Nat} {l : List T3}
end
end Go.Gx
namespace Go.Gx
end Go.Gx
namespace Go.Gx
end Go.Gx

/-
 Polynomials modulo a prime and a polynomial: Frobenius, Fermat, and that a polynomial that is not split has a small degree. Plain numbers; no program in sight.
-/
namespace Go.Gx
def powL (a : List Int) : Nat → List Int
 | 0 => [1]
 | n + 1 => pmul (powL a n) a
theorem evI_powL (a : List Int) (x : Int) : ∀ n, evI (powL a n) x = evI a x ^ n
 | 0 => by simp [powL, evI]
 | n + 1 => by rw [powL, evI_pmul, evI_powL a x n, Int.pow_succ]
theorem evI_const (c x : Int) : evI [c] x = c := by simp [evI]
def EqF (p : Nat) (F a b : List Int) : Prop := ∃ w h : List Int, ∀ x : Int, evI a x = evI b x + evI w x * evI F x + (p : Int) * evI h x
theorem EqF.cg {p : Nat} {F a b : List Int} (h : CgV (p : Int) a b) : EqF p F a b := by
 obtain ⟨k, h⟩ := h; exact ⟨[], k, fun x => by have := h x; simp only [evI] at *; grind⟩
theorem EqF.ev {p : Nat} {F a b : List Int} (h : ∀ x, evI a x = evI b x) : EqF p F a b := EqF.cg (CgV.eqv h)
theorem EqF.refl {p : Nat} {F : List Int} (a : List Int) : EqF p F a a := EqF.ev fun _ => rfl
theorem EqF.symm {p : Nat} {F a b : List Int} (h : EqF p F a b) : EqF p F b a := by
 obtain ⟨w, k, h⟩ := h
 exact ⟨scaleP w (-1), scaleP k (-1), fun x => by have := h x; simp only [evI_scale] at *; grind⟩
theorem EqF.trans {p : Nat} {F a b c : List Int} (h : EqF p F a b) (g : EqF p F b c) : EqF p F a c := by
 obtain ⟨w, k, h⟩ := h; obtain ⟨w', k', g⟩ := g
 exact ⟨padd w w', padd k k', fun x => by have := h x; have := g x; simp only [evI_padd] at *; grind⟩
theorem EqF.add {p : Nat} {F a b c d : List Int} (h : EqF p F a b) (g : EqF p F c d) : EqF p F (padd a c) (padd b d) := by
 obtain ⟨w, k, h⟩ := h; obtain ⟨w', k', g⟩ := g
 exact ⟨padd w w', padd k k', fun x => by have := h x; have := g x; simp only [evI_padd] at *; grind⟩
theorem EqF.sub {p : Nat} {F a b c d : List Int} (h : EqF p F a b) (g : EqF p F c d) : EqF p F (psub a c) (psub b d) := by
 obtain ⟨w, k, h⟩ := h; obtain ⟨w', k', g⟩ := g
 exact ⟨psub w w', psub k k', fun x => by have := h x; have := g x; simp only [evI_psub] at *; grind⟩
theorem EqF.mul {p : Nat} {F a b c d : List Int} (h : EqF p F a b) (g : EqF p F c d) : EqF p F (pmul a c) (pmul b d) := by
 obtain ⟨w, k, h⟩ := h; obtain ⟨w', k', g⟩ := g
 refine ⟨padd (pmul w c) (pmul b w'), padd (pmul k c) (pmul b k'), fun x => ?_⟩
 have h1 := h x; have h2 := g x
 simp only [evI_padd, evI_pmul] at *
 grind
theorem EqF.pow {p : Nat} {F a b : List Int} (h : EqF p F a b) : ∀ n, EqF p F (powL a n) (powL b n)
 | 0 => EqF.refl _
 | n + 1 => (EqF.pow h n).mul h
theorem EqF.low {p : Nat} {F G a b : List Int} (h : EqF p F a b) (hd : Dv (p : Int) G F) : EqF p G a b := by
 obtain ⟨w, k, h⟩ := h; obtain ⟨u, v, e⟩ := hd
 refine ⟨pmul w u, padd k (pmul w v), fun x => ?_⟩
 have h1 := h x; have h2 := e x
 simp only [evI_padd, evI_pmul] at *
 rw [h1, h2]; grind
theorem EqF.dv {p : Nat} {F a : List Int} (h : EqF p F a []) : Dv (p : Int) F a := by
 obtain ⟨w, k, h⟩ := h
 exact ⟨w, k, fun x => by have h1 := h x; simp only [evI_pmul, evI] at *; grind⟩
theorem EqF.of_dv {p : Nat} {F a : List Int} (h : Dv (p : Int) F a) : EqF p F a [] := by
 obtain ⟨w, k, h⟩ := h
 exact ⟨w, k, fun x => by have h1 := h x; simp only [evI_pmul, evI] at *; grind⟩
theorem EqF.dvs {p : Nat} {F a b : List Int} (h : EqF p F a b) : Dv (p : Int) F (psub a b) :=
 EqF.dv ((h.sub (EqF.refl b)).trans (EqF.ev fun x => by simp only [evI_psub, evI]; omega))
theorem EqF.of_dvs {p : Nat} {F a b : List Int} (h : Dv (p : Int) F (psub a b)) : EqF p F a b := by
 have h1 := (EqF.of_dv h).add (EqF.refl b)
 exact ((EqF.ev fun x => by simp only [evI_padd, evI_psub]; omega : EqF p F a (padd (psub a b) b)).trans h1).trans (EqF.ev fun x => by simp only [evI_padd, evI]; omega)
theorem Dv.cg {p : Int} {F a b : List Int} (h : Dv p F a) (e : CgV p b a) : Dv p F b := by
 obtain ⟨w, h⟩ := h; exact ⟨w, e.trans h⟩
theorem Dv.trans {p : Int} {F G a : List Int} (h : Dv p F G) (g : Dv p G a) : Dv p F a := by
 obtain ⟨w, k, h⟩ := h; obtain ⟨u, v, g⟩ := g
 refine ⟨pmul u w, padd v (pmul u k), fun x => ?_⟩
 have h1 := h x; have h2 := g x
 simp only [evI_padd, evI_pmul] at *
 rw [h2, h1]; grind
theorem Dv.self {p : Int} (F : List Int) : Dv p F F := ⟨[1], CgV.eqv fun x => by simp only [evI_pmul, evI_const]; omega⟩
theorem Cop.mul {p : Int} {a b c : List Int} (h : Cop p a b) (g : Cop p a c) : Cop p a (pmul b c) := by
 have h1 := Cop.prod (p := p) (b := a) (bs := [b, c]) (by intro x hx; simp only [List.mem_cons, List.not_mem_nil, or_false] at hx; rcases hx with rfl | rfl; exact h; exact g)
 exact h1.cg (CgV.refl _ _) (CgV.eqv fun x => by simp only [pL, evI_pmul, evI_const]; grind)
theorem cop_dv {p : Int} {F a : List Int} (h : Cop p F a) (g : Dv p F a) : Dv p F [1] := by
 obtain ⟨u, v, k, h⟩ := h; obtain ⟨w, l, g⟩ := g
 refine ⟨padd u (pmul v w), psub (pmul v l) k, fun x => ?_⟩
 have h1 := h x; have h2 := g x
 simp only [evI_padd, evI_psub, evI_pmul] at *
 grind
theorem cop_mul_dv {p : Int} {F a b : List Int} (h : Cop p F a) (g : Dv p F (pmul a b)) : Dv p F b := by
 obtain ⟨u, v, k, h⟩ := h; obtain ⟨w, l, g⟩ := g
 refine ⟨padd (pmul u b) (pmul v w), psub (pmul v l) (pmul k b), fun x => ?_⟩
 have h1 := h x; have h2 := g x
 simp only [evI_padd, evI_psub, evI_pmul, evI_const] at *
 have h3 : (evI u x * evI F x + evI v x * evI a x) * evI b x = (1 + p * evI k x) * evI b x := by rw [h1]
 grind
theorem dv_deg {p : Nat} {F B : List Int} {n b : Nat} (hp : 2 ≤ p) (hF : Mon F n) (hB : Mon B b) (h : Dv (p : Int) F B) : n ≤ b := by
 rcases Nat.lt_or_ge b n with hlt | hge
 ·exfalso
  obtain ⟨w, hw⟩ := h
  have h1 : CgV (p : Int) (pmul F w) B := (CgV.eqv fun x => by simp only [evI_pmul]; grind : CgV (p : Int) (pmul F w) (pmul w F)).trans hw.symm
  have h2 := mon_zero hF h1 fun i hi => by rw [hB.2 i (by omega)]; exact Int.dvd_zero _
  have h3 : CgV (p : Int) B [] := hw.trans ((h2.mul (CgV.refl _ F)).trans (CgV.eqv fun x => by simp only [evI_pmul, evI]; omega))
  obtain ⟨k, hk⟩ := h3.cof b
  rw [hB.1, show co [] b = 0 by simp [co]] at hk
  have h4 : (p : Int) ∣ 1 := ⟨k, by omega⟩
  have h5 := Int.le_of_dvd (by omega) h4
  omega
 ·exact hge
theorem dv_same {p : Nat} {F G : List Int} {n : Nat} (hF : Mon F n) (hG : Mon G n) (h : Dv (p : Int) G F) : CgV (p : Int) F G := by
 obtain ⟨w, hw⟩ := h
 have h1 : CgV (p : Int) (pmul G (psub w [1])) (psub F G) := by
  obtain ⟨k, hk⟩ := hw
  exact ⟨scaleP k (-1), fun x => by have := hk x; simp only [evI_pmul, evI_psub, evI_scale, evI_const] at *; grind⟩
 have h2 := mon_zero hG h1 fun i hi => by
  rw [co_psub]
  rcases Nat.lt_or_ge n i with h3 | h3
  ·rw [hF.2 i h3, hG.2 i h3]; exact ⟨0, by omega⟩
  ·have : i = n := by omega
   subst this; rw [hF.1, hG.1]; exact ⟨0, by omega⟩
 obtain ⟨k, hk⟩ := hw; obtain ⟨l, hl⟩ := h2
 refine ⟨padd k (pmul l G), fun x => ?_⟩
 have a1 := hk x; have a2 := hl x
 simp only [evI_pmul, evI_psub, evI_padd, evI_const, evI] at *
 rw [a1]; grind
theorem MonN.mz {p : Nat} {f : List Nat} (h : MonN p f) : Mon (zl f) (f.length - 1) := ⟨by rw [co_zl, h.one]; rfl, fun i hi => by have := h.pos; exact co_ge (by rw [zl_len]; omega)⟩
def mixL (a b : List Int) : Nat → Nat → List Int → List Int
 | _, _, [] => []
 | i, j, c :: cs => padd (scaleP (pmul (powL a i) (powL b j)) c) (mixL a b (i - 1) (j + 1) cs)
def P6 (p : Nat) : Prop := p = 2 ∨ p = 3 ∨ p = 5 ∨ p = 7 ∨ p = 11 ∨ p = 13
theorem frob {p : Nat} (hp : P6 p) (a b : List Int) : CgV (p : Int) (powL (padd a b) p) (padd (powL a p) (powL b p)) := by
 rcases hp with rfl | rfl | rfl | rfl | rfl | rfl
 ·exact ⟨mixL a b 1 1 [1], fun x => by simp only [evI_powL, evI_padd, evI_scale, evI_pmul, mixL, evI]; grind⟩
 ·exact ⟨mixL a b 2 1 [1, 1], fun x => by simp only [evI_powL, evI_padd, evI_scale, evI_pmul, mixL, evI]; grind⟩
 ·exact ⟨mixL a b 4 1 [1, 2, 2, 1], fun x => by simp only [evI_powL, evI_padd, evI_scale, evI_pmul, mixL, evI]; grind⟩
 ·exact ⟨mixL a b 6 1 [1, 3, 5, 5, 3, 1], fun x => by simp only [evI_powL, evI_padd, evI_scale, evI_pmul, mixL, evI]; grind⟩
 ·exact ⟨mixL a b 10 1 [1, 5, 15, 30, 42, 42, 30, 15, 5, 1], fun x => by simp only [evI_powL, evI_padd, evI_scale, evI_pmul, mixL, evI]; grind⟩
 ·exact ⟨mixL a b 12 1 [1, 6, 22, 55, 99, 132, 132, 99, 55, 22, 6, 1], fun x => by simp only [evI_powL, evI_padd, evI_scale, evI_pmul, mixL, evI]; grind⟩
def prodC (c : List Int) : Nat → List Int
 | 0 => [1]
 | n + 1 => pmul (prodC c n) (psub c [(n : Int)])
def hornC (c : List Int) : List Int → List Int
 | [] => []
 | q :: qs => padd [q] (pmul c (hornC c qs))
theorem fermat {p : Nat} (hp : P6 p) (c : List Int) : CgV (p : Int) (psub (powL c p) c) (prodC c p) := by
 rcases hp with rfl | rfl | rfl | rfl | rfl | rfl
 ·exact ⟨hornC c [], fun x => by simp only [evI_powL, evI_psub, evI_pmul, evI_padd, prodC, hornC, evI_const, evI]; grind⟩
 ·exact ⟨hornC c [0, -1, 1], fun x => by simp only [evI_powL, evI_psub, evI_pmul, evI_padd, prodC, hornC, evI_const, evI]; grind⟩
 ·exact ⟨hornC c [0, -5, 10, -7, 2], fun x => by simp only [evI_powL, evI_psub, evI_pmul, evI_padd, prodC, hornC, evI_const, evI]; grind⟩
 ·exact ⟨hornC c [0, -103, 252, -232, 105, -25, 3], fun x => by simp only [evI_powL, evI_psub, evI_pmul, evI_padd, prodC, hornC, evI_const, evI]; grind⟩
 ·exact ⟨hornC c [0, -329891, 966240, -1159416, 764500, -310630, 82005, -14343, 1650, -120, 5], fun x => by simp only [evI_powL, evI_psub, evI_pmul, evI_padd, prodC, hornC, evI_const, evI]; grind⟩
 ·exact ⟨hornC c [0, -36846277, 114341760, -148581504, 108770376, -50554372, 15851550, -3460787, 532818, -57651, 4290, -209, 6], fun x => by simp only [evI_powL, evI_psub, evI_pmul, evI_padd, prodC, hornC, evI_const, evI]; grind⟩
theorem P6.two {p : Nat} (h : P6 p) : 2 ≤ p := by unfold P6 at h; omega
theorem P6.pr {p : Nat} (h : P6 p) : PrimeN p := prime4N h
theorem P6.pos {p : Nat} (h : P6 p) : 0 < p := by have := h.two; omega
def Whole (p : Nat) (f : List Nat) : Prop := ∀ G : List Nat, MonN p G → Dv (p : Int) (zl G) (zl f) → G.length = f.length
theorem gcd_monN {p : Nat} (hp : PrimeN p) {f g : List Nat} (hf : CanP p f) (hg : CanP p g) (h0 : 0 < f.length + g.length) (h : 2 ≤ (gcdP p f g).length) : MonN p (gcdP p f g) :=
 ⟨gcdGo_can (by have := hp.1; omega) _ _ _, h, gcdGo_monic hp g.length f g hf hg (Nat.le_refl _) h0⟩
theorem dich {p : Nat} (hp : PrimeN p) {f : List Nat} (hf : MonN p f) (hw : Whole p f) (c : List Int) : Cop (p : Int) (zl f) c ∨ Dv (p : Int) (zl f) c := by
 have hp0 : 0 < p := by have := hp.1; omega
 have h2 := hf.pos
 have hc := canP_red hp0 c
 have h0 : 0 < f.length + (redP p c).length := by omega
 rcases Nat.lt_or_ge 1 (gcdP p f (redP p c)).length with h1 | h1
 ·right
  have hG := gcd_monN hp hf.can hc h0 h1
  obtain ⟨d1, d2⟩ := gcd_dv hp (redP p c).length f (redP p c) hf.can hc (Nat.le_refl _) h0
  change Dv (p : Int) (zl (gcdP p f (redP p c))) (zl f) at d1
  change Dv (p : Int) (zl (gcdP p f (redP p c))) (zl (redP p c)) at d2
  have hl := hw _ hG d1
  have he := dv_same hf.mz (by rw [← hl]; exact hG.mz) d1
  have hgf : Dv (p : Int) (zl f) (zl (gcdP p f (redP p c))) := (Dv.self _).cg he.symm
  exact (hgf.trans d2).cg (cgN_red hp0 c).symm
 ·left
  exact (cop_of_gcd hp hf.can hc h0 h1).cg (CgV.refl _ _) (cgN_red hp0 c)
theorem not_dv_one {p : Nat} {f : List Nat} (hp : 2 ≤ p) (hf : MonN p f) : ¬ Dv (p : Int) (zl f) [1] := fun h => by
 have := dv_deg hp hf.mz mon_one h
 have := hf.pos
 omega
theorem whole_const {p : Nat} (hp : P6 p) {f : List Nat} (hf : MonN p f) (hw : Whole p f) {c : List Int} (h : EqF p (zl f) (powL c p) c) : ∃ a : Int, EqF p (zl f) c [a] := by
 rcases Classical.em (∃ a : Int, EqF p (zl f) c [a]) with h1 | h1
 ·exact h1
 ·exfalso
  have h2 : ∀ n, Cop (p : Int) (zl f) (prodC c n) := by
   intro n
   induction n with
   | zero => exact ⟨[], [1], CgV.eqv fun x => by simp only [prodC, evI_padd, evI_pmul, evI_const, evI]; omega⟩
   | succ n ih =>
    refine ih.mul ?_
    rcases dich hp.pr hf hw (psub c [(n : Int)]) with h3 | h3
    ·exact h3
    ·exact absurd ⟨(n : Int), EqF.of_dvs h3⟩ h1
  exact not_dv_one hp.two hf (cop_dv (h2 p) (h.dvs.cg (fermat hp c).symm))
def cj (p : Nat) (t : List Int) : Nat → List Int
 | 0 => t
 | i + 1 => powL (cj p t i) p
theorem EqF.cj {p : Nat} {F a b : List Int} (h : EqF p F a b) : ∀ i, EqF p F (cj p a i) (cj p b i)
 | 0 => h
 | i + 1 => (EqF.cj h i).pow p
theorem mon_one1 (a : Int) : Mon [a, 1] 1 := ⟨rfl, fun i hi => co_ge (by simp; omega)⟩
theorem powL_mul (a b : List Int) (n : Nat) (x : Int) : evI (powL (pmul a b) n) x = evI (pmul (powL a n) (powL b n)) x := by
 rw [evI_powL, evI_pmul, evI_pmul, evI_powL, evI_powL, Int.mul_pow]
theorem whole_deg {p d : Nat} (hp : P6 p) {f : List Nat} (hf : MonN p f) (hw : Whole p f) (hd : 1 ≤ d ∧ d ≤ 3) (h : EqF p (zl f) (cj p [0, 1] d) [0, 1]) : f.length ≤ d + 1 := by
 have h2 := hp.two
 have hp2 := hf.pos
 have fin : ∀ (B : List Int) (b : Nat), Mon B b → EqF p (zl f) B [] → f.length ≤ b + 1 := fun B b hB he => by
  have := dv_deg h2 hf.mz hB (EqF.dv he); omega
 rcases (show d = 1 ∨ d = 2 ∨ d = 3 by omega) with rfl | rfl | rfl
 ·obtain ⟨a, ha⟩ := whole_const hp hf hw h
  refine fin [-a, 1] 1 (mon_one1 _) ?_
  refine ((EqF.ev fun x => ?_ : EqF p (zl f) [-a, 1] (psub [0, 1] [a])).trans (ha.sub (EqF.refl [a]))).trans (EqF.ev fun x => ?_)
  ·simp only [evI_psub, evI]; omega
  ·simp only [evI_psub, evI]; omega
 ·generalize hX : ([0, 1] : List Int) = X at *
  have hXv : ∀ x, evI X x = x := fun x => by rw [← hX]; simp [evI]
  have hZ : EqF p (zl f) (powL (powL X p) p) X := h
  generalize hY : powL X p = Y at *
  have hs : EqF p (zl f) (powL (padd X Y) p) (padd X Y) :=
   ((EqF.cg (frob hp X Y)).trans ((hY ▸ EqF.refl _ : EqF p (zl f) (powL X p) Y).add hZ)).trans (EqF.ev fun x => by simp only [evI_padd]; omega)
  have hm : EqF p (zl f) (powL (pmul X Y) p) (pmul X Y) :=
   ((EqF.ev (powL_mul X Y p)).trans ((hY ▸ EqF.refl _ : EqF p (zl f) (powL X p) Y).mul hZ)).trans (EqF.ev fun x => by simp only [evI_pmul]; grind)
  obtain ⟨a, ha⟩ := whole_const hp hf hw hs
  obtain ⟨b, hb⟩ := whole_const hp hf hw hm
  refine fin [b, -a, 1] 2 ⟨rfl, fun i hi => co_ge (by simp; omega)⟩ ?_
  refine ((EqF.ev fun x => ?_ : EqF p (zl f) [b, -a, 1] (padd (psub (pmul X X) (pmul [a] X)) [b])).trans ((((EqF.refl _).sub (ha.symm.mul (EqF.refl X))).add hb.symm))).trans (EqF.ev fun x => ?_)
  ·simp only [evI_padd, evI_psub, evI_pmul, hXv, evI]; grind
  ·simp only [evI_padd, evI_psub, evI_pmul, evI]; grind
 ·generalize hX : ([0, 1] : List Int) = X at *
  have hXv : ∀ x, evI X x = x := fun x => by rw [← hX]; simp [evI]
  have hW : EqF p (zl f) (powL (powL (powL X p) p) p) X := h
  generalize hY : powL X p = Y at *
  generalize hZ : powL Y p = Z at *
  have eX : EqF p (zl f) (powL X p) Y := hY ▸ EqF.refl _
  have eY : EqF p (zl f) (powL Y p) Z := hZ ▸ EqF.refl _
  have hs : EqF p (zl f) (powL (padd X (padd Y Z)) p) (padd X (padd Y Z)) :=
   ((EqF.cg (frob hp X (padd Y Z))).trans (eX.add ((EqF.cg (frob hp Y Z)).trans (eY.add hW)))).trans (EqF.ev fun x => by simp only [evI_padd]; omega)
  have pm : ∀ {A B A' B' : List Int}, EqF p (zl f) (powL A p) A' → EqF p (zl f) (powL B p) B' → EqF p (zl f) (powL (pmul A B) p) (pmul A' B') := fun hA hB => (EqF.ev (powL_mul _ _ p)).trans (hA.mul hB)
  have hm : EqF p (zl f) (powL (padd (pmul X Y) (padd (pmul Y Z) (pmul Z X))) p) (padd (pmul X Y) (padd (pmul Y Z) (pmul Z X))) :=
   ((EqF.cg (frob hp _ _)).trans ((pm eX eY).add ((EqF.cg (frob hp _ _)).trans ((pm eY hW).add (pm hW eX))))).trans (EqF.ev fun x => by simp only [evI_padd, evI_pmul]; grind)
  have hn : EqF p (zl f) (powL (pmul X (pmul Y Z)) p) (pmul X (pmul Y Z)) := (pm eX (pm eY hW)).trans (EqF.ev fun x => by simp only [evI_pmul]; grind)
  obtain ⟨a, ha⟩ := whole_const hp hf hw hs
  obtain ⟨b, hb⟩ := whole_const hp hf hw hm
  obtain ⟨c, hc⟩ := whole_const hp hf hw hn
  refine fin [-c, b, -a, 1] 3 ⟨rfl, fun i hi => co_ge (by simp; omega)⟩ ?_
  refine ((EqF.ev fun x => ?_ : EqF p (zl f) [-c, b, -a, 1] (psub (padd (psub (pmul X (pmul X X)) (pmul [a] (pmul X X))) (pmul [b] X)) [c])).trans
   ((((EqF.refl _).sub (ha.symm.mul (EqF.refl (pmul X X)))).add (hb.symm.mul (EqF.refl X))).sub hc.symm)).trans (EqF.ev fun x => ?_)
  ·simp only [evI_padd, evI_psub, evI_pmul, hXv, evI]; grind
  ·simp only [evI_padd, evI_psub, evI_pmul, evI]; grind
end Go.Gx

/-
 Separators: a polynomial whose common divisor with f is a proper one. Plain numbers; no program in sight.
-/
namespace Go.Gx
theorem evI_deriv_mul (F G : List Int) (x : Int) : evI (derivP (pmul F G)) x = evI (derivP F) x * evI G x + evI F x * evI (derivP G) x := by
 have h := congrArg (fun l => evI l x) (deriv_rule F G)
 simp only [evI_trim, evI_padd, evI_pmul, deriv_trim] at h
 exact h
theorem deriv_cg {p : Int} {a b : List Int} (h : CgV p a b) : CgV p (derivP a) (derivP b) := CgV.of fun i => by
 obtain ⟨k, hk⟩ := h.cof (i + 1)
 rw [co_derivP, co_derivP, hk]
 exact ⟨k * ((i + 1 : Nat) : Int), by grind⟩
theorem sqf_cop {p : Int} {F w G : List Int} (hs : Cop p F (derivP F)) (h : CgV p F (pmul w G)) : Cop p w G := by
 obtain ⟨a, ha⟩ := deriv_cg h
 obtain ⟨u, v, k, hk⟩ := hs
 obtain ⟨b, hb⟩ := h
 refine ⟨padd (pmul u G) (pmul v (derivP G)), pmul v (derivP w), psub k (padd (pmul u b) (pmul v a)), fun x => ?_⟩
 have h1 := ha x; have h2 := hb x; have h3 := hk x
 rw [evI_deriv_mul] at h1
 simp only [evI_padd, evI_psub, evI_pmul, evI_const] at *
 rw [h1, h2] at h3
 grind
theorem not_whole {p : Nat} {f : List Nat} (hp : 2 ≤ p) (hf : MonN p f) (h : ¬ Whole p f) : ∃ G : List Nat, ∃ w : List Int, MonN p G ∧ G.length < f.length ∧ CgV (p : Int) (zl f) (pmul w (zl G)) := by
 obtain ⟨G, hG⟩ := Classical.not_forall.1 h
 have hG1 : MonN p G ∧ Dv (p : Int) (zl G) (zl f) ∧ G.length ≠ f.length := by
  rcases Classical.em (MonN p G) with h1 | h1
  ·rcases Classical.em (Dv (p : Int) (zl G) (zl f)) with h2 | h2
   ·exact ⟨h1, h2, fun e => hG fun _ _ => e⟩
   ·exact absurd (fun _ h3 => absurd h3 h2) hG
  ·exact absurd (fun h3 => absurd h3 h1) hG
 obtain ⟨h1, ⟨w, hw⟩, h3⟩ := hG1
 refine ⟨G, w, h1, ?_, hw⟩
 have := dv_deg hp h1.mz hf.mz ⟨w, hw⟩
 have := h1.pos; have := hf.pos
 omega
theorem dv_const {p : Nat} {G : List Nat} {c : Int} (hG : MonN p G) (h : Dv (p : Int) (zl G) [c]) : (p : Int) ∣ c := by
 obtain ⟨w, hw⟩ := h
 have h1 : CgV (p : Int) (pmul (zl G) w) [c] := (CgV.eqv fun x => by simp only [evI_pmul]; grind : CgV (p : Int) (pmul (zl G) w) (pmul w (zl G))).trans hw.symm
 have hpos := hG.pos
 have h2 := mon_zero hG.mz h1 fun i hi => by rw [co_ge (f := [c]) (by simp; omega)]; exact Int.dvd_zero _
 have h3 : CgV (p : Int) [c] [] := hw.trans ((h2.mul (CgV.refl _ _)).trans (CgV.eqv fun x => by simp only [evI_pmul, evI]; omega))
 obtain ⟨k, hk⟩ := h3.cof 0
 rw [show co [c] 0 = c from rfl, show co [] 0 = 0 from rfl] at hk
 exact ⟨k, by omega⟩
structure Split (p : Nat) (f G : List Nat) (w e : List Int) : Prop where
 mon : MonN p G
 lt : G.length < f.length
 dG : Dv (p : Int) (zl G) (zl f)
 dw : Dv (p : Int) w (zl f)
 nw : ¬ Dv (p : Int) w [1]
 one : EqF p (zl G) e [1]
 zero : EqF p w e []
theorem split_ex {p : Nat} {f : List Nat} (hp : 2 ≤ p) (hf : MonN p f) (hs : Cop (p : Int) (zl f) (derivP (zl f))) (h : ¬ Whole p f) : ∃ G w e, Split p f G w e := by
 obtain ⟨G, w, hG, hlt, hw⟩ := not_whole hp hf h
 obtain ⟨s, t, k, hk⟩ := sqf_cop hs hw
 refine ⟨G, w, pmul s w, hG, hlt, ⟨w, hw⟩, ⟨zl G, hw.trans (CgV.eqv fun x => by simp only [evI_pmul]; grind)⟩, ?_, ?_, ?_⟩
 ·intro ⟨u, l, hu⟩
  obtain ⟨b, hb⟩ := hw
  have h1 : Dv (p : Int) (zl f) (zl G) := ⟨u, padd (pmul l (zl G)) (scaleP (pmul u b) (-1)), fun x => by
   have h1 := hu x; have h2 := hb x
   simp only [evI_padd, evI_pmul, evI_scale, evI_const] at *
   rw [h2]
   have h3 : 1 * evI (zl G) x = (evI u x * evI w x + p * evI l x) * evI (zl G) x := by rw [← h1]
   grind⟩
  have := dv_deg hp hf.mz hG.mz h1
  have := hG.pos
  omega
 ·exact ⟨scaleP t (-1), k, fun x => by have := hk x; simp only [evI_padd, evI_pmul, evI_scale, evI_const] at *; grind⟩
 ·exact ⟨s, [], fun x => by simp only [evI_pmul, evI]; grind⟩
theorem Split.proper {p : Nat} {f G s : List Nat} {w e : List Int} {c : Int} (h : Split p f G w e) (hp : PrimeN p) (hf : MonN p f) (hs : CanP p s) (h0 : EqF p (zl G) (zl s) []) (h1 : EqF p w (zl s) [c]) (hc : c = 1 ∨ c = -1) :
  2 ≤ (gcdP p s f).length ∧ (gcdP p s f).length < f.length := by
 have hpos := hf.pos
 have hl : 0 < s.length + f.length := by omega
 obtain ⟨d1, d2⟩ := gcd_dv hp f.length s f hs hf.can (Nat.le_refl _) hl
 change Dv (p : Int) (zl (gcdP p s f)) (zl s) at d1
 change Dv (p : Int) (zl (gcdP p s f)) (zl f) at d2
 have h2 : 2 ≤ (gcdP p s f).length := by
  rcases Nat.lt_or_ge 1 (gcdP p s f).length with h2 | h2
  ·exact h2
  ·exfalso
   obtain ⟨u, v, hu⟩ := cop_of_gcd hp hs hf.can hl h2
   have h3 : EqF p (zl G) [1] [] := (EqF.cg hu.symm).trans ((((EqF.refl u).mul h0).add ((EqF.refl v).mul (EqF.of_dv h.dG))).trans (EqF.ev fun x => by simp only [evI_padd, evI_pmul, evI]; omega))
   exact not_dv_one hp.1 h.mon (EqF.dv h3)
 have hD := gcd_monN hp hs hf.can hl h2
 refine ⟨h2, ?_⟩
 have h3 := dv_deg hp.1 hD.mz hf.mz d2
 rcases Nat.lt_or_ge (gcdP p s f).length f.length with h4 | h4
 ·exact h4
 ·exfalso
  have hle : (gcdP p s f).length = f.length := by omega
  have he := dv_same hf.mz (by rw [← hle]; exact hD.mz) d2
  have h5 : Dv (p : Int) w (zl s) := (h.dw.cg he.symm).trans d1
  have h6 : EqF p w [c] [] := h1.symm.trans (EqF.of_dv h5)
  refine h.nw (EqF.dv ?_)
  rcases hc with rfl | rfl
  ·exact h6
  ·exact (EqF.ev fun x => by simp only [evI_psub, evI]; omega : EqF p w [1] (psub [] [-1])).trans (((EqF.refl []).sub h6).trans (EqF.ev fun x => by simp only [evI_psub, evI]; omega))
theorem rem_ex {p : Nat} {f : List Nat} (hp : PrimeN p) (hf : MonN p f) (t : List Int) : ∃ r : List Nat, CanP p r ∧ r.length < f.length ∧ EqF p (zl f) (zl r) t := by
 have hp0 : 0 < p := by have := hp.1; omega
 have hpos := hf.pos
 rcases hd : divP p (redP p t) f with ⟨q, r⟩
 have hc := canP_red hp0 t
 have h1 := divP_cg hp0 hd
 refine ⟨r, ?_, ?_, ?_⟩
 ·have := (divP_can hp0 hc (g := f)).2; rw [hd] at this; exact this
 ·have h2 := divP_len (f := redP p t) hp (by omega) (by rw [hf.one]; omega) hf.can.1 hc.1
  rw [hd] at h2; exact h2
 ·obtain ⟨k, hk⟩ := h1.trans (cgN_red hp0 t)
  exact ⟨scaleP (zl q) (-1), k, fun x => by have := hk x; simp only [evI_padd, evI_pmul, evI_scale] at *; grind⟩
def prodJ (p : Nat) (t : List Int) : Nat → List Int
 | 0 => [1]
 | d + 1 => pmul (prodJ p t d) (cj p t d)
def sepO (p : Nat) (t : List Int) (d : Nat) : List Int := psub (powL (prodJ p t d) ((p - 1) / 2)) [1]
theorem EqF.prodJ {p : Nat} {F a b : List Int} (h : EqF p F a b) : ∀ d, EqF p F (prodJ p a d) (prodJ p b d)
 | 0 => EqF.refl _
 | d + 1 => (EqF.prodJ h d).mul (h.cj d)
theorem EqF.sepO {p : Nat} {F a b : List Int} (h : EqF p F a b) (d : Nat) : EqF p F (sepO p a d) (sepO p b d) := ((h.prodJ d).pow _).sub (EqF.refl _)
theorem cj_one (p : Nat) (x : Int) : ∀ i, evI (cj p [1] i) x = 1
 | 0 => evI_const 1 x
 | i + 1 => by rw [cj, evI_powL, cj_one p x i, Int.one_pow]
theorem cj_zero {p : Nat} (hp : 0 < p) (x : Int) : ∀ i, evI (cj p [] i) x = 0
 | 0 => rfl
 | i + 1 => by rw [cj, evI_powL, cj_zero hp x i, Int.zero_pow (by omega)]
theorem prodJ_one (p : Nat) (x : Int) : ∀ d, evI (prodJ p [1] d) x = 1
 | 0 => evI_const 1 x
 | d + 1 => by rw [prodJ, evI_pmul, prodJ_one p x d, cj_one]; rfl
theorem sepO_one (p d : Nat) (x : Int) : evI (sepO p [1] d) x = 0 := by rw [sepO, evI_psub, evI_powL, prodJ_one, Int.one_pow, evI_const]; rfl
theorem sepO_zero {p d : Nat} (hp : 3 ≤ p) (hd : 1 ≤ d) (x : Int) : evI (sepO p [] d) x = -1 := by
 obtain ⟨j, rfl⟩ : ∃ j, d = j + 1 := ⟨d - 1, by omega⟩
 rw [sepO, evI_psub, evI_powL, prodJ, evI_pmul, cj_zero (by omega), Int.mul_zero, Int.zero_pow (by omega), evI_const]; rfl
theorem sep_odd {p d : Nat} {f : List Nat} (hp : P6 p) (h2 : p ≠ 2) (hd : 1 ≤ d) (hf : MonN p f) (hs : Cop (p : Int) (zl f) (derivP (zl f))) (h : ¬ Whole p f) :
  ∃ t : List Nat, CanP p t ∧ 2 ≤ t.length ∧ t.length < f.length ∧ ∀ s, CanP p s → EqF p (zl f) (zl s) (sepO p (zl t) d) → 2 ≤ (gcdP p s f).length ∧ (gcdP p s f).length < f.length := by
 have hp2 := hp.two
 obtain ⟨G, w, e, S⟩ := split_ex hp2 hf hs h
 obtain ⟨t, ht, htl, hte⟩ := rem_ex hp.pr hf e
 have hG := (hte.low S.dG).trans S.one
 have hw := (hte.low S.dw).trans S.zero
 refine ⟨t, ht, ?_, htl, fun s hsc he => ?_⟩
 ·match t, ht, hG, hw with
  | [], _, hG, _ => exact absurd (EqF.dv hG.symm) (not_dv_one hp2 S.mon)
  | [a], _, hG, hw =>
   exfalso
   have h3 : (p : Int) ∣ (a : Int) - 1 := dv_const S.mon (EqF.dv ((EqF.ev fun x => by simp only [evI_psub, zl, List.map, evI]; omega : EqF p (zl G) [(a : Int) - 1] (psub (zl [a]) [1])).trans ((hG.sub (EqF.refl _)).trans (EqF.ev fun x => by simp only [evI_psub, evI]; omega))))
   obtain ⟨k, hk⟩ := h3
   refine S.nw (EqF.dv (EqF.trans ?_ hw))
   exact EqF.symm (EqF.cg ⟨[k], fun x => by simp only [zl, List.map, evI]; grind⟩)
  | _ :: _ :: _, _, _, _ => simp
 ·refine S.proper hp.pr hf hsc ?_ (c := -1) ?_ (.inr rfl)
  ·exact ((he.low S.dG).trans (hG.sepO d)).trans (EqF.ev fun x => sepO_one p d x)
  ·exact ((he.low S.dw).trans (hw.sepO d)).trans (EqF.ev fun x => by rw [sepO_zero (by unfold P6 at hp; omega) hd, evI_const])
def sumJ (p : Nat) (t : List Int) : Nat → List Int
 | 0 => []
 | d + 1 => padd (sumJ p t d) (cj p t d)
theorem EqF.sumJ {p : Nat} {F a b : List Int} (h : EqF p F a b) : ∀ d, EqF p F (sumJ p a d) (sumJ p b d)
 | 0 => EqF.refl _
 | d + 1 => (EqF.sumJ h d).add (h.cj d)
theorem cj_add {p : Nat} {F : List Int} (hp : P6 p) (a b : List Int) : ∀ i, EqF p F (cj p (padd a b) i) (padd (cj p a i) (cj p b i))
 | 0 => EqF.refl _
 | i + 1 => ((cj_add hp a b i).pow p).trans (EqF.cg (frob hp _ _))
theorem sumJ_add {p : Nat} {F : List Int} (hp : P6 p) (a b : List Int) : ∀ d, EqF p F (sumJ p (padd a b) d) (padd (sumJ p a d) (sumJ p b d))
 | 0 => EqF.ev fun x => by simp only [sumJ, evI_padd, evI]; omega
 | d + 1 => ((sumJ_add hp a b d).add (cj_add hp a b d)).trans (EqF.ev fun x => by simp only [sumJ, evI_padd]; omega)
theorem cj_pow (p : Nat) (a : List Int) (n : Nat) (x : Int) : ∀ i, evI (cj p (powL a n) i) x = evI (cj p a i) x ^ n
 | 0 => by rw [cj, cj, evI_powL]
 | i + 1 => by rw [cj, cj, evI_powL, evI_powL, cj_pow p a n x i, ← Int.pow_mul, ← Int.pow_mul, Nat.mul_comm]
theorem sumJ_frob {p : Nat} {F : List Int} (hp : P6 p) (a : List Int) : ∀ d, EqF p F (sumJ p (powL a p) d) (powL (sumJ p a d) p)
 | 0 => EqF.ev fun x => by rw [evI_powL, sumJ]; simp only [evI, sumJ]; rw [Int.zero_pow (by have := hp.pos; omega)]
 | d + 1 => ((sumJ_frob hp a d).add (EqF.ev fun x => by rw [cj_pow, ← evI_powL] : EqF p F (cj p (powL a p) d) (powL (cj p a d) p))).trans (EqF.cg (frob hp _ _).symm)
theorem cj_shift (p : Nat) (a : List Int) (x : Int) : ∀ i, evI (cj p (powL a p) i) x = evI (cj p a (i + 1)) x
 | 0 => rfl
 | i + 1 => by rw [cj, evI_powL, cj_shift p a x i, ← evI_powL]; rfl
theorem sumJ_shift (p : Nat) (a : List Int) (x : Int) : ∀ d, evI (sumJ p (powL a p) d) x = evI (sumJ p a d) x + evI (cj p a d) x - evI a x
 | 0 => by simp only [sumJ, cj, evI]; omega
 | d + 1 => by simp only [sumJ, evI_padd, sumJ_shift p a x d, cj_shift]; omega
theorem sumJ_sq {p d : Nat} {F a : List Int} (hp : P6 p) (h : EqF p F (cj p a d) a) : EqF p F (powL (sumJ p a d) p) (sumJ p a d) :=
 (sumJ_frob hp a d).symm.trans ((EqF.ev fun x => by rw [sumJ_shift]; simp only [evI_padd, evI_psub] : EqF p F (sumJ p (powL a p) d) (psub (padd (sumJ p a d) (cj p a d)) a)).trans ((((EqF.refl _).add h).sub (EqF.refl a)).trans (EqF.ev fun x => by simp only [evI_padd, evI_psub]; omega)))
def Kd (F t : List Int) (d : Nat) : Prop := ∃ c : Int, (c = 0 ∨ c = 1) ∧ EqF 2 F (sumJ 2 t d) [c]
theorem Kd.eq {F a b : List Int} {d : Nat} (h : Kd F a d) (e : EqF 2 F a b) : Kd F b d := by obtain ⟨c, hc, h⟩ := h; exact ⟨c, hc, (e.symm.sumJ d).trans h⟩
theorem p6two : P6 2 := .inl rfl
theorem Kd.add {F a b : List Int} {d : Nat} (h : Kd F a d) (g : Kd F b d) : Kd F (padd a b) d := by
 obtain ⟨c, hc, h⟩ := h; obtain ⟨k, hk, g⟩ := g
 have h1 := (sumJ_add (F := F) p6two a b d).trans (h.add g)
 rcases hc with rfl | rfl <;> rcases hk with rfl | rfl
 ·exact ⟨0, .inl rfl, h1.trans (EqF.ev fun x => by simp only [evI_padd, evI]; omega)⟩
 ·exact ⟨1, .inr rfl, h1.trans (EqF.ev fun x => by simp only [evI_padd, evI]; omega)⟩
 ·exact ⟨1, .inr rfl, h1.trans (EqF.ev fun x => by simp only [evI_padd, evI]; omega)⟩
 ·exact ⟨0, .inl rfl, h1.trans (EqF.cg ⟨[1], fun x => by simp only [evI_padd, evI]; omega⟩)⟩
theorem Kd.sq {F a : List Int} {d : Nat} (h : Kd F a d) : Kd F (powL a 2) d := by
 obtain ⟨c, hc, h⟩ := h
 refine ⟨c, hc, (sumJ_frob p6two a d).trans ((h.pow 2).trans (EqF.ev fun x => ?_))⟩
 rw [evI_powL, evI_const]; rcases hc with rfl | rfl <;> rfl
theorem Kd.one (F : List Int) (d : Nat) : Kd F [1] d := by
 have h : ∀ x, evI (sumJ 2 [1] d) x = d := fun x => by
  induction d with
  | zero => rfl
  | succ d ih => rw [sumJ, evI_padd, ih, cj_one]; rfl
 refine ⟨(d : Int) % 2, by omega, EqF.cg ⟨[(d : Int) / 2], fun x => ?_⟩⟩
 rw [h, evI_const, evI_const]; omega
theorem Kd.nil (F : List Int) (d : Nat) : Kd F [] d := by
 have h : ∀ x, evI (sumJ 2 [] d) x = 0 := fun x => by
  induction d with
  | zero => rfl
  | succ d ih => rw [sumJ, evI_padd, ih, cj_zero (by omega)]; rfl
 exact ⟨0, .inl rfl, EqF.ev fun x => by rw [h, evI_const]⟩
theorem evI_snocN (t : List Nat) (a : Nat) (x : Int) : evI (zl (t ++ [a])) x = evI (zl t) x + (a : Int) * x ^ t.length := by
 induction t with
 | nil => simp [zl, evI]
 | cons b t ih => 
  have e : ∀ (l : List Nat), evI (zl (b :: l)) x = (b : Int) + x * evI (zl l) x := fun l => rfl
  rw [List.cons_append, e, e, ih, List.length_cons, Int.pow_succ]; grind
theorem Kd.all {F : List Int} {d : Nat} (h : ∀ m, m < 8 → Kd F (powL [0, 1] m) d) : ∀ (n : Nat) (t : List Nat), t.length = n → n ≤ 8 → (∀ a ∈ t, a < 2) → Kd F (zl t) d := by
 intro n
 induction n with
 | zero => intro t ht _ _; rw [List.eq_nil_of_length_eq_zero ht]; exact Kd.nil F d
 | succ n ih =>
  intro t ht hn ha
  rcases snoc_cases t with h0 | ⟨t', a, rfl⟩
  ·subst h0; simp at ht
  ·have hl : t'.length = n := by simpa using ht
   have h1 := ih t' hl (by omega) fun b hb => ha b (by simp [hb])
   have h2 := ha a (by simp)
   rcases (show a = 0 ∨ a = 1 by omega) with rfl | rfl
   ·exact h1.eq (EqF.ev fun x => by rw [evI_snocN]; simp)
   ·exact (h1.add (h n (by omega))).eq (EqF.ev fun x => by rw [evI_snocN, evI_padd, evI_powL, hl]; simp [evI])
theorem sep_two {d : Nat} {f : List Nat} (hd : 1 ≤ d ∧ d ≤ 3) (hf : MonN 2 f) (hl : f.length ≤ 8) (hs : Cop (2 : Int) (zl f) (derivP (zl f))) (h : ¬ Whole 2 f) (hx : EqF 2 (zl f) (cj 2 [0, 1] d) [0, 1]) (hc : d = 2 → Cop (2 : Int) (psub (powL [0, 1] 2) [0, 1]) (zl f)) :
  ∃ k, k ≤ 3 ∧ ∀ s, CanP 2 s → EqF 2 (zl f) (zl s) (sumJ 2 (powL [0, 1] (2 * k + 1)) d) → 2 ≤ (gcdP 2 s f).length ∧ (gcdP 2 s f).length < f.length := by
 have hpr := p6two.pr
 obtain ⟨G, w, e, S⟩ := split_ex (Nat.le_refl 2) hf hs h
 have hpos := hf.pos
 rcases Classical.em (∃ k, k ≤ 3 ∧ ∀ s, CanP 2 s → EqF 2 (zl f) (zl s) (sumJ 2 (powL [0, 1] (2 * k + 1)) d) → 2 ≤ (gcdP 2 s f).length ∧ (gcdP 2 s f).length < f.length) with h1 | h1
 ·exact h1
 exfalso
 have hodd : ∀ k, k ≤ 3 → Kd (zl f) (powL [0, 1] (2 * k + 1)) d := by
  intro k hk
  rcases Classical.em (∀ s, CanP 2 s → EqF 2 (zl f) (zl s) (sumJ 2 (powL [0, 1] (2 * k + 1)) d) → 2 ≤ (gcdP 2 s f).length ∧ (gcdP 2 s f).length < f.length) with h2 | h2
  ·exact absurd ⟨k, hk, h2⟩ h1
  ·obtain ⟨s, h2⟩ := Classical.not_forall.1 h2
   have h3 : CanP 2 s ∧ EqF 2 (zl f) (zl s) (sumJ 2 (powL [0, 1] (2 * k + 1)) d) ∧ ¬ (2 ≤ (gcdP 2 s f).length ∧ (gcdP 2 s f).length < f.length) := by
    rcases Classical.em (CanP 2 s) with h3 | h3
    ·rcases Classical.em (EqF 2 (zl f) (zl s) (sumJ 2 (powL [0, 1] (2 * k + 1)) d)) with h4 | h4
     ·exact ⟨h3, h4, fun h5 => h2 fun _ _ => h5⟩
     ·exact absurd (fun _ h5 => absurd h5 h4) h2
    ·exact absurd (fun h5 => absurd h5 h3) h2
   obtain ⟨hcs, hes, hbad⟩ := h3
   have hl0 : 0 < s.length + f.length := by omega
   have hpw : EqF 2 (zl f) (cj 2 (powL [0, 1] (2 * k + 1)) d) (powL [0, 1] (2 * k + 1)) :=
    (EqF.ev fun x => by rw [cj_pow, ← evI_powL] : EqF 2 (zl f) _ (powL (cj 2 [0, 1] d) (2 * k + 1))).trans (hx.pow _)
   have hsq := sumJ_sq p6two hpw
   have hss : EqF 2 (zl f) (powL (zl s) 2) (zl s) := (hes.pow 2).trans (hsq.trans hes.symm)
   rcases Nat.lt_or_ge 1 (gcdP 2 s f).length with h4 | h4
   ·obtain ⟨d1, d2⟩ := gcd_dv hpr f.length s f hcs hf.can (Nat.le_refl _) hl0
    change Dv (2 : Int) (zl (gcdP 2 s f)) (zl s) at d1
    change Dv ((2 : Nat) : Int) (zl (gcdP 2 s f)) (zl f) at d2
    have hD := gcd_monN hpr hcs hf.can hl0 h4
    have h5 := dv_deg (Nat.le_refl 2) hD.mz hf.mz d2
    have hle : (gcdP 2 s f).length = f.length := by omega
    have he := dv_same hf.mz (by rw [← hle]; exact hD.mz) d2
    have h6 : Dv (2 : Int) (zl f) (zl s) := ((Dv.self (zl f)).cg he.symm).trans d1
    exact ⟨0, .inl rfl, hes.symm.trans ((EqF.of_dv h6).trans (EqF.ev fun x => by simp only [evI]; omega))⟩
   ·have hcop := (cop_of_gcd hpr hcs hf.can hl0 h4).symm
    have h5 : Dv (2 : Int) (zl f) (pmul (zl s) (psub (zl s) [1])) := hss.dvs.cg (CgV.eqv fun x => by simp only [evI_pmul, evI_psub, evI_powL, evI_const]; grind)
    have h6 := cop_mul_dv hcop h5
    exact ⟨1, .inr rfl, hes.symm.trans (EqF.of_dvs h6)⟩
 have hall : ∀ m, m < 8 → Kd (zl f) (powL [0, 1] m) d := by
  intro m hm
  have sq : ∀ j, Kd (zl f) (powL [0, 1] j) d → Kd (zl f) (powL [0, 1] (2 * j)) d := fun j hj => hj.sq.eq (EqF.ev fun x => by rw [evI_powL, evI_powL, evI_powL, ← Int.pow_mul, Nat.mul_comm])
  rcases (show m = 0 ∨ m = 1 ∨ m = 2 ∨ m = 3 ∨ m = 4 ∨ m = 5 ∨ m = 6 ∨ m = 7 by omega) with rfl | rfl | rfl | rfl | rfl | rfl | rfl | rfl
  ·exact Kd.one _ d
  ·exact hodd 0 (by omega)
  ·exact sq 1 (hodd 0 (by omega))
  ·exact hodd 1 (by omega)
  ·exact sq 2 (sq 1 (hodd 0 (by omega)))
  ·exact hodd 2 (by omega)
  ·exact sq 3 (hodd 1 (by omega))
  ·exact hodd 3 (by omega)
 have hany : ∀ t : List Int, Kd (zl f) t d := fun t => by
  obtain ⟨r, hr, hrl, hre⟩ := rem_ex hpr hf t
  exact (Kd.all hall r.length r rfl (by omega) hr.1).eq hre
 have hG : ∀ t : List Int, EqF 2 (zl G) (sumJ 2 t d) [] := fun t => by
  obtain ⟨c, hc, hk⟩ := hany (pmul t e)
  have hw : EqF 2 w (pmul t e) [] := ((EqF.refl t).mul S.zero).trans (EqF.ev fun x => by simp only [evI_pmul, evI]; omega)
  have h2 : EqF 2 w [c] [] := ((hk.low S.dw).symm.trans (hw.sumJ d)).trans (by
   obtain ⟨k, hk, h3⟩ := Kd.nil w d
   exact EqF.ev fun x => by
    have : ∀ d, evI (sumJ 2 [] d) x = 0 := fun d => by
     induction d with
     | zero => rfl
     | succ d ih => rw [sumJ, evI_padd, ih, cj_zero (by omega)]; rfl
    rw [this]; rfl)
  rcases hc with rfl | rfl
  ·have hg : EqF 2 (zl G) (pmul t e) t := ((EqF.refl t).mul S.one).trans (EqF.ev fun x => by simp only [evI_pmul, evI_const]; omega)
   exact ((hg.symm.sumJ d).trans (hk.low S.dG)).trans (EqF.ev fun x => by simp only [evI]; omega)
  ·exact absurd (EqF.dv h2) S.nw
 rcases (show d = 1 ∨ d = 2 ∨ d = 3 by omega) with rfl | rfl | rfl
 ·refine not_dv_one (Nat.le_refl 2) S.mon (EqF.dv ((EqF.ev fun x => ?_).trans (hG [1])))
  simp only [sumJ, cj, evI_padd, evI]; omega
 ·obtain ⟨u, v, hu⟩ := hc rfl
  refine not_dv_one (Nat.le_refl 2) S.mon (EqF.dv ((EqF.cg hu.symm).trans ?_))
  have h2 : EqF 2 (zl G) (psub (powL [0, 1] 2) [0, 1]) [] := (EqF.cg ⟨[0, -1], fun x => by simp only [evI_psub, evI_powL, sumJ, cj, evI_padd, evI]; grind⟩ : EqF 2 (zl G) _ (sumJ 2 [0, 1] 2)).trans (hG [0, 1])
  exact (((EqF.refl u).mul h2).add ((EqF.refl v).mul (EqF.of_dv S.dG))).trans (EqF.ev fun x => by simp only [evI_padd, evI_pmul, evI]; omega)
 ·have h3 := dv_const (c := 3) S.mon (EqF.dv ((EqF.ev fun x => by simp only [sumJ, cj, evI_padd, evI_powL, evI, Int.mul_zero, Int.add_zero, Int.one_pow]; omega).trans (hG [1])))
  omega
end Go.Gx
