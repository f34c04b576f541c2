/-
  The laws of the walks and the plain laws of numbers and polynomials, part 3: TripPreds, BasesMath, ListPreds, BasesWalk.
-/
import Derived.Test.YtbniolgfaeiedaaGreatLibB

/-
  Lists of arrays of three int8; what the walks of the reference want. No program in sight.
-/
namespace Go.Gx
open Go.RowKit
abbrev T3 := Int × Int × Int
def cellsT (l : List T3) : List Value := l.flatMap fun t => [.int .i8 t.1, .int .i8 t.2.1, .int .i8 t.2.2]
def compT (t : T3) (k : Nat) : Int := if k = 0 then t.1 else if k = 1 then t.2.1 else t.2.2
theorem cellsT_len (l : List T3) : (cellsT l).length = l.length * 3 := by
  induction l with
  | nil => rfl
  | cons r l ih => simp only [cellsT, List.flatMap_cons, List.length_append, List.length_cons] at ih ⊢; rw [ih]; simp; omega
theorem cellsT_cons (t : T3) (l : List T3) : cellsT (t :: l) = .int .i8 t.1 :: .int .i8 t.2.1 :: .int .i8 t.2.2 :: cellsT l := by simp [cellsT]
theorem cellsT_get {l : List T3} : ∀ {i : Nat} {t : T3} (k : Nat), l[i]? = some t → k < 3 → (cellsT l)[i * 3 + k]? = some (.int .i8 (compT t k)) := by
  induction l with
  | nil => intro i r k h; simp at h
  | cons x l ih =>
    intro i r k h hk
    rw [cellsT_cons]
    cases i with
    | zero =>
      simp at h; subst h
      match k, hk with
      | 0, _ => rfl
      | 1, _ => rfl
      | 2, _ => rfl
    | succ i =>
      simp at h
      have := ih k h hk
      rw [show (i + 1) * 3 + k = i * 3 + k + 1 + 1 + 1 by omega]
      simpa using this
def TripR (w : World) (S : Nat → Prop) (A : Option Addr) (n c : Nat) (l : List T3) : Prop := Rd w S A n c 3 (cellsT l) ∧ ∀ t ∈ l, ∀ k, -128 ≤ compT t k ∧ compT t k ≤ 127
section
variable {w w' : World} {S S' G : Nat → Prop} {A : Option Addr} {n c : Nat} {l : List T3}
theorem TripR.frmB (h : TripR w S A n c l) (f : Frm G w w') (hd : ∀ b, b < w.heap.size → S b → ¬ G b) : TripR w' S A n c l := ⟨h.1.frmB f hd, h.2⟩
theorem TripR.ext (h : TripR w S A n c l) (f : Ext w w') : TripR w' S A n c l := ⟨h.1.ext f, h.2⟩
theorem TripR.sub (h : TripR w S A n c l) (hs : ∀ b, b < w.heap.size → S b → S' b) : TripR w S' A n c l := ⟨h.1.sub hs, h.2⟩
theorem TripR.low (h : TripR w S A n c l) : TripR w (· < w.heap.size) A n c l := h.sub fun _ hb _ => hb
theorem TripR.len (h : TripR w S A n c l) : l.length = n := by have := h.1.1; rw [cellsT_len] at this; omega
theorem TripR.lkm (h : TripR w S A n c l) : l.length = n ∧ n ≤ c ∧ c ≤ 9223372036854775807 := ⟨h.len, h.1.2.1, h.1.2.2.1⟩
theorem TripR.base (h : TripR w S A n c l) (hn : 0 < n) : ∃ b off, A = some ⟨b, off, none⟩ := h.1.base hn
theorem TripR.at_ {b off i : Nat} (h : TripR w S (some ⟨b, off, none⟩) n c l) (hi : i < n) :
    ∃ t0 t1 t2, l[i]? = some (t0, t1, t2) ∧ (∀ (j : Nat) v, [Value.int .i8 t0, .int .i8 t1, .int .i8 t2][j]? = some v → w.cell? ((⟨b, off + i * 3, none⟩ : Addr).add j) = some v) ∧ (-128 ≤ t0 ∧ t0 ≤ 127) ∧ (-128 ≤ t1 ∧ t1 ≤ 127) ∧ (-128 ≤ t2 ∧ t2 ≤ 127) := by
  have hl : i < l.length := by rw [h.len]; exact hi
  obtain ⟨⟨t0, t1, t2⟩, hr⟩ : ∃ r, l[i]? = some r := ⟨_, List.getElem?_eq_getElem hl⟩
  have hm := h.2 _ (List.mem_of_getElem? hr)
  refine ⟨t0, t1, t2, hr, fun j v hj => ?_, hm 0, hm 1, hm 2⟩
  have hj3 : j < 3 := by
    rcases Nat.lt_or_ge j 3 with h1 | h1
    · exact h1
    · rw [List.getElem?_eq_none (by simpa using h1)] at hj; cases hj
  rw [addr_add, Nat.add_assoc]
  refine h.1.cell ?_
  rw [cellsT_get j hr hj3]
  match j, hj3, hj with
  | 0, _, hj => simpa [compT] using hj
  | 1, _, hj => simpa [compT] using hj
  | 2, _, hj => simpa [compT] using hj
theorem TripR.cellk {b off i k : Nat} (h : TripR w S (some ⟨b, off, none⟩) n c l) (hi : i < n) (hk : k < 3) : w.cell? ⟨b, off + i * 3 + k, none⟩ = some (.int .i8 (compT (l.getD i (0, 0, 0)) k)) := by
  have hl : i < l.length := by rw [h.len]; exact hi
  rw [Nat.add_assoc]
  refine h.1.cell ?_
  rw [cellsT_get k (List.getElem?_eq_getElem hl) hk]
  simp [List.getD, hl]
end
/-- Coefficients from -9 to 9. -/
def Few9 (l : List T3) : Prop := ∀ t ∈ l, ∀ k, k < 3 → (compT t k).natAbs ≤ 9
theorem few_row {t : T3} {k : Nat} {v : Int} (h : ∀ m, m < k → (compT t m).natAbs ≤ 9) (hv : v = compT t k) (h1 : ¬ v < -9) (h2 : ¬ v > 9) : ∀ m, m < k + 1 → (compT t m).natAbs ≤ 9 := fun m hm => by
  rcases Nat.lt_or_ge m k with h3 | h3
  · exact h m h3
  · rw [show m = k by omega]; omega
theorem few_next {l : List T3} {i : Nat} (h : Few9 (l.take i)) (hi : i < l.length) (ht : ∀ m, m < 3 → (compT (l.getD i (0, 0, 0)) m).natAbs ≤ 9) : Few9 (l.take (i + 1)) := fun t hm => by
  rw [List.take_add_one, List.getElem?_eq_getElem hi] at hm
  rcases List.mem_append.1 hm with h1 | h1
  · exact h t h1
  · simp at h1
    subst h1
    have : l.getD i (0, 0, 0) = l[i] := by simp [List.getD, hi]
    rw [this] at ht
    exact ht
theorem few9_all {l : List T3} {i : Nat} (h : Few9 (l.take i)) (hi : l.length ≤ i) : Few9 l := by rw [List.take_of_length_le hi] at h; exact h
theorem few_at {l : List T3} {i : Nat} {t0 t1 t2 : Int} (h : Few9 l) (he : l[i]? = some (t0, t1, t2)) : t0.natAbs ≤ 9 ∧ t1.natAbs ≤ 9 ∧ t2.natAbs ≤ 9 := by
  have := h _ (List.mem_of_getElem? he)
  exact ⟨this 0 (by omega), this 1 (by omega), this 2 (by omega)⟩
theorem quad_bd {t0 t1 t2 : Int} {xs : List Int} (e : xs = [t0, t1, t2]) (h : t0.natAbs ≤ 9 ∧ t1.natAbs ≤ 9 ∧ t2.natAbs ≤ 9) : (∀ x ∈ xs, x.natAbs ≤ 9) ∧ nrm xs ≤ 27 := by
  subst e
  refine ⟨fun x hx => ?_, by show _ + (_ + (_ + 0)) ≤ 27; omega⟩
  simp only [List.mem_cons, List.not_mem_nil, or_false] at hx
  rcases hx with rfl | rfl | rfl <;> omega
theorem tprod_start : P [1] = prodT [] := QP.eq fun x => by simp only [prodT, List.foldl, v_P, v_1, evQ]; rw [one_cast]; grind
theorem tprod_step {l : List T3} {i : Nat} {t0 t1 t2 : Int} {xp xq xr : List Int} (h : P xp = prodT (l.take i)) (he : l[i]? = some (t0, t1, t2)) (hq : xq = [t0, t1, t2]) (hr : xr = trimZ (pmul xp xq)) : P xr = prodT (l.take (i + 1)) := by
  rw [prodT_next he, ← h, hr, P_trim, P_mul, hq]; rfl
theorem mulT_len {f g r : List Int} {n m : Nat} (h : r = trimZ (pmul f g)) (hf : f.length = n) (hg : g.length = m) (hm : 1 ≤ m) : r.length ≤ n + m - 1 := by
  subst h
  refine Nat.le_trans (trimZ_len _) ?_
  unfold pmul
  split
  · simp
  · simp; omega
theorem prod_nrm27 {xp xq : List Int} {i : Nat} (hp : nrm xp ≤ 27 ^ i) (hq : nrm xq ≤ 27) (hi : i < 5) : nrm xp * nrm xq ≤ 4611686018427387904 ∧ nrm (trimZ (pmul xp xq)) ≤ 27 ^ (i + 1) := by
  have h1 : nrm xp * nrm xq ≤ 27 ^ (i + 1) := by rw [Nat.pow_succ]; exact Nat.mul_le_mul hp hq
  have h2 : 27 ^ (i + 1) ≤ 27 ^ 5 := Nat.pow_le_pow_right (by omega) (by omega)
  exact ⟨Nat.le_trans h1 (Nat.le_trans h2 (by decide)), by rw [nrm_trim]; exact Nat.le_trans (nrm_pmul _ _) h1⟩
theorem nrm27_end {N i : Nat} (h : N ≤ 27 ^ i) (hi : i ≤ 5) : N ≤ 14348907 := Nat.le_trans h (show 27 ^ i ≤ 27 ^ 5 from Nat.pow_le_pow_right (by omega) hi)
theorem u_next {u v : Int} {i : Nat} (hu : u.natAbs ≤ 9 ^ i) (hv : v.natAbs ≤ 9) (hi : i < 5) : (u * v).natAbs ≤ 9 ^ (i + 1) ∧ (u * v).natAbs ≤ 59049 := by
  have h1 : (u * v).natAbs ≤ 9 ^ (i + 1) := by rw [Int.natAbs_mul, Nat.pow_succ]; exact Nat.mul_le_mul hu hv
  exact ⟨h1, Nat.le_trans h1 (show 9 ^ (i + 1) ≤ 9 ^ 5 from Nat.pow_le_pow_right (by omega) (by omega))⟩
theorem ie_get {l : List IE} {i : Nat} {f : IE} (h : l[i]? = some f) : (l.map IE.m)[i]? = some (f.x, f.k) := by simp [h, IE.m]
theorem ix_get {l : List IE} {i : Nat} {f : IE} (h : l[i]? = some f) : (l.map IE.x)[i]? = some f.x := by simp [h]
theorem appI_set {l : List IE} {sp : List Value} {i : Nat} {r : IE} (k : Int) (h : l[i]? = some r) : (cellsIE l ++ sp).set (0 + i * 2 + 1) (.int .i64 k) = cellsIE (l.set i { r with k := k }) ++ sp := by
  have hi : i < l.length := (List.getElem?_eq_some_iff.1 h).1
  rw [Nat.zero_add, List.set_append_left _ _ (by rw [cellsIE_len]; omega), cellsIE_set k h]
theorem allI_set {T : Nat → Prop} {w w' : World} {g i : Nat} {k : Int} {l : List IE} {r : IE} (h : AllI w (fun b => T b ∧ b ≠ g) l) (f : Frm (fun b => b = g) w w') (hr : l[i]? = some r) : AllI w' (fun b => T b ∧ b ≠ g) (l.set i { r with k := k }) := fun x hx => by
  rcases List.mem_or_eq_of_mem_set hx with h1 | h1
  · exact (h x h1).frmB f fun _ _ hb he => hb.2 he
  · subst h1
    exact (h r (List.mem_of_getElem? hr)).frmB f fun _ _ hb he => hb.2 he
/-- The block after a store of a power. -/
theorem ownI_power {T : Nat → Prop} {w w' : World} {B g el c n i : Nat} {l : List IE} {sp : List Value} {k : Int} {r : IE} (hg : B ≤ g) (hB : Blk w' g el ((cellsIE l ++ sp).set (0 + i * 2 + 1) (.int .i64 k))) (hl : (cellsIE l ++ sp).length = c * 2) (hn : l.length = n) (hc : n ≤ c) (hm : c ≤ CapMax) (ha : AllI w (fun b => T b ∧ b ≠ g) l) (f : Frm (fun b => b = g) w w') (hr : l[i]? = some r) :
    OwnI T w' B el (some ⟨g, 0, none⟩) n c (l.set i { r with k := k }) := by
  rw [appI_set k hr] at hB
  refine OwnI.close hg hB ?_ (by simpa using hn) hc hm (allI_set ha f hr)
  rw [← hl, List.length_append, List.length_append, cellsIE_len, cellsIE_len, List.length_set]
theorem with_found {l : List IE} {p : List Int} {i : Nat} {f : IE} (h : l[i]? = some f) (hn : ∀ j e, j < i → l[j]? = some e → trimZ e.x ≠ trimZ p) (he : trimZ f.x = trimZ p) : (l.set i { f with k := f.k + 1 }).map IE.m = withM (l.map IE.m) p := by
  rw [withM_at (l.map IE.m) p i f.x f.k (ie_get h) (fun j e hj hx => ?_) he, List.map_set]
  · rfl
  · rw [List.getElem?_map] at hx
    cases hl : l[j]? with
    | none => rw [hl] at hx; cases hx
    | some y => rw [hl] at hx; injection hx with hx; subst hx; exact hn j y hj hl
theorem with_new {l : List IE} {p : List Int} {A : Option Addr} {n c i : Nat} (hn : ∀ j e, j < i → l[j]? = some e → trimZ e.x ≠ trimZ p) (hi : l.length ≤ i) : (l ++ [(⟨A, n, c, p, 1⟩ : IE)]).map IE.m = withM (l.map IE.m) p := by
  rw [withM_none]
  · simp [IE.m]
  · intro e he
    obtain ⟨f, hf, rfl⟩ := List.mem_map.1 he
    obtain ⟨j, hj, rfl⟩ := List.getElem_of_mem hf
    exact hn j _ (by omega) (List.getElem?_eq_getElem hj)
theorem with_next {l : List IE} {p : List Int} {i : Nat} {f : IE} (hn : ∀ j e, j < i → l[j]? = some e → trimZ e.x ≠ trimZ p) (h : l[i]? = some f) (he : ¬ trimZ f.x = trimZ p) : ∀ j e, j < i + 1 → l[j]? = some e → trimZ e.x ≠ trimZ p := fun j e hj hx => by
  rcases Nat.lt_or_ge j i with h1 | h1
  · exact hn j e h1 hx
  · obtain rfl : j = i := by omega
    rw [h] at hx; injection hx with hx; subst hx; exact he
theorem facIn_k {Q : QP} {u : Int} {N k : Nat} {l : List IE} {ps : List (List Int)} (h : FacIn Q u N (l.map IE.m) ps k) (hN : N + k ≤ 1000) : (∀ e ∈ l, 0 ≤ e.k ∧ e.k ≤ 1000) ∧ l.length ≤ N + k := by
  refine ⟨fun e he => ?_, by have := h.2.1.n; simpa using this⟩
  have h1 := h.2.1.k (e.x, e.k) (List.mem_map.2 ⟨e, he, rfl⟩)
  dsimp only at h1
  omega
theorem fac_next {l : List T3} {i : Nat} {t0 t1 t2 u v : Int} {N : Nat} {L : List (List Int × Int)} {xq : List Int} {ps : List (List Int)} (h : FacSt (prodT (l.take i)) u N L) (he : l[i]? = some (t0, t1, t2)) (hq : xq = [t0, t1, t2]) (hs : SplitR xq v ps) : FacIn (prodT (l.take (i + 1))) (u * v) N L ps 0 := by
  rw [prodT_next he]
  subst hq
  exact h.enter hs
end Go.Gx
namespace Go.Gx
end Go.Gx
namespace Go.Gx
theorem nine_end {N i : Nat} (h : N ≤ 9 ^ i) (hi : i ≤ 5) : N ≤ 59049 := Nat.le_trans h (show 9 ^ i ≤ 9 ^ 5 from Nat.pow_le_pow_right (by omega) hi)
end Go.Gx

/-
  The basis of the reference: classes of known factors. Plain numbers; no program in sight.
-/
namespace Go.Gx
/-- The power of p in a list of factors. -/
def timesM : List (List Int × Int) → List Int → Int
  | [], _ => 0
  | (q, k) :: l, p => if trimZ q = trimZ p then k else timesM l p
theorem timesM_none : ∀ (l : List (List Int × Int)) (p : List Int), (∀ e ∈ l, trimZ e.1 ≠ trimZ p) → timesM l p = 0
  | [], _, _ => rfl
  | (q, k) :: l, p, h => by rw [timesM, if_neg (h (q, k) (by simp)), timesM_none l p fun e he => h e (by simp [he])]
theorem timesM_at : ∀ (l : List (List Int × Int)) (p : List Int) (i : Nat) (q : List Int) (k : Int), l[i]? = some (q, k) → (∀ j e, j < i → l[j]? = some e → trimZ e.1 ≠ trimZ p) → trimZ q = trimZ p → timesM l p = k
  | [], p, i, q, k, h, _, _ => by simp at h
  | (q0, k0) :: l, p, 0, q, k, h, _, hq => by
    simp at h
    obtain ⟨rfl, rfl⟩ := h
    rw [timesM, if_pos hq]
  | (q0, k0) :: l, p, i + 1, q, k, h, hn, hq => by
    rw [timesM, if_neg (hn 0 _ (by omega) rfl), timesM_at l p i q k (by simpa using h) (fun j e hj he => hn (j + 1) e (by omega) (by simpa using he)) hq]
theorem timesM_mem : ∀ (l : List (List Int × Int)) (p : List Int), (∃ q k, (q, k) ∈ l ∧ trimZ q = trimZ p ∧ timesM l p = k) ∨ ((∀ e ∈ l, trimZ e.1 ≠ trimZ p) ∧ timesM l p = 0)
  | [], p => .inr ⟨by simp, rfl⟩
  | (q, k) :: l, p => by
    by_cases h : trimZ q = trimZ p
    · exact .inl ⟨q, k, by simp, h, by rw [timesM, if_pos h]⟩
    · rcases timesM_mem l p with ⟨q', k', h1, h2, h3⟩ | ⟨h1, h2⟩
      · exact .inl ⟨q', k', by simp [h1], h2, by rw [timesM, if_neg h]; exact h3⟩
      · refine .inr ⟨fun e he => ?_, by rw [timesM, if_neg h]; exact h2⟩
        rcases List.mem_cons.1 he with rfl | h4
        · exact h
        · exact h1 e h4
/-- In a list of known factors the power of an irreducible one is its multiplicity. -/
theorem times_va {F : QP} {u : Int} {l : List (List Int × Int)} {p : List Int} (h : F = K u * prodM l) (hu : u ≠ 0) (hl : FacOkM 10 l) (hp : IrrN p) : timesM l p = (va (P p) F : Nat) := by
  have hi : Irr (P p) := hp.i
  have ⟨h1, h2⟩ := facR_va hi h hu hl
  rcases timesM_mem l p with ⟨q, k, hm, hq, ht⟩ | ⟨hn, ht⟩
  · have hqi : IrrN q := hl.i _ hm
    have e : q = p := by rw [← hqi.n.t, ← hp.n.t]; exact hq
    subst e
    rw [ht, h1 q k hm (qdvd_refl _)]
    have := (hl.k _ hm).1
    dsimp only at this
    omega
  · rw [ht, h2 fun e he hd => hn e he (by rw [irr_same hi hp (hl.i e he) (qdvd_refl _) hd])]
    rfl
/-- What is known of one of the polynomials. -/
def KnownR (F : QP) (l : List (List Int × Int)) : Prop := ∃ u : Int, u ≠ 0 ∧ F = K u * prodM l ∧ FacOkM 10 l
/-- Lists of known factors and polynomials. -/
structure KnownsR (fs : List QP) (ls : List (List (List Int × Int))) : Prop where
  of : ∀ l ∈ ls, ∃ F, KnownR F l ∧ (F ∈ fs ∨ dg F ≤ 1)
  to : ∀ F ∈ fs, ∃ l ∈ ls, KnownR F l
theorem va_const {π F : QP} (hπ : Irr π) (h : dg F ≤ 1) (h0 : F ≠ 0) : va π F = 0 := by
  apply Classical.byContradiction
  intro hv
  have hd := (va_pos hπ h0).2 (by omega)
  have h1 := dvd_le hd h0
  have h2 := hπ.1
  omega
theorem KnownR.ne {F : QP} {l : List (List Int × Int)} (h : KnownR F l) : F ≠ 0 := by
  obtain ⟨u, hu, e, hl⟩ := h
  rw [e]; exact qp_mul_ne (K_ne (cast_ne hu)) (prodM_ne l hl.i)
/-- Alike in all the lists is alike in all the polynomials. -/
theorem alike_key {fs : List QP} {ls : List (List (List Int × Int))} {p q : List Int} (h : KnownsR fs ls) (hp : IrrN p) (hq : IrrN q) : (∀ l ∈ ls, timesM l p = timesM l q) ↔ keyL fs (P p) = keyL fs (P q) := by
  rw [key_eq]
  constructor
  · intro h1 F hF
    obtain ⟨l, hl, u, hu, e, hok⟩ := h.to F hF
    have h2 := h1 l hl
    rw [times_va e hu hok hp, times_va e hu hok hq] at h2
    omega
  · intro h1 l hl
    obtain ⟨F, hk, hF⟩ := h.of l hl
    have h0 := hk.ne
    obtain ⟨u, hu, e, hok⟩ := hk
    rw [times_va e hu hok hp, times_va e hu hok hq]
    rcases hF with hF | hF
    · rw [h1 F hF]
    · rw [va_const hp.i hF h0, va_const hq.i hF h0]
/-- All the known factors, each once. -/
structure AllR (ls : List (List (List Int × Int))) (all : List (List Int × Int)) : Prop where
  i : ∀ e ∈ all, IrrN e.1
  d : all.Pairwise fun a b => a.1 ≠ b.1
  of : ∀ e ∈ all, ∃ l ∈ ls, ∃ x ∈ l, x.1 = e.1
  to : ∀ l ∈ ls, ∀ x ∈ l, ∃ e ∈ all, e.1 = x.1
theorem qpow_dvd {a b : QP} (h : a ∣ b) : ∀ m : Nat, a ^ m ∣ b ^ m
  | 0 => by rw [qp_pow_zero, qp_pow_zero]; exact qdvd_refl _
  | m + 1 => by rw [qp_pow_succ, qp_pow_succ]; exact qmul_mul (qpow_dvd h m) h
theorem va_assoc {π ρ F : QP} (hπ : Irr π) (hρ : Irr ρ) (h1 : π ∣ ρ) (h2 : ρ ∣ π) (hF : F ≠ 0) : va π F = va ρ F := by
  have a := (va_dvd hπ hF (va ρ F)).1 (qdvd_trans (qpow_dvd h1 _) ((va_dvd hρ hF _).2 (Nat.le_refl _)))
  have b := (va_dvd hρ hF (va π F)).1 (qdvd_trans (qpow_dvd h2 _) ((va_dvd hπ hF _).2 (Nat.le_refl _)))
  omega
theorem irr_key {fs : List QP} {π : QP} {p : List Int} (hf : ∀ F ∈ fs, F ≠ 0) (hπ : Irr π) (hp : IrrN p) (hd : π ∣ P p) : keyL fs π = keyL fs (P p) := by
  rw [key_eq]
  exact fun F hF => va_assoc hπ hp.i hd (irr_assoc hπ hp.i hd) (hf F hF)
/-- Each irreducible factor lies under one of the known ones. -/
theorem all_under {fs : List QP} {ls : List (List (List Int × Int))} {all : List (List Int × Int)} (h : KnownsR fs ls) (ha : AllR ls all) {π : QP} (hπ : Irr π) (hk : keyL fs π ≠ zeroL fs) : ∃ e ∈ all, π ∣ P e.1 := by
  apply Classical.byContradiction
  intro hn
  refine hk (key_zero.2 fun F hF => ?_)
  obtain ⟨l, hl, u, hu, e, hok⟩ := h.to F hF
  refine (facR_va hπ e hu hok).2 fun x hx hd => ?_
  obtain ⟨a, ha1, ha2⟩ := ha.to l hl x hx
  exact hn ⟨a, ha1, by rw [ha2]; exact hd⟩
/-- The key of a known factor. -/
theorem all_zero {fs : List QP} {ls : List (List (List Int × Int))} {all : List (List Int × Int)} (h : KnownsR fs ls) (ha : AllR ls all) {e : List Int × Int} (he : e ∈ all) : keyL fs (P e.1) ≠ zeroL fs := by
  intro hz
  obtain ⟨l, hl, x, hx, e1⟩ := ha.of e he
  obtain ⟨F, hk, hF⟩ := h.of l hl
  have h0 := hk.ne
  obtain ⟨u, hu, e2, hok⟩ := hk
  have hp := ha.i e he
  have h1 := (facR_va hp.i e2 hu hok).1 x.1 x.2 hx (by rw [e1]; exact qdvd_refl _)
  have h2 := (hok.k x hx).1
  rcases hF with hF | hF
  · have := key_zero.1 hz F hF; omega
  · have := va_const hp.i hF h0; omega
/-- Those of a list that are alike the i-th. -/
noncomputable def alikeL (fs : List QP) (all : List (List Int × Int)) (p : List Int) : List (List Int × Int) := by
  classical exact all.filter fun e => decide (keyL fs (P e.1) = keyL fs (P p))
theorem mem_alikeL {fs : List QP} {all : List (List Int × Int)} {p : List Int} {e : List Int × Int} : e ∈ alikeL fs all p ↔ e ∈ all ∧ keyL fs (P e.1) = keyL fs (P p) := by
  unfold alikeL
  rw [List.mem_filter]
  simp
theorem alikeL_take {fs : List QP} {all : List (List Int × Int)} {p : List Int} {k : Nat} {e : List Int × Int} (h : all[k]? = some e) : alikeL fs (all.take (k + 1)) p = alikeL fs (all.take k) p ++ (if keyL fs (P e.1) = keyL fs (P p) then [e] else []) := by
  unfold alikeL
  rw [List.take_add_one, h, Option.toList_some, List.filter_append]
  congr 1
  by_cases hk : keyL fs (P e.1) = keyL fs (P p)
  · simp [hk]
  · simp [hk]
theorem class_yes {fs : List QP} {all : List (List Int × Int)} {p : List Int} {k : Nat} {e : List Int × Int} (h : all[k]? = some e) (hk : keyL fs (P e.1) = keyL fs (P p)) : accM (alikeL fs (all.take (k + 1)) p) = trimZ (pmul (accM (alikeL fs (all.take k) p)) e.1) := by
  rw [alikeL_take h, if_pos hk]
  simp [accM, List.foldl_append]
theorem class_no {fs : List QP} {all : List (List Int × Int)} {p : List Int} {k : Nat} {e : List Int × Int} (h : all[k]? = some e) (hk : ¬ keyL fs (P e.1) = keyL fs (P p)) : accM (alikeL fs (all.take (k + 1)) p) = accM (alikeL fs (all.take k) p) := by
  rw [alikeL_take h, if_neg hk, List.append_nil]
/-- The product of those that are alike is their class. -/
theorem class_cl {fs : List QP} {ls : List (List (List Int × Int))} {all : List (List Int × Int)} (h : KnownsR fs ls) (hf : ∀ F ∈ fs, F ≠ 0) (ha : AllR ls all) {e : List Int × Int} (he : e ∈ all) : Cl (keyL fs) (keyL fs (P e.1)) (accM (alikeL fs all e.1)) ∧ 2 ≤ (accM (alikeL fs all e.1)).length := by
  have hi : ∀ x ∈ alikeL fs all e.1, IrrN x.1 := fun x hx => ha.i x (mem_alikeL.1 hx).1
  have hd : (alikeL fs all e.1).Pairwise fun a b => a.1 ≠ b.1 := by unfold alikeL; exact ha.d.sublist List.filter_sublist
  have hn := (accM_spec hi).1
  have hv : ∀ π, Irr π → va π (P (accM (alikeL fs all e.1))) = if keyL fs π = keyL fs (P e.1) then 1 else 0 := fun π hπ => by
    have ⟨h1, h2⟩ := va_accM hπ hi hd
    by_cases hk : keyL fs π = keyL fs (P e.1)
    · rw [if_pos hk]
      obtain ⟨x, hx, hxd⟩ := all_under h ha hπ (by rw [hk]; exact all_zero h ha he)
      exact h1 ⟨x, mem_alikeL.2 ⟨hx, by rw [← irr_key hf hπ (ha.i x hx) hxd]; exact hk⟩, hxd⟩
    · rw [if_neg hk]
      refine h2 fun x hx hxd => hk ?_
      obtain ⟨hx1, hx2⟩ := mem_alikeL.1 hx
      rw [irr_key hf hπ (ha.i x hx1) hxd]; exact hx2
  refine ⟨⟨hn, hv⟩, ?_⟩
  have h1 := hv (P e.1) (ha.i e he).i
  rw [if_pos rfl] at h1
  have h2 := (va_pos (ha.i e he).i hn.ne).2 (by omega)
  have h3 := dvd_le h2 hn.ne
  have h4 := (ha.i e he).i.1
  have h5 : dg (P (accM (alikeL fs all e.1))) = (accM (alikeL fs all e.1)).length := by rw [dg_P, hn.t]
  omega
/-- The keys of the first i. -/
def SeenK (fs : List QP) (all : List (List Int × Int)) (i : Nat) (k : List Nat) : Prop := ∃ e ∈ all.take i, keyL fs (P e.1) = k
def OutK (fs : List QP) (all : List (List Int × Int)) (i : Nat) (out : List (List Int)) : Prop := ∃ os ls, OutOk (keyL fs) (SeenK fs all i) os ls ∧ os.Perm out
theorem OutK.start {fs : List QP} {all : List (List Int × Int)} : OutK fs all 0 [] := ⟨[], [], OutOk.nil.mono (fun _ h => h.elim) (fun π _ h => by obtain ⟨e, he, _⟩ := h; simp at he), List.Perm.refl _⟩
theorem seen_next {fs : List QP} {all : List (List Int × Int)} {i : Nat} {e : List Int × Int} {k : List Nat} (h : all[i]? = some e) : SeenK fs all (i + 1) k ↔ SeenK fs all i k ∨ k = keyL fs (P e.1) := by
  unfold SeenK
  rw [List.take_add_one, h]
  constructor
  · rintro ⟨x, hx, hk⟩
    rcases List.mem_append.1 hx with h1 | h1
    · exact .inl ⟨x, h1, hk⟩
    · simp at h1; subst h1; exact .inr hk.symm
  · rintro (⟨x, hx, hk⟩ | hk)
    · exact ⟨x, List.mem_append_left _ hx, hk⟩
    · exact ⟨e, List.mem_append_right _ (by simp), hk.symm⟩
/-- The i-th is the first of its class. -/
theorem OutK.first {fs : List QP} {ls : List (List (List Int × Int))} {all : List (List Int × Int)} (h : KnownsR fs ls) (hf : ∀ F ∈ fs, F ≠ 0) (ha : AllR ls all) {i : Nat} {e : List Int × Int} {out out' : List (List Int)} (ho : OutK fs all i out) (he : all[i]? = some e) (hn : ∀ x ∈ all.take i, keyL fs (P x.1) ≠ keyL fs (P e.1)) (hp : (accM (alikeL fs all e.1) :: out).Perm out') : OutK fs all (i + 1) out' := by
  obtain ⟨os, ks, h1, h2⟩ := ho
  obtain ⟨hc, hl⟩ := class_cl h hf ha (List.mem_of_getElem? he)
  refine ⟨_, _, (h1.add hc (fun ⟨x, hx, hk⟩ => hn x hx hk) hl).mono (fun l hl => (seen_next he).2 hl) (fun π _ hd => (seen_next he).1 hd), ?_⟩
  exact (List.perm_append_singleton _ _).trans ((List.Perm.cons _ h2).trans hp)
/-- It is not the first. -/
theorem OutK.later {fs : List QP} {all : List (List Int × Int)} {i : Nat} {e x : List Int × Int} {out : List (List Int)} (ho : OutK fs all i out) (he : all[i]? = some e) (hx : x ∈ all.take i) (hk : keyL fs (P x.1) = keyL fs (P e.1)) : OutK fs all (i + 1) out := by
  obtain ⟨os, ks, h1, h2⟩ := ho
  refine ⟨os, ks, h1.mono (fun l hl => (seen_next he).2 (.inl hl)) (fun π _ hd => ?_), h2⟩
  rcases (seen_next he).1 hd with h3 | h3
  · exact h3
  · exact ⟨x, hx, by rw [h3]; exact hk⟩
/-- What the reference makes is a basis. -/
theorem OutK.done {fs : List QP} {ls : List (List (List Int × Int))} {all : List (List Int × Int)} (h : KnownsR fs ls) (hf : ∀ F ∈ fs, F ≠ 0) (ha : AllR ls all) {i : Nat} {out : List (List Int)} (ho : OutK fs all i out) (hi : all.length ≤ i) : BasisOf fs out := by
  obtain ⟨os, ks, h1, h2⟩ := ho
  refine BasisOf.perm ⟨ks, h1.mono (fun l hl => ?_) fun π hπ hd => ?_⟩ h2
  · obtain ⟨e, he, hk⟩ := hl
    rw [← hk]
    exact all_zero h ha (List.mem_of_mem_take he)
  · obtain ⟨e, he, hd2⟩ := all_under h ha hπ hd
    exact ⟨e, by rw [List.take_of_length_le hi]; exact he, (irr_key hf hπ (ha.i e he) hd2).symm⟩
theorem withM_keep : ∀ (l : List (List Int × Int)) (p : List Int) (e : List Int × Int), e ∈ l → ∃ x ∈ withM l p, x.1 = e.1
  | [], _, _, h => by cases h
  | (q, k) :: l, p, e, h => by
    rw [withM]
    by_cases hq : trimZ q = trimZ p
    · rw [if_pos hq]
      rcases List.mem_cons.1 h with rfl | h1
      · exact ⟨_, List.mem_cons_self, rfl⟩
      · exact ⟨e, List.mem_cons_of_mem _ h1, rfl⟩
    · rw [if_neg hq]
      rcases List.mem_cons.1 h with rfl | h1
      · exact ⟨_, List.mem_cons_self, rfl⟩
      · obtain ⟨x, hx, h2⟩ := withM_keep l p e h1
        exact ⟨x, List.mem_cons_of_mem _ hx, h2⟩
theorem withM_has : ∀ (l : List (List Int × Int)) (p : List Int), (∀ e ∈ l, IrrN e.1) → IrrN p → ∃ x ∈ withM l p, x.1 = p
  | [], p, _, _ => ⟨(p, 1), by simp [withM], rfl⟩
  | (q, k) :: l, p, hl, hp => by
    rw [withM]
    by_cases hq : trimZ q = trimZ p
    · rw [if_pos hq]
      have h1 : IrrN q := hl (q, k) (by simp)
      exact ⟨_, List.mem_cons_self, by rw [h1.n.t, hp.n.t] at hq; exact hq⟩
    · rw [if_neg hq]
      obtain ⟨x, hx, h2⟩ := withM_has l p (fun e he => hl e (by simp [he])) hp
      exact ⟨x, List.mem_cons_of_mem _ hx, h2⟩
/-- The factors of the first i lists, and k of the next one. -/
structure AllIn (ls : List (List (List Int × Int))) (i k : Nat) (all : List (List Int × Int)) : Prop where
  ok : FacOkM (10 * i + k) all
  of : ∀ e ∈ all, ∃ l ∈ ls, ∃ x ∈ l, x.1 = e.1
  old : ∀ j l, j < i → ls[j]? = some l → ∀ x ∈ l, ∃ e ∈ all, e.1 = x.1
  new : ∀ l, ls[i]? = some l → ∀ x ∈ l.take k, ∃ e ∈ all, e.1 = x.1
theorem AllIn.start {ls : List (List (List Int × Int))} : AllIn ls 0 0 [] := ⟨FacOkM.nil, by simp, fun j l h => by omega, fun l _ x hx => by simp at hx⟩
theorem AllIn.step {ls : List (List (List Int × Int))} {i k : Nat} {all l : List (List Int × Int)} {e : List Int × Int} (h : AllIn ls i k all) (hl : ls[i]? = some l) (he : l[k]? = some e) (hi : IrrN e.1) : AllIn ls i (k + 1) (withM all e.1) := by
  refine ⟨h.ok.with hi, fun x hx => ?_, fun j m hj hm x hx => ?_, fun m hm x hx => ?_⟩
  · rcases mem_withM all e.1 x hx with h1 | ⟨c, h1, _⟩ | h1
    · exact h.of x h1
    · obtain ⟨m, hm, y, hy, h2⟩ := h.of _ h1; exact ⟨m, hm, y, hy, h2⟩
    · subst h1; exact ⟨l, List.mem_of_getElem? hl, e, List.mem_of_getElem? he, rfl⟩
  · obtain ⟨y, hy, h2⟩ := h.old j m hj hm x hx
    obtain ⟨z, hz, h3⟩ := withM_keep all e.1 y hy
    exact ⟨z, hz, h3.trans h2⟩
  · rw [hl] at hm
    injection hm with hm
    subst hm
    rw [List.take_add_one, he] at hx
    rcases List.mem_append.1 hx with h1 | h1
    · obtain ⟨y, hy, h2⟩ := h.new l hl x h1
      obtain ⟨z, hz, h3⟩ := withM_keep all e.1 y hy
      exact ⟨z, hz, h3.trans h2⟩
    · simp at h1
      subst h1
      exact withM_has all x.1 h.ok.i hi
theorem AllIn.turn {ls : List (List (List Int × Int))} {i k : Nat} {all l : List (List Int × Int)} (h : AllIn ls i k all) (hl : ls[i]? = some l) (hk : l.length ≤ k) (h10 : k ≤ 10) : AllIn ls (i + 1) 0 all := by
  refine ⟨⟨h.ok.i, fun e he => ?_, h.ok.d, ?_⟩, h.of, fun j m hj hm x hx => ?_, fun m _ x hx => by simp at hx⟩
  · have := h.ok.k e he; omega
  · have := h.ok.n; omega
  · rcases Nat.lt_or_ge j i with h1 | h1
    · exact h.old j m h1 hm x hx
    · obtain rfl : j = i := by omega
      rw [hl] at hm
      injection hm with hm
      subst hm
      exact h.new l hl x (by rw [List.take_of_length_le (by omega)]; exact hx)
theorem AllIn.done {ls : List (List (List Int × Int))} {i k : Nat} {all : List (List Int × Int)} (h : AllIn ls i k all) (hi : ls.length ≤ i) : AllR ls all :=
  ⟨h.ok.i, h.ok.d, h.of, fun l hl x hx => by
    obtain ⟨j, hj, rfl⟩ := List.getElem_of_mem hl
    exact h.old j _ (by omega) (List.getElem?_eq_getElem hj) x hx⟩
def insM : List (List Int) → List Int → List (List Int)
  | [], p => [p]
  | x :: l, p => if cmpP p x < 0 then p :: x :: l else x :: insM l p
theorem insM_perm : ∀ (l : List (List Int)) (p : List Int), (p :: l).Perm (insM l p)
  | [], p => List.Perm.refl _
  | x :: l, p => by
    rw [insM]
    split
    · exact List.Perm.refl _
    · exact (List.Perm.swap _ _ _).trans (List.Perm.cons _ (insM_perm l p))
def SortW (l : List (List Int)) : Prop := l.Pairwise fun x y => ¬ cmpP y x < 0
theorem insM_sorted : ∀ (l : List (List Int)) (p : List Int), SortW l → SortW (insM l p)
  | [], p, _ => by simp [SortW, insM]
  | x :: l, p, h => by
    have ⟨h1, h2⟩ := List.pairwise_cons.1 h
    rw [insM]
    split
    · rename_i hp
      refine List.pairwise_cons.2 ⟨fun y hy hyp => ?_, h⟩
      rcases List.mem_cons.1 hy with rfl | h3
      · have := cmpP_anti p y; omega
      · exact h1 y h3 (cmpP_trans hyp hp)
    · rename_i hp
      refine List.pairwise_cons.2 ⟨fun y hy => ?_, insM_sorted l p h2⟩
      rcases List.mem_cons.1 ((insM_perm l p).mem_iff.2 hy) with rfl | h3
      · exact hp
      · exact h1 y h3
/-- Halfway. -/
def InsSt (l : List (List Int)) (p : List Int) (i : Nat) (dn : Bool) (out : List (List Int)) : Prop := if dn then out ++ l.drop i = insM l p else out = l.take i ∧ l.take i ++ insM (l.drop i) p = insM l p
theorem InsSt.start {l : List (List Int)} {p : List Int} : InsSt l p 0 false [] := ⟨by simp, by simp⟩
theorem InsSt.here {l : List (List Int)} {p x : List Int} {i : Nat} {out : List (List Int)} (h : InsSt l p i false out) (hx : l[i]? = some x) (hp : cmpP p x < 0) : InsSt l p (i + 1) true ((out ++ [p]) ++ [x]) := by
  obtain ⟨h1, h2⟩ := h
  obtain ⟨hi, e⟩ := List.getElem?_eq_some_iff.1 hx
  show _ ++ _ = _
  rw [← h2, List.drop_eq_getElem_cons hi, e, insM, if_pos hp, h1]
  simp
theorem InsSt.past {l : List (List Int)} {p x : List Int} {i : Nat} {out : List (List Int)} (h : InsSt l p i false out) (hx : l[i]? = some x) (hp : ¬ cmpP p x < 0) : InsSt l p (i + 1) false (out ++ [x]) := by
  obtain ⟨h1, h2⟩ := h
  obtain ⟨hi, e⟩ := List.getElem?_eq_some_iff.1 hx
  refine ⟨by rw [List.take_add_one, hx, h1]; simp, ?_⟩
  rw [← h2, List.drop_eq_getElem_cons hi, e, insM, if_neg hp, List.take_add_one, hx]
  simp
theorem InsSt.rest {l : List (List Int)} {p x : List Int} {i : Nat} {out : List (List Int)} (h : InsSt l p i true out) (hx : l[i]? = some x) : InsSt l p (i + 1) true (out ++ [x]) := by
  obtain ⟨hi, e⟩ := List.getElem?_eq_some_iff.1 hx
  show _ ++ _ = _
  have h1 : out ++ l.drop i = insM l p := h
  rw [← h1, List.drop_eq_getElem_cons hi, e]
  simp
theorem InsSt.endT {l : List (List Int)} {p : List Int} {i : Nat} {out : List (List Int)} (h : InsSt l p i true out) (hi : l.length ≤ i) : out = insM l p := by
  have h1 : out ++ l.drop i = insM l p := h
  rw [← h1, List.drop_of_length_le hi, List.append_nil]
theorem InsSt.endF {l : List (List Int)} {p : List Int} {i : Nat} {out : List (List Int)} (h : InsSt l p i false out) (hi : l.length ≤ i) : out ++ [p] = insM l p := by
  obtain ⟨h1, h2⟩ := h
  rw [← h2, List.drop_of_length_le hi, h1]
  rfl
end Go.Gx
namespace Go.Gx
theorem acc_nrm : ∀ (l : List (List Int × Int)) (a : List Int) (N : Nat), nrm a ≤ N → (∀ e ∈ l, IrrN e.1) → nrm (l.foldl (fun p e => trimZ (pmul p e.1)) a) ≤ N * 48 ^ l.length
  | [], a, N, h, _ => by simpa using h
  | e :: l, a, N, h, hi => by
    have h1 : nrm (trimZ (pmul a e.1)) ≤ N * 48 := by
      rw [nrm_trim]
      exact Nat.le_trans (nrm_pmul _ _) (Nat.mul_le_mul h (hi e (by simp)).b)
    have h2 := acc_nrm l _ (N * 48) h1 fun x hx => hi x (by simp [hx])
    rw [List.length_cons, Nat.pow_succ, Nat.mul_comm _ 48, ← Nat.mul_assoc]
    exact h2
theorem accM_nrm {l : List (List Int × Int)} (hi : ∀ e ∈ l, IrrN e.1) : nrm (accM l) ≤ 48 ^ l.length := by
  have := acc_nrm l [1] 1 (by decide) hi
  rwa [Nat.one_mul] at this
/-- Distinct ones that lie in a list are no more than the list. -/
theorem nodup_le : ∀ (a b : List (List Int)), a.Pairwise (fun x y => x ≠ y) → (∀ x ∈ a, x ∈ b) → a.length ≤ b.length
  | [], b, _, _ => Nat.zero_le _
  | x :: a, b, hd, hs => by
    have ⟨h1, h2⟩ := List.pairwise_cons.1 hd
    have hx := hs x (by simp)
    have h3 := nodup_le a (b.erase x) h2 fun y hy => (List.mem_erase_of_ne (fun e => h1 y hy e.symm)).2 (hs y (by simp [hy]))
    rw [List.length_erase_of_mem hx] at h3
    have := List.length_pos_of_mem hx
    simp only [List.length_cons]
    omega
/-- A class has no more members than a list. -/
theorem class_len {fs : List QP} {ls : List (List (List Int × Int))} {all : List (List Int × Int)} (h : KnownsR fs ls) (ha : AllR ls all) {e : List Int × Int} (he : e ∈ all) (k : Nat) : (alikeL fs (all.take k) e.1).length ≤ 10 := by
  obtain ⟨l, hl, x, hx, e1⟩ := ha.of e he
  obtain ⟨F, hk, _⟩ := h.of l hl
  obtain ⟨u, hu, e2, hok⟩ := hk
  have hd : ((alikeL fs (all.take k) e.1).map Prod.fst).Pairwise fun a b => a ≠ b := by
    rw [List.pairwise_map]
    unfold alikeL
    exact (ha.d.sublist (List.take_sublist _ _)).sublist List.filter_sublist
  have h1 := nodup_le _ (l.map Prod.fst) hd fun y hy => by
    obtain ⟨z, hz, rfl⟩ := List.mem_map.1 hy
    obtain ⟨hz1, hz2⟩ := mem_alikeL.1 hz
    have hzi := ha.i z (List.mem_of_mem_take hz1)
    have h3 := (alike_key h hzi (ha.i e he)).2 hz2 l hl
    have h4 : timesM l e.1 = (va (P e.1) F : Nat) := times_va e2 hu hok (ha.i e he)
    have h5 := (facR_va (ha.i e he).i e2 hu hok).1 x.1 x.2 hx (by rw [e1]; exact qdvd_refl _)
    have h6 := (hok.k x hx).1
    rcases timesM_mem l z.1 with ⟨q, c, hm, hq, ht⟩ | ⟨hn, ht⟩
    · have hqi : IrrN q := hok.i _ hm
      rw [hqi.n.t, hzi.n.t] at hq
      exact List.mem_map.2 ⟨(q, c), hm, hq⟩
    · omega
  rw [List.length_map, List.length_map] at h1
  exact Nat.le_trans h1 hok.n
/-- The products are small on the way. -/
theorem class_nrm {fs : List QP} {ls : List (List (List Int × Int))} {all : List (List Int × Int)} (h : KnownsR fs ls) (ha : AllR ls all) {e : List Int × Int} (he : e ∈ all) (k : Nat) : nrm (accM (alikeL fs (all.take k) e.1)) ≤ 48 ^ 10 :=
  Nat.le_trans (accM_nrm fun x hx => ha.i x (List.mem_of_mem_take (mem_alikeL.1 hx).1)) (Nat.pow_le_pow_right (by decide) (class_len h ha he k))
end Go.Gx

/-
  Lists whose elements are slices, of any kind: what is read, and what grows. No program in sight.
-/
namespace Go.Gx
open Go.RowKit
/-- Slices of one kind, with what is known of each. -/
structure LK (α : Type) where
  v : α → Value
  R : World → (Nat → Prop) → α → Prop
  one : ∀ a, (v a).oneCell' = true
  frmB : ∀ {w w' : World} {S G : Nat → Prop} {a : α}, R w S a → Frm G w w' → (∀ b, b < w.heap.size → S b → ¬ G b) → R w' S a
  ext : ∀ {w w' : World} {S : Nat → Prop} {a : α}, R w S a → Ext w w' → R w' S a
  sub : ∀ {w : World} {S S' : Nat → Prop} {a : α}, R w S a → (∀ b, b < w.heap.size → S b → S' b) → R w S' a
def GListR {α : Type} (L : LK α) (w : World) (S : Nat → Prop) (A : Option Addr) (n c : Nat) (l : List α) : Prop := Rd w S A n c 1 (l.map L.v) ∧ ∀ f ∈ l, L.R w S f
section
variable {α : Type} {L : LK α} {w w' : World} {S S' G : Nat → Prop} {A : Option Addr} {n c : Nat} {l : List α}
theorem GListR.ext (h : GListR L w S A n c l) (f : Ext w w') : GListR L w' S A n c l := ⟨h.1.ext f, fun x hx => L.ext (h.2 x hx) f⟩
theorem GListR.sub (h : GListR L w S A n c l) (hs : ∀ b, b < w.heap.size → S b → S' b) : GListR L w S' A n c l := ⟨h.1.sub hs, fun x hx => L.sub (h.2 x hx) hs⟩
theorem GListR.low (h : GListR L w S A n c l) : GListR L w (· < w.heap.size) A n c l := h.sub fun _ hb _ => hb
theorem GListR.len (h : GListR L w S A n c l) : l.length = n := by have := h.1.1; simp at this; omega
theorem GListR.lkm (h : GListR L w S A n c l) : l.length = n ∧ n ≤ c ∧ c ≤ 9223372036854775807 := ⟨h.len, h.1.2.1, h.1.2.2.1⟩
theorem GListR.base (h : GListR L w S A n c l) (hn : 0 < n) : ∃ b off, A = some ⟨b, off, none⟩ := h.1.base hn
theorem GListR.at_ {b off i : Nat} (h : GListR L w S (some ⟨b, off, none⟩) n c l) (hi : i < n) :
    ∃ f, l[i]? = some f ∧ w.cell? ⟨b, off + i, none⟩ = some (L.v f) ∧ L.R w S f ∧ S b ∧ b < w.heap.size := by
  have hl : i < l.length := by rw [h.len]; exact hi
  obtain ⟨b', off', e, hS, hb, _⟩ := h.1.2.2.2 (by omega)
  injection e with e
  injection e with e1 e2
  subst e1 e2
  obtain ⟨r, hr⟩ : ∃ r, l[i]? = some r := ⟨_, List.getElem?_eq_getElem hl⟩
  have hc : (l.map L.v)[i]? = some (L.v r) := by simp [hr]
  exact ⟨r, hr, h.1.cell hc, h.2 _ (List.mem_of_getElem? hr), hS, hb⟩
end
/-- A list that grows. -/
def OwnG {α : Type} (L : LK α) (w : World) (B : Nat) (el : TypeId) (A : Option Addr) (n c : Nat) (l : List α) : Prop := Own w B el 1 A n c (l.map L.v) ∧ ∀ f ∈ l, L.R w (fun b => notIn A b) f
section
variable {α : Type} {L : LK α} {w w' : World} {B : Nat} {el : TypeId} {A : Option Addr} {n c : Nat} {l : List α}
theorem OwnG.nil : OwnG L w B el none 0 0 [] := ⟨Own.nil, fun f hf => by cases hf⟩
theorem OwnG.ext (h : OwnG L w B el A n c l) (k : Ext w w') : OwnG L w' B el A n c l := ⟨h.1.ext k, fun f hf => L.ext (h.2 f hf) k⟩
theorem OwnG.len (h : OwnG L w B el A n c l) : l.length = n := by have := h.1.1; simp at this; omega
theorem OwnG.lkm (h : OwnG L w B el A n c l) : l.length = n ∧ n ≤ c ∧ c ≤ 9223372036854775807 := ⟨h.len, h.1.cap, h.1.max⟩
theorem OwnG.list (h : OwnG L w B el A n c l) : GListR L w (fun _ => True) A n c l := ⟨h.1.rd.sub fun _ _ _ => trivial, fun f hf => L.sub (h.2 f hf) fun _ _ _ => trivial⟩
end
section
variable {dfs : List Deferred} {P : Program} {n : Nat} {e : Nat → Value} {w : World} {K : Act → World → Prop} {Q : Exit → Act → World → Prop} {ty : TypeId} {pos : String} {af : Array Edge} {gd : Option (Nat × Bool)}
/-- One element more. -/
theorem oAppG {α : Type} {L : LK α} {d : Nat} {s x : Operand} {t el bt : TypeId} {zv : Value} {bytes B m c g : Nat} {A : Option Addr} {l : List α} {S : Nat → Prop} {f : α} (ht : P.underlying t = some (.slice el))
    (hi : (P.info? el).map (fun i => (i.zero, i.size, i.bytes)) = some (some zv, 1, bytes)) (hzv : zv.cells.size = 1) (hs : ev n e s = .slice A m c) (hx : ev n e x = .slice (some ⟨g, 0, none⟩) 1 1) (hO : OwnG L w B el A m c l) (hb : Blk w g bt [L.v f])
    (hp : L.R w S f) (hS : ∀ b, b < w.heap.size → S b → notIn A b) (hm : (m + 1) * bytes ≤ 140737488355328) (hm2 : m + 1 ≤ 9223372036854775807) (hB : B ≤ w.heap.size)
    (kk : ∀ A2 c2 w', OwnG L w' B el A2 (m + 1) c2 (l ++ [f]) → Frm (fun b => B ≤ b) w w' → (∀ G : Nat → Prop, (∀ b, G b → notIn A b) → Frm (fun b => ¬ G b) w w') → (∀ a, A2 = some a → A = some a ∨ w.heap.size ≤ a.block) → K (mkA dfs n (upd e d (.slice A2 (m + 1) c2))) w') :
    OpW P ⟨some d, .call { callee := .builtin .append, args := #[s, x], argTypes := #[t, t] }, ty, pos, af, gd⟩ (mkA dfs n e) w K Q := by
  refine oApp ht hi hzv (by decide) hs hx hO.1 hb rfl (by simp [L.one f]) hm hm2 hB fun A2 c2 w' hO' hF hF2 hnew => ?_
  have hk := hF2 (notIn A) fun _ h => h
  have key : ∀ {S : Nat → Prop} {a3 : α}, (∀ b, b < w.heap.size → S b → notIn A b) → L.R w S a3 → L.R w' (fun b => notIn A2 b) a3 := by
    intro S a3 hS h
    have h4 := L.frmB (L.sub (S' := fun b => notIn A b ∧ b < w.heap.size) h fun b hb hs => ⟨hS b hb hs, hb⟩) hk fun b _ hs hn => hn hs.1
    refine L.sub h4 fun b _ hb a ha => ?_
    rcases hnew a ha with h5 | h5
    · exact hb.1 a h5
    · have := hb.2; omega
  refine kk A2 c2 w' ⟨by rw [List.map_append]; exact hO', fun x hx => ?_⟩ hF hF2 hnew
  rcases List.mem_append.1 hx with h5 | h5
  · exact key (fun _ _ h => h) (hO.2 x h5)
  · simp at h5; subst h5; exact key hS hp
end
/-- Two lists that grow side by side. -/
structure OwnT {α β : Type} (L : LK α) (L' : LK β) (w : World) (B : Nat) (el el' : TypeId) (A : Option Addr) (n c : Nat) (l : List α) (A' : Option Addr) (n' c' : Nat) (l' : List β) : Prop where
  a : Own w B el 1 A n c (l.map L.v)
  b : Own w B el' 1 A' n' c' (l'.map L'.v)
  ea : ∀ f ∈ l, L.R w (fun b => notIn A b ∧ notIn A' b) f
  eb : ∀ f ∈ l', L'.R w (fun b => notIn A b ∧ notIn A' b) f
  s : ∀ x y, A = some x → A' = some y → x.block ≠ y.block
section
variable {α β : Type} {L : LK α} {L' : LK β} {w w' : World} {B : Nat} {el el' : TypeId} {A A' : Option Addr} {n c n' c' : Nat} {l : List α} {l' : List β}
theorem OwnT.nil : OwnT L L' w B el el' none 0 0 [] none 0 0 [] := ⟨Own.nil, Own.nil, fun f hf => (by cases hf), fun f hf => (by cases hf), fun x y h => (by cases h)⟩
theorem OwnT.ext (h : OwnT L L' w B el el' A n c l A' n' c' l') (k : Ext w w') : OwnT L L' w' B el el' A n c l A' n' c' l' := ⟨h.a.ext k, h.b.ext k, fun f hf => L.ext (h.ea f hf) k, fun f hf => L'.ext (h.eb f hf) k, h.s⟩
theorem OwnT.swap (h : OwnT L L' w B el el' A n c l A' n' c' l') : OwnT L' L w B el' el A' n' c' l' A n c l :=
  ⟨h.b, h.a, fun f hf => L'.sub (h.eb f hf) fun _ _ hs => ⟨hs.2, hs.1⟩, fun f hf => L.sub (h.ea f hf) fun _ _ hs => ⟨hs.2, hs.1⟩, fun x y hx hy e => h.s y x hy hx e.symm⟩
theorem OwnT.left (h : OwnT L L' w B el el' A n c l A' n' c' l') : GListR L w (fun b => b < w.heap.size) A n c l := ⟨h.a.rd.sub fun _ hb _ => hb, fun f hf => L.sub (h.ea f hf) fun _ hb _ => hb⟩
theorem OwnT.right (h : OwnT L L' w B el el' A n c l A' n' c' l') : GListR L' w (fun b => b < w.heap.size) A' n' c' l' := h.swap.left
theorem OwnT.lkm (h : OwnT L L' w B el el' A n c l A' n' c' l') : (l.length = n ∧ n ≤ c ∧ c ≤ 9223372036854775807) ∧ l'.length = n' ∧ n' ≤ c' ∧ c' ≤ 9223372036854775807 := ⟨h.left.lkm, h.right.lkm⟩
end
section
variable {dfs : List Deferred} {P : Program} {n : Nat} {e : Nat → Value} {w : World} {K : Act → World → Prop} {Q : Exit → Act → World → Prop} {ty : TypeId} {pos : String} {af : Array Edge} {gd : Option (Nat × Bool)}
/-- One element more in the first of them. -/
theorem oAppT {α β : Type} {L : LK α} {L' : LK β} {d : Nat} {s x : Operand} {t el el' bt : TypeId} {zv : Value} {bytes B m c n2 c2 g : Nat} {A A' : Option Addr} {l : List α} {l' : List β} {S : Nat → Prop} {f : α} (ht : P.underlying t = some (.slice el))
    (hi : (P.info? el).map (fun i => (i.zero, i.size, i.bytes)) = some (some zv, 1, bytes)) (hzv : zv.cells.size = 1) (hs : ev n e s = .slice A m c) (hx : ev n e x = .slice (some ⟨g, 0, none⟩) 1 1) (hO : OwnT L L' w B el el' A m c l A' n2 c2 l') (hb : Blk w g bt [L.v f])
    (hp : L.R w S f) (hS : ∀ b, b < w.heap.size → S b → notIn A b ∧ notIn A' b) (hm : (m + 1) * bytes ≤ 140737488355328) (hm2 : m + 1 ≤ 9223372036854775807) (hB : B ≤ w.heap.size)
    (kk : ∀ A2 c2' w', OwnT L L' w' B el el' A2 (m + 1) c2' (l ++ [f]) A' n2 c2 l' → Frm (fun b => B ≤ b) w w' → K (mkA dfs n (upd e d (.slice A2 (m + 1) c2'))) w') :
    OpW P ⟨some d, .call { callee := .builtin .append, args := #[s, x], argTypes := #[t, t] }, ty, pos, af, gd⟩ (mkA dfs n e) w K Q := by
  refine oApp ht hi hzv (by decide) hs hx hO.a hb rfl (by simp [L.one f]) hm hm2 hB fun A2 c2' w' hO' hF hF2 hnew => ?_
  have hk := hF2 (notIn A) fun _ h => h
  have key : ∀ {γ : Type} {M : LK γ} {S : Nat → Prop} {a3 : γ}, (∀ b, b < w.heap.size → S b → notIn A b ∧ notIn A' b) → M.R w S a3 → M.R w' (fun b => notIn A2 b ∧ notIn A' b) a3 := by
    intro γ M S a3 hS h
    have h4 := M.frmB (M.sub (S' := fun b => (notIn A b ∧ notIn A' b) ∧ b < w.heap.size) h fun b hb hs => ⟨hS b hb hs, hb⟩) hk fun b _ hs hn => hn hs.1.1
    refine M.sub h4 fun b _ hb => ⟨fun a ha => ?_, hb.1.2⟩
    rcases hnew a ha with h5 | h5
    · exact hb.1.1 a h5
    · have := hb.2; omega
  refine kk A2 c2' w' ⟨by rw [List.map_append]; exact hO', ?_, fun x hx => ?_, fun x hx => key (fun _ _ h => h) (hO.eb x hx), fun x y hx hy => ?_⟩ hF
  · refine ⟨hO.b.1, ?_⟩
    rcases hO.b.2 with h1 | ⟨g', cap, cur, hv, hb', hg, rest⟩
    · exact .inl h1
    · have hlt := (Array.getElem?_eq_some_iff.1 hg).1
      refine .inr ⟨g', cap, cur, hv, hb', (hk.block g' hlt fun hn => hn fun a ha => ?_).trans hg, rest⟩
      injection hv with e1 e2 e3
      subst e1
      exact hO.s a _ ha rfl
  · rcases List.mem_append.1 hx with h5 | h5
    · exact key (fun _ _ h => h) (hO.ea x h5)
    · simp at h5; subst h5; exact key hS hp
  · rcases hnew x hx with h5 | h5
    · exact hO.s x y h5 hy
    · have := (hO.b.lt y hy).2; omega
end
/-- Slices of int. -/
def LI : LK IE := ⟨fun f => .slice f.A f.n f.c, fun w S f => IntsR w S f.A f.n f.c f.x, fun _ => rfl, fun h f hd => h.frmB f hd, fun h f => h.ext f, fun h hs => h.sub hs⟩
/-- Polynomials. -/
def LP (M : Nat) : LK PE := ⟨fun f => .slice f.A f.n f.c, fun w S f => PolyR w S f.A f.n f.c f.l M, fun _ => rfl, fun h f hd => h.frmB f hd, fun h f => h.ext f, fun h hs => h.sub hs⟩
/-- A list of factors in memory. -/
structure LE where
  A : Option Addr
  n : Nat
  c : Nat
  f : List IE
def LE.m (x : LE) : List (List Int × Int) := x.f.map IE.m
def LF : LK LE := ⟨fun x => .slice x.A x.n x.c, fun w S x => IFacsR w S x.A x.n x.c x.f, fun _ => rfl, fun h f hd => h.frmB f hd, fun h f => h.ext f, fun h hs => h.sub hs⟩
theorem GListR.ilist {w : World} {S : Nat → Prop} {A : Option Addr} {n c : Nat} {l : List IE} (h : GListR LI w S A n c l) : IListR w S A n c l := h
theorem GListR.polys {w : World} {S : Nat → Prop} {A : Option Addr} {n c M : Nat} {l : List PE} (h : GListR (LP M) w S A n c l) : PolysR w S A n c l M := h
end Go.Gx

/-
  What the walks of the reference's basis want. No program in sight.
-/
namespace Go.Gx
theorem times_found {l : List IE} {p : List Int} {i : Nat} {f : IE} (h : l[i]? = some f) (hn : ∀ j e, j < i → l[j]? = some e → trimZ e.x ≠ trimZ p) (he : trimZ f.x = trimZ p) : f.k = timesM (l.map IE.m) p := by
  refine (timesM_at (l.map IE.m) p i f.x f.k (ie_get h) (fun j e hj hx => ?_) he).symm
  rw [List.getElem?_map] at hx
  cases hl : l[j]? with
  | none => rw [hl] at hx; cases hx
  | some y => rw [hl] at hx; injection hx with hx; subst hx; exact hn j y hj hl
theorem times_new {l : List IE} {p : List Int} {i : Nat} (hn : ∀ j e, j < i → l[j]? = some e → trimZ e.x ≠ trimZ p) (hi : l.length ≤ i) : 0 = timesM (l.map IE.m) p := by
  refine (timesM_none _ p fun e he => ?_).symm
  obtain ⟨f, hf, rfl⟩ := List.mem_map.1 he
  obtain ⟨j, hj, rfl⟩ := List.getElem_of_mem hf
  exact hn j _ (by omega) (List.getElem?_eq_getElem hj)
theorem alike_next {la : List LE} {p q : List Int} {i : Nat} {f g : LE} {x y : Int} (h : ∀ l ∈ (la.take i).map LE.m, timesM l p = timesM l q) (hf : la[i]? = some f) (hg : la[i]? = some g) (hx : x = timesM (f.f.map IE.m) p) (hy : y = timesM (g.f.map IE.m) q) (e : x = y) : ∀ l ∈ (la.take (i + 1)).map LE.m, timesM l p = timesM l q := fun l hl => by
  rw [List.take_add_one, hf, List.map_append] at hl
  rcases List.mem_append.1 hl with h1 | h1
  · exact h l h1
  · simp at h1
    subst h1
    have h2 := Option.some.inj (hf.symm.trans hg)
    show timesM (f.f.map IE.m) p = timesM (f.f.map IE.m) q
    rw [← hx, e, hy, h2]
theorem alike_not {la : List LE} {p q : List Int} {i : Nat} {f g : LE} {x y : Int} (hf : la[i]? = some f) (hg : la[i]? = some g) (hx : x = timesM (f.f.map IE.m) p) (hy : y = timesM (g.f.map IE.m) q) (e : ¬ x = y) : ¬ ∀ l ∈ la.map LE.m, timesM l p = timesM l q := fun h => e (by
  have h2 := Option.some.inj (hf.symm.trans hg)
  rw [hx, hy, ← h2]
  exact h _ (List.mem_map.2 ⟨f, List.mem_of_getElem? hf, rfl⟩))
theorem cmpZ_sub (a b : Int) : cmpZ (a - b) 0 = cmpZ a b := by
  have h1 := cmpZ_cases a b
  have h2 := cmpZ_cases (a - b) 0
  omega
theorem cmpP_len {F G : List Int} {n m : Nat} (hn : F.length = n) (hm : G.length = m) (h : ¬ (n : Int) = m) : cmpP F G = cmpZ ((n : Int) - m) 0 := by
  have h2 := cmpZ_cases ((n : Int) - m) 0
  unfold cmpP
  split
  · omega
  · split
    · omega
    · omega
theorem getD_nrm {F : List Int} {N : Nat} (h : nrm F ≤ N) (i : Nat) : (F.getD i 0).natAbs ≤ N := by
  have h1 := nrm_take F i
  have h2 : (co F i).natAbs ≤ N := by omega
  exact h2
theorem le_get {la : List LE} {i : Nat} {f : LE} (h : la[i]? = some f) : (la.map LE.m)[i]? = some (f.f.map IE.m) := by simp [h, LE.m]
theorem known_len10 {fs : List QP} {la : List LE} {i : Nat} {f : LE} (hK : KnownsR fs (la.map LE.m)) (h : la[i]? = some f) : f.f.length ≤ 10 := by
  obtain ⟨F, ⟨u, hu, e, hl⟩, _⟩ := hK.of _ (List.mem_of_getElem? (le_get h))
  have := hl.n
  rwa [List.length_map] at this
theorem known_irr {fs : List QP} {la : List LE} {i k : Nat} {f : LE} {e : IE} (hK : KnownsR fs (la.map LE.m)) (h : la[i]? = some f) (he : f.f[k]? = some e) : IrrN e.x := by
  obtain ⟨F, ⟨u, hu, _, hl⟩, _⟩ := hK.of _ (List.mem_of_getElem? (le_get h))
  exact hl.i _ (List.mem_of_getElem? (ie_get he))
theorem allIn_k {ls : List (List (List Int × Int))} {i k : Nat} {fq : List IE} (h : AllIn ls i k (fq.map IE.m)) (hN : 10 * i + k ≤ 1000) : (∀ e ∈ fq, 0 ≤ e.k ∧ e.k ≤ 1000) ∧ fq.length ≤ 10 * i + k := by
  refine ⟨fun e he => ?_, by have := h.ok.n; rwa [List.length_map] at this⟩
  have h1 := h.ok.k e.m (List.mem_map.2 ⟨e, he, rfl⟩)
  have h2 : (1 : Int) ≤ e.k ∧ e.k ≤ ((10 * i + k : Nat) : Int) := h1
  omega
end Go.Gx
namespace Go.Gx
theorem acc_len : ∀ (l : List (List Int × Int)) (a : List Int) (N : Nat), a.length ≤ N → (∀ e ∈ l, IrrN e.1) → (l.foldl (fun p e => trimZ (pmul p e.1)) a).length ≤ N + 2 * l.length
  | [], a, N, h, _ => by simpa using h
  | e :: l, a, N, h, hi => by
    have hl := (hi e (by simp)).l
    have hd := (hi e (by simp)).d
    have h1 : (trimZ (pmul a e.1)).length ≤ N + 2 := by
      have := mulT_len (f := a) (g := e.1) rfl rfl rfl (by omega)
      omega
    have h2 := acc_len l _ (N + 2) h1 fun x hx => hi x (by simp [hx])
    rw [List.length_cons]
    exact Nat.le_trans h2 (by omega)
section
variable {fs : List QP} {ls : List (List (List Int × Int))} {all : List (List Int × Int)} {e : List Int × Int}
theorem class_length (h : KnownsR fs ls) (ha : AllR ls all) (he : e ∈ all) (k : Nat) : (accM (alikeL fs (all.take k) e.1)).length ≤ 21 := by
  have h1 := acc_len (alikeL fs (all.take k) e.1) [1] 1 (by decide) fun x hx => ha.i x (List.mem_of_mem_take (mem_alikeL.1 hx).1)
  have h2 := class_len h ha he k
  unfold accM
  omega
theorem class_trim (ha : AllR ls all) (k : Nat) : trimZ (accM (alikeL fs (all.take k) e.1)) = accM (alikeL fs (all.take k) e.1) := (accM_spec fun x hx => ha.i x (List.mem_of_mem_take (mem_alikeL.1 hx).1)).1.t
theorem class_start : [1] = accM (alikeL fs (all.take 0) e.1) := by simp [alikeL, accM]
theorem first_start {j : Nat} : true = true ↔ ∀ x ∈ all.take (min 0 j), keyL fs (P x.1) ≠ keyL fs (P e.1) := by simp
theorem first_yes {k j : Nat} {y : List Int × Int} {dn b : Bool} (h : dn = true ↔ ∀ x ∈ all.take (min k j), keyL fs (P x.1) ≠ keyL fs (P e.1)) (hy : all[k]? = some y) (hk : keyL fs (P y.1) = keyL fs (P e.1)) (hb : b = true ↔ dn = true ∧ j ≤ k) : b = true ↔ ∀ x ∈ all.take (min (k + 1) j), keyL fs (P x.1) ≠ keyL fs (P e.1) := by
  rw [hb, h]
  rcases Nat.lt_or_ge k j with h1 | h1
  · rw [show min (k + 1) j = k + 1 by omega, List.take_add_one, hy]
    exact iff_of_false (fun hh => by omega) fun hh => hh y (List.mem_append_right _ (by simp)) hk
  · rw [show min (k + 1) j = j by omega, show min k j = j by omega]
    exact ⟨fun hh => hh.1, fun hh => ⟨hh, h1⟩⟩
theorem first_no {k j : Nat} {y : List Int × Int} {dn : Bool} (h : dn = true ↔ ∀ x ∈ all.take (min k j), keyL fs (P x.1) ≠ keyL fs (P e.1)) (hy : all[k]? = some y) (hk : ¬ keyL fs (P y.1) = keyL fs (P e.1)) : dn = true ↔ ∀ x ∈ all.take (min (k + 1) j), keyL fs (P x.1) ≠ keyL fs (P e.1) := by
  rw [h]
  rcases Nat.lt_or_ge k j with h1 | h1
  · rw [show min (k + 1) j = k + 1 by omega, show min k j = k by omega, List.take_add_one, hy]
    constructor
    · intro hh x hx
      rcases List.mem_append.1 hx with h3 | h3
      · exact hh x h3
      · simp at h3; subst h3; exact hk
    · exact fun hh x hx => hh x (List.mem_append_left _ hx)
  · rw [show min (k + 1) j = j by omega, show min k j = j by omega]
end
theorem first_not {fs : List QP} {all : List (List Int × Int)} {e : List Int × Int} {k j : Nat} (h : false = true ↔ ∀ x ∈ all.take (min k j), keyL fs (P x.1) ≠ keyL fs (P e.1)) (hk : j ≤ k) : ∃ x ∈ all.take j, keyL fs (P x.1) = keyL fs (P e.1) := by
  apply Classical.byContradiction
  intro hn
  rw [show min k j = j by omega] at h
  exact absurd (h.2 fun x hx hh => hn ⟨x, hx, hh⟩) (by decide)
theorem ins_all {Q : List Int → Prop} {fo fr : List IE} {p : List Int} (h : fr.map IE.x = insM (fo.map IE.x) p) (ho : ∀ x ∈ fo, Q x.x) (hp : Q p) : ∀ x ∈ fr, Q x.x := fun x hx => by
  have h1 : x.x ∈ insM (fo.map IE.x) p := by rw [← h]; exact List.mem_map.2 ⟨x, hx, rfl⟩
  rcases List.mem_cons.1 ((insM_perm _ _).mem_iff.2 h1) with h2 | h2
  · rw [h2]; exact hp
  · obtain ⟨y, hy, e⟩ := List.mem_map.1 h2
    rw [← e]; exact ho y hy
end Go.Gx
namespace Go.Gx
/-- A list of triples in memory. -/
structure TE where
  A : Option Addr
  n : Nat
  c : Nat
  t : List T3
def TE.v (x : TE) : Value := .slice x.A x.n x.c
def AllT (w : World) (S : Nat → Prop) (l : List TE) : Prop := ∀ x ∈ l, TripR w S x.A x.n x.c x.t
theorem AllT.frmB {w w' : World} {S G : Nat → Prop} {l : List TE} (h : AllT w S l) (f : Frm G w w') (hd : ∀ b, b < w.heap.size → S b → ¬ G b) : AllT w' S l := fun x hx => (h x hx).frmB f hd
theorem AllT.at_ {w : World} {S : Nat → Prop} {l : List TE} {i : Nat} (h : AllT w S l) (hi : i < l.length) : ∃ f, l[i]? = some f ∧ TripR w S f.A f.n f.c f.t := ⟨_, List.getElem?_eq_getElem hi, h _ (List.getElem_mem hi)⟩
theorem Blk.trip {w : World} {g : Nat} {t : TypeId} {l : List TE} {i : Nat} {f : TE} (h : Blk w g t (l.map TE.v)) (hf : l[i]? = some f) : w.cell? ⟨g, i, none⟩ = some (.slice f.A f.n f.c) := h.at_ (by simp [hf, TE.v])
theorem posQ_snoc {fl : List PE} {p : PE} {q : QP} : q ∈ posQ (fl ++ [p]) ↔ q ∈ posQ fl ∨ (2 ≤ (trimZ (zs p.l)).length ∧ q = P (zs p.l)) := by
  rw [posQ_mem, posQ_mem]
  constructor
  · rintro ⟨f, hf, h2, e⟩
    rcases List.mem_append.1 hf with h | h
    · exact .inl ⟨f, h, h2, e⟩
    · simp at h; subst h; exact .inr ⟨h2, e⟩
  · rintro (⟨f, hf, h2, e⟩ | ⟨h2, e⟩)
    · exact ⟨f, List.mem_append_left _ hf, h2, e⟩
    · exact ⟨p, List.mem_append_right _ (by simp), h2, e⟩
theorem knowns_start : KnownsR (posQ []) [] := ⟨fun l h => (by cases h), fun F h => by obtain ⟨f, hf, _⟩ := posQ_mem.1 h; cases hf⟩
theorem knowns_yes {fl : List PE} {kl : List LE} {p : PE} {l : LE} {u : Int} (h : KnownsR (posQ fl) (kl.map LE.m)) (hu : u ≠ 0) (hF : P (zs p.l) = K u * prodM (l.f.map IE.m)) (hok : FacOkM 10 (l.f.map IE.m)) : KnownsR (posQ (fl ++ [p])) ((kl ++ [l]).map LE.m) := by
  have hk : KnownR (P (zs p.l)) (LE.m l) := ⟨u, hu, hF, hok⟩
  rw [List.map_append]
  refine ⟨fun m hm => ?_, fun F hF' => ?_⟩
  · rcases List.mem_append.1 hm with h1 | h1
    · obtain ⟨F, h2, h3⟩ := h.of m h1
      exact ⟨F, h2, h3.imp (fun h4 => posQ_snoc.2 (.inl h4)) id⟩
    · simp at h1
      subst h1
      refine ⟨_, hk, ?_⟩
      rcases Nat.lt_or_ge (trimZ (zs p.l)).length 2 with h2 | h2
      · exact .inr (by rw [dg_P]; omega)
      · exact .inl (posQ_snoc.2 (.inr ⟨h2, rfl⟩))
  · rcases posQ_snoc.1 hF' with h1 | ⟨_, rfl⟩
    · obtain ⟨m, h2, h3⟩ := h.to F h1
      exact ⟨m, List.mem_append_left _ h2, h3⟩
    · exact ⟨_, List.mem_append_right _ (by simp), hk⟩
theorem knowns_no {fl : List PE} {ks : List (List (List Int × Int))} {p : PE} (h : KnownsR (posQ fl) ks) (hF : P (zs p.l) = 0) : KnownsR (posQ (fl ++ [p])) ks := by
  refine ⟨fun m hm => ?_, fun F hF' => ?_⟩
  · obtain ⟨F, h2, h3⟩ := h.of m hm
    exact ⟨F, h2, h3.imp (fun h4 => posQ_snoc.2 (.inl h4)) id⟩
  · rcases posQ_snoc.1 hF' with h1 | ⟨h2, _⟩
    · exact h.to F h1
    · have := dg_zero.2 hF
      rw [dg_P] at this
      omega
theorem posQ_ne {fl : List PE} : ∀ F ∈ posQ fl, F ≠ 0 := fun F hF => by
  obtain ⟨f, _, h2, rfl⟩ := posQ_mem.1 hF
  exact dg_pos.2 (by rw [dg_P]; omega)
theorem fl_next {fl : List PE} {p : PE} {N : Nat} (h : ∀ x ∈ fl, x.n ≤ 11 ∧ nrm (zs x.l) ≤ N) (h1 : p.n ≤ 11) (h2 : nrm (zs p.l) ≤ N) : ∀ x ∈ fl ++ [p], x.n ≤ 11 ∧ nrm (zs x.l) ≤ N := fun x hx => by
  rcases List.mem_append.1 hx with h3 | h3
  · exact h x h3
  · simp at h3; subst h3; exact ⟨h1, h2⟩
/-- Sorted, without equals: strictly. -/
theorem strictL {fs : List QP} {bs : List (List Int)} (hb : BasisOf fs bs) (h : SortW bs) : bs.Pairwise fun x y => cmpP x y < 0 := by
  have hc := hb.cop
  have hn : ∀ x ∈ bs, trimZ x = x ∧ 2 ≤ x.length := fun x hx => by
    obtain ⟨h1, k, _, hcl⟩ := hb.each x hx
    exact ⟨hcl.n.t, h1⟩
  refine (hc.and h).imp_of_mem fun {a b} ha hb' hab => ?_
  obtain ⟨h1, h2⟩ := hab
  have h3 := cmpP_anti a b
  have h4 : cmpP a b ≠ 0 := fun e => by
    have e2 := cmpP_zero.1 e
    rw [e2] at h1
    obtain ⟨π, hπ, hd⟩ := irr_factor (f := P b) (by rw [dg_P, (hn b hb').1]; exact (hn b hb').2)
    exact cop_iff.1 h1 π hπ hd hd
  omega
theorem bases_same {fs : List QP} {ps : List PE} {bs : List IE} (h1 : BasisOf fs (ps.map fun f => zs f.l)) (s1 : (ps.map fun f => zs f.l).Pairwise fun x y => cmpP x y < 0) (h2 : BasisOf fs (bs.map IE.x)) (s2 : SortW (bs.map IE.x)) : (ps.map fun f => zs f.l) = bs.map IE.x :=
  basis_eq h1 h2 s1 (strictL h2 s2) (fun f hf => ⟨f, hf, fun _ _ => rfl⟩) (fun f hf => ⟨f, hf, fun _ _ => rfl⟩)
theorem bases_get {ps : List PE} {bs : List IE} {i : Nat} {f : PE} {b : IE} (h : (ps.map fun f => zs f.l) = bs.map IE.x) (hf : ps[i]? = some f) (hb : bs[i]? = some b) : zs f.l = b.x := by
  have h1 := congrArg (fun l => l[i]?) h
  simpa [hf, hb] using h1
end Go.Gx
