/-
  Drawn regions: allocations that are not ordered with the calls. They come up at any time; the walk takes the other operations once, each from a world that may have grown.
-/
import Derived.Test.YteiagkehhlpidaaLaws
namespace Go.Gx
open Go.RowKit

/-- The slots ds hold fl, the others e. -/
def over (ds : List Nat) (fl e : Nat → Value) : Nat → Value := fun s => bif ds.any (Nat.beq s) then fl s else e s
theorem over_upd_out {ds : List Nat} {fl e : Nat → Value} {d : Nat} {v : Value} (h : ds.any (Nat.beq d) = false) : upd (over ds fl e) d v = over ds fl (upd e d v) := by
  funext s
  by_cases hs : s = d
  · subst hs; simp only [upd_same, over, h, cond_false]
  · simp only [upd_other _ _ hs, over]
theorem over_upd_in {ds : List Nat} {fl e : Nat → Value} {d : Nat} {v : Value} (h : ds.any (Nat.beq d) = true) : upd (over ds fl e) d v = over ds (upd fl d v) e := by
  funext s
  by_cases hs : s = d
  · subst hs; simp only [upd_same, over, h, cond_true]
  · simp only [upd_other _ _ hs, over]

/-- Some of ks have come up: p are still to come, l is what is listed. -/
inductive Rch (ks : List Nat) (l0 : Array Bool) : List Nat → Array Bool → Prop
  | nil : Rch ks l0 ks l0
  | cons {p : List Nat} {l : Array Bool} {k : Nat} : Rch ks l0 p l → k ∈ p → Rch ks l0 (p.erase k) (l.setIfInBounds k true)

/-- A test at all that can be reached. -/
def chk (t : List Nat → Array Bool → Bool) : Nat → List Nat → Array Bool → Bool
  | 0, p, l => p.isEmpty && t p l
  | n + 1, p, l => t p l && p.all fun k => chk t n (p.erase k) (l.setIfInBounds k true)

theorem chk_at {t : List Nat → Array Bool → Bool} : ∀ {n : Nat} {p : List Nat} {l : Array Bool}, chk t n p l = true → t p l = true
  | 0, _, _, h => by simp only [chk, Bool.and_eq_true] at h; exact h.2
  | _ + 1, _, _, h => by simp only [chk, Bool.and_eq_true] at h; exact h.1
theorem Rch.chk {t : List Nat → Array Bool → Bool} {ks : List Nat} {l0 : Array Bool} {N : Nat} (h0 : chk t N ks l0 = true) {p : List Nat} {l : Array Bool} (h : Rch ks l0 p l) :
    ∃ n, Go.Gx.chk t n p l = true := by
  induction h with
  | nil => exact ⟨N, h0⟩
  | @cons p l k _ hk ih =>
    obtain ⟨n, hn⟩ := ih
    cases n with
    | zero => simp only [Go.Gx.chk, Bool.and_eq_true, List.isEmpty_iff] at hn; rw [hn.1] at hk; cases hk
    | succ n =>
      simp only [Go.Gx.chk, Bool.and_eq_true, List.all_eq_true] at hn
      exact ⟨n, hn.2 k hk⟩
theorem Rch.test {t : List Nat → Array Bool → Bool} {ks : List Nat} {l0 : Array Bool} {N : Nat} (h0 : Go.Gx.chk t N ks l0 = true) {p : List Nat} {l : Array Bool} (h : Rch ks l0 p l) : t p l = true := by
  obtain ⟨n, hn⟩ := h.chk h0
  exact chk_at hn
theorem Rch.set {ks : List Nat} {l0 : Array Bool} {p : List Nat} {l : Array Bool} (h : Rch ks l0 p l) {j : Nat} (hj : j ∉ ks) : Rch ks (l0.setIfInBounds j true) p (l.setIfInBounds j true) ∧ ∀ k ∈ p, k ∈ ks := by
  induction h with
  | nil => exact ⟨.nil, fun _ h => h⟩
  | @cons p l k hr hk ih =>
    refine ⟨?_, fun x hx => ih.2 x (List.mem_of_mem_erase hx)⟩
    have hne : k ≠ j := fun h => hj (h ▸ ih.2 k hk)
    rw [Array.setIfInBounds_comm _ _ hne]
    exact ih.1.cons hk

section
variable {P : Program} {ops : Array Oper} {Q : Exit → Act → World → Prop} {G : Nat → Prop} {n : Nat}

/-- The block lies outside of what an operation has made. -/
def Sep (v : Value) (i : Nat × Nat) : Prop := ∀ q o r, v = .pointer (some ⟨q, o, r⟩) → q < i.1 ∨ i.2 ≤ q
/-- What is known of those that have come up. -/
structure Dn (ks : List Nat) (dOf : Nat → Nat) (Φ : Nat → Value → World → Prop) (Iv : List (Nat × Nat)) (p : List Nat) (fl : Nat → Value) (w : World) : Prop where
  is : ∀ k ∈ ks, k ∉ p → Φ k (fl (dOf k)) w
  ne : ∀ k ∈ ks, ∀ k' ∈ ks, k ∉ p → k' ∉ p → k ≠ k' → fl (dOf k) ≠ fl (dOf k')
  out : ∀ k ∈ ks, k ∉ p → ∀ i ∈ Iv, Sep (fl (dOf k)) i

/-- The walk with ks still to come, at any time. -/
def Wf (P : Program) (ops : Array Oper) (Q : Exit → Act → World → Prop) (G : Nat → Prop) (n : Nat) (ks : List Nat) (dOf : Nat → Nat) (Φ : Nat → Value → World → Prop) (B : Nat) (Iv : List (Nat × Nat)) (fuel : Nat) (l0 : Array Bool) (e : Nat → Value) (w : World) : Prop :=
  (B ≤ w.heap.size ∧ ∀ i ∈ Iv, i.2 ≤ w.heap.size) → ∀ p l fl w', Rch ks l0 p l → Ext w w' → Dn ks dOf Φ Iv p fl w' → Dr P ops Q G (fuel + p.length) l (mkA [] n (over (ks.map dOf) fl e)) w'

/-- What ks do, whenever they come up. -/
structure Fls (P : Program) (ops : Array Oper) (Q : Exit → Act → World → Prop) (G : Nat → Prop) (n : Nat) (ks : List Nat) (dOf : Nat → Nat) (Φ : Nat → Value → World → Prop) (B : Nat) : Prop where
  run : ∀ k ∈ ks, ∀ e w, B ≤ w.heap.size → wpOp P ops (NoPanic Q) k (fun a' w' => Ext w w' ∧ ∃ v, a' = mkA [] n (upd e (dOf k) v) ∧ Φ k v w' ∧ (∀ k' ∈ ks, ∀ v', Φ k' v' w → v' ≠ v) ∧ ∀ i : Nat × Nat, i.2 ≤ w.heap.size → Sep v i) (mkA [] n e) w
  keep : ∀ k ∈ ks, ∀ v w w', Ext w w' → Φ k v w → Φ k v w'
  below : ∀ k ∈ ks, ∀ v w x, Φ k v w → Sep v (w.heap.size, x)
  inj : ∀ k ∈ ks, ∀ k' ∈ ks, dOf k = dOf k' → k = k'
  nodup : ks.Nodup

variable {ks : List Nat} {dOf : Nat → Nat} {Φ : Nat → Value → World → Prop} {B : Nat} {Iv : List (Nat × Nat)}

theorem Rch.sub {l0 l : Array Bool} {p : List Nat} (h : Rch ks l0 p l) : p.Sublist ks := by
  induction h with
  | nil => exact List.Sublist.refl _
  | cons _ _ ih => exact List.erase_sublist.trans ih

theorem mem_any {ds : List Nat} {d : Nat} (h : d ∈ ds) : ds.any (Nat.beq d) = true := List.any_eq_true.2 ⟨d, h, beq_self d⟩

/-- One that was still to come comes up. -/
theorem Fls.step (F : Fls P ops Q G n ks dOf Φ B) {l0 l : Array Bool} {p : List Nat} {fuel k : Nat} {fl e : Nat → Value} {w : World} (hr : Rch ks l0 p l) (hk : k ∈ p) (hB : B ≤ w.heap.size ∧ ∀ i ∈ Iv, i.2 ≤ w.heap.size)
    (hd : Dn ks dOf Φ Iv p fl w)
    (next : ∀ fl' w', Ext w w' → Dn ks dOf Φ Iv (p.erase k) fl' w' → Dr P ops Q G fuel (l.setIfInBounds k true) (mkA [] n (over (ks.map dOf) fl' e)) w') :
    wpOp P ops (NoPanic Q) k (fun a' w' => Frm G w w' ∧ Dr P ops Q G fuel (l.setIfInBounds k true) a' w') (mkA [] n (over (ks.map dOf) fl e)) w := by
  have hks := hr.sub.subset hk
  refine wpOp_mono (fun a' w' ⟨hE, v, ha, hv, hne, hsp⟩ => ⟨.of_ext hE, ?_⟩) (F.run k hks _ w hB.1)
  rw [ha, over_upd_in (mem_any (List.mem_map_of_mem hks))]
  have old : ∀ k' ∈ ks, k' ∉ p.erase k → k' ≠ k → k' ∉ p := fun k' _ hn h hp => hn ((List.mem_erase_of_ne h).2 hp)
  have oth : ∀ k' ∈ ks, k' ≠ k → upd fl (dOf k) v (dOf k') = fl (dOf k') := fun k' hk' h => upd_other _ _ (fun hh => h (F.inj k' hk' k hks hh))
  refine next _ w' hE ⟨fun k' hk' hn => ?_, fun a ha b hb hna hnb hab => ?_, fun k' hk' hn i hi => ?_⟩
  · by_cases h : k' = k
    · subst h; rw [upd_same]; exact hv
    · rw [oth k' hk' h]
      exact F.keep k' hk' _ _ _ hE (hd.is k' hk' (old k' hk' hn h))
  · by_cases h : a = k
    · have h' : b ≠ k := fun hh => hab (h.trans hh.symm)
      rw [oth b hb h', h, upd_same]
      exact (hne b hb _ (hd.is b hb (old b hb hnb h'))).symm
    · rw [oth a ha h]
      by_cases h' : b = k
      · rw [h', upd_same]
        exact hne a ha _ (hd.is a ha (old a ha hna h))
      · rw [oth b hb h']
        exact hd.ne a ha b hb (old a ha hna h) (old b hb hnb h') hab
  · by_cases h : k' = k
    · subst h; rw [upd_same]; exact hsp i (hB.2 i hi)
    · rw [oth k' hk' h]; exact hd.out k' hk' (old k' hk' hn h) i hi

theorem Fls.kept (F : Fls P ops Q G n ks dOf Φ B) {p : List Nat} {fl : Nat → Value} {w w' : World} (h : Dn ks dOf Φ Iv p fl w) (hF : Ext w w') : Dn ks dOf Φ ((w.heap.size, w'.heap.size) :: Iv) p fl w' :=
  ⟨fun k hk hn => F.keep k hk _ _ _ hF (h.is k hk hn), h.ne, fun k hk hn i hi => by
    rcases List.mem_cons.1 hi with rfl | hi
    · exact F.below k hk _ _ _ (h.is k hk hn)
    · exact h.out k hk hn i hi⟩
theorem grown {w w' : World} {G : Nat → Prop} (hB : B ≤ w.heap.size ∧ ∀ i ∈ Iv, i.2 ≤ w.heap.size) (h : Frm G w w') : B ≤ w'.heap.size ∧ ∀ i ∈ Iv, i.2 ≤ w'.heap.size :=
  ⟨Nat.le_trans hB.1 h.size, fun i hi => Nat.le_trans (hB.2 i hi) h.size⟩

theorem wStart {fuel : Nat} {l0 : Array Bool} {e : Nat → Value} {w : World} (h : Wf P ops Q G n ks dOf Φ w.heap.size [] fuel l0 e w) : Dr P ops Q G (fuel + ks.length) l0 (mkA [] n e) w := by
  have := h ⟨Nat.le_refl _, fun _ h => by cases h⟩ ks l0 e w .nil (Frm.refl _ w) ⟨fun k h1 h2 => absurd h1 h2, fun k h1 _ _ h2 => absurd h1 h2, fun k h1 h2 => absurd h1 h2⟩
  have ho : over (ks.map dOf) e e = e := by funext s; simp only [over]; cases (ks.map dOf).any (Nat.beq s) <;> rfl
  rwa [ho] at this

/-- The one operation that may come up beside ks. -/
theorem wOp (F : Fls P ops Q G n ks dOf Φ B) {fuel : Nat} {l0 : Array Bool} {e : Nat → Value} {w : World} (j : Nat)
    (hc : (!ks.contains j && chk (fun p l => (Region.ready .any ops l).contains j && (Region.ready .any ops l).all fun i => i == j || p.contains i) ks.length ks l0) = true)
    (h : ∀ fl w1, Ext w w1 → wpOp P ops (NoPanic Q) j (fun a' w' => Ext w1 w' ∧ ∃ e', a' = mkA [] n (over (ks.map dOf) fl e') ∧ Wf P ops Q G n ks dOf Φ B ((w1.heap.size, w'.heap.size) :: Iv) fuel (l0.setIfInBounds j true) e' w') (mkA [] n (over (ks.map dOf) fl e)) w1) :
    Wf P ops Q G n ks dOf Φ B Iv (fuel + 1) l0 e w := by
  simp only [Bool.and_eq_true] at hc
  have hj : j ∉ ks := by simpa using hc.1
  intro hB
  suffices H : ∀ m p l fl w', p.length = m → Rch ks l0 p l → Ext w w' → Dn ks dOf Φ Iv p fl w' → Dr P ops Q G (fuel + p.length + 1) l (mkA [] n (over (ks.map dOf) fl e)) w' by
    intro p l fl w' hr hE hd
    rw [show fuel + 1 + p.length = fuel + p.length + 1 by omega]
    exact H _ p l fl w' rfl hr hE hd
  intro m
  induction m with
  | zero =>
    intro p l fl w' hm hr hE hd
    have ht := hr.test hc.2
    simp only [Bool.and_eq_true, List.all_eq_true] at ht
    refine ⟨fun h0 => (by rw [h0] at ht; simp at ht), fun i hi => ?_⟩
    have hp : p = [] := List.length_eq_zero_iff.1 hm
    have hij : i = j := by have := ht.2 i hi; simpa [hp] using this
    subst hij
    exact wpOp_mono (fun a' w'' ⟨hF, e', ha, hW⟩ => ⟨.of_ext hF, by
      rw [ha]
      exact hW (have hg := grown (grown hB hE) hF; ⟨hg.1, fun i hi => by
          rcases List.mem_cons.1 hi with rfl | hi
          · exact Nat.le_refl _
          · exact hg.2 i hi⟩) p _ fl w'' (hr.set hj).1 (Frm.refl _ _) (F.kept hd hF)⟩) (h fl w' hE)
  | succ m ih =>
    intro p l fl w' hm hr hE hd
    have ht := hr.test hc.2
    simp only [Bool.and_eq_true, List.all_eq_true] at ht
    refine ⟨fun h0 => (by rw [h0] at ht; simp at ht), fun i hi => ?_⟩
    by_cases hij : i = j
    · subst hij
      exact wpOp_mono (fun a' w'' ⟨hF, e', ha, hW⟩ => ⟨.of_ext hF, by
        rw [ha]
        exact hW (have hg := grown (grown hB hE) hF; ⟨hg.1, fun i hi => by
          rcases List.mem_cons.1 hi with rfl | hi
          · exact Nat.le_refl _
          · exact hg.2 i hi⟩) p _ fl w'' (hr.set hj).1 (Frm.refl _ _) (F.kept hd hF)⟩) (h fl w' hE)
    · have hip : i ∈ p := by have := ht.2 i hi; simpa [hij] using this
      have hl := List.length_erase_of_mem hip
      refine F.step hr hip (grown hB hE) hd fun fl' w'' hE' hd' => ?_
      have := ih (p.erase i) (l.setIfInBounds i true) fl' w'' (by omega) (hr.cons hip) (hE.trans hE') hd'
      rwa [show fuel + (p.erase i).length + 1 = fuel + p.length by omega] at this

/-- Behind an operation: the slots of ks are as they were. -/
theorem wNext {fuel : Nat} {l0 : Array Bool} {fl e : Nat → Value} {w : World} {d : Nat} {v : Value} (hd : (ks.map dOf).any (Nat.beq d) = false)
    (h : Wf P ops Q G n ks dOf Φ B Iv fuel l0 (upd e d v) w) : ∃ e', mkA [] n (upd (over (ks.map dOf) fl e) d v) = mkA [] n (over (ks.map dOf) fl e') ∧ Wf P ops Q G n ks dOf Φ B Iv fuel l0 e' w :=
  ⟨upd e d v, by rw [over_upd_out hd], h⟩
theorem wNext0 {fuel : Nat} {l0 : Array Bool} {fl e : Nat → Value} {w : World}
    (h : Wf P ops Q G n ks dOf Φ B Iv fuel l0 e w) : ∃ e', mkA [] n (over (ks.map dOf) fl e) = mkA [] n (over (ks.map dOf) fl e') ∧ Wf P ops Q G n ks dOf Φ B Iv fuel l0 e' w := ⟨e, rfl, h⟩

/-- An operation that only yields. -/
theorem wEv {fuel : Nat} {l0 : Array Bool} {e : Nat → Value} {w : World} (i : Nat) {o : Oper} {d : Nat} {v : Value}
    (ho : ops[i]? = some o) (hv : ∀ fl w', Frm G w w' → Ev P n (over (ks.map dOf) fl e) o w' v) (hd : o.dst = some d) (hg : ∀ fl, wantedB n (over (ks.map dOf) fl e) ops o.guard = true)
    (hc : (!ks.contains i && (!(ks.map dOf).any (Nat.beq d) && chk (fun _ l => Region.noSelect ops && Region.free .any ops l i && (Region.ready .any ops l).contains i) ks.length ks l0)) = true)
    (k : Wf P ops Q G n ks dOf Φ B Iv fuel (l0.setIfInBounds i true) (upd e d v) w) : Wf P ops Q G n ks dOf Φ B Iv (fuel + 1) l0 e w := by
  simp only [Bool.and_eq_true] at hc
  have hj : i ∉ ks := by simpa using hc.1
  intro hB p l fl w' hr hE hd'
  rw [show fuel + 1 + p.length = fuel + p.length + 1 by omega]
  refine dEv i ho (fun w'' hF => hv fl w'' ((Frm.of_ext hE).trans hF)) hd (hg fl) (hr.test hc.2.2) ?_
  rw [over_upd_out (by simpa using hc.2.1)]
  exact k hB p _ fl w' (hr.set hj).1 hE hd'

/-- Nothing but ks is left: all have come up. -/
theorem wEnd (F : Fls P ops Q G n ks dOf Φ B) {fuel : Nat} {l0 : Array Bool} {e : Nat → Value} {w : World} (l1 : Array Bool)
    (hc : chk (fun p l => bif p.isEmpty then l == l1 else !(Region.ready .any ops l).isEmpty && (Region.ready .any ops l).all fun i => p.contains i) ks.length ks l0 = true)
    (h : ∀ fl w', Ext w w' → Dn ks dOf Φ Iv [] fl w' → Dr P ops Q G fuel l1 (mkA [] n (over (ks.map dOf) fl e)) w') : Wf P ops Q G n ks dOf Φ B Iv fuel l0 e w := by
  intro hB
  suffices H : ∀ m p l fl w', p.length = m → Rch ks l0 p l → Ext w w' → Dn ks dOf Φ Iv p fl w' → Dr P ops Q G (fuel + p.length) l (mkA [] n (over (ks.map dOf) fl e)) w' from
    fun p l fl w' hr hE hd => H _ p l fl w' rfl hr hE hd
  intro m
  induction m with
  | zero =>
    intro p l fl w' hm hr hE hd
    have hp : p = [] := List.length_eq_zero_iff.1 hm
    subst hp
    have ht := hr.test hc
    simp only [List.isEmpty_nil, cond_true, beq_iff_eq] at ht
    subst ht
    exact h fl w' hE hd
  | succ m ih =>
    intro p l fl w' hm hr hE hd
    have ht := hr.test hc
    have hp : p.isEmpty = false := by cases p <;> simp_all
    simp only [hp, cond_false, Bool.and_eq_true, List.all_eq_true] at ht
    rw [show fuel + p.length = fuel + m + 1 by omega]
    refine ⟨fun h0 => (by rw [h0] at ht; simp at ht), fun i hi => ?_⟩
    have hip : i ∈ p := by have := ht.2 i hi; simpa using this
    have hl := List.length_erase_of_mem hip
    refine F.step hr hip (grown hB hE) hd fun fl' w'' hE' hd' => ?_
    have := ih (p.erase i) (l.setIfInBounds i true) fl' w'' (by omega) (hr.cons hip) (hE.trans hE') hd'
    rwa [show fuel + (p.erase i).length = fuel + m by omega] at this

/-! ### allocations -/
/-- Operation k is an allocation: into slot, of type, these cells. -/
def AlOp (P : Program) (ops : Array Oper) (Q : Exit → Act → World → Prop) (n : Nat) (tab : Nat → Nat × TypeId × List Value) (k : Nat) : Prop :=
  ∀ (e : Nat → Value) (w : World) (K : Act → World → Prop), (∀ w', Ext w w' → Blk w' w.heap.size (tab k).2.1 (tab k).2.2 → K (mkA [] n (upd e (tab k).1 (.pointer (some ⟨w.heap.size, 0, none⟩)))) w') → wpOp P ops (NoPanic Q) k K (mkA [] n e) w
def AllK (p : Nat → Prop) : List Nat → Prop
  | [] => True
  | k :: ks => p k ∧ AllK p ks
theorem AllK.at {p : Nat → Prop} : ∀ {ks : List Nat}, AllK p ks → ∀ k ∈ ks, p k
  | _ :: _, h, k, hk => by
    rcases List.mem_cons.1 hk with rfl | hk
    · exact h.1
    · exact AllK.at h.2 k hk
theorem alOp {tab : Nat → Nat × TypeId × List Value} {k : Nat} {o : Oper} {z : Value} {ty : _} {pos : _} {af : _} (ho : ops[k]? = some o) (hs : o = ⟨some (tab k).1, .alloc (tab k).2.1, ty, pos, af, none⟩)
    (hz : ∀ w, (zeroValue (tab k).2.1).run P w = .ok z w) (hc : z.cells = (tab k).2.2.toArray) : AlOp P ops Q n tab k := by
  intro e w K h
  subst hs
  refine dWp ho rfl (oAlloc _ hz hc fun g w' hg hE _ hB => ?_)
  subst hg
  exact h w' hE hB

def alPhi (tab : Nat → Nat × TypeId × List Value) (B : Nat) : Nat → Value → World → Prop := fun k v w => ∃ q, v = .pointer (some ⟨q, 0, none⟩) ∧ B ≤ q ∧ Blk w q (tab k).2.1 (tab k).2.2
theorem inj_nodup {f : Nat → Nat} : ∀ {l : List Nat}, (l.map f).Nodup → ∀ {a b : Nat}, a ∈ l → b ∈ l → f a = f b → a = b
  | x :: l, h, a, b, ha, hb, he => by
    rw [List.map_cons, List.nodup_cons] at h
    rcases List.mem_cons.1 ha with h1 | h1 <;> rcases List.mem_cons.1 hb with h2 | h2
    · rw [h1, h2]
    · exact absurd (List.mem_map.2 ⟨b, h2, by rw [← he, h1]⟩) h.1
    · exact absurd (List.mem_map.2 ⟨a, h1, by rw [he, h2]⟩) h.1
    · exact inj_nodup h.2 h1 h2 he
theorem flsAl {tab : Nat → Nat × TypeId × List Value} (h : AllK (AlOp P ops Q n tab) ks) (hi : (ks.map fun k => (tab k).1).Nodup) : Fls P ops Q G n ks (fun k => (tab k).1) (alPhi tab B) B := by
  refine ⟨fun k hk e w hB => h.at k hk e w _ fun w' hE hb => ⟨hE, _, rfl, ⟨_, rfl, hB, hb⟩, fun k' _ v' ⟨q, hv, _, hq⟩ he => ?_, fun i hi q o r he => ?_⟩, fun k hk v w w' hF ⟨q, hv, hl, hq⟩ => ⟨q, hv, hl, hq.frm hF fun hg => hg⟩, fun k _ v w x ⟨q, hv, _, hq⟩ q' o r he => ?_, ?_, ?_⟩
  · rw [hv] at he
    have := hq.lt
    injection he with he; injection he with he; injection he with he
    omega
  · injection he with he; injection he with he; injection he with he
    exact .inr (by omega)
  · rw [hv] at he
    have := hq.lt
    injection he with he; injection he with he; injection he with he
    exact .inl (by show q' < w.heap.size; omega)
  · intro k hk k' hk' he
    exact inj_nodup hi hk hk' he
  · exact List.Pairwise.of_map _ (fun a b h he => h (by rw [he])) hi

theorem over_cons {d : Nat} {ds : List Nat} {fl e : Nat → Value} : over (d :: ds) fl e = upd (over ds fl e) d (fl d) := by
  funext s
  by_cases hs : s = d
  · subst hs; simp [over, upd_same]
  · simp [over, upd_other _ _ hs, beq_ne hs]
theorem over_nil {fl e : Nat → Value} : over [] fl e = e := rfl

/-- Block q lies outside of all that was made meanwhile. -/
def Off (q : Nat) : List (Nat × Nat) → Prop
  | [] => True
  | i :: l => (q < i.1 ∨ i.2 ≤ q) ∧ Off q l
theorem off_of {q : Nat} : ∀ {l : List (Nat × Nat)}, (∀ i ∈ l, q < i.1 ∨ i.2 ≤ q) → Off q l
  | [], _ => trivial
  | i :: _, h => ⟨h i (by simp), off_of fun j hj => h j (by simp [hj])⟩
theorem Off.ne {q : Nat} : ∀ {l : List (Nat × Nat)}, Off q l → ∀ (a b : Nat), (a, b) ∈ l → ∀ x, a ≤ x → x < b → x ≠ q
  | i :: l, h, a, b, hm, x, h1, h2 => by
    rcases List.mem_cons.1 hm with he | hm
    · have := h.1; rw [← he] at this; dsimp only at this; omega
    · exact Off.ne h.2 a b hm x h1 h2
theorem wEnd1 {tab : Nat → Nat × TypeId × List Value} {k1 : Nat} (F : Fls P ops Q G n [k1] (fun k => (tab k).1) (alPhi tab B) B) {fuel : Nat} {l0 : Array Bool} {e : Nat → Value} {w : World} (l1 : Array Bool)
    (hc : chk (fun p l => bif p.isEmpty then l == l1 else !(Region.ready .any ops l).isEmpty && (Region.ready .any ops l).all fun i => p.contains i) 1 [k1] l0 = true)
    (h : ∀ q1 w', Ext w w' → B ≤ q1 → Blk w' q1 (tab k1).2.1 (tab k1).2.2 → Off q1 Iv → Dr P ops Q G fuel l1 (mkA [] n (upd e (tab k1).1 (.pointer (some ⟨q1, 0, none⟩)))) w') :
    Wf P ops Q G n [k1] (fun k => (tab k).1) (alPhi tab B) B Iv fuel l0 e w := by
  refine wEnd F l1 hc fun fl w' hE hd => ?_
  obtain ⟨q1, h1, hb1, hB1⟩ := hd.is k1 (by simp) (by simp)
  simp only [List.map_cons, List.map_nil, over_cons, over_nil, h1]
  exact h q1 w' hE hb1 hB1 (off_of fun i hi => hd.out k1 (by simp) (by simp) i hi _ _ _ h1)
theorem wEnd2 {tab : Nat → Nat × TypeId × List Value} {k1 k2 : Nat} (F : Fls P ops Q G n [k1, k2] (fun k => (tab k).1) (alPhi tab B) B) {fuel : Nat} {l0 : Array Bool} {e : Nat → Value} {w : World} (l1 : Array Bool)
    (hc : chk (fun p l => bif p.isEmpty then l == l1 else !(Region.ready .any ops l).isEmpty && (Region.ready .any ops l).all fun i => p.contains i) 2 [k1, k2] l0 = true)
    (h : ∀ q1 q2 w', Ext w w' → B ≤ q1 → B ≤ q2 → q1 ≠ q2 → Blk w' q1 (tab k1).2.1 (tab k1).2.2 → Blk w' q2 (tab k2).2.1 (tab k2).2.2 → Off q1 Iv → Off q2 Iv → Dr P ops Q G fuel l1 (mkA [] n (upd (upd e (tab k2).1 (.pointer (some ⟨q2, 0, none⟩))) (tab k1).1 (.pointer (some ⟨q1, 0, none⟩)))) w') :
    Wf P ops Q G n [k1, k2] (fun k => (tab k).1) (alPhi tab B) B Iv fuel l0 e w := by
  refine wEnd F l1 hc fun fl w' hE hd => ?_
  have hn := F.nodup
  have hk : k1 ≠ k2 := by intro hh; subst hh; simp at hn
  obtain ⟨q1, h1, hb1, hB1⟩ := hd.is k1 (by simp) (by simp)
  obtain ⟨q2, h2, hb2, hB2⟩ := hd.is k2 (by simp) (by simp)
  have hne := hd.ne k1 (by simp) k2 (by simp) (by simp) (by simp) hk
  simp only [List.map_cons, List.map_nil, over_cons, over_nil]
  rw [h1, h2] at hne
  rw [h1, h2]
  exact h q1 q2 w' hE hb1 hb2 (fun hh => hne (by rw [hh])) hB1 hB2 (off_of fun i hi => hd.out k1 (by simp) (by simp) i hi _ _ _ h1) (off_of fun i hi => hd.out k2 (by simp) (by simp) i hi _ _ _ h2)
theorem wAl1 {fuel : Nat} {l0 : Array Bool} {e : Nat → Value} {w : World} (tab : Nat → Nat × TypeId × List Value) (k1 : Nat) (h1 : AlOp P ops Q n tab k1)
    (k : Fls P ops Q G n [k1] (fun k => (tab k).1) (alPhi tab w.heap.size) w.heap.size → Wf P ops Q G n [k1] (fun k => (tab k).1) (alPhi tab w.heap.size) w.heap.size [] fuel l0 e w) : Dr P ops Q G (fuel + 1) l0 (mkA [] n e) w :=
  wStart (k (flsAl ⟨h1, trivial⟩ (by simp)))
theorem wAl2 {fuel : Nat} {l0 : Array Bool} {e : Nat → Value} {w : World} (tab : Nat → Nat × TypeId × List Value) (k1 k2 : Nat) (h1 : AlOp P ops Q n tab k1) (h2 : AlOp P ops Q n tab k2) (hd : Nat.beq (tab k1).1 (tab k2).1 = false)
    (k : Fls P ops Q G n [k1, k2] (fun k => (tab k).1) (alPhi tab w.heap.size) w.heap.size → Wf P ops Q G n [k1, k2] (fun k => (tab k).1) (alPhi tab w.heap.size) w.heap.size [] fuel l0 e w) : Dr P ops Q G (fuel + 1 + 1) l0 (mkA [] n e) w :=
  wStart (k (flsAl ⟨h1, h2, trivial⟩ (by
    have : (tab k1).1 ≠ (tab k2).1 := fun h => by rw [h, beq_self] at hd; cases hd
    simp [this])))
end
attribute [irreducible] Wf
end Go.Gx
