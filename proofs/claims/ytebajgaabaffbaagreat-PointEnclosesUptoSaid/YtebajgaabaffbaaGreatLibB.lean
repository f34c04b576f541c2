/-
  The laws of the walks and the plain laws of numbers and polynomials, part 2: SparseMath, PointPreds, GatPreds, BldMath, TreeMath, CellPreds, QMath, PtLaws, BasisMath, PtIn, OvMath, QMath2, LevMath, SqPreds, Known, Known2, TripPreds.
-/
import Derived.Test.YtebajgaabaffbaaGreatLibA
import Derived.LoopN
/-
  Sums of terms, and their recursive form. Plain numbers; no program in sight.
-/
namespace Go.Gx
structure TM where
  c : Int
  m : M4
def M4.get (m : M4) : Nat → Int
  | 1 => m.a
  | 2 => m.b
  | 3 => m.c
  | 4 => m.d
  | _ => 0
def cmpM (x y : M4) : Int := if x.d ≠ y.d then cmpZ x.d y.d else if x.c ≠ y.c then cmpZ x.c y.c else if x.b ≠ y.b then cmpZ x.b y.b else cmpZ x.a y.a
def M4.lt (x y : M4) : Prop := x.d < y.d ∨ x.d = y.d ∧ (x.c < y.c ∨ x.c = y.c ∧ (x.b < y.b ∨ x.b = y.b ∧ x.a < y.a))
theorem cmpM_lt {x y : M4} : cmpM x y < 0 ↔ x.lt y := by
  unfold cmpM M4.lt cmpZ
  repeat' split
  all_goals omega
theorem M4.ext_ {x y : M4} (h1 : x.a = y.a) (h2 : x.b = y.b) (h3 : x.c = y.c) (h4 : x.d = y.d) : x = y := by
  cases x; cases y; simp_all
theorem cmpM_zero {x y : M4} : cmpM x y = 0 ↔ x = y := by
  constructor
  · intro h
    have h2 : x.d = y.d ∧ x.c = y.c ∧ x.b = y.b ∧ x.a = y.a := by
      unfold cmpM cmpZ at h
      repeat' split at h
      all_goals omega
    exact M4.ext_ h2.2.2.2 h2.2.2.1 h2.2.1 h2.1
  · rintro rfl; unfold cmpM cmpZ; simp
theorem M4.lt_irrefl (x : M4) : ¬ x.lt x := by unfold M4.lt; omega
theorem M4.lt_trans {x y z : M4} (h : x.lt y) (g : y.lt z) : x.lt z := by unfold M4.lt at *; omega
theorem M4.lt_tri (x y : M4) : x.lt y ∨ x = y ∨ y.lt x := by
  by_cases h : x = y
  · exact .inr (.inl h)
  · have h2 : ¬ (x.a = y.a ∧ x.b = y.b ∧ x.c = y.c ∧ x.d = y.d) := fun h3 => h (M4.ext_ h3.1 h3.2.1 h3.2.2.1 h3.2.2.2)
    unfold M4.lt; omega
def cofS : List TM → M4 → Int
  | [], _ => 0
  | t :: l, m => (if t.m = m then t.c else 0) + cofS l m
theorem cofS_perm {a b : List TM} (h : a.Perm b) (m : M4) : cofS a m = cofS b m := by
  induction h with
  | nil => rfl
  | cons t _ ih => simp only [cofS, ih]
  | swap t u l => simp only [cofS]; omega
  | trans _ _ h1 h2 => rw [h1, h2]
def CanS (l : List TM) : Prop := l.Pairwise (fun x y => y.m.lt x.m) ∧ ∀ t ∈ l, t.c ≠ 0
theorem cofS_none {l : List TM} {m : M4} (h : ∀ t ∈ l, t.m ≠ m) : cofS l m = 0 := by
  induction l with
  | nil => rfl
  | cons t l ih =>
    rw [cofS, if_neg (h t (List.mem_cons_self ..)), ih fun u hu => h u (List.mem_cons_of_mem _ hu)]; rfl
theorem CanS.head {t : TM} {l : List TM} (h : CanS (t :: l)) : cofS (t :: l) t.m = t.c ∧ ∀ u ∈ l, u.m.lt t.m := by
  have h1 := (List.pairwise_cons.1 h.1).1
  refine ⟨?_, h1⟩
  rw [cofS, if_pos rfl, cofS_none fun u hu e => ?_]
  · omega
  · have := h1 u hu; rw [e] at this; exact M4.lt_irrefl _ this
theorem CanS.tail {t : TM} {l : List TM} (h : CanS (t :: l)) : CanS l := ⟨(List.pairwise_cons.1 h.1).2, fun u hu => h.2 u (List.mem_cons_of_mem _ hu)⟩
theorem CanS.uniq : ∀ {a b : List TM}, CanS a → CanS b → (∀ m, cofS a m = cofS b m) → a = b
  | [], [], _, _, _ => rfl
  | [], t :: b, _, hb, h => by
    exfalso
    have h1 := h t.m
    rw [hb.head.1] at h1
    exact hb.2 t (List.mem_cons_self ..) h1.symm
  | t :: a, [], ha, _, h => by
    exfalso
    have h1 := h t.m
    rw [ha.head.1] at h1
    exact ha.2 t (List.mem_cons_self ..) h1
  | t :: a, u :: b, ha, hb, h => by
    have key : t.m = u.m := by
      rcases M4.lt_tri t.m u.m with h1 | h1 | h1
      · exfalso
        have h2 := h u.m
        rw [hb.head.1, cofS_none fun x hx e => ?_] at h2
        · exact hb.2 u (List.mem_cons_self ..) h2.symm
        · rcases List.mem_cons.1 hx with rfl | hx
          · rw [e] at h1; exact M4.lt_irrefl _ h1
          · have h3 := ha.head.2 x hx
            rw [e] at h3; exact M4.lt_irrefl _ (M4.lt_trans h3 h1)
      · exact h1
      · exfalso
        have h2 := h t.m
        rw [ha.head.1, cofS_none fun x hx e => ?_] at h2
        · exact ha.2 t (List.mem_cons_self ..) h2
        · rcases List.mem_cons.1 hx with rfl | hx
          · rw [e] at h1; exact M4.lt_irrefl _ h1
          · have h3 := hb.head.2 x hx
            rw [e] at h3; exact M4.lt_irrefl _ (M4.lt_trans h3 h1)
    have hc : t.c = u.c := by
      have h2 := h t.m
      rw [ha.head.1, key, hb.head.1] at h2; exact h2
    have htu : t = u := by cases t; cases u; simp_all
    subst htu
    rw [CanS.uniq ha.tail hb.tail fun m => by have h2 := h m; simp only [cofS] at h2; omega]
def zeroT : RT := .mk 0 0 []
def bldV : Nat → List TM → RT
  | 0, ts => match ts with
    | [] => zeroT
    | t :: _ => .mk 0 t.c []
  | L + 1, ts => match ts with
    | [] => zeroT
    | t :: r => if t.m.get (L + 1) = 0 then bldV L (t :: r) else .mk ((L + 1 : Nat) : Int) 0 ((List.range (t.m.get (L + 1) + 1).toNat).map fun e : Nat => bldV L ((t :: r).filter fun u => u.m.get (L + 1) = (e : Int)))
theorem bldV_nil : ∀ L, bldV L [] = zeroT
  | 0 => rfl
  | _ + 1 => rfl
def addG (l : List TM) (c : Int) (m : M4) : List TM := match l with
  | [] => [⟨c, m⟩]
  | t :: l => if t.m = m then ⟨t.c + c, m⟩ :: l else t :: addG l c m
theorem cofS_addG (l : List TM) (c : Int) (m x : M4) : cofS (addG l c m) x = cofS l x + if m = x then c else 0 := by
  induction l with
  | nil => simp only [addG, cofS]; omega
  | cons t l ih =>
    unfold addG
    split
    · rename_i h
      simp only [cofS, h]
      by_cases hx : m = x <;> simp [hx] <;> omega
    · simp only [cofS, ih]; omega
theorem addG_monos (l : List TM) (c : Int) (m : M4) : (addG l c m).map TM.m = if m ∈ l.map TM.m then l.map TM.m else l.map TM.m ++ [m] := by
  induction l with
  | nil => simp [addG]
  | cons t l ih =>
    unfold addG
    by_cases h : t.m = m
    · rw [if_pos h]; simp [h]
    · rw [if_neg h]
      simp only [List.map_cons, ih, List.mem_cons]
      by_cases h2 : m ∈ l.map TM.m
      · rw [if_pos h2, if_pos (.inr h2)]
      · rw [if_neg h2, if_neg (fun h3 => h3.elim (fun e => h e.symm) h2)]; rfl
end Go.Gx

/-
  Fractions, terms and coordinates in memory. No program in sight.
-/
namespace Go.Gx
open Go.RowKit
structure QE where
  g : Bool
  A : Option Addr
  n : Nat
  c : Nat
  d : List Nat
  Av : Option Addr
  nv : Nat
  cv : Nat
  dv : List Nat
def QE.cells (q : QE) : List Value := [.bool q.g, .slice q.A q.n q.c, .slice q.Av q.nv q.cv]
def QE.red (q : QE) : Prop := ICan q.g q.d ∧ Canon isZ q.dv ∧ 0 < val q.dv ∧ Nat.gcd (val q.d) (val q.dv) = 1
def QE.ok (M : Nat) (q : QE) : Prop := q.red ∧ val q.d < 2 ^ M ∧ val q.dv < 2 ^ M
def QE.num (q : QE) : Int := zval q.g q.d
def QE.den (q : QE) : Nat := val q.dv
def QE.v (q : QE) : Rat := rv q.num q.den
def QR (M : Nat) (w : World) (S : Nat → Prop) (q : QE) : Prop := (NatR w S q.A q.n q.c q.d ∧ NatR w S q.Av q.nv q.cv q.dv) ∧ q.ok M
section
variable {M M' : Nat} {w w' : World} {S S' G : Nat → Prop} {q : QE}
theorem QR.frmB (h : QR M w S q) (f : Frm G w w') (hd : ∀ b, b < w.heap.size → S b → ¬ G b) : QR M w' S q := ⟨⟨h.1.1.frmB f hd, h.1.2.frmB f hd⟩, h.2⟩
theorem QR.ext (h : QR M w S q) (f : Ext w w') : QR M w' S q := ⟨⟨h.1.1.ext f, h.1.2.ext f⟩, h.2⟩
theorem QR.sub (h : QR M w S q) (hs : ∀ b, b < w.heap.size → S b → S' b) : QR M w S' q := ⟨⟨h.1.1.sub hs, h.1.2.sub hs⟩, h.2⟩
theorem QR.both (h : QR M w S q) (g : QR M' w S' q) : QR M w (fun b => S b ∧ S' b) q := ⟨⟨h.1.1.both g.1.1, h.1.2.both g.1.2⟩, h.2⟩
theorem QR.le (h : QR M w S q) (hM : M ≤ M') : QR M' w S q := by
  have h1 : 2 ^ M ≤ 2 ^ M' := Nat.pow_le_pow_right (by decide) hM
  exact ⟨h.1, h.2.1, Nat.lt_of_lt_of_le h.2.2.1 h1, Nat.lt_of_lt_of_le h.2.2.2 h1⟩
theorem pow_bs (M : Nat) : 2 ^ M ≤ BS ^ (M / 32 + 1) := by
  have h : BS = 2 ^ 32 := by decide
  rw [h, ← Nat.pow_mul]
  exact Nat.pow_le_pow_right (by decide) (by omega)
theorem QR.lkm (h : QR M w S q) : q.n ≤ M / 32 + 1 ∧ q.nv ≤ M / 32 + 1 := by
  obtain ⟨⟨h1, h2⟩, ⟨h3, h4, _, _⟩, h5, h6⟩ := h
  have a := lt_val_len h3.1 (Nat.lt_of_lt_of_le h5 (pow_bs M))
  have b := lt_val_len h4 (Nat.lt_of_lt_of_le h6 (pow_bs M))
  rw [h1.len] at a; rw [h2.len] at b
  exact ⟨a, b⟩
end
def QK (M : Nat) : SK QE where
  k := 3
  pos := by decide
  cells := QE.cells
  len _ := rfl
  one _ := rfl
  R := QR M
  frmB h f hd := h.frmB f hd
  ext h f := h.ext f
  sub h hs := h.sub hs
  both h g := h.both g
theorem QE.v_def {q : QE} (h : q.red) : q.v = (q.num : Rat) / ((q.den : Int) : Rat) := by
  have h1 : 0 < q.den := h.2.2.1
  unfold QE.v rv; rw [rnum_of h1, rden_of h1]
theorem QE.den_pos {q : QE} (h : q.red) : (0 : Rat) < ((q.den : Int) : Rat) := by
  have h1 : 0 < q.den := h.2.2.1
  rw [show (0 : Rat) = ((0 : Int) : Rat) from rfl, Rat.intCast_lt_intCast]; omega
theorem div_lt {a b c d : Rat} (hb : 0 < b) (hd : 0 < d) : a / b < c / d ↔ a * d < c * b := by
  rw [Rat.div_lt_iff hb, show c / d * b = c * b / d by grind, Rat.lt_div_iff hd]
theorem div_eq {a b c d : Rat} (hb : 0 < b) (hd : 0 < d) : a / b = c / d ↔ a * d = c * b := by
  constructor
  · intro h; grind
  · intro h; grind
def cmpQ (a b : Rat) : Int := if a < b then -1 else if a = b then 0 else 1
theorem cmpQ_of {a b c d : Int} (hb : 0 < b) (hd : 0 < d) : cmpZ (a * d) (c * b) = cmpQ ((a : Rat) / (b : Rat)) ((c : Rat) / (d : Rat)) := by
  have hb' : (0 : Rat) < (b : Rat) := by rw [show (0 : Rat) = ((0 : Int) : Rat) from rfl, Rat.intCast_lt_intCast]; omega
  have hd' : (0 : Rat) < (d : Rat) := by rw [show (0 : Rat) = ((0 : Int) : Rat) from rfl, Rat.intCast_lt_intCast]; omega
  unfold cmpQ cmpZ
  simp only [div_lt hb' hd', div_eq hb' hd', ← Rat.intCast_mul, Rat.intCast_lt_intCast, Rat.intCast_inj]
  repeat' split
  all_goals omega
theorem QE.cmp {p q : QE} (hp : p.red) (hq : q.red) : cmpZ (rnum p.num p.den * (rden q.den : Int)) (rnum q.num q.den * (rden p.den : Int)) = cmpQ p.v q.v := by
  have h1 : 0 < p.den := hp.2.2.1
  have h2 : 0 < q.den := hq.2.2.1
  rw [QE.v_def hp, QE.v_def hq, ← cmpQ_of (by omega) (by omega), rnum_of h1, rnum_of h2, rden_of h1, rden_of h2]
theorem cmpQ_zero {a b : Rat} : cmpQ a b = 0 ↔ a = b := by
  unfold cmpQ
  constructor
  · intro h
    split at h
    · omega
    · split at h
      · assumption
      · omega
  · rintro rfl; simp [Rat.lt_irrefl]
theorem low_le {n N D : Int} {v : Nat} (hv : 0 < v) (hg : Nat.gcd n.natAbs v = 1) (hD : 0 < D) (h : n * D = N * (v : Int)) : n.natAbs ≤ N.natAbs ∧ v ≤ D.natAbs := by
  have h1 : n.natAbs * D.natAbs = N.natAbs * v := by have := congrArg Int.natAbs h; simpa [Int.natAbs_mul] using this
  have h2 : v ∣ D.natAbs := by
    have h3 : v ∣ n.natAbs * D.natAbs := by rw [h1]; exact Nat.dvd_mul_left _ _
    exact Nat.Coprime.dvd_of_dvd_mul_left (Nat.Coprime.symm hg) h3
  have h3 : v ≤ D.natAbs := Nat.le_of_dvd (by omega) h2
  refine ⟨?_, h3⟩
  obtain ⟨k, hk⟩ := h2
  have hk0 : 0 < k := by rcases Nat.eq_zero_or_pos k with h0 | h0; · subst h0; omega
                         · exact h0
  rw [hk, Nat.mul_left_comm, Nat.mul_comm N.natAbs] at h1
  have h4 : n.natAbs * k = N.natAbs := Nat.eq_of_mul_eq_mul_left hv h1
  rw [← h4]; exact Nat.le_mul_of_pos_right _ hk0
structure TD where
  g : Bool
  A : Option Addr
  n : Nat
  c : Nat
  d : List Nat
  m : M4
def TD.cells (t : TD) : List Value := [.bool t.g, .slice t.A t.n t.c, .int .i64 t.m.a, .int .i64 t.m.b, .int .i64 t.m.c, .int .i64 t.m.d]
def TD.t (x : TD) : TM := ⟨zval x.g x.d, x.m⟩
def TD.ok (x : TD) : Prop := ICan x.g x.d ∧ val x.d < 2 ^ 63 ∧ (0 ≤ x.m.a ∧ x.m.a ≤ 255) ∧ (0 ≤ x.m.b ∧ x.m.b ≤ 255) ∧ (0 ≤ x.m.c ∧ x.m.c ≤ 255) ∧ (0 ≤ x.m.d ∧ x.m.d ≤ 255)
def TMR (w : World) (S : Nat → Prop) (x : TD) : Prop := NatR w S x.A x.n x.c x.d ∧ x.ok
def TMK : SK TD where
  k := 6
  pos := by decide
  cells := TD.cells
  len _ := rfl
  one _ := rfl
  R := TMR
  frmB h f hd := ⟨h.1.frmB f hd, h.2⟩
  ext h f := ⟨h.1.ext f, h.2⟩
  sub h hs := ⟨h.1.sub hs, h.2⟩
  both h g := ⟨h.1.both g.1, h.2⟩
theorem TMR.frmB {w w' : World} {S G : Nat → Prop} {x : TD} (h : TMR w S x) (f : Frm G w w') (hd : ∀ b, b < w.heap.size → S b → ¬ G b) : TMR w' S x := TMK.frmB h f hd
def tms (l : List TD) : List TM := l.map TD.t
structure CE where
  t : TT
  lo : QE
  hi : QE
def CE.cells (x : CE) : List Value := x.t.cells ++ x.lo.cells ++ x.hi.cells
def CR (M : Nat) (w : World) (S : Nat → Prop) (x : CE) : Prop := (TreeR w S x.t ∧ CanT x.t) ∧ QR M w S x.lo ∧ QR M w S x.hi
def CK (M : Nat) : SK CE where
  k := 10
  pos := by decide
  cells := CE.cells
  len x := by obtain ⟨t, lo, hi⟩ := x; cases t; rfl
  one x := by obtain ⟨t, lo, hi⟩ := x; cases t; rfl
  R := CR M
  frmB h f hd := ⟨⟨h.1.1.frmB f hd, h.1.2⟩, h.2.1.frmB f hd, h.2.2.frmB f hd⟩
  ext h f := ⟨⟨h.1.1.ext f, h.1.2⟩, h.2.1.ext f, h.2.2.ext f⟩
  sub h hs := ⟨⟨h.1.1.sub hs, h.1.2⟩, h.2.1.sub hs, h.2.2.sub hs⟩
  both h g := ⟨⟨h.1.1.both g.1.1, h.1.2⟩, h.2.1.both g.2.1, h.2.2.both g.2.2⟩
theorem CR.ext {M : Nat} {w w' : World} {S : Nat → Prop} {x : CE} (h : CR M w S x) (f : Ext w w') : CR M w' S x := (CK M).ext h f
structure IV where
  lo : QE
  hi : QE
def IV.cells (x : IV) : List Value := x.lo.cells ++ x.hi.cells
def IVR (M : Nat) (w : World) (S : Nat → Prop) (x : IV) : Prop := QR M w S x.lo ∧ QR M w S x.hi
def IVK (M : Nat) : SK IV where
  k := 6
  pos := by decide
  cells := IV.cells
  len _ := rfl
  one _ := rfl
  R := IVR M
  frmB h f hd := ⟨h.1.frmB f hd, h.2.frmB f hd⟩
  ext h f := ⟨h.1.ext f, h.2.ext f⟩
  sub h hs := ⟨h.1.sub hs, h.2.sub hs⟩
  both h g := ⟨h.1.both g.1, h.2.both g.2⟩
theorem IVR.frmB {M : Nat} {w w' : World} {S G : Nat → Prop} {x : IV} (h : IVR M w S x) (f : Frm G w w') (hd : ∀ b, b < w.heap.size → S b → ¬ G b) : IVR M w' S x := (IVK M).frmB h f hd
theorem IVR.ext {M : Nat} {w w' : World} {S : Nat → Prop} {x : IV} (h : IVR M w S x) (f : Ext w w') : IVR M w' S x := (IVK M).ext h f
theorem IVR.le {M M' : Nat} {w : World} {S : Nat → Prop} {x : IV} (h : IVR M w S x) (hM : M ≤ M') : IVR M' w S x := ⟨h.1.le hM, h.2.le hM⟩
theorem IVR.sub {M : Nat} {w : World} {S S' : Nat → Prop} {x : IV} (h : IVR M w S x) (hs : ∀ b, b < w.heap.size → S b → S' b) : IVR M w S' x := (IVK M).sub h hs
end Go.Gx

/-
  Terms that are gathered by their monomials. No program in sight.
-/
namespace Go.Gx
open Go.RowKit
theorem addG_at {c : Int} {m : M4} : ∀ {l : List TM} {i j : Nat}, idxM m (l.map TM.m) i = some j → ∃ k t, j = i + k ∧ l[k]? = some t ∧ t.m = m ∧ addG l c m = l.set k ⟨t.c + c, m⟩
  | [], _, _, h => by simp [idxM] at h
  | t :: l, i, j, h => by
    simp only [List.map_cons, idxM] at h
    split at h
    · rename_i hm
      injection h with h
      exact ⟨0, t, by omega, rfl, hm.symm, by simp [addG, hm]⟩
    · rename_i hm
      obtain ⟨k, u, h1, h2, h3, h4⟩ := addG_at (c := c) h
      refine ⟨k + 1, u, by omega, by simpa using h2, h3, ?_⟩
      rw [addG, if_neg (fun e => hm e.symm), h4, List.set_cons_succ]
theorem addG_new {c : Int} {m : M4} : ∀ {l : List TM} {i : Nat}, idxM m (l.map TM.m) i = none → addG l c m = l ++ [⟨c, m⟩]
  | [], _, _ => rfl
  | t :: l, i, h => by
    simp only [List.map_cons, idxM] at h
    split at h
    · cases h
    · rename_i hm
      rw [addG, if_neg (fun e => hm e.symm), addG_new h]; rfl
theorem tms_monos (l : List TD) : (tms l).map TM.m = l.map TD.m := by simp [tms, TD.t]
theorem tms_set (l : List TD) (i : Nat) (x : TD) : tms (l.set i x) = (tms l).set i x.t := by simp [tms, List.map_set]
theorem tms_append (a b : List TD) : tms (a ++ b) = tms a ++ tms b := by simp [tms]
theorem tms_found {l : List TD} {c : Int} {m : M4} {j : Nat} (h : idxM m (l.map TD.m) 0 = some j) : ∃ t, l[j]? = some t ∧ t.m = m ∧ j < l.length ∧ ∀ x : TD, x.m = m → zval x.g x.d = zval t.g t.d + c → tms (l.set j x) = addG (tms l) c m ∧ (l.set j x).map TD.m = l.map TD.m := by
  rw [← tms_monos] at h
  obtain ⟨k, u, h1, h2, h3, h4⟩ := addG_at (c := c) h
  rw [Nat.zero_add] at h1
  subst h1
  simp only [tms, List.getElem?_map, Option.map_eq_some_iff] at h2
  obtain ⟨t, ht, hu⟩ := h2
  subst hu
  have hj : j < l.length := (List.getElem?_eq_some_iff.1 ht).1
  refine ⟨t, ht, h3, hj, fun x hx hv => ?_⟩
  constructor
  · rw [tms_set, h4]
    congr 1
    show TM.mk _ _ = TM.mk _ _
    rw [hx, hv]; rfl
  · rw [List.map_set, hx]
    apply List.ext_getElem?
    intro i
    rw [List.getElem?_set]
    split
    · rename_i e; subst e
      rw [List.getElem?_map, ht]
      have h3' : t.m = m := h3
      simp [h3', hj]
    · rfl
theorem tms_new {l : List TD} {m : M4} (h : idxM m (l.map TD.m) 0 = none) (x : TD) (hx : x.m = m) : tms (l ++ [x]) = addG (tms l) (zval x.g x.d) m ∧ (l ++ [x]).map TD.m = l.map TD.m ++ [m] := by
  rw [← tms_monos] at h
  refine ⟨?_, by simp [hx]⟩
  rw [addG_new h, tms_append]
  subst hx; rfl
def gathL (p : List TM) : List TM := p.foldl (fun l t => addG l t.c t.m) []
theorem gathL_snoc (p : List TM) (t : TM) : gathL (p ++ [t]) = addG (gathL p) t.c t.m := by simp [gathL]
theorem cofS_fold (p : List TM) (l : List TM) (x : M4) : cofS (p.foldl (fun l t => addG l t.c t.m) l) x = cofS l x + cofS p x := by
  induction p generalizing l with
  | nil => simp [cofS]
  | cons t p ih =>
    rw [List.foldl_cons, ih, cofS_addG, cofS]; omega
theorem cofS_gath (p : List TM) (x : M4) : cofS (gathL p) x = cofS p x := by rw [gathL, cofS_fold, cofS]; omega
theorem addG_nodup {l : List TM} {c : Int} {m : M4} (h : (l.map TM.m).Nodup) : ((addG l c m).map TM.m).Nodup := by
  rw [addG_monos]
  split
  · exact h
  · rename_i hm
    rw [List.nodup_append]
    exact ⟨h, by simp, fun a ha b hb => by rw [List.mem_singleton.1 hb]; exact fun e => hm (e ▸ ha)⟩
theorem gath_nodup (p : List TM) : ((gathL p).map TM.m).Nodup := by
  have key : ∀ (p l : List TM), (l.map TM.m).Nodup → ((p.foldl (fun l t => addG l t.c t.m) l).map TM.m).Nodup := by
    intro p
    induction p with
    | nil => intro l h; exact h
    | cons t p ih => intro l h; exact ih _ (addG_nodup h)
  exact key p [] (by simp)
def nzT (l : List TM) : List TM := l.filter fun t => t.c ≠ 0
theorem cofS_nz (l : List TM) (x : M4) : cofS (nzT l) x = cofS l x := by
  induction l with
  | nil => rfl
  | cons t l ih =>
    unfold nzT at ih ⊢
    by_cases h : t.c = 0
    · rw [List.filter_cons_of_neg (by simp [h]), ih, cofS, h]; simp
    · rw [List.filter_cons_of_pos (by simp [h]), cofS, cofS, ih]
theorem nodup_nz {l : List TM} (h : (l.map TM.m).Nodup) : ((nzT l).map TM.m).Nodup := h.sublist (List.filter_sublist.map _)
theorem nz_snoc (l : List TM) (t : TM) : nzT (l ++ [t]) = if t.c = 0 then nzT l else nzT l ++ [t] := by
  unfold nzT
  rw [List.filter_append]
  by_cases h : t.c = 0 <;> simp [h]
theorem canS_sorted {a l : List TM} (hp : l.Perm (nzT a)) (hn : (a.map TM.m).Nodup) (hs : l.Pairwise fun x y => ¬ x.m.lt y.m) : CanS l ∧ ∀ m, cofS l m = cofS a m := by
  have h1 : (l.map TM.m).Nodup := (hp.map TM.m).nodup_iff.2 (nodup_nz hn)
  refine ⟨⟨?_, fun t ht => ?_⟩, fun m => by rw [cofS_perm hp, cofS_nz]⟩
  · rw [List.Nodup, List.pairwise_map] at h1
    refine (hs.and h1).imp fun h => ?_
    rcases M4.lt_tri _ _ with h2 | h2 | h2
    · exact absurd h2 h.1
    · exact absurd h2 h.2
    · exact h2
  · have := hp.mem_iff.1 ht
    simpa [nzT] using (List.mem_filter.1 this).2
theorem cmpZ_iff {a b : Int} : cmpZ a b = 0 ↔ a = b := by unfold cmpZ; repeat' split; all_goals omega
theorem cmpM0 {a b c d a' b' c' d' : Int} (h4 : cmpZ d d' = 0) (h3 : cmpZ c c' = 0) (h2 : cmpZ b b' = 0) (h1 : cmpZ a a' = 0) : (0 : Int) = cmpM ⟨a, b, c, d⟩ ⟨a', b', c', d'⟩ := by
  rw [cmpZ_iff.1 h4, cmpZ_iff.1 h3, cmpZ_iff.1 h2, cmpZ_iff.1 h1]
  exact (cmpM_zero.2 rfl).symm
theorem cmpM1 {a b c d a' b' c' d' r : Int} (h0 : r ≠ 0) (h4 : r = cmpZ d d') : r = cmpM ⟨a, b, c, d⟩ ⟨a', b', c', d'⟩ := by
  unfold cmpM; dsimp only
  rw [if_pos (fun e => h0 (by rw [h4, e]; exact cmpZ_iff.2 rfl)), h4]
theorem cmpM2 {a b c d a' b' c' d' r : Int} (h4 : cmpZ d d' = 0) (h0 : r ≠ 0) (h3 : r = cmpZ c c') : r = cmpM ⟨a, b, c, d⟩ ⟨a', b', c', d'⟩ := by
  unfold cmpM; dsimp only
  rw [if_neg (fun h => h (cmpZ_iff.1 h4)), if_pos (fun e => h0 (by rw [h3, e]; exact cmpZ_iff.2 rfl)), h3]
theorem cmpM3 {a b c d a' b' c' d' r : Int} (h4 : cmpZ d d' = 0) (h3 : cmpZ c c' = 0) (h0 : r ≠ 0) (h2 : r = cmpZ b b') : r = cmpM ⟨a, b, c, d⟩ ⟨a', b', c', d'⟩ := by
  unfold cmpM; dsimp only
  rw [if_neg (fun h => h (cmpZ_iff.1 h4)), if_neg (fun h => h (cmpZ_iff.1 h3)), if_pos (fun e => h0 (by rw [h2, e]; exact cmpZ_iff.2 rfl)), h2]
theorem cmpM4 {a b c d a' b' c' d' r : Int} (h4 : cmpZ d d' = 0) (h3 : cmpZ c c' = 0) (h2 : cmpZ b b' = 0) (_ : r ≠ 0) (h1 : r = cmpZ a a') : r = cmpM ⟨a, b, c, d⟩ ⟨a', b', c', d'⟩ := by
  unfold cmpM; dsimp only
  rw [if_neg (fun h => h (cmpZ_iff.1 h4)), if_neg (fun h => h (cmpZ_iff.1 h3)), if_neg (fun h => h (cmpZ_iff.1 h2)), h1]
section
variable {P : Program} {n : Nat} {e : Nat → Value} {w : World} {ty : TypeId} {pos : String} {af : Array Edge} {gd : Option (Nat × Bool)}
theorem evLookN {d : Option Nat} {t kt et : TypeId} {x i : Operand} {b : Nat} {ms : List M4} {m : M4} (hm : P.underlying t = some (.map kt et)) (hk : Key4 P kt et) (hx : ev n e x = .map (some b)) (hi : ev n e i = m.v) (hB : MapB w b ms) (hz : (zeroValue et).run P w = .ok (.int .i64 0) w) (h : idxM m ms 0 = none) :
    Ev P n e ⟨d, .lookup t x i true, ty, pos, af, gd⟩ w (.tuple #[.int .i64 0, .bool false]) := by
  have := evLook (d := d) (ty := ty) (pos := pos) (af := af) (gd := gd) hm hk hx hi hB hz
  rw [h] at this; exact this
theorem evLookS {d : Option Nat} {t kt et : TypeId} {x i : Operand} {b j : Nat} {ms : List M4} {m : M4} (hm : P.underlying t = some (.map kt et)) (hk : Key4 P kt et) (hx : ev n e x = .map (some b)) (hi : ev n e i = m.v) (hB : MapB w b ms) (hz : (zeroValue et).run P w = .ok (.int .i64 0) w) (h : idxM m ms 0 = some j) :
    Ev P n e ⟨d, .lookup t x i true, ty, pos, af, gd⟩ w (.tuple #[.int .i64 ((j : Nat) : Int), .bool true]) := by
  have := evLook (d := d) (ty := ty) (pos := pos) (af := af) (gd := gd) hm hk hx hi hB hz
  rw [h] at this; exact this
end
theorem nz_next_z {l lo : List TD} {i : Nat} {x : TD} (hx : l[i]? = some x) (h : tms lo = nzT (tms (l.take i))) (h0 : x.t.c = 0) : tms lo = nzT (tms (l.take (i + 1))) := by
  rw [List.take_add_one, hx, tms_append, show tms (some x).toList = [x.t] from rfl, nz_snoc, if_pos h0, h]
theorem nz_next_s {l lo : List TD} {i : Nat} {x : TD} (hx : l[i]? = some x) (h : tms lo = nzT (tms (l.take i))) (h0 : x.t.c ≠ 0) : tms (lo ++ [x]) = nzT (tms (l.take (i + 1))) := by
  rw [List.take_add_one, hx, tms_append, tms_append, show tms (some x).toList = [x.t] from rfl, nz_snoc, if_neg h0, h]; rfl
theorem gath_next {p l l2 : List TD} {i : Nat} {x : TD} (hx : p[i]? = some x) (h : tms l = gathL (tms (p.take i))) (e : tms l2 = addG (tms l) x.t.c x.t.m) : tms l2 = gathL (tms (p.take (i + 1))) := by
  rw [List.take_add_one, hx, tms_append, show tms (some x).toList = [x.t] from rfl, gathL_snoc, ← h, e]
theorem MapB.ext {w w' : World} {b : Nat} {ms : List M4} (h : MapB w b ms) (f : Ext w w') : MapB w' b ms := h.frm f fun h => h
theorem MapB.frmB {w w' : World} {G : Nat → Prop} {b : Nat} {ms : List M4} (h : MapB w b ms) (f : Frm G w w') (hd : ∀ x, x < w.heap.size → x = b → ¬ G x) : MapB w' b ms := h.frm f (hd b h.lt rfl)
def GatR (tG el : TypeId) (w : World) (Lo B pg : Nat) (l : List TD) : Prop := ∃ mb gN A n c, Blk w pg tG [.map (some mb), .slice A n c] ∧ MapB w mb (l.map TD.m) ∧ OwnN TMK w B el gN A n c l (fun b => B ≤ b) ∧ Lo ≤ pg ∧ Lo ≤ mb ∧ pg < B ∧ mb < B ∧ pg ≠ mb ∧ B ≤ w.heap.size
theorem GatR.frmB {tG el : TypeId} {w w' : World} {Lo B pg : Nat} {l : List TD} {G : Nat → Prop} (h : GatR tG el w Lo B pg l) (f : Frm G w w') (hd : ∀ b, b < w.heap.size → Lo ≤ b → ¬ G b) : GatR tG el w' Lo B pg l := by
  obtain ⟨mb, gN, A, n, c, h1, h2, h3, h4, h5, h6, h7, h8, h9⟩ := h
  exact ⟨mb, gN, A, n, c, h1.frm f (hd pg h1.lt h4), h2.frm f (hd mb h2.lt h5), h3.frmB f fun b hb hs => hd b hb (by rcases hs with hs | hs <;> omega), h4, h5, h6, h7, h8, Nat.le_trans h9 f.size⟩
section
variable {α : Type} {L : SK α} {w w' : World} {B : Nat} {el : TypeId} {gN : Nat} {A : Option Addr} {n c : Nat} {l : List α} {S S' : Nat → Prop}
theorem OwnN.base (h : OwnN L w B el gN A n c l S) (hn : 0 < n) : ∃ g, A = some ⟨g, 0, none⟩ ∧ gN = g + 1 := by
  rcases h.k.own.2 with ⟨_, h0⟩ | ⟨g, cap, cur, hv, _⟩
  · omega
  · injection hv with h1 h2 h3
    subst h1
    exact ⟨g, rfl, h.k.no.symm⟩
end
section
variable {dfs : List Deferred} {P : Program} {n : Nat} {e : Nat → Value} {w : World} {K : Act → World → Prop} {Q : Exit → Act → World → Prop} {ty : TypeId} {pos : String} {af : Array Edge} {gd : Option (Nat × Bool)}
theorem oSetN {α : Type} {L : SK α} {t el : TypeId} {a x : Operand} {B gN g m c i o : Nat} {v : Value} {l : List α} {S : Nat → Prop} {f f' : α} (vs : List Value) (ha : ev n e a = .pointer (some ⟨g, i * L.k + o, none⟩)) (hx : ev n e x = v) (hv : v.cells = vs.toArray) (hs : ∀ w, (sizeOf t).run P w = .ok vs.length w) (h1 : vs.all Value.oneCell' = true)
    (hO : OwnN L w B el gN (some ⟨g, 0, none⟩) m c l S) (hf : l[i]? = some f) (he : L.cells f' = (L.cells f).take o ++ vs ++ (L.cells f).drop (o + vs.length)) (ho : o + vs.length ≤ L.k) (hR : L.R w (fun b => S b ∧ b + 1 ≠ gN) f')
    (k : ∀ w', Frm (fun b => b + 1 = gN) w w' → w'.heap.size = w.heap.size → OwnN L w' B el gN (some ⟨g, 0, none⟩) m c (l.set i f') S → K (mkA dfs n e) w') :
    OpW P ⟨none, .store t a x, ty, pos, af, gd⟩ (mkA dfs n e) w K Q := by
  have hg : gN = g + 1 := hO.k.no.symm
  rcases hO.k.own.2 with ⟨hv', h0⟩ | ⟨g', cap, cur, hv', hb, hcur, hnc, hcm, hsz, htake⟩
  · cases hv'
  · injection hv' with e1 e2 e3
    injection e1 with e1
    injection e1 with e1
    subst e1 e3
    have hi : i < l.length := (List.getElem?_eq_some_iff.1 hf).1
    have hle : i * L.k + L.k ≤ l.length * L.k := by have := Nat.mul_le_mul_right L.k (show i + 1 ≤ l.length from hi); rw [Nat.add_mul] at this; omega
    have hfl := L.flat_len l
    have hlen := hO.k.own.1
    have ecur : cur.toList = L.flat l ++ cur.toList.drop (m * L.k) := by rw [← htake, List.take_append_drop]
    have hB : Blk w g el (L.flat l ++ cur.toList.drop (m * L.k)) := by unfold Blk; rw [← ecur]; exact hcur
    refine oStore vs ha hx hv hs h1 hB (by rw [List.length_append]; omega) fun w' h2 h3 h4 => ?_
    have hF : Frm (fun b => b + 1 = gN) w w' := h2.mono fun b _ h => by rw [h, hg]
    have h5 := L.flat_part hf he ho
    have e2 : (L.flat l ++ cur.toList.drop (m * L.k)).take (i * L.k + o) ++ vs ++ (L.flat l ++ cur.toList.drop (m * L.k)).drop (i * L.k + o + vs.length) = L.flat (l.set i f') ++ cur.toList.drop (m * L.k) := by
      rw [List.take_append_of_le_length (by omega), List.drop_append_of_le_length (by omega), ← List.append_assoc, h5]
    rw [e2] at h4
    have hR2 : ∀ y : α, L.R w (fun b => S b ∧ b + 1 ≠ gN) y → L.R w' (fun b => S b ∧ b + 1 ≠ gN) y := fun y h => L.frmB h hF fun b _ hb => hb.2
    have hall : ∀ y ∈ l.set i f', L.R w' (fun b => S b ∧ b + 1 ≠ gN) y := fun y hy => by
      rcases List.mem_or_eq_of_mem_set hy with h | h
      · exact hR2 y (hO.elt h)
      · subst h; exact hR2 y hR
    refine k w' hF h3 ⟨⟨⟨?_, .inr ⟨g, c, (L.flat (l.set i f') ++ cur.toList.drop (m * L.k)).toArray, rfl, hb, h4, hnc, hcm, ?_, ?_⟩⟩, fun y hy => L.sub (hall y hy) fun b _ hb => hb.2, hO.k.no⟩, fun y hy => L.sub (hall y hy) fun b _ hb => hb.1⟩
    · rw [L.flat_len, List.length_set, ← hfl, hlen]
    · have h6 := congrArg List.length ecur
      simp only [List.length_append, Array.length_toList] at h6
      simp only [List.size_toArray, List.length_append]
      rw [L.flat_len, List.length_set, ← hfl, ← h6, hsz]
    · have h7 : (L.flat (l.set i f')).length = m * L.k := by rw [L.flat_len, List.length_set, ← hfl, hlen]
      simp [List.take_append_of_le_length (Nat.le_of_eq h7.symm), List.take_of_length_le (Nat.le_of_eq h7)]
end
end Go.Gx

/-
  From canonical terms to the recursive form, piece by piece. Plain numbers; no program in sight.
-/
namespace Go.Gx
def HiEq (L : Nat) (ts : List TM) : Prop := ∀ t ∈ ts, ∀ u ∈ ts, ∀ j, L < j → t.m.get j = u.m.get j
def NnE (ts : List TM) : Prop := ∀ t ∈ ts, ∀ j, 0 ≤ t.m.get j
theorem M4.get_big (m : M4) {j : Nat} (h : 4 < j) : m.get j = 0 := by
  unfold M4.get
  split <;> first | omega | rfl
theorem HiEq.top (ts : List TM) : HiEq 4 ts := fun t _ u _ j hj => by rw [t.m.get_big hj, u.m.get_big hj]
theorem HiEq.sub {L : Nat} {ts us : List TM} (h : HiEq L ts) (hs : ∀ t ∈ us, t ∈ ts) : HiEq L us := fun t ht u hu => h t (hs t ht) u (hs u hu)
theorem HiEq.down {L : Nat} {ts : List TM} {e : Int} (h : HiEq (L + 1) ts) (he : ∀ t ∈ ts, t.m.get (L + 1) = e) : HiEq L ts := fun t ht u hu j hj => by
  rcases Nat.lt_or_ge (L + 1) j with h1 | h1
  · exact h t ht u hu j h1
  · rw [show j = L + 1 by omega, he t ht, he u hu]
theorem lt_get {x y : M4} {L : Nat} (h : y.lt x) (h1 : 1 ≤ L) (h4 : L ≤ 4) (he : ∀ j, L < j → x.get j = y.get j) : y.get L ≤ x.get L := by
  unfold M4.lt at h
  have e2 := he 2
  have e3 := he 3
  have e4 := he 4
  rcases (show L = 1 ∨ L = 2 ∨ L = 3 ∨ L = 4 by omega) with rfl | rfl | rfl | rfl <;> simp only [M4.get] at * <;> omega
theorem desc {L : Nat} {ts : List TM} (hc : CanS ts) (h : HiEq L ts) (h1 : 1 ≤ L) (h4 : L ≤ 4) : ts.Pairwise fun x y => y.m.get L ≤ x.m.get L := by
  have h2 := hc.1
  rw [List.pairwise_iff_getElem] at h2 ⊢
  intro i j hi hj hij
  exact lt_get (h2 i j hi hj hij) h1 h4 fun k hk => h _ (List.getElem_mem hi) _ (List.getElem_mem hj) k hk
theorem CanS.subl {ts us : List TM} (h : CanS ts) (hs : us.Sublist ts) : CanS us := ⟨h.1.sublist hs, fun t ht => h.2 t (hs.subset ht)⟩
theorem bld_skip {L : Nat} {t : TM} {r : List TM} (hc : CanS (t :: r)) (h : HiEq (L + 1) (t :: r)) (h4 : L + 1 ≤ 4) (hn : NnE (t :: r)) (h0 : t.m.get (L + 1) = 0) : HiEq L (t :: r) ∧ bldV (L + 1) (t :: r) = bldV L (t :: r) := by
  refine ⟨h.down (e := 0) fun u hu => ?_, by rw [bldV, if_pos h0]⟩
  rcases List.mem_cons.1 hu with rfl | hu'
  · exact h0
  · have h1 := (List.pairwise_cons.1 (desc hc h (by omega) h4)).1 u hu'
    have h2 := hn u hu (L + 1)
    omega
theorem bld_zero {t : TM} {r : List TM} (L : Nat) (h : L = 0) : bldV L (t :: r) = .mk 0 t.c [] := by subst h; rfl
theorem bld_node {L : Nat} {t : TM} {r : List TM} (h0 : t.m.get (L + 1) ≠ 0) : bldV (L + 1) (t :: r) = .mk ((L + 1 : Nat) : Int) 0 ((List.range (t.m.get (L + 1) + 1).toNat).map fun e : Nat => bldV L ((t :: r).filter fun u => u.m.get (L + 1) = (e : Int))) := by
  rw [bldV, if_neg h0]
def RT.lev : RT → Int
  | .mk l _ _ => l
theorem bld_lev : ∀ (L : Nat) (ts : List TM), 0 ≤ (bldV L ts).lev ∧ (bldV L ts).lev ≤ L
  | 0, [] => by simp [bldV, zeroT, RT.lev]
  | 0, _ :: _ => by simp [bldV, RT.lev]
  | L + 1, [] => by simp [bldV, zeroT, RT.lev]; omega
  | L + 1, t :: r => by
    rw [bldV]
    split
    · have := bld_lev L (t :: r); omega
    · simp only [RT.lev]; omega
theorem bld_ne : ∀ {L : Nat} {ts : List TM}, CanS ts → ts ≠ [] → bldV L ts ≠ zeroT
  | _, [], _, h => absurd rfl h
  | 0, t :: r, hc, _ => by
    intro h
    simp only [bldV, zeroT] at h
    injection h with _ h2
    exact hc.2 t (List.mem_cons_self ..) h2
  | L + 1, t :: r, hc, _ => by
    rw [bldV]
    split
    · exact bld_ne hc (by simp)
    · intro h
      unfold zeroT at h
      injection h with h1
      omega
def AtB (L : Nat) (ts : List TM) (s : Nat) : Prop := ∀ v, ts[s]? = some v → ∀ u ∈ ts.take s, v.m.get L < u.m.get L
def DoneV (L : Nat) (ts : List TM) (s N : Nat) : List RT := (List.range N).map fun e : Nat => bldV L ((ts.take s).filter fun u => u.m.get (L + 1) = (e : Int))
theorem DoneV.start (L : Nat) (ts : List TM) (N : Nat) : DoneV L ts 0 N = List.replicate N zeroT := by
  unfold DoneV
  apply List.ext_getElem?
  intro i
  simp only [List.getElem?_map, List.getElem?_replicate, List.take_zero, List.filter_nil, bldV_nil]
  by_cases h : i < N
  · simp [h]
  · simp [h]
theorem AtB.start (L : Nat) (ts : List TM) : AtB L ts 0 := fun v _ u hu => by simp at hu
structure PieceB (L : Nat) (ts : List TM) (s t : Nat) (e : Int) : Prop where
  le : s ≤ t
  hi : t ≤ ts.length
  all : ∀ u ∈ (ts.take t).drop s, u.m.get L = e
theorem PieceB.start {L : Nat} {ts : List TM} {s : Nat} {e : Int} (h : s ≤ ts.length) : PieceB L ts s s e := ⟨Nat.le_refl _, h, fun u hu => by rw [List.drop_of_length_le (by simp; omega)] at hu; cases hu⟩
theorem PieceB.next {L : Nat} {ts : List TM} {s t : Nat} {e : Int} {v : TM} (h : PieceB L ts s t e) (hv : ts[t]? = some v) (he : v.m.get L = e) : PieceB L ts s (t + 1) e := by
  have ht : t < ts.length := (List.getElem?_eq_some_iff.1 hv).1
  have h1 := h.le
  refine ⟨by omega, by omega, fun u hu => ?_⟩
  rw [List.take_add_one, hv, List.drop_append_of_le_length (by simp; omega)] at hu
  rcases List.mem_append.1 hu with h2 | h2
  · exact h.all u h2
  · have h3 : u = v := by simpa using h2
    rw [h3, he]
theorem mem_piece {α : Type} {l : List α} {s t i : Nat} {v : α} (hv : l[i]? = some v) (h1 : s ≤ i) (h2 : i < t) : v ∈ (l.take t).drop s := by
  have : ((l.take t).drop s)[i - s]? = some v := by rw [List.getElem?_drop, show s + (i - s) = i by omega, List.getElem?_take, if_pos h2, hv]
  exact List.mem_of_getElem? this
theorem piece_done {L : Nat} {ts : List TM} {s t : Nat} {e : Int} {v : TM} (hd : ts.Pairwise fun x y => y.m.get L ≤ x.m.get L) (ha : AtB L ts s) (hp : PieceB L ts s t e) (hv : ts[s]? = some v) (he : v.m.get L = e) (hend : ∀ u, ts[t]? = some u → u.m.get L ≠ e) : AtB L ts t := fun u hu x hx => by
  have hle := hp.le
  have key : ∀ {i j : Nat} {a b : TM}, ts[i]? = some a → ts[j]? = some b → i ≤ j → b.m.get L ≤ a.m.get L := fun {i j a b} h1 h2 hij => by
    obtain ⟨hi, rfl⟩ := List.getElem?_eq_some_iff.1 h1
    obtain ⟨hj, rfl⟩ := List.getElem?_eq_some_iff.1 h2
    rcases Nat.lt_or_ge i j with h3 | h3
    · exact List.pairwise_iff_getElem.1 hd i j hi hj h3
    · have : i = j := by omega
      subst this; exact Int.le_refl _
  have h1 : u.m.get L ≤ e := by rw [← he]; exact key hv hu hle
  have h2 := hend u hu
  obtain ⟨i, hi⟩ := List.mem_iff_getElem?.1 hx
  rw [List.getElem?_take] at hi
  split at hi
  · rename_i hit
    rcases Nat.lt_or_ge i s with h3 | h3
    · have := ha v hv x (List.mem_of_getElem? (i := i) (by rw [List.getElem?_take, if_pos h3, hi]))
      omega
    · have := hp.all x (mem_piece hi h3 hit)
      omega
  · cases hi
theorem piece_set {L : Nat} {ts : List TM} {s t N : Nat} {e : Nat} {v : TM} (ha : AtB (L + 1) ts s) (hp : PieceB (L + 1) ts s t (e : Int)) (hv : ts[s]? = some v) (he : v.m.get (L + 1) = (e : Int)) (hN : e < N) : (DoneV L ts s N).set e (bldV L ((ts.take t).drop s)) = DoneV L ts t N := by
  have hle := hp.le
  have e1 : ts.take t = ts.take s ++ (ts.take t).drop s := by
    conv => lhs; rw [← List.take_append_drop s (ts.take t)]
    rw [List.take_take, Nat.min_eq_left hle]
  have hf : ∀ k : Int, (ts.take t).filter (fun u => u.m.get (L + 1) = k) = if k = e then (ts.take t).drop s else (ts.take s).filter (fun u => u.m.get (L + 1) = k) := fun k => by
    rw [e1, List.filter_append, ← e1]
    split
    · rename_i hk; subst hk
      rw [List.filter_eq_nil_iff.2 fun u hu => ?_, List.nil_append, List.filter_eq_self.2 fun u hu => ?_]
      · simpa using hp.all u hu
      · have := ha v hv u hu
        simp; omega
    · rename_i hk
      have h9 : ((ts.take t).drop s).filter (fun u => u.m.get (L + 1) = k) = [] := List.filter_eq_nil_iff.2 fun u hu => by
        have := hp.all u hu
        simp; omega
      rw [h9, List.append_nil]
  unfold DoneV
  apply List.ext_getElem?
  intro i
  rw [List.getElem?_set]
  by_cases hi : e = i
  · subst hi
    simp [hN, hf]
  · rw [if_neg hi]
    by_cases hiN : i < N
    · simp only [List.getElem?_map, List.getElem?_range hiN, Option.map_some, hf]
      rw [if_neg (by omega)]
    · simp [hiN]
theorem DoneV.all {L : Nat} {t : TM} {r : List TM} {s N : Nat} (hs : s = (t :: r).length) (hN : N = (t.m.get (L + 1) + 1).toNat) (h0 : t.m.get (L + 1) ≠ 0) : RT.mk ((L + 1 : Nat) : Int) 0 (DoneV L (t :: r) s N) = bldV (L + 1) (t :: r) := by
  rw [bld_node h0, DoneV, hs, hN, List.take_length]
end Go.Gx

/-
  Canonical trees: copies, comparison, levels. Plain; no program in sight.
-/
namespace Go.Gx
open Go.RowKit
theorem TT.lev_val (t : TT) : t.val.lev = t.lev := by cases t; rfl
theorem TT.val_mk {lev : Int} {g : Bool} {A : Option Addr} {n c : Nat} {d : List Nat} {Ac : Option Addr} {nc cc : Nat} {kids : List TT} : (TT.mk lev g A n c d Ac nc cc kids).val = .mk lev (zval g d) (kids.map TT.val) := by
  rw [TT.val, TT.vals_map]
def TT.zero : TT := .mk 0 false none 0 0 [] none 0 0 []
theorem TT.zero_val : TT.zero.val = zeroT := by rw [TT.zero, TT.val_mk]; rfl
theorem CanT.zero : CanT TT.zero := .const ⟨ICan.zero, by simp [val]⟩
theorem TreeR.zero {w : World} {S : Nat → Prop} : TreeR w S TT.zero := .mk NatR.nil Rd.nil fun t ht => by cases ht
section
variable {lev : Int} {g : Bool} {A : Option Addr} {n c : Nat} {d : List Nat} {Ac : Option Addr} {nc cc : Nat} {kids : List TT}
theorem CanT.const_inv (h : CanT (.mk lev g A n c d Ac nc cc kids)) (h0 : lev = 0) : (ICan g d ∧ val d < 2 ^ 63) ∧ nc = 0 ∧ kids = [] := by
  cases h with
  | const h => exact ⟨h, rfl, rfl⟩
  | node h1 => omega
theorem CanT.node_inv (h : CanT (.mk lev g A n c d Ac nc cc kids)) (h0 : lev ≠ 0) : (1 ≤ lev ∧ lev ≤ 4) ∧ g = false ∧ n = 0 ∧ d = [] ∧ (2 ≤ kids.length ∧ kids.length ≤ 256) ∧ (∀ k ∈ kids, k.lev < lev) ∧ (∀ k ∈ kids, CanT k) ∧ ∀ k, kids.getLast? = some k → k.val ≠ zeroT := by
  cases h with
  | const h => exact absurd rfl h0
  | node h1 h2 hl hk hz => exact ⟨h1, rfl, rfl, rfl, h2, hl, hk, hz⟩
theorem CanT.levB (h : CanT (.mk lev g A n c d Ac nc cc kids)) : 0 ≤ lev ∧ lev ≤ 4 := by
  cases h with
  | const h => omega
  | node h1 => omega
theorem CanT.copy (h : CanT (.mk lev g A n c d Ac nc cc kids)) (h0 : lev ≠ 0) {A' Ac' : Option Addr} {c' nc' cc' : Nat} {K : List TT} (hv : K.map TT.val = kids.map TT.val) (hK : ∀ k ∈ K, CanT k) :
    CanT (.mk lev false A' 0 c' [] Ac' nc' cc' K) ∧ (TT.mk lev false A' 0 c' [] Ac' nc' cc' K).val = (TT.mk lev g A n c d Ac nc cc kids).val := by
  obtain ⟨h1, hg, hn, hd, h2, hl, hk, hz⟩ := h.node_inv h0
  have hlen : K.length = kids.length := by have := congrArg List.length hv; simpa using this
  subst hg hd
  refine ⟨.node h1 (by omega) (fun k hk => ?_) hK fun k hk => ?_, by rw [TT.val_mk, TT.val_mk, hv]⟩
  · obtain ⟨x, hx, he⟩ := List.mem_map.1 (hv ▸ List.mem_map_of_mem (f := TT.val) hk)
    rw [← TT.lev_val, ← he, TT.lev_val]; exact hl x hx
  · have h3 : (kids.map TT.val).getLast? = some k.val := by rw [← hv, List.getLast?_map, hk]; rfl
    rw [List.getLast?_map, Option.map_eq_some_iff] at h3
    obtain ⟨x, hx, he⟩ := h3
    rw [← he]; exact hz x hx
theorem CanT.isZero (h : CanT (.mk lev g A n c d Ac nc cc kids)) (hl : d.length = n) : (TT.mk lev g A n c d Ac nc cc kids).val = zeroT ↔ lev = 0 ∧ n = 0 := by
  rw [TT.val_mk]
  constructor
  · intro h1
    unfold zeroT at h1
    injection h1 with h1 h2 h3
    obtain ⟨hc, _, _⟩ := h.const_inv h1
    refine ⟨h1, ?_⟩
    rcases Nat.eq_zero_or_pos n with h4 | h4
    · exact h4
    · exfalso
      have h5 := val_pos hc.1.1 (by intro e; subst e; simp at hl; omega)
      unfold zval at h2
      split at h2 <;> omega
  · rintro ⟨h1, h2⟩
    obtain ⟨hc, _, hk⟩ := h.const_inv h1
    have hd : d = [] := List.eq_nil_of_length_eq_zero (by omega)
    subst h1 hd hk
    cases g <;> rfl
end
theorem CanT.built {L : Nat} {t : TM} {r : List TM} {A' Ac' : Option Addr} {c' nc' cc' : Nat} {K : List TT} (h4 : L + 1 ≤ 4) (hc : CanS (t :: r)) (hn : NnE (t :: r)) (hb : t.m.get (L + 1) ≤ 255) (h0 : t.m.get (L + 1) ≠ 0) (hv : K.map TT.val = DoneV L (t :: r) (t :: r).length (t.m.get (L + 1) + 1).toNat) (hK : ∀ k ∈ K, CanT k) :
    CanT (.mk ((L + 1 : Nat) : Int) false A' 0 c' [] Ac' nc' cc' K) ∧ (TT.mk ((L + 1 : Nat) : Int) false A' 0 c' [] Ac' nc' cc' K).val = bldV (L + 1) (t :: r) := by
  have hpos := hn t (List.mem_cons_self ..) (L + 1)
  have hN : (t.m.get (L + 1) + 1).toNat = (t.m.get (L + 1)).toNat + 1 := by omega
  have hlen : K.length = (t.m.get (L + 1)).toNat + 1 := by have := congrArg List.length hv; simpa [DoneV, hN] using this
  refine ⟨.node (by omega) (by omega) (fun k hk => ?_) hK fun k hk => ?_, ?_⟩
  · have h1 : k.val ∈ DoneV L (t :: r) (t :: r).length (t.m.get (L + 1) + 1).toNat := hv ▸ List.mem_map_of_mem (f := TT.val) hk
    obtain ⟨e, _, he⟩ := List.mem_map.1 h1
    rw [← TT.lev_val, ← he]
    have := bld_lev L (((t :: r).take (t :: r).length).filter fun u => u.m.get (L + 1) = (e : Int))
    omega
  · have h3 : (DoneV L (t :: r) (t :: r).length (t.m.get (L + 1) + 1).toNat).getLast? = some k.val := by rw [← hv, List.getLast?_map, hk]; rfl
    rw [DoneV, hN, List.range_succ, List.map_append, List.map_singleton, List.getLast?_append, List.getLast?_singleton] at h3
    simp only [Option.some_or] at h3
    injection h3 with h3
    rw [← h3, List.take_length]
    have hmem : t ∈ (t :: r).filter fun u => u.m.get (L + 1) = ((t.m.get (L + 1)).toNat : Int) := List.mem_filter.2 ⟨List.mem_cons_self .., by simp; omega⟩
    exact bld_ne (hc.subl List.filter_sublist) fun e => by rw [e] at hmem; cases hmem
  · rw [TT.val_mk, hv]; exact DoneV.all rfl rfl h0
theorem val_iff {l1 l2 : Int} {g1 g2 : Bool} {A1 A2 B1 B2 : Option Addr} {n1 c1 n2 c2 m1 e1 m2 e2 : Nat} {d1 d2 : List Nat} {k1 k2 : List TT} :
    (TT.mk l1 g1 A1 n1 c1 d1 B1 m1 e1 k1).val = (TT.mk l2 g2 A2 n2 c2 d2 B2 m2 e2 k2).val ↔ l1 = l2 ∧ zval g1 d1 = zval g2 d2 ∧ k1.map TT.val = k2.map TT.val := by
  rw [TT.val_mk, TT.val_mk]
  constructor
  · intro h; injection h with a b c; exact ⟨a, b, c⟩
  · rintro ⟨rfl, h, h2⟩; rw [h, h2]
theorem tms_part (l : List TD) (s t : Nat) : tms ((l.take t).drop s) = ((tms l).take t).drop s := by simp [tms, List.map_take, List.map_drop]
theorem M4.get_range {x : TD} (h : x.ok) (j : Nat) : 0 ≤ x.m.get j ∧ x.m.get j ≤ 255 := by
  obtain ⟨_, _, h1, h2, h3, h4⟩ := h
  unfold M4.get
  split <;> omega
theorem nn_of {l : List TD} (h : ∀ x ∈ l, x.ok) : NnE (tms l) := fun t ht j => by
  obtain ⟨x, hx, rfl⟩ := List.mem_map.1 ht
  exact (M4.get_range (h x hx) j).1
theorem tms_get {l : List TD} {i : Nat} {x : TD} (h : l[i]? = some x) : (tms l)[i]? = some x.t := by simp [tms, h]
theorem tms_len (l : List TD) : (tms l).length = l.length := by simp [tms]
theorem head_skip {f : TD} {r : List TD} {L : Nat} (hc : CanS (tms (f :: r))) (hh : HiEq L (tms (f :: r))) (h4 : L ≤ 4) (hok : ∀ x ∈ f :: r, x.ok) (hL : 0 < L) (h0 : f.m.get L = 0) : HiEq (L - 1) (tms (f :: r)) ∧ bldV L (tms (f :: r)) = bldV (L - 1) (tms (f :: r)) := by
  obtain ⟨M, rfl⟩ : ∃ M, L = M + 1 := ⟨L - 1, by omega⟩
  exact bld_skip (t := f.t) (r := tms r) hc hh h4 (nn_of hok) h0
theorem part_can {l : List TD} {s t : Nat} (h : CanS (tms l)) : CanS (tms ((l.take t).drop s)) := by
  rw [tms_part]; exact h.subl ((List.drop_sublist _ _).trans (List.take_sublist _ _))
theorem part_hi {l : List TD} {s t L : Nat} {e : Int} (h : HiEq (L + 1) (tms l)) (hp : PieceB (L + 1) (tms l) s t e) : HiEq L (tms ((l.take t).drop s)) := by
  rw [tms_part]
  exact (h.sub fun u hu => List.mem_of_mem_take (List.mem_of_mem_drop hu)).down hp.all
theorem piece_next {l : List TD} {s t L : Nat} {x y : TD} (hp : PieceB L (tms l) s t (x.m.get L)) (hy : l[t]? = some y) (he : y.m.get L = x.m.get L) : PieceB L (tms l) s (t + 1) (x.m.get L) := hp.next (tms_get hy) he
theorem piece_lt {l : List TD} {s t L : Nat} {x y : TD} (hst : s ≤ t) (hx : l[s]? = some x) (hy : l[t]? = some y) (he : ¬ y.m.get L = x.m.get L) : s < t := by
  rcases Nat.lt_or_ge s t with h | h
  · exact h
  · exfalso
    have e : s = t := by omega
    subst e
    rw [hx] at hy; injection hy with hy; subst hy; exact he rfl
theorem piece_end {l : List TD} {t L : Nat} {x y : TD} (hy : l[t]? = some y) (he : ¬ y.m.get L = x.m.get L) : ∀ u, (tms l)[t]? = some u → u.m.get L ≠ x.m.get L := fun u hu => by
  rw [tms_get hy] at hu; injection hu with hu; subst hu; exact he
theorem piece_end0 {l : List TD} {t L : Nat} {x : TD} (h : l.length ≤ t) : ∀ u, (tms l)[t]? = some u → u.m.get L ≠ x.m.get L := fun u hu => by
  rw [List.getElem?_eq_none (by rw [tms_len]; exact h)] at hu; cases hu
theorem kids_set {l : List TD} {K : List TT} {s t N M : Nat} {x : TD} {k : TT} (hv : K.map TT.val = DoneV M (tms l) s N) (ha : AtB (M + 1) (tms l) s) (hp : PieceB (M + 1) (tms l) s t (x.m.get (M + 1))) (hx : l[s]? = some x) (h0 : 0 ≤ x.m.get (M + 1)) (hN : (x.m.get (M + 1)).toNat < N) (hk : k.val = bldV M (tms ((l.take t).drop s))) :
    (K.set (x.m.get (M + 1)).toNat k).map TT.val = DoneV M (tms l) t N := by
  rw [List.map_set, hv, hk, tms_part]
  have e : (((x.m.get (M + 1)).toNat : Nat) : Int) = x.m.get (M + 1) := Int.toNat_of_nonneg h0
  exact piece_set ha (by rw [e]; exact hp) (tms_get hx) (by rw [e]; rfl) hN
theorem can_set {K : List TT} {i : Nat} {k : TT} (h : ∀ x ∈ K, CanT x) (hk : CanT k) : ∀ x ∈ K.set i k, CanT x := fun x hx => by
  rcases List.mem_or_eq_of_mem_set hx with h1 | h1
  · exact h x h1
  · rw [h1]; exact hk
theorem at_next {l : List TD} {s t M : Nat} {x : TD} (hc : CanS (tms l)) (hh : HiEq (M + 1) (tms l)) (h4 : M + 1 ≤ 4) (ha : AtB (M + 1) (tms l) s) (hp : PieceB (M + 1) (tms l) s t (x.m.get (M + 1))) (hx : l[s]? = some x) (he : ∀ u, (tms l)[t]? = some u → u.m.get (M + 1) ≠ x.m.get (M + 1)) : AtB (M + 1) (tms l) t :=
  piece_done (desc hc hh (by omega) h4) ha hp (tms_get hx) rfl he
theorem get_le {f x : TD} {r : List TD} {s M : Nat} (hc : CanS (tms (f :: r))) (hh : HiEq (M + 1) (tms (f :: r))) (h4 : M + 1 ≤ 4) (hx : (f :: r)[s]? = some x) : x.m.get (M + 1) ≤ f.m.get (M + 1) := by
  have hd := desc hc hh (by omega) h4
  cases s with
  | zero => simp at hx; subst hx; exact Int.le_refl _
  | succ s =>
    have h1 := (List.pairwise_cons.1 hd).1 x.t (by
      have := List.mem_of_getElem? (l := r) (i := s) (by simpa using hx)
      exact List.mem_map_of_mem (f := TD.t) this)
    exact h1
def levOf : Nat → List TM → Nat
  | 0, _ => 0
  | L + 1, ts => if ts.any (fun t => decide (0 < t.m.get (L + 1))) then L + 1 else levOf L ts
theorem levOf_nil : ∀ L, levOf L [] = 0
  | 0 => rfl
  | L + 1 => by simp [levOf, levOf_nil L]
theorem bld_levOf : ∀ {L : Nat} {ts : List TM}, CanS ts → HiEq L ts → NnE ts → L ≤ 4 → (bldV L ts).lev = levOf L ts
  | L, [], _, _, _, _ => by
    rw [bldV_nil]
    rw [levOf_nil]; rfl
  | 0, t :: r, _, _, _, _ => rfl
  | L + 1, t :: r, hc, hh, hn, h4 => by
    by_cases h0 : t.m.get (L + 1) = 0
    · obtain ⟨h1, h2⟩ := bld_skip hc hh h4 hn h0
      rw [h2, bld_levOf hc h1 hn (by omega), levOf, if_neg]
      rw [List.any_eq_true]
      rintro ⟨u, hu, hp⟩
      simp only [decide_eq_true_eq] at hp
      rcases List.mem_cons.1 hu with rfl | hu'
      · omega
      · have := (List.pairwise_cons.1 (desc hc hh (by omega) h4)).1 u hu'
        omega
    · have hp := hn t (List.mem_cons_self ..) (L + 1)
      rw [bld_node h0, levOf, if_pos]
      · rfl
      · rw [List.any_eq_true]
        exact ⟨t, List.mem_cons_self .., by simp; omega⟩
end Go.Gx

/-
  Elements of lists of structs and their parts: what is read. No program in sight.
-/
namespace Go.Gx
open Go.RowKit
def CellsAt (w : World) (b p : Nat) (cs : List Value) : Prop := ∀ (j : Nat) v, cs[j]? = some v → w.cell? ((⟨b, p, none⟩ : Addr).add j) = some v
section
variable {w w' : World} {b p q : Nat} {cs vs : List Value} {G : Nat → Prop}
theorem CellsAt.frm (h : CellsAt w b p cs) (f : Frm G w w') (hb : b < w.heap.size) (hg : ¬ G b) : CellsAt w' b p cs := fun j v hj => by
  rw [addr_add]
  have h1 := h j v hj
  rw [addr_add] at h1
  exact (f.cell (p := ⟨b, p + j, none⟩) hb hg).trans h1
theorem CellsAt.one (h : CellsAt w b p cs) {j : Nat} {v : Value} (hj : cs[j]? = some v) (hq : q = p + j) : w.cell? ⟨b, q, none⟩ = some v := by
  have h1 := h j v hj
  rw [addr_add] at h1
  rw [hq]; exact h1
theorem CellsAt.part (h : CellsAt w b p cs) {o : Nat} (hv : (cs.drop o).take vs.length = vs) (hq : q = p + o) : CellsAt w b q vs := fun j v hj => by
  rw [addr_add, hq, Nat.add_assoc]
  have hlt := (List.getElem?_eq_some_iff.1 hj).1
  have h1 : cs[o + j]? = some v := by
    rw [← List.getElem?_drop]
    rw [← hv, List.getElem?_take, if_pos hlt] at hj
    exact hj
  have h2 := h (o + j) v h1
  rw [addr_add] at h2
  exact h2
end
section
variable {α : Type} {L : SK α} {w w' : World} {S S' G : Nat → Prop} {A : Option Addr} {n c : Nat} {l : List α}
theorem SListR.get {b off i k p : Nat} (h : SListR L w S (some ⟨b, off, none⟩) n c l) (hi : i < n) (hk : L.k = k) (hp : off + i * k = p) :
    ∃ f, l[i]? = some f ∧ CellsAt w b p (L.cells f) ∧ L.R w S f ∧ S b ∧ b < w.heap.size := by
  obtain ⟨f, h1, h2, h3, h4, h5⟩ := h.at_ hi
  subst hk hp
  refine ⟨f, h1, fun j v hj => ?_, h3, h4, h5⟩
  rw [addr_add, Nat.add_assoc]; exact h2 j v hj
theorem SK.flat_take (m : Nat) : (L.flat l).take (m * L.k) = L.flat (l.take m) := by
  induction l generalizing m with
  | nil => simp [SK.flat]
  | cons a l ih =>
    cases m with
    | zero => simp [SK.flat]
    | succ m =>
      have hl := L.len a
      rw [L.flat_cons, List.take_succ_cons, L.flat_cons, Nat.add_mul, Nat.one_mul, List.take_append, List.take_of_length_le (by omega), hl, show m * L.k + L.k - L.k = m * L.k by omega, ih]
theorem SK.flat_drop (m : Nat) : (L.flat l).drop (m * L.k) = L.flat (l.drop m) := by
  induction l generalizing m with
  | nil => simp [SK.flat]
  | cons a l ih =>
    cases m with
    | zero => simp
    | succ m =>
      have hl := L.len a
      rw [L.flat_cons, List.drop_succ_cons, Nat.add_mul, Nat.one_mul, List.drop_append, List.drop_of_length_le (by omega), List.nil_append, hl, show m * L.k + L.k - L.k = m * L.k by omega, ih]
theorem SListR.take {m : Nat} (h : SListR L w S A n c l) (hm : m ≤ n) : SListR L w S A m c (l.take m) := by
  refine ⟨?_, fun f hf => h.2 f (List.mem_of_mem_take hf)⟩
  have := h.1.take hm
  rw [SK.flat_take] at this
  exact this
theorem SListR.part {b off k p lo hi : Nat} (h : SListR L w S (some ⟨b, off, none⟩) n c l) (h1 : lo ≤ hi) (h2 : hi ≤ n) (h3 : lo < n) (hk : L.k = k) (hp : off + lo * k = p) : SListR L w S (some ⟨b, p, none⟩) (hi - lo) (c - lo) ((l.take hi).drop lo) := by
  have h4 := h.1.2.1
  have h5 := (h.take h2)
  subst hk hp
  rcases Nat.lt_or_ge lo hi with h6 | h6
  · have h7 := h5.1.drop (m := lo) h1
    rw [if_neg (by omega), SK.flat_drop] at h7
    simp only [Option.map_some, addr_add] at h7
    exact ⟨h7, fun f hf => h5.2 f (List.mem_of_mem_drop hf)⟩
  · have e : lo = hi := by omega
    subst e
    have e2 : (l.take lo).drop lo = [] := List.drop_of_length_le (by simp; omega)
    rw [e2, Nat.sub_self]
    exact ⟨⟨by simp [SK.flat], Nat.zero_le _, by have := h.1.2.2.1; omega, fun h0 => absurd h0 (by omega)⟩, fun f hf => by cases hf⟩
end
theorem TD.len {w : World} {S : Nat → Prop} {x : TD} (h : TMR w S x) : x.n ≤ 2 := by
  have a := lt_val_len (k := 2) h.2.1.1 (Nat.lt_trans h.2.2.1 (by decide))
  rw [h.1.len] at a; exact a
def AllS {α : Type} (L : SK α) (w : World) (S : Nat → Prop) (l : List α) : Prop := ∀ f ∈ l, L.R w S f
section
variable {α : Type} {L : SK α} {w w' : World} {S S' G : Nat → Prop} {l : List α}
theorem AllS.frmB (h : AllS L w S l) (f : Frm G w w') (hd : ∀ b, b < w.heap.size → S b → ¬ G b) : AllS L w' S l := fun x hx => L.frmB (h x hx) f hd
theorem AllS.nil : AllS L w S [] := fun x hx => by cases hx
theorem AllS.snoc {x : α} (h : AllS L w S l) (hx : L.R w S x) : AllS L w S (l ++ [x]) := fun y hy => by
  rcases List.mem_append.1 hy with h1 | h1
  · exact h y h1
  · rw [List.mem_singleton.1 h1]; exact hx
theorem AllS.set {x : α} {i : Nat} (h : AllS L w S l) (hx : L.R w S x) : AllS L w S (l.set i x) := fun y hy => by
  rcases List.mem_or_eq_of_mem_set hy with h1 | h1
  · exact h y h1
  · rw [h1]; exact hx
theorem AllS.reps {x : α} {n : Nat} (hx : L.R w S x) : AllS L w S (List.replicate n x) := fun y hy => by rw [List.eq_of_mem_replicate hy]; exact hx
theorem AllS.list {g n : Nat} {t : TypeId} (h : AllS L w S l) (hB : Blk w g t (L.flat l)) (hs : ∀ b, b < w.heap.size → S b → S' b) (hg : S' g) (hl : l.length = n) (hm : n ≤ CapMax) : SListR L w S' (some ⟨g, 0, none⟩) n n l := FillK.list ⟨hB, h⟩ hs hg hl hm
end
theorem TD.exp {x : TD} {j k : Nat} (h : k = j + 1) (hj : j < 4) : x.cells[2 + j]? = some (.int .i64 (x.m.get k)) := by
  subst h
  rcases (show j = 0 ∨ j = 1 ∨ j = 2 ∨ j = 3 by omega) with rfl | rfl | rfl | rfl <;> rfl
theorem set_snoc {α : Type} {D : List α} {z x : α} {i n : Nat} (hi : D.length = i) (hn : i < n) : (D ++ List.replicate (n - i) z).set i x = (D ++ [x]) ++ List.replicate (n - (i + 1)) z := by
  subst hi
  rw [List.set_append_right _ _ (Nat.le_refl _), Nat.sub_self]
  have e : n - D.length = (n - (D.length + 1)) + 1 := by omega
  rw [e, List.replicate_succ, List.set_cons_zero, List.append_assoc]; rfl
theorem set_done {α : Type} {D : List α} {z : α} {i n : Nat} (h : ¬ i < n) : D ++ List.replicate (n - i) z = D := by
  rw [show n - i = 0 by omega]; simp
end Go.Gx

/-
  Fractions in lowest terms: what the operations leave. Plain; no program in sight.
-/
namespace Go.Gx
theorem QE.abs (q : QE) : q.num.natAbs = val q.d := (natAbs_val q.g q.d).symm
theorem QE.cross {r : QE} (hr : r.red) {N D : Int} (hD : 0 < D) (x : r.num * D = N * (r.den : Int)) : r.v = (N : Rat) / (D : Rat) := by
  have h1 := QE.den_pos hr
  have h2 : (0 : Rat) < (D : Rat) := by rw [show (0 : Rat) = ((0 : Int) : Rat) from rfl, Rat.intCast_lt_intCast]; exact hD
  rw [QE.v_def hr, div_eq h1 h2, ← Rat.intCast_mul, ← Rat.intCast_mul, x]
theorem QE.ok_of {r : QE} {M : Nat} (hr : r.red) {N D : Int} (hD : 0 < D) (x : r.num * D = N * (r.den : Int)) (hN : N.natAbs < 2 ^ M) (hM : D.natAbs < 2 ^ M) : r.ok M := by
  have h := low_le (n := r.num) (v := r.den) hr.2.2.1 (by rw [QE.abs]; exact hr.2.2.2) hD x
  rw [QE.abs] at h
  exact ⟨hr, Nat.lt_of_le_of_lt h.1 hN, Nat.lt_of_le_of_lt h.2 hM⟩
theorem QE.cross_v {r q : QE} (hr : r.red) (hq : q.red) (x : r.num * (rden q.den : Int) = rnum q.num q.den * (r.den : Int)) : r.v = q.v := by
  have h2 : 0 < q.den := hq.2.2.1
  rw [rnum_of h2, rden_of h2] at x
  rw [QE.cross hr (by omega) x, QE.v_def hq]
theorem QE.norm_ok {r q : QE} {M : Nat} (hr : r.red) (hq : q.ok M) (x : r.num * (rden q.den : Int) = rnum q.num q.den * (r.den : Int)) : r.ok M := by
  have h2 : 0 < q.den := hq.1.2.2.1
  rw [rnum_of h2, rden_of h2] at x
  exact QE.ok_of hr (by omega) x (by rw [QE.abs]; exact hq.2.1) (by rw [Int.natAbs_natCast]; exact hq.2.2)
def QE.zero : QE := ⟨false, none, 0, 0, [], none, 0, 0, []⟩
end Go.Gx

/-
  Loops of a few rounds, taken one by one. No program in sight.
-/
namespace Go.Gx
theorem lUnroll {P : Program} {Q : Exit → Act → World → Prop} {a : Act} {w : World} {c : Code} (n : Nat) (h : ∀ K : Act → World → Prop, (∀ a w, Code.rounds P c Q n a w → K a w) → c.wp P (Exit.then K Q) a w) : Code.rounds P c Q (n + 1) a w := by
  rw [rounds_succ]; exact h _ fun _ _ h => h
def frV (a b : Int) : Rat := if b = 0 then (a : Rat) else (a : Rat) / (b : Rat)
theorem frV_of {a b n d : Int} (h : b = 0 ∧ n = a ∧ d = 1 ∨ b < 0 ∧ n = -a ∧ d = -b ∨ 0 < b ∧ n = a ∧ d = b) : (n : Rat) / (d : Rat) = frV a b := by
  unfold frV
  rcases h with ⟨h0, rfl, rfl⟩ | ⟨h0, rfl, rfl⟩ | ⟨h0, rfl, rfl⟩
  · rw [if_pos h0]
    have : ((1 : Int) : Rat) = 1 := rfl
    rw [this]; grind
  · rw [if_neg (by omega), Rat.intCast_neg, Rat.intCast_neg]
    have : (b : Rat) ≠ 0 := cast_ne (by omega)
    grind
  · rw [if_neg (by omega)]
theorem QE.cross0 {r : QE} (hr : r.red) {N D : Int} (hD : D ≠ 0) (x : r.num * D = N * (r.den : Int)) : r.v = (N : Rat) / (D : Rat) := by
  have h1 := QE.den_pos hr
  have h2 : (D : Rat) ≠ 0 := cast_ne hD
  have h3 : (r.num : Rat) * (D : Rat) = (N : Rat) * ((r.den : Int) : Rat) := by rw [← Rat.intCast_mul, ← Rat.intCast_mul, x]
  rw [QE.v_def hr]
  have h4 : ((r.den : Int) : Rat) ≠ 0 := cast_ne (by have := hr.2.2.1; show ((val r.dv : Nat) : Int) ≠ 0; omega)
  grind
theorem QE.ok_of0 {r : QE} {M : Nat} (hr : r.red) {N D : Int} (hD : D ≠ 0) (x : r.num * D = N * (r.den : Int)) (hN : N.natAbs < 2 ^ M) (hM : D.natAbs < 2 ^ M) : r.ok M := by
  rcases Int.lt_or_gt_of_ne hD with h | h
  · exact QE.ok_of hr (D := -D) (N := -N) (by omega) (by rw [Int.mul_neg, Int.neg_mul, x]) (by omega) (by omega)
  · exact QE.ok_of hr h x hN hM
end Go.Gx

/-
  Square-free bases. Plain numbers; no program in sight.
-/
namespace Go.Gx
section
variable {κ : Type}
end
section
variable {κ : Type} [DecidableEq κ]
section
variable (key : QP → κ) (v : QP → Nat) (z : κ) (ks : List κ) (js : List Nat)
end
variable {key : QP → κ} {v : QP → Nat} {z k : κ} {ks : List κ} {js : List Nat} {e i j : Nat} {x y g x' y' d : List Int}
variable {os : List (List Int)} {ls : List (κ × Nat)}
end
end Go.Gx

/-
  What the laws on points are handed, and what it stands for. No program in sight.
-/
namespace Go.Gx
open Go.RowKit
structure ME where
  v : Int
  a : Int
  b : Int
  c : Int
  d : Int
def ME.cells (x : ME) : List Value := [.int .i8 x.v, .int .u8 x.a, .int .u8 x.b, .int .u8 x.c, .int .u8 x.d]
def ME.ok (x : ME) : Prop := (-128 ≤ x.v ∧ x.v ≤ 127) ∧ (0 ≤ x.a ∧ x.a ≤ 255) ∧ (0 ≤ x.b ∧ x.b ≤ 255) ∧ (0 ≤ x.c ∧ x.c ≤ 255) ∧ (0 ≤ x.d ∧ x.d ≤ 255)
def ME.t (x : ME) : TM := ⟨x.v, ⟨x.a, x.b, x.c, x.d⟩⟩
def MER (_ : World) (_ : Nat → Prop) (x : ME) : Prop := x.ok
def MEK : SK ME where
  k := 5
  pos := by decide
  cells := ME.cells
  len _ := rfl
  one _ := rfl
  R := MER
  frmB h _ _ := h
  ext h _ := h
  sub h _ := h
  both h _ := h
structure UE where
  A : Option Addr
  n : Nat
  c : Nat
  l : List ME
  a : Int
  b : Int
  p : Int
  q : Int
def UE.cells (x : UE) : List Value := [.slice x.A x.n x.c, .int .i8 x.a, .int .i8 x.b, .int .i8 x.p, .int .i8 x.q]
def UE.ok (x : UE) : Prop := ((-128 ≤ x.a ∧ x.a ≤ 127) ∧ -128 ≤ x.b ∧ x.b ≤ 127) ∧ ((-128 ≤ x.p ∧ x.p ≤ 127) ∧ -128 ≤ x.q ∧ x.q ≤ 127) ∧ x.n ≤ 1048576
def UER (w : World) (S : Nat → Prop) (x : UE) : Prop := SListR MEK w S x.A x.n x.c x.l ∧ x.ok
theorem SListR.both {α : Type} {L : SK α} {w : World} {S S' : Nat → Prop} {A : Option Addr} {n c : Nat} {l : List α} (h : SListR L w S A n c l) (g : SListR L w S' A n c l) : SListR L w (fun b => S b ∧ S' b) A n c l := ⟨h.1.both g.1, fun x hx => L.both (h.2 x hx) (g.2 x hx)⟩
def UEK : SK UE where
  k := 5
  pos := by decide
  cells := UE.cells
  len _ := rfl
  one _ := rfl
  R := UER
  frmB h f hd := ⟨h.1.frmB f hd, h.2⟩
  ext h f := ⟨h.1.ext f, h.2⟩
  sub h hs := ⟨h.1.sub hs, h.2⟩
  both h g := ⟨h.1.both g.1, h.2⟩
theorem int_neg {x : Int} (h : x < 0) (h1 : -128 ≤ x) : zval true [(-x).toNat] = x ∧ ICan true [(-x).toNat] ∧ val [(-x).toNat] ≤ 128 := by
  refine ⟨by simp [zval, val]; omega, ⟨(canon_snoc (l := [])).2 (by simp [isZ]; omega), fun _ h => by cases h⟩, by simp [val]; omega⟩
theorem int_pos {x : Int} (h : 0 < x) (h1 : x ≤ 127) : zval false [x.toNat] = x ∧ ICan false [x.toNat] ∧ val [x.toNat] ≤ 128 := by
  refine ⟨by simp [zval, val]; omega, ⟨(canon_snoc (l := [])).2 (by simp [isZ]; omega), fun h => by cases h⟩, by simp [val]; omega⟩
noncomputable def polyV (p : List TM) : RT := open Classical in if h : ∃ l, CanS l ∧ ∀ m, cofS l m = cofS p m then bldV 4 h.choose else zeroT
theorem polyV_of {l p : List TM} (h1 : CanS l) (h2 : ∀ m, cofS l m = cofS p m) : bldV 4 l = polyV p := by
  have h : ∃ l, CanS l ∧ ∀ m, cofS l m = cofS p m := ⟨l, h1, h2⟩
  unfold polyV
  rw [dif_pos h, CanS.uniq h1 h.choose_spec.1 fun m => (h2 m).trans (h.choose_spec.2 m).symm]
structure CV where
  t : RT
  lo : Rat
  hi : Rat
def CE.v (x : CE) : CV := ⟨x.t.val, x.lo.v, x.hi.v⟩
noncomputable def UE.v (x : UE) : CV := ⟨polyV (x.l.map ME.t), frV x.a x.b, frV x.p x.q⟩
def ratV (q : Rat) : CV := ⟨zeroT, q, q⟩
theorem mapv_snoc {α β γ : Type} {f : α → γ} {g : β → γ} {D : List α} {l : List β} {i : Nat} {x : α} {y : β} (h : D.map f = (l.take i).map g) (hy : l[i]? = some y) (e : f x = g y) : (D ++ [x]).map f = (l.take (i + 1)).map g := by
  rw [List.take_add_one, hy, List.map_append, List.map_append, h]; simp [e]
theorem mapv_end {α β γ : Type} {f : α → γ} {g : β → γ} {D : List α} {l : List β} {i n : Nat} (h : D.map f = (l.take i).map g) (hl : l.length = n) (hi : n ≤ i) : D.map f = l.map g := by
  rw [h, List.take_of_length_le (by omega)]
theorem all_snoc {α : Type} {Q : α → Prop} {D : List α} {x : α} (h : ∀ t ∈ D, Q t) (hx : Q x) : ∀ t ∈ D ++ [x], Q t := fun t ht => by
  rcases List.mem_append.1 ht with h9 | h9
  · exact h t h9
  · rw [List.mem_singleton.1 h9]; exact hx
theorem take_snoc {α : Type} {Q : α → Prop} {l : List α} {i : Nat} {x : α} (h : ∀ t ∈ l.take i, Q t) (hx : l[i]? = some x) (hq : Q x) : ∀ t ∈ l.take (i + 1), Q t := by
  rw [List.take_add_one, hx]; exact all_snoc h hq
section
variable {α : Type} {L : SK α} {w : World} {S : Nat → Prop} {g : Nat} {t : TypeId} {a b : α}
theorem SListR.two (h : Blk w g t (L.cells a ++ L.cells b)) (ha : L.R w S a) (hb : L.R w S b) (hg : S g) : SListR L w S (some ⟨g, 0, none⟩) 2 2 [a, b] :=
  SListR.of_blk (by rw [L.flat_cons, L.flat_one]; exact h) (fun f hf => by
    rcases List.mem_cons.1 hf with h1 | h1
    · rw [h1]; exact ha
    · rw [List.mem_singleton.1 h1]; exact hb) hg rfl (Nat.le_refl _) (by decide)
end
section
variable {α : Type} {L : SK α} {w : World} {S : Nat → Prop} {g : Nat} {t : TypeId} {a b c d : α}
end
def CellsIn (w : World) (S : Nat → Prop) (b p : Nat) (cs : List Value) : Prop := CellsAt w b p cs ∧ S b ∧ b < w.heap.size
theorem CellsIn.frmB {w w' : World} {S G : Nat → Prop} {b p : Nat} {cs : List Value} (h : CellsIn w S b p cs) (f : Frm G w w') (hd : ∀ b, b < w.heap.size → S b → ¬ G b) : CellsIn w' S b p cs := ⟨h.1.frm f h.2.2 (hd b h.2.2 h.2.1), h.2.1, Nat.lt_of_lt_of_le h.2.2 f.size⟩
end Go.Gx

/-
  Values of recursive polynomials at a place and over a box. Plain numbers; no program in sight.
-/
namespace Go.Gx
def mnQ (a b : Rat) : Rat := if a ≤ b then a else b
def mxQ (a b : Rat) : Rat := if b ≤ a then a else b
theorem cmpQ_le {a b : Rat} : cmpQ a b ≤ 0 ↔ a ≤ b := by
  unfold cmpQ
  constructor
  · intro h
    split at h
    · next h1 => exact Rat.le_of_lt h1
    · split at h
      · next h1 => rw [h1]; exact Rat.le_refl
      · omega
  · intro h
    split
    · omega
    · split
      · omega
      · next h1 h2 => exact absurd (Rat.lt_of_le_of_ne h h2) h1
theorem cmpQ_ge {a b : Rat} : 0 ≤ cmpQ a b ↔ b ≤ a := by
  unfold cmpQ
  constructor
  · intro h
    split at h
    · omega
    · next h1 => exact Rat.not_lt.1 h1
  · intro h
    rw [if_neg (Rat.not_lt.2 h)]
    split <;> omega
structure IW where
  lo : Rat
  hi : Rat
def IW.nrm (a : IW) : IW := if 0 < cmpQ a.lo a.hi then ⟨a.hi, a.lo⟩ else a
def IW.ok (a : IW) : Prop := a.lo ≤ a.hi
theorem IW.nrm_ok (a : IW) : a.nrm.ok := by
  unfold IW.nrm IW.ok
  split
  · next h => exact (cmpQ_ge (a := a.lo) (b := a.hi)).1 (by omega)
  · next h => exact (cmpQ_le (a := a.lo) (b := a.hi)).1 (by omega)
theorem IW.nrm_eq {a : IW} (h : a.ok) : a.nrm = a := by
  unfold IW.nrm
  rw [if_neg]
  have := cmpQ_le.2 h
  omega
def IW.add (a b : IW) : IW := ⟨a.lo + b.lo, a.hi + b.hi⟩
def mn4 (p q r s : Rat) : Rat := mnQ (mnQ (mnQ (mnQ p p) q) r) s
def mx4 (p q r s : Rat) : Rat := mxQ (mxQ (mxQ (mxQ p p) q) r) s
def IW.mul (a b : IW) : IW := ⟨mn4 (a.lo * b.lo) (a.lo * b.hi) (a.hi * b.lo) (a.hi * b.hi), mx4 (a.lo * b.lo) (a.lo * b.hi) (a.hi * b.lo) (a.hi * b.hi)⟩
theorem mn4_le (p q r s : Rat) : mn4 p q r s ≤ p ∧ mn4 p q r s ≤ q ∧ mn4 p q r s ≤ r ∧ mn4 p q r s ≤ s := by
  unfold mn4 mnQ; grind
theorem mx4_ge (p q r s : Rat) : p ≤ mx4 p q r s ∧ q ≤ mx4 p q r s ∧ r ≤ mx4 p q r s ∧ s ≤ mx4 p q r s := by
  unfold mx4 mxQ; grind
theorem IW.mul_ok (a b : IW) : (a.mul b).ok := by
  have l := mn4_le (a.lo * b.lo) (a.lo * b.hi) (a.hi * b.lo) (a.hi * b.hi)
  have g := mx4_ge (a.lo * b.lo) (a.lo * b.hi) (a.hi * b.lo) (a.hi * b.hi)
  exact Rat.le_trans l.1 g.1
theorem IW.add_ok {a b : IW} (ha : a.ok) (hb : b.ok) : (a.add b).ok := by unfold IW.ok IW.add at *; grind
theorem mn4_same (p : Rat) : mn4 p p p p = p := by unfold mn4 mnQ; simp
theorem mx4_same (p : Rat) : mx4 p p p p = p := by unfold mx4 mxQ; simp
theorem IW.zero_mul (a : IW) : IW.mul ⟨0, 0⟩ a = ⟨0, 0⟩ := by simp only [IW.mul, Rat.zero_mul, mn4_same, mx4_same]
theorem IW.zero_add (a : IW) : IW.add ⟨0, 0⟩ a = a := by simp only [IW.add, Rat.zero_add]
mutual
def RT.ev (x : Nat → Rat) : RT → Rat
  | .mk l c ks => if l = 0 then (c : Rat) else RT.evs x (x (l.toNat - 1)) ks
def RT.evs (x : Nat → Rat) (q : Rat) : List RT → Rat
  | [] => 0
  | t :: l => RT.evs x q l * q + RT.ev x t
end
mutual
def RT.ov (x : Nat → IW) : RT → IW
  | .mk l c ks => if l = 0 then ⟨(c : Rat), (c : Rat)⟩ else RT.ovs x (x (l.toNat - 1)) ks
def RT.ovs (x : Nat → IW) (q : IW) : List RT → IW
  | [] => ⟨0, 0⟩
  | t :: l => ((RT.ovs x q l).mul q).add (RT.ov x t)
end
mutual
def RT.wt (M : Nat) : RT → Nat
  | .mk l _ ks => if l = 0 then 64 else RT.wts M ks
def RT.wts (M : Nat) : List RT → Nat
  | [] => 8
  | t :: l => RT.wts M l + M + 1 + RT.wt M t
end
mutual
theorem RT.ov_ok {x : Nat → IW} (hx : ∀ i, (x i).ok) : ∀ t, (RT.ov x t).ok
  | .mk l c ks => by
    rw [RT.ov]
    split
    · exact Rat.le_refl
    · exact RT.ovs_ok hx _ ks
theorem RT.ovs_ok {x : Nat → IW} (hx : ∀ i, (x i).ok) (q : IW) : ∀ l, (RT.ovs x q l).ok
  | [] => by rw [RT.ovs]; exact Rat.le_refl
  | t :: l => by rw [RT.ovs]; exact IW.add_ok (IW.mul_ok _ _) (RT.ov_ok hx t)
end
theorem RT.wts_ge (M : Nat) : ∀ l, 8 ≤ RT.wts M l
  | [] => by rw [RT.wts]; omega
  | t :: l => by have := RT.wts_ge M l; rw [RT.wts]; omega
theorem RT.wt_mem {M : Nat} {t : RT} : ∀ {l : List RT}, t ∈ l → RT.wt M t + M + 9 ≤ RT.wts M l
  | u :: l, h => by
    have h8 := RT.wts_ge M l
    rw [RT.wts]
    rcases List.mem_cons.1 h with rfl | h
    · omega
    · have := RT.wt_mem (M := M) h; omega
theorem RT.wts_le {M B : Nat} : ∀ {l : List RT}, (∀ t ∈ l, RT.wt M t ≤ B) → RT.wts M l ≤ 8 + l.length * (M + 1 + B)
  | [], _ => by rw [RT.wts]; omega
  | t :: l, h => by
    have h1 := RT.wts_le (M := M) (l := l) fun u hu => h u (List.mem_cons_of_mem _ hu)
    have h2 := h t (List.mem_cons_self ..)
    rw [RT.wts, List.length_cons, Nat.add_mul]
    omega
def bitB (M : Nat) : Nat → Nat
  | 0 => 64
  | L + 1 => 64 + 5 * (M + 1 + bitB M L)
theorem bitB_ge (M L : Nat) : 64 ≤ bitB M L := by cases L <;> simp [bitB]
theorem wt_bld {M : Nat} : ∀ {L : Nat} {ts : List TM}, (∀ t ∈ ts, ∀ j, t.m.get j ≤ 4) → RT.wt M (bldV L ts) ≤ bitB M L
  | L, [], _ => by rw [bldV_nil]; simp [zeroT, RT.wt]; exact bitB_ge M L
  | 0, t :: r, _ => by simp [bldV, RT.wt, bitB]
  | L + 1, t :: r, h => by
    by_cases h0 : t.m.get (L + 1) = 0
    · rw [bldV, if_pos h0]
      have := wt_bld (M := M) (L := L) h
      rw [bitB]; omega
    · rw [bld_node h0, RT.wt, if_neg (by omega)]
      have h4 := h t (List.mem_cons_self ..) (L + 1)
      have h1 := RT.wts_le (M := M) (B := bitB M L) (l := (List.range (t.m.get (L + 1) + 1).toNat).map fun e : Nat => bldV L ((t :: r).filter fun u => u.m.get (L + 1) = (e : Int))) fun u hu => by
        obtain ⟨e, _, rfl⟩ := List.mem_map.1 hu
        exact wt_bld fun v hv => h v ((List.mem_filter.1 hv).1)
      simp only [List.length_map, List.length_range] at h1
      have h2 : (t.m.get (L + 1) + 1).toNat ≤ 5 := by omega
      have h3 := Nat.mul_le_mul_right (M + 1 + bitB M L) h2
      rw [bitB]; omega
theorem canS_cof : ∀ {l : List TM}, CanS l → ∀ {t : TM}, t ∈ l → cofS l t.m ≠ 0
  | u :: l, h, t, ht => by
    rcases List.mem_cons.1 ht with rfl | h1
    · rw [h.head.1]; exact h.2 _ (List.mem_cons_self ..)
    · have h2 := canS_cof h.tail h1
      have h3 := h.head.2 t h1
      have h4 : u.m ≠ t.m := fun e => M4.lt_irrefl _ (e ▸ h3)
      rw [cofS, if_neg h4]; omega
theorem canS_exp {l p : List TM} (h1 : CanS l) (h2 : ∀ m, cofS l m = cofS p m) (h : ∀ t ∈ p, ∀ j, t.m.get j ≤ 4) : ∀ t ∈ l, ∀ j, t.m.get j ≤ 4 := by
  intro t ht
  have h3 : cofS l t.m ≠ 0 := canS_cof h1 ht
  rw [h2] at h3
  have h4 : ∃ u ∈ p, u.m = t.m := by
    by_cases h5 : ∃ u ∈ p, u.m = t.m
    · exact h5
    · exact absurd (cofS_none fun u hu e => h5 ⟨u, hu, e⟩) h3
  obtain ⟨u, hu, e⟩ := h4
  rw [← e]; exact h u hu
def IV.w (x : IV) : IW := ⟨x.lo.v, x.hi.v⟩
theorem bounds_gt {a b l h : Rat} {r : Int} (e : r = cmpQ a b) (hr : r > 0) (hl : l = b) (hh : h = a) : (⟨l, h⟩ : IW) = IW.nrm ⟨a, b⟩ := by
  subst hl hh; rw [IW.nrm, if_pos (by dsimp only; omega)]
theorem bounds_le {a b l h : Rat} {r : Int} (e : r = cmpQ a b) (hr : ¬ r > 0) (hl : l = a) (hh : h = b) : (⟨l, h⟩ : IW) = IW.nrm ⟨a, b⟩ := by
  subst hl hh; rw [IW.nrm, if_neg (by dsimp only; omega)]
theorem iw_iff {x y : IW} : x = y ↔ x.lo = y.lo ∧ x.hi = y.hi := by
  cases x; cases y
  constructor
  · rintro h; cases h; exact ⟨rfl, rfl⟩
  · rintro ⟨h1, h2⟩; cases h1; cases h2; rfl
end Go.Gx

/-
  Sums, differences, products and middles of fractions, with the size of their numbers. Plain numbers; no program in sight.
-/
namespace Go.Gx
section
variable {a b r : QE} {M M' : Nat}
theorem two_pow (M M' : Nat) : 2 ^ M * 2 ^ M' = 2 ^ (M + M') := (Nat.pow_add ..).symm
theorem lt_mul {x y M M' : Nat} (hx : x < 2 ^ M) (hy : y < 2 ^ M') : x * y < 2 ^ (M + M') := by
  rw [← two_pow]; exact Nat.mul_lt_mul'' hx hy
theorem QE.nm (a : QE) : a.num.natAbs = val a.d := (natAbs_val a.g a.d).symm
theorem QE.dpos (h : a.red) : 0 < (a.den : Int) := by have h1 : 0 < a.den := h.2.2.1; omega
theorem sum_lt {n m : Int} {d f : Nat} (hn : n.natAbs < 2 ^ M) (hd : d < 2 ^ M) (hm : m.natAbs < 2 ^ M') (hf : f < 2 ^ M') : (n * (f : Int) + m * (d : Int)).natAbs < 2 ^ (M + M' + 1) := by
  have h1 := Int.natAbs_add_le (n * (f : Int)) (m * (d : Int))
  rw [Int.natAbs_mul, Int.natAbs_mul, Int.natAbs_natCast, Int.natAbs_natCast] at h1
  have h2 := lt_mul hn hf
  have h3 := lt_mul hm hd
  rw [Nat.add_comm M' M] at h3
  rw [Nat.pow_succ]; omega
theorem den_lt {d f : Nat} (hd : d < 2 ^ M) (hf : f < 2 ^ M') : (((d : Int) * (f : Int))).natAbs < 2 ^ (M + M') := by
  rw [Int.natAbs_mul, Int.natAbs_natCast, Int.natAbs_natCast]; exact lt_mul hd hf
theorem QE.sum (hr : r.red) (ha : a.ok M) (hb : b.ok M') (x : r.num * ((rden a.den : Int) * (rden b.den : Int)) = (rnum a.num a.den * (rden b.den : Int) + rnum b.num b.den * (rden a.den : Int)) * (r.den : Int)) : r.v = a.v + b.v ∧ r.ok (M + M' + 1) := by
  have h1 : 0 < a.den := ha.1.2.2.1
  have h2 : 0 < b.den := hb.1.2.2.1
  rw [rnum_of h1, rnum_of h2, rden_of h1, rden_of h2] at x
  have da := QE.dpos ha.1
  have db := QE.dpos hb.1
  have hp := Int.mul_pos da db
  refine ⟨?_, QE.ok_of hr hp x (sum_lt (by rw [QE.nm]; exact ha.2.1) ha.2.2 (by rw [QE.nm]; exact hb.2.1) hb.2.2) (Nat.lt_of_lt_of_le (den_lt ha.2.2 hb.2.2) (Nat.pow_le_pow_right (by decide) (by omega)))⟩
  rw [QE.cross hr hp x, QE.v_def ha.1, QE.v_def hb.1, Rat.intCast_add, Rat.intCast_mul, Rat.intCast_mul, Rat.intCast_mul]
  have e1 := cast_ne (d := (a.den : Int)) (by omega)
  have e2 := cast_ne (d := (b.den : Int)) (by omega)
  grind
theorem QE.prod (hr : r.red) (ha : a.ok M) (hb : b.ok M') (x : r.num * ((rden a.den : Int) * (rden b.den : Int)) = (rnum a.num a.den * rnum b.num b.den) * (r.den : Int)) : r.v = a.v * b.v ∧ r.ok (M + M') := by
  have h1 : 0 < a.den := ha.1.2.2.1
  have h2 : 0 < b.den := hb.1.2.2.1
  rw [rnum_of h1, rnum_of h2, rden_of h1, rden_of h2] at x
  have da := QE.dpos ha.1
  have db := QE.dpos hb.1
  have hp := Int.mul_pos da db
  refine ⟨?_, QE.ok_of hr hp x (by rw [Int.natAbs_mul, QE.nm, QE.nm]; exact lt_mul ha.2.1 hb.2.1) (den_lt ha.2.2 hb.2.2)⟩
  rw [QE.cross hr hp x, QE.v_def ha.1, QE.v_def hb.1, Rat.intCast_mul, Rat.intCast_mul]
  have e1 := cast_ne (d := (a.den : Int)) (by omega)
  have e2 := cast_ne (d := (b.den : Int)) (by omega)
  grind
end
def boxF (l : List IV) : Nat → IW := fun i => match l[i]? with
  | some x => x.w
  | none => ⟨0, 0⟩
theorem boxF_get {l : List IV} {i : Nat} {x : IV} (h : l[i]? = some x) : boxF l i = x.w := by unfold boxF; rw [h]
theorem boxF_ok {l : List IV} (h : ∀ x ∈ l, x.w.ok) (i : Nat) : (boxF l i).ok := by
  unfold boxF
  split
  · next x hx => exact h x (List.mem_of_getElem? hx)
  · exact Rat.le_refl
theorem drop_map {l : List TT} {j : Nat} {t : TT} (h : l[j]? = some t) : (l.map TT.val).drop j = t.val :: (l.map TT.val).drop (j + 1) := by
  obtain ⟨hj, e⟩ := List.getElem?_eq_some_iff.1 h
  rw [List.drop_eq_getElem_cons (by simpa using hj)]
  simp [e]
theorem wts_step {M : Nat} {l : List TT} {j : Nat} {t : TT} (h : l[j]? = some t) : RT.wts M ((l.map TT.val).drop j) = RT.wts M ((l.map TT.val).drop (j + 1)) + M + 1 + RT.wt M t.val := by rw [drop_map h, RT.wts]
theorem ovs_step {x : Nat → IW} {q : IW} {l : List TT} {j : Nat} {t : TT} (h : l[j]? = some t) : RT.ovs x q ((l.map TT.val).drop j) = ((RT.ovs x q ((l.map TT.val).drop (j + 1))).mul q).add (RT.ov x t.val) := by rw [drop_map h, RT.ovs]
theorem wts_last {M : Nat} {l : List TT} {j : Nat} {t : TT} (h : l[j]? = some t) (hl : l.length = j + 1) : RT.wts M ((l.map TT.val).drop j) = 8 + M + 1 + RT.wt M t.val := by
  rw [wts_step h, List.drop_of_length_le (by simp; omega), RT.wts]
theorem ovs_last {x : Nat → IW} {q : IW} {l : List TT} {j : Nat} {t : TT} (h : l[j]? = some t) (hl : l.length = j + 1) : RT.ovs x q ((l.map TT.val).drop j) = RT.ov x t.val := by
  rw [ovs_step h, List.drop_of_length_le (by simp; omega), RT.ovs, IW.zero_mul, IW.zero_add]
theorem RT.wts_drop (M : Nat) : ∀ (l : List RT) (j : Nat), RT.wts M (l.drop j) ≤ RT.wts M l
  | [], j => by simp
  | t :: l, 0 => by simp
  | t :: l, j + 1 => by have := RT.wts_drop M l j; rw [List.drop_succ_cons, RT.wts]; omega
theorem wts_le_wts {M : Nat} {l : List TT} (j : Nat) : RT.wts M ((l.map TT.val).drop j) ≤ RT.wts M (l.map TT.val) := RT.wts_drop M _ j
section
variable {lev : Int} {g : Bool} {A : Option Addr} {n c : Nat} {d : List Nat} {Ac : Option Addr} {nc cc : Nat} {kids : List TT}
theorem wt_const {M : Nat} (h : lev = 0) : RT.wt M (TT.mk lev g A n c d Ac nc cc kids).val = 64 := by rw [TT.val_mk, RT.wt, if_pos h]
theorem wt_node {M : Nat} (h : lev ≠ 0) : RT.wt M (TT.mk lev g A n c d Ac nc cc kids).val = RT.wts M (kids.map TT.val) := by rw [TT.val_mk, RT.wt, if_neg h]
theorem ov_const {x : Nat → IW} (h : lev = 0) : RT.ov x (TT.mk lev g A n c d Ac nc cc kids).val = ⟨((zval g d : Int) : Rat), ((zval g d : Int) : Rat)⟩ := by rw [TT.val_mk, RT.ov, if_pos h]
theorem ov_node {x : Nat → IW} (h : lev ≠ 0) : RT.ov x (TT.mk lev g A n c d Ac nc cc kids).val = RT.ovs x (x (lev.toNat - 1)) (kids.map TT.val) := by rw [TT.val_mk, RT.ov, if_neg h]
end
theorem kid_wt {M : Nat} {l : List TT} {j : Nat} {t : TT} (h : l[j]? = some t) : RT.wt M t.val + M + 9 ≤ RT.wts M (l.map TT.val) := RT.wt_mem (List.mem_map_of_mem (f := TT.val) (List.mem_of_getElem? h))
theorem wts_round {M : Nat} {l : List TT} {j : Nat} {t : TT} (hj : 1 ≤ j) (h : l[j - 1]? = some t) : RT.wts M ((l.map TT.val).drop (j - 1)) = RT.wts M ((l.map TT.val).drop j) + M + 1 + RT.wt M t.val := by
  have h1 := wts_step (M := M) h
  rw [show j - 1 + 1 = j by omega] at h1; exact h1
theorem ov_round {x : Nat → IW} {q q' : IW} {l : List TT} {j : Nat} {t : TT} {o m k r : IW} (hx : ∀ i, (x i).ok) (hj : 1 ≤ j) (h : l[j - 1]? = some t) (ho : o = RT.ovs x q ((l.map TT.val).drop j)) (hm : m = o.mul q') (hq : q = q') (hk : k = RT.ov x t.val) (hr : r = m.nrm.add k.nrm) : r = RT.ovs x q ((l.map TT.val).drop (j - 1)) := by
  subst hq
  have h1 := ovs_step (x := x) (q := q) h
  rw [show j - 1 + 1 = j by omega] at h1
  rw [h1, hr, hm, hk, IW.nrm_eq (IW.mul_ok _ _), IW.nrm_eq (RT.ov_ok hx _), ho]
def boxC (l : List CE) : Nat → IW := fun i => match l[i]? with
  | some x => IW.nrm ⟨x.lo.v, x.hi.v⟩
  | none => ⟨0, 0⟩
theorem boxC_of {b : List IV} {l : List CE} (h : b.map IV.w = l.map fun x : CE => IW.nrm ⟨x.lo.v, x.hi.v⟩) : boxF b = boxC l := by
  funext i
  have h1 := congrArg (fun l : List IW => l[i]?) h
  simp only [List.getElem?_map] at h1
  unfold boxF boxC
  cases hb : b[i]? with
  | none => rw [hb] at h1; cases hl : l[i]? with
    | none => rfl
    | some x => rw [hl] at h1; cases h1
  | some y => rw [hb] at h1; cases hl : l[i]? with
    | none => rw [hl] at h1; cases h1
    | some x => rw [hl] at h1; simp only [Option.map_some] at h1; injection h1
theorem box_ok {b : List IV} {l : List CE} (h : b.map IV.w = l.map fun x : CE => IW.nrm ⟨x.lo.v, x.hi.v⟩) : ∀ y ∈ b, y.w.ok := fun y hy => by
  have h1 : y.w ∈ l.map fun x : CE => IW.nrm ⟨x.lo.v, x.hi.v⟩ := h ▸ List.mem_map_of_mem (f := IV.w) hy
  obtain ⟨x, _, e⟩ := List.mem_map.1 h1
  rw [← e]; exact IW.nrm_ok _
theorem polyV_wt {M : Nat} {p : List TM} (h : ∀ t ∈ p, ∀ j, t.m.get j ≤ 4) : RT.wt M (polyV p) ≤ bitB M 4 := by
  unfold polyV
  split
  · next hh =>
    have hs := hh.choose_spec
    exact wt_bld (canS_exp hs.1 hs.2 h)
  · simp [zeroT, RT.wt]; exact bitB_ge M 4
theorem few_exp {l : List ME} {x : Int} (h : ∀ t ∈ l, t.a ≤ x ∧ t.b ≤ x ∧ t.c ≤ x ∧ t.d ≤ x) (hx : x = 4) : ∀ t ∈ l.map ME.t, ∀ j, t.m.get j ≤ 4 := by
  intro t ht j
  obtain ⟨y, hy, rfl⟩ := List.mem_map.1 ht
  have h1 := h y hy
  unfold M4.get ME.t
  split <;> first | (show y.a ≤ 4; omega) | (show y.b ≤ 4; omega) | (show y.c ≤ 4; omega) | (show y.d ≤ 4; omega) | (show (0 : Int) ≤ 4; omega)
def IV.zero : IV := ⟨QE.zero, QE.zero⟩
end Go.Gx

/-
  The highest level of a sum of terms. Plain numbers; no program in sight.
-/
namespace Go.Gx
def lvU (h : Int) (m : M4) : Nat → Int
  | 0 => h
  | j + 1 => if 0 < m.get (j + 1) ∧ lvU h m j < (j : Int) + 1 then (j : Int) + 1 else lvU h m j
def lvS (h : Int) (m : M4) : Int := lvU h m 4
def lvL (l : List TM) : Int := l.foldl (fun h t => lvS h t.m) 0
theorem lvU_yes {h x : Int} {m : M4} {j : Nat} (hx : x = lvU h m j) (h1 : m.get (j + 1) > 0) (h2 : (j : Int) + 1 > x) : (j : Int) + 1 = lvU h m (j + 1) := by
  rw [lvU, if_pos ⟨h1, by omega⟩]
theorem lvU_no1 {h x : Int} {m : M4} {j : Nat} (hx : x = lvU h m j) (h1 : ¬ m.get (j + 1) > 0) : x = lvU h m (j + 1) := by
  rw [lvU, if_neg (fun h => h1 h.1)]; exact hx
theorem lvU_no2 {h x : Int} {m : M4} {j : Nat} (hx : x = lvU h m j) (h2 : ¬ (j : Int) + 1 > x) : x = lvU h m (j + 1) := by
  rw [lvU, if_neg (fun h => h2 (by omega))]; exact hx
theorem lvU_rng {h : Int} {m : M4} (hh : 0 ≤ h ∧ h ≤ 4) : ∀ j, j ≤ 4 → 0 ≤ lvU h m j ∧ lvU h m j ≤ 4
  | 0, _ => hh
  | j + 1, hj => by
    have h1 := lvU_rng (m := m) hh j (by omega)
    rw [lvU]; split <;> omega
theorem lvL_snoc (l : List TM) (t : TM) : lvL (l ++ [t]) = lvS (lvL l) t.m := by simp [lvL]
theorem lvL_rng' : ∀ (l : List TM) (h : Int), 0 ≤ h ∧ h ≤ 4 → 0 ≤ l.foldl (fun h t => lvS h t.m) h ∧ l.foldl (fun h t => lvS h t.m) h ≤ 4
  | [], h, hh => hh
  | t :: l, h, hh => lvL_rng' l _ (lvU_rng hh 4 (by omega))
theorem lvL_rng (l : List TM) : 0 ≤ lvL l ∧ lvL l ≤ 4 := lvL_rng' l 0 (by omega)
theorem lvL_take {l : List TD} {i : Nat} {x : TD} (h : l[i]? = some x) : lvL (tms (l.take (i + 1))) = lvS (lvL (tms (l.take i))) x.m := by
  rw [List.take_add_one, h, Option.toList_some, tms_append, show tms [x] = [x.t] from rfl, lvL_snoc]; rfl
theorem lvS_ge {h : Int} {m : M4} {k : Nat} (hk : k ≤ 4) (h1 : 1 ≤ k) : (k : Int) ≤ lvS h m ↔ (k : Int) ≤ h ∨ ∃ j, k ≤ j ∧ j ≤ 4 ∧ 0 < m.get j := by
  have key : ∀ n, n ≤ 4 → ((k : Int) ≤ lvU h m n ↔ (k : Int) ≤ h ∨ ∃ j, k ≤ j ∧ j ≤ n ∧ 0 < m.get j) := by
    intro n
    induction n with
    | zero => intro _; rw [lvU]; exact ⟨.inl, fun h => h.elim id fun ⟨j, a, b, _⟩ => by omega⟩
    | succ n ih =>
      intro hn
      have ih := ih (by omega)
      rw [lvU]
      split
      · next hc =>
        constructor
        · intro hh
          exact .inr ⟨n + 1, by omega, by omega, hc.1⟩
        · rintro (hh | ⟨j, a, b, _⟩)
          · have := ih.2 (.inl hh); omega
          · omega
      · next hc =>
        rw [ih]
        constructor
        · rintro (hh | ⟨j, a, b, c⟩)
          · exact .inl hh
          · exact .inr ⟨j, a, by omega, c⟩
        · rintro (hh | ⟨j, a, b, c⟩)
          · exact .inl hh
          · rcases Nat.lt_or_ge n j with h2 | h2
            · have e : j = n + 1 := by omega
              subst e
              have h3 : ¬ lvU h m n < (n : Int) + 1 := fun h4 => hc ⟨c, h4⟩
              exact ih.1 (by omega)
            · exact .inr ⟨j, a, h2, c⟩
  exact key 4 (by omega)
theorem lvL_ge {k : Nat} (hk : k ≤ 4) (h1 : 1 ≤ k) : ∀ (l : List TM) (h : Int), (k : Int) ≤ l.foldl (fun h t => lvS h t.m) h ↔ (k : Int) ≤ h ∨ ∃ t ∈ l, ∃ j, k ≤ j ∧ j ≤ 4 ∧ 0 < t.m.get j
  | [], h => by simp
  | t :: l, h => by
    rw [List.foldl_cons, lvL_ge hk h1 l, lvS_ge hk h1]
    constructor
    · rintro ((hh | hh) | ⟨u, hu, hh⟩)
      · exact .inl hh
      · exact .inr ⟨t, List.mem_cons_self .., hh⟩
      · exact .inr ⟨u, List.mem_cons_of_mem _ hu, hh⟩
    · rintro (hh | ⟨u, hu, hh⟩)
      · exact .inl (.inl hh)
      · rcases List.mem_cons.1 hu with rfl | hu
        · exact .inl (.inr hh)
        · exact .inr ⟨u, hu, hh⟩
theorem levOf_ge {k : Nat} (h1 : 1 ≤ k) (l : List TM) : ∀ L, k ≤ levOf L l ↔ ∃ t ∈ l, ∃ j, k ≤ j ∧ j ≤ L ∧ 0 < t.m.get j
  | 0 => by rw [levOf]; exact ⟨fun h => by omega, fun ⟨t, _, j, a, b, _⟩ => by omega⟩
  | L + 1 => by
    rw [levOf]
    split
    · next hc =>
      rw [List.any_eq_true] at hc
      obtain ⟨t, ht, hp⟩ := hc
      simp only [decide_eq_true_eq] at hp
      constructor
      · intro hk; exact ⟨t, ht, L + 1, hk, by omega, hp⟩
      · rintro ⟨_, _, j, a, b, _⟩; omega
    · next hc =>
      rw [levOf_ge h1 l L]
      constructor
      · rintro ⟨t, ht, j, a, b, c⟩; exact ⟨t, ht, j, a, by omega, c⟩
      · rintro ⟨t, ht, j, a, b, c⟩
        rcases Nat.lt_or_ge L j with h2 | h2
        · exfalso
          have e : j = L + 1 := by omega
          subst e
          exact hc (List.any_eq_true.2 ⟨t, ht, by simpa using c⟩)
        · exact ⟨t, ht, j, a, h2, c⟩
theorem lvL_levOf (l : List TM) : lvL l = (levOf 4 l : Int) := by
  have r := lvL_rng l
  have r2 : levOf 4 l ≤ 4 := by
    rcases Nat.lt_or_ge 4 (levOf 4 l) with h | h
    · obtain ⟨t, _, j, a, b, _⟩ := (levOf_ge (k := levOf 4 l) (by omega) l 4).1 (Nat.le_refl _); omega
    · exact h
  have key : ∀ k : Nat, 1 ≤ k → k ≤ 4 → ((k : Int) ≤ lvL l ↔ k ≤ levOf 4 l) := fun k a b => by
    rw [levOf_ge a l 4, lvL, lvL_ge b a l 0]
    constructor
    · rintro (h | h)
      · omega
      · exact h
    · exact .inr
  have k1 := key 1 (by omega) (by omega)
  have k2 := key 2 (by omega) (by omega)
  have k3 := key 3 (by omega) (by omega)
  have k4 := key 4 (by omega) (by omega)
  simp only [Int.natCast_one] at k1
  omega
theorem idx_m4 {a b c d : Int} {j : Nat} (hj : j < 4) : (#[Value.int .i64 a, .int .i64 b, .int .i64 c, .int .i64 d] : Array Value)[j]? = some (.int .i64 (M4.get ⟨a, b, c, d⟩ (j + 1))) := by
  rcases (show j = 0 ∨ j = 1 ∨ j = 2 ∨ j = 3 by omega) with rfl | rfl | rfl | rfl <;> rfl
theorem polyV_lev {l p : List TM} (h1 : CanS l) (h2 : ∀ m, cofS l m = cofS p m) (hn : NnE l) : (polyV p).lev = lvL l := by
  rw [← polyV_of h1 h2, bld_levOf h1 (HiEq.top l) hn (Nat.le_refl _), lvL_levOf]
end Go.Gx

/-
  Lists of small integers that came in, lists that grow, two polynomials in a list. No program in sight.
-/
namespace Go.Gx
open Go.RowKit
section
variable {w w' : World} {S S' G : Nat → Prop} {A : Option Addr} {n c : Nat} {xs : List Int}
end
end Go.Gx

/-
  Products of known small polynomials: what the reference of chapter 11 computes. Plain numbers; no program in sight.
-/
namespace Go.Gx
end Go.Gx

/-
  Factors of the reference, their products and decomposition. Plain numbers; no program in sight.
-/
namespace Go.Gx
end Go.Gx
namespace Go.Gx
end Go.Gx
namespace Go.Gx
end Go.Gx

/-
  Lists of arrays of three int8; what the walks of the reference want. No program in sight.
-/
namespace Go.Gx
open Go.RowKit
abbrev T3 := Int × Int × Int
section
variable {w w' : World} {S S' G : Nat → Prop} {A : Option Addr} {n c : Nat} {l : List T3}
end
end Go.Gx
namespace Go.Gx
end Go.Gx
namespace Go.Gx
end Go.Gx
