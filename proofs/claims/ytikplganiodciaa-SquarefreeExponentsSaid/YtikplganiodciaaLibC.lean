/-
  The laws of the walks and the plain laws of numbers and polynomials, part 3: ExpMath.
-/
import Derived.Test.YtikplganiodciaaLibB

/-
  Exponents over a basis. Plain numbers; no program in sight.
-/
namespace Go.Gx
/-- The product of powers. -/
noncomputable def powQ : List QP → List Nat → QP
  | q :: qs, e :: es => q ^ e * powQ qs es
  | _, _ => 1
/-- Pairwise coprime, of positive degree. -/
def BaseOk (qs : List QP) : Prop := (∀ q ∈ qs, 2 ≤ dg q) ∧ qs.Pairwise CopQ
/-- F is a constant times these powers. -/
def ExpIs (F : QP) (qs : List QP) (es : List Nat) : Prop := es.length = qs.length ∧ ∃ c : Rat, c ≠ 0 ∧ F = K c * powQ qs es
theorem dg2_ne {q : QP} (h : 2 ≤ dg q) : q ≠ 0 := dg_pos.2 (by omega)
theorem powQ_ne : ∀ (qs : List QP) (es : List Nat), (∀ q ∈ qs, 2 ≤ dg q) → powQ qs es ≠ 0
  | [], _, _ => one_ne
  | _ :: _, [], _ => one_ne
  | q :: qs, e :: es, h => qp_mul_ne (qp_pow_ne (dg2_ne (h q (by simp))) e) (powQ_ne qs es fun x hx => h x (by simp [hx]))
theorem powQ_snoc : ∀ (qs : List QP) (es : List Nat) (q : QP) (e : Nat), es.length = qs.length → powQ (qs ++ [q]) (es ++ [e]) = powQ qs es * q ^ e
  | [], [], q, e, _ => by simp only [List.nil_append, powQ]; rw [qmul_one, one_qmul]
  | a :: qs, b :: es, q, e, h => by
    simp only [List.cons_append, powQ]
    rw [powQ_snoc qs es q e (by simpa using h), qmul_assoc]
  | [], _ :: _, _, _, h => by simp at h
  | _ :: _, [], _, _, h => by simp at h
theorem va_powQ_none {π : QP} (hπ : Irr π) : ∀ (qs : List QP) (es : List Nat), (∀ q ∈ qs, 2 ≤ dg q) → (∀ q ∈ qs, ¬ π ∣ q) → va π (powQ qs es) = 0
  | [], _, _, _ => va_K hπ (by decide)
  | _ :: _, [], _, _ => va_K hπ (by decide)
  | q :: qs, e :: es, h, hn => by
    have h1 := va_powQ_none hπ qs es (fun x hx => h x (by simp [hx])) fun x hx => hn x (by simp [hx])
    have hq := dg2_ne (h q (by simp))
    have h2 : ¬ 1 ≤ va π q := fun h' => hn q (by simp) ((va_pos hπ hq).2 h')
    show va π (q ^ e * powQ qs es) = 0
    rw [va_mul hπ (qp_pow_ne hq e) (powQ_ne qs es fun x hx => h x (by simp [hx])), va_pow hπ hq, h1, show va π q = 0 by omega]
    simp
theorem va_powQ {π : QP} (hπ : Irr π) : ∀ (qs : List QP) (es : List Nat), BaseOk qs → es.length = qs.length → ∀ (i : Nat) (q : QP) (e : Nat), qs[i]? = some q → es[i]? = some e → π ∣ q → va π (powQ qs es) = e * va π q
  | [], _, _, _, i, q, e, h1, _, _ => by simp at h1
  | _ :: _, [], _, _, i, q, e, _, h2, _ => by simp at h2
  | a :: qs, b :: es, hb, hl, i, q, e, h1, h2, hd => by
    have ha := dg2_ne (hb.1 a (by simp))
    have hr : ∀ x ∈ qs, 2 ≤ dg x := fun x hx => hb.1 x (by simp [hx])
    have hp := List.pairwise_cons.1 hb.2
    show va π (a ^ b * powQ qs es) = _
    rw [va_mul hπ (qp_pow_ne ha b) (powQ_ne qs es hr), va_pow hπ ha]
    cases i with
    | zero =>
      simp at h1 h2
      subst h1 h2
      rw [va_powQ_none hπ qs es hr fun x hx hx2 => cop_iff.1 (hp.1 x hx) π hπ hd hx2]
      omega
    | succ i =>
      simp at h1 h2
      have hm := List.mem_of_getElem? h1
      have hna : ¬ π ∣ a := fun h' => cop_iff.1 (hp.1 q hm) π hπ h' hd
      have : ¬ 1 ≤ va π a := fun h' => hna ((va_pos hπ ha).2 h')
      rw [va_powQ hπ qs es ⟨hr, hp.2⟩ (by simpa using hl) i q e h1 h2 hd, show va π a = 0 by omega]
      omega
/-- The exponents are determined. -/
theorem exp_unique {F : QP} {qs : List QP} {es es' : List Nat} (hb : BaseOk qs) (h : ExpIs F qs es) (h' : ExpIs F qs es') : es = es' := by
  obtain ⟨l, c, hc, e⟩ := h
  obtain ⟨l', c', hc', e'⟩ := h'
  apply List.ext_getElem (by omega)
  intro i h1 h2
  have hi : i < qs.length := by omega
  obtain ⟨π, hπ, hd⟩ := irr_factor (hb.1 qs[i] (List.getElem_mem hi))
  have hq := dg2_ne (hb.1 qs[i] (List.getElem_mem hi))
  have a1 := va_powQ hπ qs es hb l i qs[i] es[i] (List.getElem?_eq_getElem hi) (List.getElem?_eq_getElem h1) hd
  have a2 := va_powQ hπ qs es' hb l' i qs[i] es'[i] (List.getElem?_eq_getElem hi) (List.getElem?_eq_getElem h2) hd
  have b1 := va_Kmul hπ hc (powQ_ne qs es hb.1)
  have b2 := va_Kmul hπ hc' (powQ_ne qs es' hb.1)
  rw [← e, a1] at b1
  rw [← e', a2] at b2
  have hv := (va_pos hπ hq).1 hd
  rw [b1] at b2
  exact Nat.eq_of_mul_eq_mul_right (by omega) b2
/-- So far as the basis is worked off. -/
def Chn (F : QP) (qs : List QP) (es : List Nat) (R : QP) : Prop := R ≠ 0 ∧ es.length = qs.length ∧ (∃ c : Rat, c ≠ 0 ∧ F = K c * (R * powQ qs es)) ∧ ∀ q ∈ qs, ¬ q ∣ R
theorem Chn.start {F : QP} (h : F ≠ 0) : Chn F [] [] F := ⟨h, rfl, ⟨1, by decide, QP.eq fun x => by simp only [powQ, v_mul, v_K, v_1]; grind⟩, fun q hq => by cases hq⟩
theorem Chn.step {F : QP} {qs : List QP} {es : List Nat} {R G R' : List Int} {k : Nat} (h : Chn F qs es (P R)) (hR : Rem R G k R') (hG : 2 ≤ (trimZ G).length) : Chn F (qs ++ [P G]) (es ++ [k]) (P R') := by
  obtain ⟨h0, hl, ⟨c, hc, e⟩, hn⟩ := h
  have hG' : ldP G ≠ 0 := by rw [ld_ne_iff, dg_pos, dg_P]; omega
  have hR0 : ldP R ≠ 0 := (ld_ne_iff R).2 h0
  rcases hR with ⟨⟨h1, h2, h3, h4, h5⟩, e1, hnd⟩ | ⟨h1, _⟩
  · have hR' : P R' ≠ 0 := fun e' => h1 (by rw [e1, e', zero_qmul])
    have hcR := cast_ne (primC_ne hR0)
    have hcG := cast_ne (primC_ne hG')
    have e2 := P_prim R
    have e3 := P_prim G
    have hpw := pow_ne hcG k
    refine ⟨hR', by simp [hl], ⟨c * ((primC R : Int) : Rat) / ((primC G : Int) : Rat) ^ k, ?_, ?_⟩, fun q hq => ?_⟩
    · intro h0
      have : c * ((primC R : Int) : Rat) = 0 := by grind
      grind
    · rw [powQ_snoc _ _ _ _ hl, e, e2, e1]
      refine QP.eq fun x => ?_
      have e4 := qat e3 x
      simp only [v_mul, v_K, v_pow] at e4 ⊢
      rw [e4, rat_mul_pow]
      grind
    · have hd : P R' ∣ P R := ⟨K (primC R) * P (primP G) ^ k, by rw [e2, e1]; exact QP.eq fun x => by simp only [v_mul, v_K, v_pow]; grind⟩
      rcases List.mem_append.1 hq with h6 | h6
      · exact fun h' => hn q h6 (qdvd_trans h' hd)
      · simp at h6
        subst h6
        rw [e3]
        exact fun h' => hnd ((K_dvd hcG).1 h')
  · rcases h1 with h1 | h1
    · exact absurd h1 h0
    · omega
theorem Chn.yes {F : QP} {qs : List QP} {es : List Nat} {R : QP} (h : Chn F qs es R) (hd : dg R ≤ 1) : ExpIs F qs es := by
  obtain ⟨h0, hl, ⟨c, hc, e⟩, _⟩ := h
  have := dg_pos.1 h0
  obtain ⟨r, hr, rfl⟩ := dg_one_ne (a := R) (by omega)
  exact ⟨hl, c * r, by grind, by rw [e]; exact QP.eq fun x => by simp only [v_mul, v_K]; grind⟩
theorem Chn.no {F : QP} {qs : List QP} {es : List Nat} {R : QP} (hb : BaseOk qs) (h : Chn F qs es R) (hd : 2 ≤ dg R) : ¬ ∃ es', ExpIs F qs es' := by
  rintro ⟨es', l', c', hc', e'⟩
  obtain ⟨h0, hl, ⟨c, hc, e⟩, hn⟩ := h
  have key : ∀ π, Irr π → va π R + va π (powQ qs es) = va π (powQ qs es') := fun π hπ => by
    have b1 := va_Kmul hπ hc (qp_mul_ne h0 (powQ_ne qs es hb.1))
    have b2 := va_Kmul hπ hc' (powQ_ne qs es' hb.1)
    rw [← e, va_mul hπ h0 (powQ_ne qs es hb.1)] at b1
    rw [← e'] at b2
    omega
  obtain ⟨π, hπ, hdv⟩ := irr_factor hd
  have hp := (va_pos hπ h0).1 hdv
  have hk := key π hπ
  obtain ⟨q, hq, hqd⟩ : ∃ q ∈ qs, π ∣ q := by
    apply Classical.byContradiction
    intro hx
    have := va_powQ_none hπ qs es' hb.1 fun q hq hd => hx ⟨q, hq, hd⟩
    omega
  obtain ⟨i, hi, rfl⟩ := List.getElem_of_mem hq
  have g1 : es[i]? = some es[i] := List.getElem?_eq_getElem (by omega)
  have g2 : es'[i]? = some es'[i] := List.getElem?_eq_getElem (by omega)
  have g0 : qs[i]? = some qs[i] := List.getElem?_eq_getElem hi
  have hq0 := dg2_ne (hb.1 qs[i] hq)
  rw [va_powQ hπ qs es hb hl i _ _ g0 g1 hqd, va_powQ hπ qs es' hb l' i _ _ g0 g2 hqd] at hk
  have hlt : es[i] < es'[i] := by
    apply Classical.byContradiction
    intro hx
    have := Nat.mul_le_mul_right (va π qs[i]) (show es'[i] ≤ es[i] by omega)
    omega
  refine hn _ hq (dvd_of_va hq0 h0 fun ρ hρ => ?_)
  by_cases hd2 : ρ ∣ qs[i]
  · have hk2 := key ρ hρ
    rw [va_powQ hρ qs es hb hl i _ _ g0 g1 hd2, va_powQ hρ qs es' hb l' i _ _ g0 g2 hd2] at hk2
    have := Nat.mul_le_mul_right (va ρ qs[i]) (show es[i] + 1 ≤ es'[i] by omega)
    rw [Nat.add_mul, Nat.one_mul] at this
    omega
  · have : ¬ 1 ≤ va ρ qs[i] := fun h' => hd2 ((va_pos hρ hq0).2 h')
    omega
/-- What Exponents returns. -/
def ExpR (F : QP) (qs : List QP) (ok : Bool) (es : List Nat) : Prop :=
  (ok = false ∧ es = [] ∧ ¬ (F ≠ 0 ∧ BaseOk qs ∧ ∃ es', ExpIs F qs es')) ∨ (ok = true ∧ F ≠ 0 ∧ BaseOk qs ∧ ExpIs F qs es)
def qps (l : List PE) : List QP := l.map fun f => P (zs f.l)
theorem qps_take (l : List PE) (i : Nat) : qps (l.take i) = (qps l).take i := by simp [qps, List.map_take]
theorem qps_get {l : List PE} {i : Nat} {f : PE} (h : l[i]? = some f) : (qps l)[i]? = some (P (zs f.l)) := by simp [qps, h]
theorem take_snocQ {l : List QP} {i : Nat} {q : QP} (h : l[i]? = some q) : l.take (i + 1) = l.take i ++ [q] := by
  rw [List.take_add_one, h]; rfl
/-- The first i are of positive degree and pairwise coprime. -/
theorem base_snoc {qs : List QP} {q : QP} (h : BaseOk qs) (hd : 2 ≤ dg q) (hc : ∀ x ∈ qs, CopQ q x) : BaseOk (qs ++ [q]) := by
  refine ⟨fun x hx => ?_, List.pairwise_append.2 ⟨h.2, List.pairwise_singleton _ _, fun a ha b hb => ?_⟩⟩
  · rcases List.mem_append.1 hx with h1 | h1
    · exact h.1 x h1
    · simp at h1; subst h1; exact hd
  · simp at hb
    subst hb
    exact cop_iff.2 fun π hπ h1 h2 => cop_iff.1 (hc a ha) π hπ h2 h1
theorem base_deg {qs : List QP} (h : BaseOk qs) {i : Nat} {q : QP} (hg : qs[i]? = some q) : 2 ≤ dg q := h.1 q (List.mem_of_getElem? hg)
theorem base_cop {qs : List QP} (h : BaseOk qs) {i j : Nat} {a b : QP} (ha : qs[j]? = some a) (hb : qs[i]? = some b) (hij : j < i) : CopQ b a := by
  have := List.pairwise_iff_getElem.1 h.2 j i (by rw [List.getElem?_eq_some_iff] at ha; exact ha.1) (by rw [List.getElem?_eq_some_iff] at hb; exact hb.1) hij
  rw [List.getElem?_eq_some_iff] at ha hb
  rw [ha.2, hb.2] at this
  exact cop_iff.2 fun π hπ h1 h2 => cop_iff.1 this π hπ h2 h1
/-! ### what the walk wants -/
theorem rem_cont {R G R' : List Int} {k : Nat} (h : Rem R G k R') (h0 : P R ≠ 0) (hG : 2 ≤ (trimZ G).length) : contP R' = 1 := by
  rcases h with ⟨_, e, _⟩ | ⟨h1, _⟩
  · have h2 := cont_mul_dvd R' (ppow (primP G) k)
    rw [← cont_congr (F := primP R) (G := pmul R' (ppow (primP G) k)) (by rw [P_mul, P_pow]; exact e), cont_prim ((ld_ne_iff R).2 h0)] at h2
    exact Nat.dvd_one.1 h2
  · rcases h1 with h1 | h1
    · exact absurd h1 h0
    · omega
theorem Chn.dvd {F : QP} {qs : List QP} {es : List Nat} {R : QP} (h : Chn F qs es R) : R ∣ F := by
  obtain ⟨_, _, ⟨c, hc, e⟩, _⟩ := h
  exact ⟨K c * powQ qs es, by rw [e]; exact QP.eq fun x => by simp only [v_mul, v_K]; grind⟩
theorem Chn.ne {F : QP} {qs : List QP} {es : List Nat} {R : QP} (h : Chn F qs es R) : R ≠ 0 := h.1
theorem exp_tight {F R : List Int} (hc : contP R = 1) (hd : P R ∣ P F) (h0 : P F ≠ 0) (hF : nrm F ≤ 2 ^ 128) (hn : (trimZ F).length ≤ 40) : nrm R < BS ^ 340 := by
  obtain ⟨W, e⟩ := gauss_dvd hc hd
  exact Nat.lt_of_le_of_lt (div_bd (n := 39) ⟨W, by rw [e, qmul_comm]⟩ h0 hF hn) (by decide +kernel)
theorem fillE_set {es : List Nat} {i n k : Nat} (h : es.length = i) (hi : i < n) : (es ++ List.replicate (n - i) 0).set i k = (es ++ [k]) ++ List.replicate (n - (i + 1)) 0 := by
  subst h
  rw [show n - es.length = (n - (es.length + 1)) + 1 by omega, List.replicate_succ, List.set_append_right _ _ (Nat.le_refl _)]
  simp
theorem ltE_fill {b : Nat} {es : List Nat} {m : Nat} (hb : 0 < b) (h : ∀ d ∈ es, d < b) : ∀ d ∈ es ++ List.replicate m 0, d < b := fun d hd => by
  rcases List.mem_append.1 hd with h1 | h1
  · exact h d h1
  · rw [List.eq_of_mem_replicate h1]; exact hb
theorem lt_snocN {b k : Nat} {es : List Nat} (h : ∀ d ∈ es, d < b) (hk : k < b) : ∀ d ∈ es ++ [k], d < b := fun d hd => by
  rcases List.mem_append.1 hd with h1 | h1
  · exact h d h1
  · simp at h1; omega
theorem cop_snoc {qs : List QP} {g q : QP} {j : Nat} (h : ∀ x ∈ qs.take j, CopQ g x) (hq : qs[j]? = some q) (hc : CopQ g q) : ∀ x ∈ qs.take (j + 1), CopQ g x := fun x hx => by
  rw [take_snocQ hq] at hx
  rcases List.mem_append.1 hx with h1 | h1
  · exact h x h1
  · simp at h1; subst h1; exact hc
theorem base_next {qs : List QP} {g : QP} {i j : Nat} (h : BaseOk (qs.take i)) (hg : qs[i]? = some g) (hd : 2 ≤ dg g) (hj : j = i) (hc : ∀ x ∈ qs.take j, CopQ g x) : BaseOk (qs.take (i + 1)) := by
  subst hj
  rw [take_snocQ hg]; exact base_snoc h hd hc
theorem base_nil {qs : List QP} : BaseOk (qs.take 0) := ⟨fun q hq => by simp at hq, by simp⟩
theorem chn_next {F : QP} {qs : List QP} {es : List Nat} {R G R' : List Int} {i k : Nat} (h : Chn F (qs.take i) es (P R)) (hR : Rem R G k R') (hg : qs[i]? = some (P G)) (hG : 2 ≤ dg (P G)) : Chn F (qs.take (i + 1)) (es ++ [k]) (P R') := by
  rw [take_snocQ hg]; rw [dg_P] at hG; exact h.step hR hG
/-! ### the law -/
theorem two_base {p q : QP} (hp : 2 ≤ dg p) (hq : 2 ≤ dg q) (hc : CopQ p q) : BaseOk [p, q] :=
  ⟨fun x hx => by simp at hx; rcases hx with rfl | rfl <;> assumption, by simp [hc]⟩
theorem two_exp {p q F : QP} {i j : Nat} {c : Rat} (hc : c ≠ 0) (e : F = K c * (p ^ i * q ^ j)) : ExpIs F [p, q] [i, j] := ⟨rfl, c, hc, by rw [e]; simp only [powQ]; rw [qmul_one]⟩
theorem two_more {p q x : QP} {e : List Nat} {F : QP} (hx : 2 ≤ dg x) (hc : CopQ x (p * q)) (hb : BaseOk [p, q]) (h : ExpIs (F * x) [p, q] e) (hF : F ≠ 0) : False := by
  obtain ⟨l, c, hc0, e1⟩ := h
  obtain ⟨π, hπ, hd⟩ := irr_factor hx
  have h1 := va_Kmul hπ hc0 (powQ_ne [p, q] e hb.1)
  rw [← e1, va_mul hπ hF (dg2_ne hx)] at h1
  have h2 := (va_pos hπ (dg2_ne hx)).1 hd
  have h3 : va π (powQ [p, q] e) = 0 := va_powQ_none hπ _ _ hb.1 fun y hy hd2 => by
    refine cop_iff.1 hc π hπ hd ?_
    simp at hy
    rcases hy with rfl | rfl
    · exact qdvd_mulR _ hd2
    · exact qdvd_mulL _ hd2
  omega
/-- All of the law on two. -/
theorem exp_law_F {F p q W1 W2 W3 : List Int} {i j : Nat} {c : Int} (h1 : W1 = trimZ (ppow p i)) (h2 : W2 = trimZ (ppow q j)) (h3 : W3 = trimZ (pmul W1 W2)) (h : F = trimZ (scaleP W3 c)) : P F = K (c : Rat) * (P p ^ i * P q ^ j) := by
  rw [h, P_trim, P_scale, h3, P_trim, P_mul, h1, h2, P_trim, P_trim, P_pow, P_pow]
theorem exp_law_yes {F p q : List Int} {i j : Nat} {c : Int} {ok : Bool} {es : List Nat} (hF : P F = K (c : Rat) * (P p ^ i * P q ^ j)) (h : ExpR (P F) [P p, P q] ok es) (hp : 2 ≤ dg (P p)) (hq : 2 ≤ dg (P q)) (hc : CopQ (P p) (P q)) (h0 : c ≠ 0) : P F ≠ 0 ∧ BaseOk [P p, P q] ∧ ok = true ∧ es = [i, j] := by
  have hb := two_base hp hq hc
  have hx := two_exp (cast_ne h0) hF
  have hne : P F ≠ 0 := by rw [hF]; exact qp_mul_ne (K_ne (cast_ne h0)) (qp_mul_ne (qp_pow_ne (dg2_ne hp) _) (qp_pow_ne (dg2_ne hq) _))
  rcases h with ⟨_, _, hn⟩ | ⟨h1, _, _, h4⟩
  · exact absurd ⟨hne, hb, _, hx⟩ hn
  · exact ⟨hne, hb, h1, (exp_unique hb hx h4).symm⟩
theorem exp_law_no {F : QP} {qs : List QP} {ok : Bool} {es : List Nat} (h : ExpR F qs ok es) (hn : ¬ (F ≠ 0 ∧ BaseOk qs)) : ok = false ∧ es = [] := by
  rcases h with ⟨h1, h2, _⟩ | ⟨_, h2, h3, _⟩
  · exact ⟨h1, h2⟩
  · exact absurd ⟨h2, h3⟩ hn
theorem exp_law_more {F x p q X Y : List Int} {ok : Bool} {es : List Nat} (h : ExpR (P X) [P p, P q] ok es) (hX : X = trimZ (pmul F x)) (hY : Y = trimZ (pmul p q)) (hb : BaseOk [P p, P q]) (hx : 2 ≤ dg (P x)) (hc : CopQ (P x) (P Y)) (hF : P F ≠ 0) : ok = false := by
  rcases h with ⟨h1, _⟩ | ⟨_, _, _, h4⟩
  · exact h1
  · exfalso
    rw [hX, P_trim, P_mul] at h4
    rw [hY, P_trim, P_mul] at hc
    exact two_more hx hc hb h4 hF
theorem exp_law_nF {p q W1 W2 W3 F : List Int} {c : Int} {i j : Nat} (h1 : W1 = trimZ (ppow p i)) (h2 : W2 = trimZ (ppow q j)) (h3 : W3 = trimZ (pmul W1 W2)) (h : F = trimZ (scaleP W3 c)) (hp : nrm p ≤ 163840) (hq : nrm q ≤ 163840) (hi : i ≤ 3) (hj : j ≤ 3) (hc : c.natAbs ≤ 255) : nrm F ≤ 2 ^ 118 := by
  rw [h, nrm_trim, nrm_scale, h3, nrm_trim]
  have a1 := pow_norm h1 hp (by decide) hi
  have a2 := pow_norm h2 hq (by decide) hj
  exact Nat.le_trans (Nat.mul_le_mul hc (Nat.le_trans (nrm_pmul _ _) (Nat.mul_le_mul a1 a2))) (by decide)
theorem exp_law_nX {F x X : List Int} (hX : X = trimZ (pmul F x)) (hF : nrm F ≤ 2 ^ 118) (hx : nrm x ≤ 256) : nrm X ≤ 2 ^ 126 := by
  rw [hX, nrm_trim]
  exact Nat.le_trans (nrm_pmul _ _) (Nat.le_trans (Nat.mul_le_mul hF hx) (by decide))
end Go.Gx
namespace Go.Gx
theorem K_zero : K 0 = 0 := QP.eq fun _ => rfl
theorem lin_trim (x : Int) : trimZ [x, 1] = [x, 1] := trimB_snoc_no isZI [x] 1 (by decide)
theorem lin_len (x : Int) : (trimZ [x, 1]).length = 2 := by rw [lin_trim]; rfl
end Go.Gx
