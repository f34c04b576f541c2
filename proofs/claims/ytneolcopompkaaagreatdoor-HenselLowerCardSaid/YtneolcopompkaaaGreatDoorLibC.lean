/-
  The laws of the walks and the plain laws of numbers and polynomials, part 3: FacThy3, FacWalk, ModApp, BasisMath, LawLift, RetPreds, SqPreds, LawLower.
-/
import Derived.Test.YtneolcopompkaaaGreatDoorLibB

/-
  Taking a monic polynomial apart modulo a prime: by degrees, and within a degree. Plain numbers; no program in sight.
-/
namespace Go.Gx
structure Mn (p : Nat) (d : List Nat) : Prop where
  can : CanP p d
  pos : 1 ≤ d.length
  one : d.getD (d.length - 1) 0 = 1
theorem Mn.mz {p : Nat} {f : List Nat} (h : Mn p f) : Mon (zl f) (f.length - 1) := ⟨by rw [co_zl, h.one]; rfl, fun i hi => by have := h.pos; exact co_ge (by rw [zl_len]; omega)⟩
theorem Mn.monN {p : Nat} {f : List Nat} (h : Mn p f) (h2 : 2 ≤ f.length) : MonN p f := ⟨h.can, h2, h.one⟩
theorem MonN.mn {p : Nat} {f : List Nat} (h : MonN p f) : Mn p f := ⟨h.can, by have := h.pos; omega, h.one⟩
def SqF (p : Nat) (f : List Nat) : Prop := Cop (p : Int) (zl f) (derivP (zl f))
theorem sqf_part {p : Int} {F w G : List Int} (hs : Cop p F (derivP F)) (h : CgV p F (pmul w G)) : Cop p G (derivP G) := by
  obtain ⟨a, ha⟩ := deriv_cg h
  obtain ⟨u, v, k, hk⟩ := hs
  obtain ⟨b, hb⟩ := h
  refine ⟨padd (pmul u w) (pmul v (derivP w)), pmul v w, psub k (padd (pmul u b) (pmul v a)), fun x => ?_⟩
  have h1 := ha x; have h2 := hb x; have h3 := hk x
  rw [evI_deriv_mul] at h1
  simp only [evI_padd, evI_psub, evI_pmul, evI_const] at *
  rw [h1, h2] at h3
  grind
theorem CgV.comm {p : Int} (a b : List Int) : CgV p (pmul a b) (pmul b a) := CgV.eqv fun x => by simp only [evI_pmul]; grind
theorem mon_scale {p c a b : Nat} {F M : List Int} (hp : 2 ≤ p) (hc : 0 < c) (hcp : c < p) (hF : Mon F a) (hM : Mon M b) (h : CgV (p : Int) F (scaleP M c)) : a = b ∧ c = 1 := by
  have key : ∀ z : Int, (p : Int) ∣ z → 0 < z → z < p → False := fun z h1 h2 h3 => by have := Int.le_of_dvd h2 h1; omega
  rcases Nat.lt_trichotomy a b with h1 | h1 | h1
  · exfalso
    obtain ⟨k, hk⟩ := h.cof b
    rw [hF.2 b h1, co_scaleP, hM.1] at hk
    exact key c ⟨-k, by grind⟩ (by omega) (by omega)
  · subst h1
    refine ⟨rfl, ?_⟩
    obtain ⟨k, hk⟩ := h.cof a
    rw [hF.1, co_scaleP, hM.1] at hk
    rcases Nat.lt_or_ge 1 c with h2 | h2
    · exfalso; exact key ((c : Int) - 1) ⟨-k, by grind⟩ (by omega) (by omega)
    · omega
  · exfalso
    obtain ⟨k, hk⟩ := h.cof a
    rw [hF.1, co_scaleP, hM.2 a h1] at hk
    exact key 1 ⟨k, by grind⟩ (by omega) (by omega)
theorem lead_mn {p : Nat} (hp : PrimeN p) {q : List Nat} (hq : CanP p q) (h0 : 0 < q.length) : Mn p (monicP p q) ∧ (monicP p q).length = q.length ∧ CgV (p : Int) (zl q) (scaleP (zl (monicP p q)) (leadP q : Nat)) := by
  have hl := monic_len hp hq
  have h1 := monic_lead hp hq h0
  refine ⟨⟨canP_monic (by have := hp.1; omega) _, by omega, by rw [hl]; exact h1⟩, hl, ?_⟩
  have hla := hq.last h0
  have hm : monicP p q = scalP p q (invN p (leadP q)) := by unfold monicP; rw [if_neg (by omega)]
  obtain ⟨a, ha⟩ := cgN_scal (p := p) q (invN p (leadP q))
  obtain ⟨k, hk⟩ := dvd_modN (p := p) (leadP q * invN p (leadP q))
  rw [show leadP q * invN p (leadP q) % p = 1 from (invN_spec hp hla.1 hla.2).2, Int.natCast_mul] at hk
  rw [hm]
  refine ⟨scaleP (padd (scaleP (zl q) k) (scaleP a (-(leadP q : Int)))) 1, fun x => ?_⟩
  have a1 := ha x
  simp only [evI_padd, evI_pmul, evI_scale, evI] at a1 ⊢
  rw [a1]
  simp only [Int.natCast_one] at hk
  grind
theorem div_exact {p : Nat} (hp : PrimeN p) {f g q r : List Nat} (hf : Mn p f) (hg : MonN p g) (hd : Dv (p : Int) (zl g) (zl f)) (h : divP p f g = (q, r)) :
    Mn p q ∧ CgV (p : Int) (zl f) (pmul (zl q) (zl g)) ∧ q.length + g.length = f.length + 1 := by
  have hp0 : 0 < p := by have := hp.1; omega
  have hgp := hg.pos
  obtain ⟨w, hw⟩ := hd
  have h1 := divP_cg hp0 h
  have hr : r.length < g.length := by
    have h2 := divP_len (f := f) hp (by omega) (by rw [hg.one]; omega) hg.can.1 hf.can.1
    rw [h] at h2; exact h2
  have hq : CanP p q := by have := (divP_can hp0 hf.can (g := g)).1; rw [h] at this; exact this
  have h3 : CgV (p : Int) (pmul (zl g) (psub w (zl q))) (zl r) := by
    obtain ⟨a, ha⟩ := h1; obtain ⟨b, hb⟩ := hw
    exact ⟨scaleP (padd a b) (-1), fun x => by have := ha x; have := hb x; simp only [evI_padd, evI_pmul, evI_psub, evI_scale] at *; grind⟩
  have h4 := mon_zero hg.mz h3 fun i hi => by rw [co_ge (by rw [zl_len]; omega)]; exact Int.dvd_zero _
  have h5 : CgV (p : Int) (zl f) (pmul (zl q) (zl g)) := by
    obtain ⟨a, ha⟩ := h4; obtain ⟨b, hb⟩ := hw
    exact ⟨padd b (pmul a (zl g)), fun x => by have := ha x; have := hb x; simp only [evI_padd, evI_pmul, evI_psub, evI] at *; grind⟩
  have hq0 : 0 < q.length := by
    rcases Nat.eq_zero_or_pos q.length with e | e
    · exfalso
      rw [List.eq_nil_of_length_eq_zero e] at h5
      obtain ⟨k, hk⟩ := h5.cof (f.length - 1)
      rw [hf.mz.1, co_pmul] at hk
      have h6 : conv (zl []) (zl g) (f.length - 1) = 0 := rsum_zero fun i _ => by show co [] i * _ = 0; simp [co]
      rw [h6] at hk
      have h7 : (p : Int) ∣ 1 := ⟨k, by omega⟩
      have := Int.le_of_dvd (by omega) h7
      have := hp.1
      omega
    · exact e
  obtain ⟨hm, hml, hmc⟩ := lead_mn hp hq hq0
  have hla := hq.last hq0
  have h6 : CgV (p : Int) (zl f) (scaleP (pmul (zl (monicP p q)) (zl g)) (leadP q : Nat)) := h5.trans ((hmc.mul (CgV.refl _ _)).trans (CgV.eqv fun x => by simp only [evI_pmul, evI_scale]; grind))
  have h7 := mon_scale hp.1 hla.1 hla.2 hf.mz (hm.mz.mul hg.mz) h6
  have := hf.pos
  refine ⟨⟨hq, hq0, h7.2⟩, h5, by omega⟩
theorem cop_eqF {p : Nat} {a a' b : List Int} (h : Cop (p : Int) a b) (e : EqF p b a a') : Cop (p : Int) a' b := by
  obtain ⟨u, v, k, hk⟩ := h; obtain ⟨w, l, e⟩ := e
  refine ⟨u, padd v (pmul u w), psub k (pmul u l), fun x => ?_⟩
  have h1 := hk x; have h2 := e x
  simp only [evI_padd, evI_psub, evI_pmul, evI_const] at *
  rw [h2] at h1; grind
theorem cop_low {p : Int} {a F q : List Int} (h : Cop p a F) (hd : Dv p q F) : Cop p a q := by
  obtain ⟨u, v, k, hk⟩ := h; obtain ⟨w, l, hd⟩ := hd
  refine ⟨u, pmul v w, psub k (pmul v l), fun x => ?_⟩
  have h1 := hk x; have h2 := hd x
  simp only [evI_padd, evI_psub, evI_pmul, evI_const] at *
  rw [h2] at h1; grind
theorem rest_cop {p : Nat} (hp : PrimeN p) {u f q r : List Nat} (hu : CanP p u) (hf : Mn p f) (hs : SqF p f) (h2 : 2 ≤ (gcdP p u f).length) (h : divP p f (gcdP p u f) = (q, r)) : Cop (p : Int) (zl u) (zl q) := by
  have hpos := hf.pos
  have hl : 0 < u.length + f.length := by omega
  have hD := gcd_monN hp hu hf.can hl h2
  obtain ⟨d1, d2⟩ := gcd_dv hp f.length u f hu hf.can (Nat.le_refl _) hl
  change Dv (p : Int) (zl (gcdP p u f)) (zl u) at d1
  change Dv (p : Int) (zl (gcdP p u f)) (zl f) at d2
  obtain ⟨hq, hqc, hql⟩ := div_exact hp hf hD d2 h
  have hqp := hq.pos
  have hl2 : 0 < u.length + q.length := by omega
  rcases Nat.lt_or_ge 1 (gcdP p u q).length with h3 | h3
  · exfalso
    have hE := gcd_monN hp hu hq.can hl2 h3
    obtain ⟨e1, e2⟩ := gcd_dv hp q.length u q hu hq.can (Nat.le_refl _) hl2
    change Dv (p : Int) (zl (gcdP p u q)) (zl u) at e1
    change Dv (p : Int) (zl (gcdP p u q)) (zl q) at e2
    have e3 : Dv (p : Int) (zl q) (zl f) := ⟨zl (gcdP p u f), hqc.trans (CgV.comm _ _)⟩
    obtain ⟨y, hy⟩ := cof_gcd hp (F := zl u) (G := zl f) f.length u f [1] [] hu hf.can (Nat.le_refl _) hl mdG_start.1 mdG_start.2
    have e4 : EqF p (zl (gcdP p u q)) (zl (gcdP p u f)) [] := (EqF.cg hy).trans ((((EqF.refl _).mul (EqF.of_dv e1)).add ((EqF.refl y).mul (EqF.of_dv (e2.trans e3)))).trans (EqF.ev fun x => by simp only [evI_padd, evI_pmul, evI]; omega))
    obtain ⟨s, t, hc⟩ := sqf_cop hs hqc
    refine not_dv_one hp.1 hE (EqF.dv ((EqF.cg hc.symm).trans ((((EqF.refl s).mul (EqF.of_dv e2)).add ((EqF.refl t).mul e4)).trans (EqF.ev fun x => by simp only [evI_padd, evI_pmul, evI]; omega))))
  · exact cop_of_gcd hp hu hq.can hl2 h3
def TrialR (p N : Nat) (t : List Nat) : Prop := CanP p t ∧ if p = 2 then ∀ x : Int, evI (zl t) x = x ^ (2 * N + 1) else vb p t = N + p
def sepF (p : Nat) (t : List Int) (d : Nat) : List Int := if p = 2 then sumJ p t d else sepO p t d
def SepR (p : Nat) (f : List Nat) (d : Nat) (t s : List Nat) : Prop := CanP p s ∧ EqF p (zl f) (zl s) (sepF p (zl t) d)
structure EdP (p d : Nat) (f : List Nat) : Prop where
  mon : MonN p f
  len : f.length ≤ 8
  sq : SqF p f
  fix : EqF p (zl f) (cj p [0, 1] d) [0, 1]
  low : d = 2 → Cop (p : Int) (psub (powL [0, 1] p) [0, 1]) (zl f)
theorem canP_canon {p : Nat} {l : List Nat} (h : CanP p l) : Canon isZ l := h.trim
theorem vb_inj {p : Nat} (hp : 2 ≤ p) : ∀ (a b : List Nat), CanP p a → CanP p b → vb p a = vb p b → a = b := by
  have tl : ∀ (x : Nat) (l : List Nat), CanP p (x :: l) → CanP p l := fun x l h => ⟨fun d hd => h.1 d (List.mem_cons_of_mem _ hd), fun h0 => by
    have h1 := h.2 (by simp)
    obtain ⟨j, hj⟩ : ∃ j, l.length = j + 1 := ⟨l.length - 1, by omega⟩
    rw [List.length_cons, hj, Nat.add_sub_cancel, List.getD_cons_succ] at h1
    rw [hj]; exact h1⟩
  have nz : ∀ l : List Nat, CanP p l → vb p l = 0 → l = [] := fun l h h0 => canon_vnil (canP_canon h) (by omega) h0
  intro a
  induction a with
  | nil => intro b _ hb h; exact (nz b hb h.symm).symm
  | cons x a ih =>
    intro b ha hb h
    cases b with
    | nil => exact nz _ ha h
    | cons y b =>
      have hx := ha.1 x (by simp); have hy := hb.1 y (by simp)
      have e1 : vb p (x :: a) = x + p * vb p a := rfl
      have e2 : vb p (y :: b) = y + p * vb p b := rfl
      rw [e1, e2] at h
      have h1 : x = y := by
        have := congrArg (· % p) h
        simp only [Nat.add_mul_mod_self_left, Nat.mod_eq_of_lt hx, Nat.mod_eq_of_lt hy] at this
        exact this
      subst h1
      have h2 : vb p a = vb p b := Nat.eq_of_mul_eq_mul_left (show 0 < p by omega) (by omega)
      rw [ih b (tl _ _ ha) (tl _ _ hb) h2]
theorem ed_ex {p d : Nat} {f : List Nat} (hp : P6 p) (hd : 1 ≤ d ∧ d ≤ 3) (h : EdP p d f) (hl : d + 1 < f.length) :
    ∃ N, (p = 2 ∧ N ≤ 3 ∨ p ≠ 2 ∧ N ≤ 1000000000) ∧ ∀ t s, TrialR p N t → SepR p f d t s → 2 ≤ (gcdP p s f).length ∧ (gcdP p s f).length < f.length := by
  have hw : ¬ Whole p f := fun hw => by have := whole_deg hp h.mon hw hd h.fix; omega
  rcases Classical.em (p = 2) with h2 | h2
  · subst h2
    obtain ⟨k, hk, hs⟩ := sep_two hd h.mon h.len h.sq hw h.fix h.low
    refine ⟨k, .inl ⟨rfl, hk⟩, fun t s ht hsr => hs s hsr.1 ?_⟩
    have h3 := ht.2
    rw [if_pos rfl] at h3
    have h4 := hsr.2
    rw [sepF, if_pos rfl] at h4
    exact h4.trans (EqF.sumJ (EqF.ev fun x => by rw [h3, evI_powL]; simp [evI]) d)
  · obtain ⟨t0, hc, h3, h4, hs⟩ := sep_odd hp h2 hd.1 h.mon h.sq hw
    have hp2 := hp.two
    have h8 := h.len
    have hlo : p ^ 1 ≤ vb p t0 := by
      refine Nat.le_trans (Nat.pow_le_pow_right (by omega) (show 1 ≤ t0.length - 1 by omega)) (canon_ge (canP_canon hc) (by intro e; subst e; simp at h3) (by omega))
    have hhi : vb p t0 < 13 ^ 8 := by
      have h5 := vb_lt t0 hc.1
      have h6 : p ^ t0.length ≤ p ^ 8 := Nat.pow_le_pow_right (by omega) (by omega)
      have h7 : p ^ 8 ≤ 13 ^ 8 := Nat.pow_le_pow_left (by unfold P6 at hp; omega) 8
      omega
    rw [Nat.pow_one] at hlo
    have h13 : 13 ^ 8 = 815730721 := by decide
    refine ⟨vb p t0 - p, .inr ⟨h2, by omega⟩, fun t s ht hsr => hs s hsr.1 ?_⟩
    have h5 := ht.2
    rw [if_neg h2] at h5
    have h6 : t = t0 := vb_inj hp2 t t0 ht.1 hc (by omega)
    have h7 := hsr.2
    rw [sepF, if_neg h2, h6] at h7
    exact h7
theorem EdP.part {p d : Nat} {f g q r : List Nat} (hp : PrimeN p) (h : EdP p d f) (hg : MonN p g) (hd : Dv (p : Int) (zl g) (zl f)) (hlt : g.length < f.length) (hq : divP p f g = (q, r)) :
    EdP p d g ∧ EdP p d q ∧ CgV (p : Int) (zl f) (pmul (zl g) (zl q)) ∧ q.length < f.length := by
  obtain ⟨h1, h2, h3⟩ := div_exact hp h.mon.mn hg hd hq
  have hgp := hg.pos
  have h8 := h.len
  have hdq : Dv (p : Int) (zl q) (zl f) := ⟨zl g, h2.trans (CgV.comm _ _)⟩
  refine ⟨⟨hg, by omega, sqf_part h.sq h2, h.fix.low hd, fun e => cop_low (h.low e) hd⟩, ⟨h1.monN (by omega), by omega, sqf_part h.sq (h2.trans (CgV.comm _ _)), h.fix.low hdq, fun e => cop_low (h.low e) hdq⟩, h2.trans (CgV.comm _ _), by omega⟩
structure FacOK (p : Nat) (F : List Int) (l : List (List Nat)) : Prop where
  mon : ∀ d ∈ l, MonN p d
  prod : CgV (p : Int) (pL (l.map zl)) F
theorem pL_app (a b : List (List Int)) (x : Int) : evI (pL (a ++ b)) x = evI (pL a) x * evI (pL b) x := by
  induction a with
  | nil => simp [pL, evI]
  | cons c a ih => simp only [List.cons_append, pL, evI_pmul, ih]; grind
theorem FacOK.one {p : Nat} {f : List Nat} (h : MonN p f) : FacOK p (zl f) [f] := ⟨fun d hd => by rw [List.mem_singleton.1 hd]; exact h, CgV.eqv fun x => by simp only [List.map, pL, evI_pmul, evI_const]; omega⟩
theorem FacOK.nil (p : Nat) : FacOK p [1] [] := ⟨fun d hd => by simp at hd, CgV.refl _ _⟩
theorem FacOK.app {p : Nat} {F G : List Int} {a b : List (List Nat)} (h : FacOK p F a) (g : FacOK p G b) : FacOK p (pmul F G) (a ++ b) :=
  ⟨fun d hd => by rcases List.mem_append.1 hd with h1 | h1; exact h.mon d h1; exact g.mon d h1,
   (CgV.eqv fun x => by rw [List.map_append, pL_app, evI_pmul]).trans (h.prod.mul g.prod)⟩
theorem FacOK.cg {p : Nat} {F G : List Int} {a : List (List Nat)} (h : FacOK p F a) (e : CgV (p : Int) F G) : FacOK p G a := ⟨h.mon, h.prod.trans e⟩
theorem pL_perm {a b : List (List Int)} (h : a.Perm b) (x : Int) : evI (pL a) x = evI (pL b) x := by
  induction h with
  | nil => rfl
  | cons c _ ih => simp only [pL, evI_pmul, ih]
  | swap c d l => simp only [pL, evI_pmul]; grind
  | trans _ _ h1 h2 => rw [h1, h2]
theorem FacOK.perm {p : Nat} {F : List Int} {a b : List (List Nat)} (h : FacOK p F a) (e : b.Perm a) : FacOK p F b :=
  ⟨fun d hd => h.mon d (e.mem_iff.1 hd), (CgV.eqv fun x => pL_perm (e.map zl) x).trans h.prod⟩
theorem FacOK.pw {p : Nat} : ∀ {l : List (List Nat)} {F : List Int}, FacOK p F l → Cop (p : Int) F (derivP F) → Pw (p : Int) (l.map zl)
  | [], _, _, _ => trivial
  | d :: l, F, h, hs => by
    have h1 : CgV (p : Int) F (pmul (zl d) (pL (l.map zl))) := h.prod.symm
    have h2 := sqf_cop hs h1
    have h3 := sqf_part hs h1
    refine ⟨fun c hc => cop_low h2 ?_, FacOK.pw (F := pL (l.map zl)) ⟨fun e he => h.mon e (List.mem_cons_of_mem _ he), CgV.refl _ _⟩ h3⟩
    have : ∀ (L : List (List Int)), c ∈ L → Dv (p : Int) c (pL L) := by
      intro L
      induction L with
      | nil => intro h; simp at h
      | cons a L ih =>
        intro hm
        rcases List.mem_cons.1 hm with rfl | hm
        · exact ⟨pL L, CgV.comm _ _⟩
        · obtain ⟨w, hw⟩ := ih hm
          exact ⟨pmul a w, ((CgV.refl _ a).mul hw).trans (CgV.eqv fun x => by simp only [evI_pmul]; grind)⟩
    exact this _ hc
structure BdI (p d : Nat) (F : List Int) (L : List (List Nat)) (f w : List Nat) : Prop where
  mn : Mn p f
  len : f.length ≤ 8
  sq : SqF p f
  fac : ∃ R, FacOK p R L ∧ CgV (p : Int) (pmul R (zl f)) F
  can : CanP p w
  pow : EqF p (zl f) (zl w) (cj p [0, 1] (d - 1))
  low : 2 ≤ d → Cop (p : Int) (psub (powL [0, 1] p) [0, 1]) (zl f)
theorem bd_u {p d : Nat} (hp : P6 p) {F : List Int} {L : List (List Nat)} {f w w2 u : List Nat} (h : BdI p d F L f w) (hd : 1 ≤ d) (h2 : EqF p (zl f) (zl w2) (powL (zl w) p)) (hu : CgV (p : Int) (zl u) (psub (zl w2) [0, 1])) :
    EqF p (zl f) (zl w2) (cj p [0, 1] d) ∧ EqF p (zl f) (zl u) (psub (cj p [0, 1] d) [0, 1]) := by
  obtain ⟨j, rfl⟩ : ∃ j, d = j + 1 := ⟨d - 1, by omega⟩
  have h3 : EqF p (zl f) (zl w2) (cj p [0, 1] (j + 1)) := h2.trans (h.pow.pow p)
  exact ⟨h3, (EqF.cg hu).trans (h3.sub (EqF.refl _))⟩
theorem BdI.no {p d : Nat} (hp : P6 p) {F : List Int} {L : List (List Nat)} {f w w2 u : List Nat} (h : BdI p d F L f w) (hd : 1 ≤ d) (hw2 : CanP p w2) (hu0 : CanP p u) (h2 : EqF p (zl f) (zl w2) (powL (zl w) p)) (hu : CgV (p : Int) (zl u) (psub (zl w2) [0, 1]))
    (hg : (gcdP p u f).length ≤ 1) : BdI p (d + 1) F L f w2 := by
  obtain ⟨h3, h4⟩ := bd_u hp h hd h2 hu
  have hpos := h.mn.pos
  refine ⟨h.mn, h.len, h.sq, h.fac, hw2, h3, fun _ => ?_⟩
  rcases Nat.lt_or_ge d 2 with h5 | h5
  · obtain rfl : d = 1 := by omega
    exact cop_eqF (cop_of_gcd hp.pr hu0 h.mn.can (by omega) hg) h4
  · exact h.low h5
theorem BdI.ed {p d : Nat} (hp : P6 p) {F : List Int} {L : List (List Nat)} {f w w2 u : List Nat} (h : BdI p d F L f w) (hd : 1 ≤ d) (hu0 : CanP p u) (h2 : EqF p (zl f) (zl w2) (powL (zl w) p)) (hu : CgV (p : Int) (zl u) (psub (zl w2) [0, 1]))
    (hg : 2 ≤ (gcdP p u f).length) : EdP p d (gcdP p u f) := by
  obtain ⟨h3, h4⟩ := bd_u hp h hd h2 hu
  have hpos := h.mn.pos
  have hl : 0 < u.length + f.length := by omega
  have hD := gcd_monN hp.pr hu0 h.mn.can hl hg
  obtain ⟨d1, d2⟩ := gcd_dv hp.pr f.length u f hu0 h.mn.can (Nat.le_refl _) hl
  change Dv (p : Int) (zl (gcdP p u f)) (zl u) at d1
  change Dv (p : Int) (zl (gcdP p u f)) (zl f) at d2
  obtain ⟨w0, hw0⟩ := d2
  refine ⟨hD, ?_, sqf_part h.sq hw0, EqF.of_dvs (EqF.dv ((h4.low ⟨w0, hw0⟩).symm.trans (EqF.of_dv d1))), fun e => cop_low (h.low (by omega)) ⟨w0, hw0⟩⟩
  have := dv_deg hp.two hD.mz h.mn.mz ⟨w0, hw0⟩
  have := hD.pos; have := h.len
  omega
theorem BdI.yes {p d : Nat} (hp : P6 p) {F : List Int} {L L' : List (List Nat)} {f w w2 w3 u q r : List Nat} (h : BdI p d F L f w) (hd : 1 ≤ d) (hu0 : CanP p u) (h2 : EqF p (zl f) (zl w2) (powL (zl w) p)) (hu : CgV (p : Int) (zl u) (psub (zl w2) [0, 1]))
    (hg : 2 ≤ (gcdP p u f).length) (hL : FacOK p (zl (gcdP p u f)) L') (hq : divP p f (gcdP p u f) = (q, r)) (hw3 : CanP p w3) (h3 : EqF p (zl q) (zl w3) (zl w2)) : BdI p (d + 1) F (L ++ L') q w3 := by
  obtain ⟨h5, h4⟩ := bd_u hp h hd h2 hu
  have hpos := h.mn.pos
  have hl : 0 < u.length + f.length := by omega
  have hD := gcd_monN hp.pr hu0 h.mn.can hl hg
  obtain ⟨d1, d2⟩ := gcd_dv hp.pr f.length u f hu0 h.mn.can (Nat.le_refl _) hl
  change Dv (p : Int) (zl (gcdP p u f)) (zl f) at d2
  obtain ⟨e1, e2, e3⟩ := div_exact hp.pr h.mn hD d2 hq
  have hc := rest_cop hp.pr hu0 h.mn h.sq hg hq
  have hdq : Dv (p : Int) (zl q) (zl f) := ⟨zl (gcdP p u f), e2.trans (CgV.comm _ _)⟩
  obtain ⟨R, hR, hRF⟩ := h.fac
  refine ⟨e1, by have := hD.pos; have := h.len; omega, sqf_part h.sq (e2.trans (CgV.comm _ _)), ⟨_, hR.app hL, ?_⟩, hw3, h3.trans (h5.low hdq), fun _ => ?_⟩
  · refine ((CgV.eqv fun x => ?_ : CgV (p : Int) _ (pmul R (pmul (zl q) (zl (gcdP p u f))))).trans ((CgV.refl _ R).mul e2.symm)).trans hRF
    simp only [evI_pmul]; grind
  · rcases Nat.lt_or_ge d 2 with h6 | h6
    · obtain rfl : d = 1 := by omega
      exact cop_eqF hc (h4.low hdq)
    · exact cop_low (h.low h6) hdq
theorem BdI.start {p : Nat} {f w : List Nat} (hf : Mn p f) (hl : f.length ≤ 8) (hs : SqF p f) (hw : CanP p w) (h : EqF p (zl f) (zl w) [0, 1]) : BdI p 1 (zl f) [] f w :=
  ⟨hf, hl, hs, ⟨[1], FacOK.nil p, CgV.eqv fun x => by simp only [evI_pmul, evI_const]; omega⟩, hw, h, fun h2 => by omega⟩
theorem BdI.done1 {p d : Nat} {F : List Int} {L : List (List Nat)} {f w : List Nat} (h : BdI p d F L f w) (hl : f.length ≤ 1) : FacOK p F L := by
  obtain ⟨R, hR, hRF⟩ := h.fac
  have hpos := h.mn.pos
  have h1 := h.mn.one
  have h2 : f = [1] := by
    match f, hl, hpos, h1 with
    | [a], _, _, h1 => simp [List.getD] at h1; rw [h1]
  refine hR.cg ((CgV.eqv fun x => ?_).trans hRF)
  rw [h2]; simp only [evI_pmul, zl, List.map, evI]; grind
theorem BdI.done2 {p d : Nat} {F : List Int} {L : List (List Nat)} {f w : List Nat} (h : BdI p d F L f w) (hl : 2 ≤ f.length) : FacOK p F (L ++ [f]) := by
  obtain ⟨R, hR, hRF⟩ := h.fac
  exact (hR.app (FacOK.one (h.mn.monN hl))).cg hRF
end Go.Gx

/-
  What the walks of the factorization modulo a prime want. Plain numbers; no program in sight.
-/
namespace Go.Gx
theorem der_cell {p k x : Nat} {df : List Nat} (hp : 0 < p) (hx : x = df.getD (k + 1) 0 * ((k + 1) % p) % p) : x = md p (co (derivP (zl df)) k) := by
  subst hx
  rw [co_derivP, co_zl, md_mul hp]
  exact md_cg hp ((Cg.refl p _).mul (cg_mod (k + 1)))
theorem der_nil {p n : Nat} {df : List Nat} (h : df.length = n) (h0 : n = 0) : [] = redP p (derivP (zl df)) := by
  rw [List.eq_nil_of_length_eq_zero (h.trans h0)]; rfl
theorem rem_eqF {p : Nat} {f g r : List Nat} (hp : 0 < p) (h : r = (divP p f g).2) : EqF p (zl g) (zl r) (zl f) := by
  obtain ⟨k, hk⟩ := divP_cg hp (f := f) (g := g) (q := (divP p f g).1) (r := r) (by rw [h])
  exact ⟨scaleP (zl (divP p f g).1) (-1), k, fun x => by have := hk x; simp only [evI_padd, evI_pmul, evI_scale] at *; grind⟩
theorem mulrem {p : Nat} {a b m g r : List Nat} (hp : 0 < p) (e1 : m = mulP p a b) (e2 : r = (divP p m g).2) : EqF p (zl g) (zl r) (pmul (zl a) (zl b)) :=
  (rem_eqF hp e2).trans (EqF.cg (by rw [e1]; exact cgN_mul hp a b))
def PwI (p : Nat) (G f : List Nat) (N : Nat) (R S : List Nat) (n : Nat) : Prop := EqF p (zl G) (pmul (zl R) (powL (zl S) n)) (powL (zl f) N)
theorem PwI.start {p N : Nat} {G f R S : List Nat} (h1 : EqF p (zl G) (zl R) (zl [1])) (h2 : EqF p (zl G) (zl S) (zl f)) : PwI p G f N R S N :=
  (h1.mul (h2.pow N)).trans (EqF.ev fun x => by simp only [evI_pmul, zl, List.map, evI]; grind)
theorem pow_half (s : Int) {n : Nat} (h : n % 2 ≠ 0) : s ^ n = s * (s * s) ^ (n / 2) := by
  have e : n = 1 + 2 * (n / 2) := by omega
  have e2 : s ^ n = s ^ (1 + 2 * (n / 2)) := by rw [← e]
  rw [e2, Int.pow_add, Int.pow_mul, show s ^ 2 = s * s by grind]; grind
theorem pow_half0 (s : Int) {n : Nat} (h : ¬ n % 2 ≠ 0) : s ^ n = (s * s) ^ (n / 2) := by
  have e : n = 2 * (n / 2) := by omega
  have e2 : s ^ n = s ^ (2 * (n / 2)) := by rw [← e]
  rw [e2, Int.pow_mul, show s ^ 2 = s * s by grind]
theorem PwI.odd1 {p N n : Nat} {G f R S R' S' : List Nat} (h : PwI p G f N R S n) (hn : n % 2 ≠ 0) (h1 : EqF p (zl G) (zl R') (pmul (zl R) (zl S))) (h2 : EqF p (zl G) (zl S') (pmul (zl S) (zl S))) : PwI p G f N R' S' (n / 2) :=
  ((h1.mul (h2.pow (n / 2))).trans (EqF.ev fun x => by simp only [evI_pmul, evI_powL]; rw [pow_half _ hn]; grind)).trans h
theorem PwI.odd0 {p N n : Nat} {G f R S R' : List Nat} (h : PwI p G f N R S n) (hn : n % 2 ≠ 0) (h0 : n / 2 = 0) (h1 : EqF p (zl G) (zl R') (pmul (zl R) (zl S))) : PwI p G f N R' S (n / 2) := by
  rw [h0]
  obtain rfl : n = 1 := by omega
  exact ((h1.mul (EqF.refl _)).trans (EqF.ev fun x => by simp only [evI_pmul, evI_powL]; grind)).trans h
theorem PwI.even1 {p N n : Nat} {G f R S S' : List Nat} (h : PwI p G f N R S n) (hn : ¬ n % 2 ≠ 0) (h2 : EqF p (zl G) (zl S') (pmul (zl S) (zl S))) : PwI p G f N R S' (n / 2) :=
  (((EqF.refl (zl R)).mul (h2.pow (n / 2))).trans (EqF.ev fun x => by simp only [evI_pmul, evI_powL]; rw [pow_half0 _ hn])).trans h
theorem PwI.done {p N n : Nat} {G f R S : List Nat} (h : PwI p G f N R S n) (hn : n = 0) : EqF p (zl G) (zl R) (powL (zl f) N) := by
  subst hn
  exact (EqF.ev fun x => by simp only [evI_pmul, evI_powL]; grind).trans h
theorem getD_lastN (L : List Nat) (x : Nat) : (L ++ [x]).getD L.length 0 = x := by simp [List.getD]
structure TrI (p N : Nat) (L : List Nat) (k r : Nat) : Prop where
  v : vb p L + p ^ k * r = N + p
  lt : ∀ d ∈ L, d < p
  top : r = 0 → L.length ≠ 0 → 0 < L.getD (L.length - 1) 0
theorem TrI.start {p N : Nat} (hp : 0 < p) : TrI p N [] 0 (N + p) := ⟨by simp [vb], fun d hd => by simp at hd, fun h => by omega⟩
theorem TrI.step {p N k r x : Nat} {L : List Nat} (h : TrI p N L k r) (hp : 0 < p) (hl : L.length = k) (hr : 0 < r) (hx : x = r % p) : TrI p N (L ++ [x]) (k + 1) (r / p) := by
  subst hx
  refine ⟨?_, lt_snocP h.lt (Nat.mod_lt _ hp), fun h0 _ => ?_⟩
  · rw [vb_snoc, hl, ← h.v, Nat.add_assoc, Nat.pow_succ, Nat.mul_assoc, ← Nat.mul_add]
    congr 2; exact Nat.mod_add_div r p
  · simp only [List.length_append, List.length_singleton, Nat.add_sub_cancel]
    rw [getD_lastN]
    have := Nat.mod_add_div r p
    rw [h0] at this; omega
theorem TrI.bound {p N k r : Nat} {L : List Nat} (h : TrI p N L k r) (hp : 3 ≤ p) (hp16 : p < 16) (hN : N ≤ 1000000000) (hr : 0 < r) : k < 32 := by
  rcases Nat.lt_or_ge k 32 with h1 | h1
  · exact h1
  · exfalso
    have h2 : 2 ^ 32 ≤ p ^ k := Nat.le_trans (Nat.pow_le_pow_left (show 2 ≤ p by omega) 32) (Nat.pow_le_pow_right (by omega) h1)
    have h3 : p ^ k * 1 ≤ p ^ k * r := Nat.mul_le_mul_left _ hr
    have h4 := h.v
    omega
theorem TrI.done {p N k r : Nat} {L : List Nat} (h : TrI p N L k r) (hp : p ≠ 2) (hr : r = 0) : TrialR p N L := by
  subst hr
  refine ⟨⟨h.lt, h.top rfl⟩, ?_⟩
  rw [if_neg hp, ← h.v]; simp
theorem trial_two {n N : Nat} (hn : N = 2 * n + 2) : TrialR 2 n ((List.replicate N 0).set (2 * n + 1) 1) := by
  subst hn
  have e : (List.replicate (2 * n + 2) 0).set (2 * n + 1) 1 = List.replicate (2 * n + 1) 0 ++ [1] := by
    rw [show 2 * n + 2 = (2 * n + 1) + 1 by omega, List.replicate_succ']
    rw [List.set_append_right _ _ (by simp)]
    simp
  rw [e]
  refine ⟨⟨fun d hd => ?_, fun _ => ?_⟩, ?_⟩
  · rcases List.mem_append.1 hd with h | h
    · rw [List.eq_of_mem_replicate h]; omega
    · rw [List.mem_singleton.1 h]; omega
  · simp only [List.length_append, List.length_replicate, List.length_singleton, Nat.add_sub_cancel]
    have h9 := getD_lastN (List.replicate (2 * n + 1) 0) 1
    rw [List.length_replicate] at h9
    rw [h9]; omega
  · rw [if_pos rfl]
    intro x
    rw [evI_snocN, List.length_replicate]
    have : ∀ m, evI (zl (List.replicate m 0)) x = 0 := fun m => by
      induction m with
      | zero => rfl
      | succ m ih => rw [List.replicate_succ]; show ((0 : Nat) : Int) + x * evI (zl (List.replicate m 0)) x = 0; rw [ih]; simp
    rw [this]; grind
theorem trial_2 {p n : Nat} (h : p = 2) : TrialR p n ((List.replicate (2 * n + 2) 0).set (2 * n + 1) 1) := by subst h; exact trial_two rfl
structure SepI (p : Nat) (f t : List Nat) (i : Nat) (c s q : List Nat) : Prop where
  c : EqF p (zl f) (zl c) (cj p (zl t) i)
  s : EqF p (zl f) (zl s) (sumJ p (zl t) (i + 1))
  q : p ≠ 2 → EqF p (zl f) (zl q) (prodJ p (zl t) (i + 1))
theorem SepI.start {p : Nat} {f t c : List Nat} (h : EqF p (zl f) (zl c) (zl t)) : SepI p f t 0 c c c :=
  ⟨h, h.trans (EqF.ev fun x => by simp only [sumJ, cj, evI_padd, evI]; omega), fun _ => h.trans (EqF.ev fun x => by simp only [prodJ, cj, evI_pmul, evI_const]; omega)⟩
theorem cgN_add {p : Nat} (hp : 0 < p) (f g : List Nat) : CgV (p : Int) (zl (addP p f g)) (padd (zl f) (zl g)) := cgN_red hp _
theorem SepI.next {p i : Nat} {f t c s q c' s' q' : List Nat} (hp : 0 < p) (h : SepI p f t i c s q) (hc : EqF p (zl f) (zl c') (powL (zl c) p)) (hs : s' = addP p s c') (hq : p ≠ 2 → EqF p (zl f) (zl q') (pmul (zl q) (zl c'))) : SepI p f t (i + 1) c' s' q' := by
  have h1 : EqF p (zl f) (zl c') (cj p (zl t) (i + 1)) := hc.trans (h.c.pow p)
  exact ⟨h1, (EqF.cg (by rw [hs]; exact cgN_add hp _ _)).trans (h.s.add h1), fun h2 => (hq h2).trans ((h.q h2).mul h1)⟩
theorem SepI.two {p i d : Nat} {f t c s q : List Nat} (h : SepI p f t i c s q) (hd : d = i + 1) (hp : p = 2) (hc : CanP p s) : SepR p f d t s := ⟨hc, by subst hd; rw [sepF, if_pos hp]; exact h.s⟩
theorem SepI.odd {p i d : Nat} {f t c s q r u : List Nat} (h : SepI p f t i c s q) (hd : d = i + 1) (hp : p ≠ 2) (hp0 : 0 < p) (hr : EqF p (zl f) (zl r) (powL (zl q) ((p - 1) / 2))) (hu : u = subP p r [1]) (hc : CanP p u) : SepR p f d t u := by
  refine ⟨hc, ?_⟩
  subst hd
  rw [sepF, if_neg hp, sepO]
  exact (EqF.cg (by rw [hu]; exact cgN_sub hp0 r [1])).trans ((hr.trans ((h.q hp).pow _)).sub (EqF.refl _))
theorem ed_next {p d N n : Nat} {f t s u : List Nat} (hN : ∀ t s, TrialR p N t → SepR p f d t s → 2 ≤ (gcdP p s f).length ∧ (gcdP p s f).length < f.length) (hn : n ≤ N) (ht : TrialR p n t) (hs : SepR p f d t s) (hu : u = gcdP p s f) (hbad : ¬ (1 < u.length ∧ u.length < f.length)) : n + 1 ≤ N := by
  rcases Nat.lt_or_ge n N with h | h
  · omega
  · exfalso
    obtain rfl : n = N := by omega
    have := hN t s ht hs
    subst hu
    exact hbad ⟨by omega, this.2⟩
theorem ed_split {p d : Nat} {f s u q r : List Nat} (hp : PrimeN p) (h : EdP p d f) (hs : CanP p s) (hu : u = gcdP p s f) (h1 : 1 < u.length) (h2 : u.length < f.length) (hq : divP p f u = (q, r)) :
    EdP p d u ∧ EdP p d q ∧ CgV (p : Int) (zl f) (pmul (zl u) (zl q)) ∧ q.length < f.length := by
  subst hu
  have hpos := h.mon.pos
  have hl : 0 < s.length + f.length := by omega
  have hD := gcd_monN hp hs h.mon.can hl h1
  obtain ⟨_, d2⟩ := gcd_dv hp f.length s f hs h.mon.can (Nat.le_refl _) hl
  exact h.part hp hD d2 h2 hq
end Go.Gx
namespace Go.Gx
theorem BdI.size {p d : Nat} {F : List Int} {L : List (List Nat)} {f w u v q r : List Nat} (h : BdI p d F L f w) (hp : PrimeN p) (hu : CanP p u) (hv : v = gcdP p u f) (hg : 1 < v.length) (hq : divP p f v = (q, r)) : q.length + v.length = f.length + 1 ∧ 1 ≤ q.length ∧ CanP p q := by
  subst hv
  have hpos := h.mn.pos
  have hl : 0 < u.length + f.length := by omega
  have hD := gcd_monN hp hu h.mn.can hl hg
  obtain ⟨_, d2⟩ := gcd_dv hp f.length u f hu h.mn.can (Nat.le_refl _) hl
  have h1 := div_exact hp h.mn hD d2 hq
  exact ⟨h1.2.2, h1.1.pos, h1.1.can⟩
theorem fac_coa {p : Nat} {F : List Int} {l : List (List Nat)} (hp : PrimeN p) (h : FacOK p F l) (hs : Cop (p : Int) F (derivP F)) : CoA p l := by
  intro i j f g hij hi hj
  have hp0 : 0 < p := by have := hp.1; omega
  have hw := h.pw hs
  have hf := h.mon f (List.mem_of_getElem? hi)
  have hg := h.mon g (List.mem_of_getElem? hj)
  unfold GC
  rw [hf.can.nrm, hg.can.nrm]
  have hpos := hf.pos
  exact gcd_of_cop hp hf.can hg.can (by omega) (hw.at i j (zl f) (zl g) (by omega) (by rw [List.getElem?_map, hi]; rfl) (by rw [List.getElem?_map, hj]; rfl))
end Go.Gx
namespace Go.Gx
theorem sqf_monic {p : Nat} (hp : PrimeN p) {f : List Nat} (hf : CanP p f) (h : (gcdP p f (redP p (derivP (zl f)))).length = 1) : Mn p (monicP p f) ∧ SqF p (monicP p f) := by
  have hp0 : 0 < p := by have := hp.1; omega
  have hc := canP_red hp0 (derivP (zl f))
  have h0 : 0 < f.length := by
    rcases Nat.eq_zero_or_pos f.length with e | e
    · exfalso
      rw [List.eq_nil_of_length_eq_zero e] at h
      have e2 : redP p (derivP (zl [])) = [] := rfl
      rw [e2] at h
      have e3 : gcdP p [] [] = [] := rfl
      rw [e3] at h; cases h
    · exact e
  obtain ⟨hm, hml, hmc⟩ := lead_mn hp hf h0
  have h1 := (cop_of_gcd hp hf hc (by omega) (by omega)).cg (CgV.refl _ _) (cgN_red hp0 _)
  refine ⟨hm, ?_⟩
  obtain ⟨u, v, k, hk⟩ := h1
  obtain ⟨a, ha⟩ := hmc
  obtain ⟨b, hb⟩ := deriv_cg (⟨a, ha⟩ : CgV (p : Int) (zl f) (scaleP (zl (monicP p f)) (leadP f : Nat)))
  have hsc : ∀ x, evI (derivP (scaleP (zl (monicP p f)) (leadP f : Nat))) x = (leadP f : Nat) * evI (derivP (zl (monicP p f))) x := fun x => by
    rw [← evI_scale]
    exact evI_congr (fun i => by rw [co_derivP, co_scaleP, co_scaleP, co_derivP]; grind) x
  refine ⟨scaleP u (leadP f : Nat), scaleP v (leadP f : Nat), psub k (padd (pmul u a) (pmul v b)), fun x => ?_⟩
  have h1 := hk x; have h2 := ha x; have h3 := hb x
  rw [hsc] at h3
  simp only [evI_padd, evI_psub, evI_pmul, evI_scale, evI_const] at *
  rw [h2, h3] at h1
  grind
end Go.Gx

/-
  Lists of polynomials modulo a number that grow, by one polynomial or by a list of them. No program in sight.
-/
namespace Go.Gx
open Go.RowKit
def lb : Option Addr → Nat
  | none => 0
  | some a => a.block + 1
theorem notIn_lb {A : Option Addr} {b : Nat} : notIn A b ↔ b + 1 ≠ lb A := by
  unfold notIn lb
  cases A with
  | none => simp
  | some a => simp; omega
theorem append_placeL {P : Program} {w w' : World} {t ty el : TypeId} {i : TypeInfo} {z : Value} {k bytes B m c l c2 : Nat} {A : Option Addr} {a a2 : Addr} {c' : Nat} {cs vs : List Value} (ht : P.underlying t = some (.slice el)) (hi : P.info? el = some i) (hz : i.zero = some z) (hsize : i.size = k)
    (hby : i.bytes = bytes) (hO : Own w B el k A m c cs) (hl : vs.length = l * k) (hnews : ∀ j u, vs[j]? = some u → w.cell? (a2.add j) = some u) (h1 : ∀ u ∈ vs, u.oneCell' = true) (hm : (m + l) * bytes ≤ 140737488355328) (hm2 : m + l ≤ 9223372036854775807) (hl0 : 0 < l)
    (hr : (Builtin.append_ #[t, t] ty #[.slice A m c, .slice (some a2) l c2]).run P w = .ok (.slice (some a) (m + l) c') w') : A = some a ∨ w.heap.size ≤ a.block := by
  subst hsize
  subst hby
  rcases hO.2 with ⟨hv, rfl⟩ | ⟨g0, cap, cur, hv, hbg, hg, hnc, hcm, hcs, htake⟩
  · injection hv with e1 e2 e3
    subst e1 e3
    have hm' : l * i.bytes ≤ 140737488355328 := by rw [Nat.zero_add] at hm; exact hm
    have h := run_append_nil (P := P) w t ty el i z ht hi hz a2 l c2 vs hl hnews (by omega) (by omega) (by omega)
    rw [h] at hr
    injection hr with e4
    injection e4 with e5
    injection e5 with e6
    right; rw [← e6]; exact Nat.le_refl _
  · injection hv with e1 e2 e3
    subst e1 e3
    by_cases hroom : m + l ≤ c
    · have hfit : m * i.size + vs.length ≤ cur.size := by rw [hl, hcs, ← Nat.add_mul]; exact Nat.mul_le_mul_right _ hroom
      have h := run_append_room (P := P) w t ty el i ht hi g0 m c cur hg a2 l c2 vs hl hnews h1 hroom hfit
      rw [h] at hr
      injection hr with e4
      injection e4 with e5
      exact .inl e5
    · have holds : ∀ j u, cs[j]? = some u → w.cell? ((⟨g0, 0, none⟩ : Addr).add j) = some u := World.ownsRow.cells hO (g := g0) rfl
      have h := run_append_grow (P := P) w t ty el i z ht hi hz ⟨g0, 0, none⟩ m c cs hO.1 holds a2 l c2 vs hl hnews (by omega) (by omega) (growslice_fits (by omega) hm)
      rw [h] at hr
      injection hr with e4
      injection e4 with e5
      injection e5 with e6
      right; rw [← e6]; exact Nat.le_refl _
theorem NatR.both {w : World} {S T : Nat → Prop} {A : Option Addr} {n c : Nat} {ds : List Nat} (h : NatR w S A n c ds) (g : NatR w T A n c ds) : NatR w (fun b => S b ∧ T b) A n c ds := by
  refine ⟨⟨h.1.1, h.1.2.1, h.1.2.2.1, fun h0 => ?_⟩, h.2⟩
  obtain ⟨b, o, e, hs, hb, hc⟩ := h.1.2.2.2 h0
  obtain ⟨b', o', e', hs', _, _⟩ := g.1.2.2.2 h0
  rw [e] at e'
  injection e' with e'
  injection e' with e1 e2
  subst e1
  exact ⟨b, o, e, ⟨hs, hs'⟩, hb, hc⟩
structure OwnM (w : World) (B : Nat) (el : TypeId) (gN : Nat) (A : Option Addr) (n c : Nat) (l : List NE) : Prop where
  own : OwnG LN w B el A n c l
  no : lb A = gN
section
variable {w w' : World} {B : Nat} {el : TypeId} {gN : Nat} {A : Option Addr} {n c : Nat} {l : List NE}
theorem OwnM.nil : OwnM w B el 0 none 0 0 [] := ⟨OwnG.nil, rfl⟩
theorem OwnM.ext (h : OwnM w B el gN A n c l) (k : Ext w w') : OwnM w' B el gN A n c l := ⟨h.own.ext k, h.no⟩
theorem OwnM.lkm (h : OwnM w B el gN A n c l) : l.length = n ∧ n ≤ c ∧ c ≤ 9223372036854775807 := h.own.lkm
theorem OwnM.lt (h : OwnM w B el gN A n c l) : gN = 0 ∨ B < gN ∧ gN ≤ w.heap.size := by
  have := h.no
  cases A with
  | none => left; rw [← h.no]; rfl
  | some a => right; have h1 := h.own.1.lt a rfl; rw [← h.no]; simp only [lb]; omega
theorem OwnM.wide {B' : Nat} (h : OwnM w B el gN A n c l) (hB : B' ≤ B) : OwnM w B' el gN A n c l := ⟨⟨h.own.1.low hB, h.own.2⟩, h.no⟩
theorem OwnM.low (h : OwnM w B el gN A n c l) : GListR LN w (fun b => b < w.heap.size) A n c l := h.own.list.low
theorem OwnM.glist {S : Nat → Prop} (h : OwnM w B el gN A n c l) (hs : ∀ x ∈ l, NatR w S x.A x.n x.c x.d) (hB : ∀ b, B ≤ b → b < w.heap.size → S b) : GListR LN w S A n c l :=
  ⟨h.own.1.rd.sub fun b hb hs => hB b hs hb, hs⟩
end
section
variable {dfs : List Deferred} {P : Program} {n : Nat} {e : Nat → Value} {w : World} {K : Act → World → Prop} {Q : Exit → Act → World → Prop} {ty : TypeId} {pos : String} {af : Array Edge} {gd : Option (Nat × Bool)}
theorem oAppM {d : Nat} {s x : Operand} {t el : TypeId} {zv : Value} {bytes B gN m c l c2 : Nat} {A A2 : Option Addr} {f f2 : List NE} {S S2 : Nat → Prop} (ht : P.underlying t = some (.slice el))
    (hi : (P.info? el).map (fun i => (i.zero, i.size, i.bytes)) = some (some zv, 1, bytes)) (hzv : zv.cells.size = 1) (hs : ev n e s = .slice A m c) (hx : ev n e x = .slice A2 l c2) (hO : OwnM w B el gN A m c f) (h1 : GListR LN w S A m c f) (h2 : GListR LN w S2 A2 l c2 f2)
    (hS : ∀ b, b < w.heap.size → S2 b → b + 1 ≠ gN) (hl0 : 0 < l) (hm : (m + l) * bytes ≤ 140737488355328) (hm2 : m + l ≤ 9223372036854775807) (hB : B ≤ w.heap.size)
    (kk : ∀ A3 c3 g3 w', OwnM w' B el g3 A3 (m + l) c3 (f ++ f2) → (g3 = gN ∨ w.heap.size < g3 ∧ g3 ≤ w'.heap.size) → Frm (fun b => b + 1 = gN) w w' → (∀ x ∈ f ++ f2, NatR w' (fun b => (S b ∨ S2 b) ∧ b < w.heap.size) x.A x.n x.c x.d) → K (mkA dfs n (upd e d (.slice A3 (m + l) c3))) w') :
    OpW P ⟨some d, .call { callee := .builtin .append, args := #[s, x], argTypes := #[t, t] }, ty, pos, af, gd⟩ (mkA dfs n e) w K Q := by
  obtain ⟨i, hi', hz', hsz, hby⟩ := info_parts hi
  have hns : ∀ b, b < w.heap.size → S2 b → notIn A b := fun b hb hs => notIn_lb.2 (by rw [hO.no]; exact hS b hb hs)
  obtain ⟨b0, o0, rfl⟩ := h2.base hl0
  have hnews : ∀ (j : Nat) u, (f2.map LN.v)[j]? = some u → w.cell? ((⟨b0, o0, none⟩ : Addr).add j) = some u := fun j u hj => by
    obtain ⟨b, o, ea, _, _, hc⟩ := h2.1.2.2.2 hl0
    injection ea with ea
    injection ea with e1 e2
    subst e1 e2
    rw [addr_add]
    exact hc j u hj
  have hlen : (f2.map LN.v).length = l * 1 := by rw [List.length_map, h2.len, Nat.mul_one]
  have hone : ∀ u ∈ f2.map LN.v, u.oneCell' = true := fun u hu => by
    obtain ⟨x, _, rfl⟩ := List.mem_map.1 hu
    exact LN.one x
  obtain ⟨v', w', hr, ho, h3, _⟩ := run_append_own (P := P) w B t ty el i zv 1 bytes ht hi' hz' hsz hby hzv (by decide) (.slice A m c) m (f.map LN.v) hO.own.1 ⟨b0, o0, none⟩ l c2 (f2.map LN.v) hlen hnews hone (by simp only [maxLen]; omega) hm hB
  obtain ⟨A', c', rfl⟩ : ∃ A' c', v' = .slice A' (m + l) c' := by
    rcases ho.2 with ⟨_, h0⟩ | ⟨g', cap, cur, hv, _⟩
    · omega
    · exact ⟨_, _, hv⟩
  have hF : Frm (fun b => (Value.slice A m c).ownBlock = some b) w w' := ⟨h3.os, h3.tape, h3.output, h3.size, append_drawn ht hi' hz' hsz hby hO.own.1 hlen hnews hone hm2 hm hr, fun i hi hg => h3.block i hi fun e => hg e.symm⟩
  have hF2 : Frm (fun b => b + 1 = gN) w w' := hF.mono fun b _ hb => by
    cases A with
    | none => simp [Value.ownBlock] at hb
    | some a => simp [Value.ownBlock] at hb; rw [← hO.no, ← hb]; rfl
  have hnew : ∀ a, A' = some a → A = some a ∨ w.heap.size ≤ a.block := by
    intro a ha
    subst ha
    exact append_placeL ht hi' hz' hsz hby hO.own.1 hlen hnews hone hm hm2 hl0 hr
  have hA' : ∃ a, A' = some a := by
    rcases ho.2 with ⟨_, h0⟩ | ⟨g', cap, cur, hv, _⟩
    · omega
    · injection hv with e1; exact ⟨_, e1⟩
  obtain ⟨a, rfl⟩ := hA'
  have key : ∀ {T : Nat → Prop} {x : NE}, (∀ b, b < w.heap.size → T b → b + 1 ≠ gN) → NatR w T x.A x.n x.c x.d → NatR w' (fun b => T b ∧ b < w.heap.size) x.A x.n x.c x.d := fun hT h =>
    (h.sub (S' := fun b => _ ∧ b < w.heap.size) fun b hb hs => ⟨hs, hb⟩).frmB hF2 fun b hb hs he => hT b hb hs.1 he
  have e1 : ∀ x ∈ f, NatR w' (fun b => (S b ∧ notIn A b) ∧ b < w.heap.size) x.A x.n x.c x.d := fun x hx => by
    have a1 := h1.2 x hx
    have a2 := hO.own.2 x hx
    exact key (fun b _ hs => by have := notIn_lb.1 hs.2; rw [hO.no] at this; exact this) (NatR.both a1 a2)
  have e2 : ∀ x ∈ f2, NatR w' (fun b => (S2 b ∧ notIn A b) ∧ b < w.heap.size) x.A x.n x.c x.d := fun x hx =>
    key (fun b _ hs => by have := notIn_lb.1 hs.2; rw [hO.no] at this; exact this) (NatR.sub (h2.2 x hx) fun b hb hs => ⟨hs, hns b hb hs⟩)
  have hni : ∀ b, b < w.heap.size → notIn A b → notIn (some a) b := fun b hb hn x hx => by
    rcases hnew x hx with h5 | h5
    · exact hn x h5
    · omega
  unfold OpW Oper.wp
  rw [eval_mkA]
  simp only [execOp, resolve, invoke, builtin, Sem.run_bind, Sem.run_pure, Result.andThen_ok, List.map_toArray, List.map_cons, List.map_nil, hs, hx, hr, Oper.upon, put_mkA]
  refine kk (some a) c' (a.block + 1) w' ⟨⟨by rw [List.map_append]; exact ho, fun x hx => ?_⟩, rfl⟩ ?_ hF2 fun x hx => ?_
  · rcases List.mem_append.1 hx with h5 | h5
    · exact (e1 x h5).sub fun b _ hs => hni b hs.2 hs.1.2
    · exact (e2 x h5).sub fun b _ hs => hni b hs.2 hs.1.2
  · have h6 := (World.ownsRow.lt ho a.block rfl).2
    rcases hnew a rfl with h5 | h5
    · left; rw [← hO.no, h5]; rfl
    · right; omega
  · rcases List.mem_append.1 hx with h5 | h5
    · exact (e1 x h5).sub fun b _ hs => ⟨.inl hs.1.1, hs.2⟩
    · exact (e2 x h5).sub fun b _ hs => ⟨.inr hs.1.1, hs.2⟩
end
end Go.Gx
namespace Go.Gx
theorem OwnM.one {w : World} {B g el : Nat} {S : Nat → Prop} {x : NE} (hb : Blk w g el [LN.v x]) (hB : B ≤ g) (hx : NatR w S x.A x.n x.c x.d) (hS : ∀ b, b < w.heap.size → S b → b ≠ g) : OwnM w B el (g + 1) (some ⟨g, 0, none⟩) 1 1 [x] :=
  ⟨⟨Own.whole hB hb rfl (by decide), fun y hy => by
    rw [List.mem_singleton.1 hy]
    exact hx.sub fun b hb hs a ha => by injection ha with ha; subst ha; exact fun e => hS b hb hs e.symm⟩, rfl⟩
theorem GListR.oneM {w : World} {g el : Nat} {S : Nat → Prop} {x : NE} (hb : Blk w g el [LN.v x]) (hx : NatR w S x.A x.n x.c x.d) : GListR LN w (fun b => S b ∨ b = g) (some ⟨g, 0, none⟩) 1 1 [x] :=
  GListR.of_blk (L := LN) hb (fun y hy => by rw [List.mem_singleton.1 hy]; exact hx.sub fun b _ hs => .inl hs) (.inr rfl) rfl (Nat.le_refl _) (by decide)
theorem dsN_app (a b : List NE) : dsN (a ++ b) = dsN a ++ dsN b := by simp [dsN]
end Go.Gx

/-
  Square-free bases. Plain numbers; no program in sight.
-/
namespace Go.Gx
theorem cmpTop_anti (f g : List Int) : ∀ k, cmpTop g f k = - cmpTop f g k
  | 0 => by simp [cmpTop]
  | k + 1 => by
    rw [cmpTop, cmpTop]
    by_cases h : co f k = co g k
    · rw [if_pos h, if_pos h.symm, cmpTop_anti f g k]
    · rw [if_neg h, if_neg fun e => h e.symm]
      have := cmpZ_cases (co f k) (co g k)
      have := cmpZ_cases (co g k) (co f k)
      omega
theorem cmpTop_trans {f g h : List Int} : ∀ k, cmpTop f g k < 0 → cmpTop g h k < 0 → cmpTop f h k < 0
  | 0, h1, _ => by simp [cmpTop] at h1
  | k + 1, h1, h2 => by
    rw [cmpTop] at h1 h2 ⊢
    have c1 := cmpZ_cases (co f k) (co g k)
    have c2 := cmpZ_cases (co g k) (co h k)
    have c3 := cmpZ_cases (co f k) (co h k)
    by_cases e1 : co f k = co g k
    · rw [if_pos e1] at h1
      by_cases e2 : co g k = co h k
      · rw [if_pos e2] at h2
        rw [if_pos (e1.trans e2)]
        exact cmpTop_trans k h1 h2
      · rw [if_neg e2] at h2
        rw [if_neg (by omega)]
        omega
    · rw [if_neg e1] at h1
      by_cases e2 : co g k = co h k
      · rw [if_neg (by omega)]; omega
      · rw [if_neg e2] at h2
        rw [if_neg (by omega)]; omega
theorem cmpP_anti (f g : List Int) : cmpP g f = - cmpP f g := by
  unfold cmpP
  rcases Nat.lt_trichotomy f.length g.length with h | h | h
  · rw [if_neg (Nat.lt_asymm h), if_pos h, if_pos h]; rfl
  · rw [if_neg (by omega), if_neg (by omega), if_neg (by omega), if_neg (by omega), h]
    exact cmpTop_anti f g _
  · rw [if_pos h, if_neg (Nat.lt_asymm h), if_pos h]
theorem cmpP_trans {f g h : List Int} (h1 : cmpP f g < 0) (h2 : cmpP g h < 0) : cmpP f h < 0 := by
  unfold cmpP at *
  by_cases a1 : f.length < g.length
  · by_cases b1 : g.length < h.length
    · rw [if_pos (by omega)]; decide
    · rw [if_neg b1] at h2
      split at h2
      · omega
      · rw [if_pos (by omega)]; decide
  · rw [if_neg a1] at h1
    split at h1
    · omega
    · rename_i a2
      by_cases b1 : g.length < h.length
      · rw [if_pos (by omega)]; decide
      · rw [if_neg b1] at h2
        split at h2
        · omega
        · rename_i b2
          rw [if_neg (by omega), if_neg (by omega)]
          rw [show g.length = f.length by omega] at h2
          exact cmpTop_trans _ h1 h2
theorem cmpP_self (f : List Int) : cmpP f f = 0 := cmpP_zero.2 rfl
section
variable {κ : Type}
end
section
variable {κ : Type} [DecidableEq κ]
section
variable (key : QP → κ) (v : QP → Nat) (z : κ) (ks : List κ) (js : List Nat)
end
variable {key : QP → κ} {v : QP → Nat} {z k : κ} {ks : List κ} {js : List Nat} {e i j : Nat} {x y g x' y' d : List Int}
variable {os : List (List Int)} {ls : List (κ × Nat)}
end
end Go.Gx

/-
  What the lift of a factorization is, for the laws HenselLift and HenselLower. Plain numbers; no program in sight.
-/
namespace Go.Gx
theorem monL_self {p : Nat} (hp : 2 ≤ p) {ds : List (List Nat)} (h : ∀ d ∈ ds, MonN p d) : monL p ds = ds := by
  unfold monL
  conv => rhs; rw [← List.map_id ds]
  exact List.map_congr_left fun d hd => monic_self hp (h d hd)
theorem x_mon {p : Nat} (hp : 2 ≤ p) : MonN p [0, 1] := ⟨⟨fun d hd => by simp only [List.mem_cons, List.not_mem_nil, or_false] at hd; omega, fun _ => (by decide : 0 < [0, 1].getD ([0, 1].length - 1) 0)⟩, by simp, rfl⟩
theorem coa_one (p : Nat) (d : List Nat) : CoA p [d] := fun i j f g hij hi hj => by
  have h1 := (List.getElem?_eq_some_iff.1 hi).1
  simp at h1; omega
theorem coa_pw {p : Nat} (hp : PrimeN p) {ds : List (List Nat)} (hm : ∀ d ∈ ds, MonN p d) (h : CoA p ds) : Pw (p : Int) (ds.map zl) := by
  refine pw_of fun i j a b hj ha hb => ?_
  rw [List.getElem?_map] at ha hb
  obtain ⟨x, hx, rfl⟩ := Option.map_eq_some_iff.1 ha
  obtain ⟨y, hy, rfl⟩ := Option.map_eq_some_iff.1 hb
  have h1 := hm x (List.mem_of_getElem? hx)
  have h2 := hm y (List.mem_of_getElem? hy)
  have h3 := h i j x y hj hx hy
  unfold GC at h3
  rw [h1.can.nrm, h2.can.nrm] at h3
  have := h1.pos
  exact cop_of_gcd hp h1.can h2.can (by omega) h3
theorem not_dvd2 {p : Nat} {z : Int} (hp : 0 < p) (h : md p z ≠ 0) : ¬ (p : Int) ∣ z := fun ⟨k, hk⟩ => h (by rw [hk, md_cg hp (show Cg p ((p : Int) * k) 0 from Cg.self k), md_zero])
theorem lift_inv {p k e : Nat} {f : List Int} {ds : List (List Nat)} (hp : PrimeN p) (hm : ∀ d ∈ ds, MonN p d) (hc : CoA p (monL p ds)) (hb : ¬ BadL p f (monL p ds)) {L0 L1 : List (List Int)}
    (h : LReach p k f (symL p (monL p ds)) (symL p (cofsG p (monL p ds))) L0 L1 e) : ∃ n, LInv p f (symL p ds) L0 L1 e n := by
  have hp0 : 0 < p := by have := hp.1; omega
  have hl : md p (ldP f) ≠ 0 := fun h => hb (.inl h)
  have hs : nrmP p (prodN p [md p (ldP f)] (monL p ds)) = nrmP p (redP p f) := by
    rcases Classical.em (nrmP p (prodN p [md p (ldP f)] (monL p ds)) = nrmP p (redP p f)) with h1 | h1
    · exact h1
    · exact absurd (.inr h1) hb
  rw [monL_self hp.1 hm] at hc hs h
  obtain ⟨n, hi, _, hn⟩ := linv_start hp hm (coa_pw hp hm hc) hs
  refine ⟨n, reach_inv hp hi ⟨by simpa [symL] using hn, fun h0 => ?_⟩ (not_dvd2 hp0 hl) h⟩
  have h3 : ds = [] := List.eq_nil_of_length_eq_zero (by simpa [symL] using h0)
  have h4 := hi.ms
  rw [h3] at h4
  change MS [] _ n at h4
  cases h4; rfl
theorem lift_mon {p e n : Nat} {f : List Int} {ds : List (List Nat)} {L0 L1 : List (List Int)} (hi : LInv p f (symL p ds) L0 L1 e n) : L0.length = ds.length ∧ ∀ (i : Nat) (u : List Int), L0[i]? = some u → ∃ d, Mon u d := by
  have hl := hi.fit.len
  refine ⟨by simpa [symL] using hl, fun i u hu => ?_⟩
  obtain ⟨b, hb⟩ : ∃ b, (symL p ds)[i]? = some b := ⟨_, List.getElem?_eq_getElem (by have := (List.getElem?_eq_some_iff.1 hu).1; omega)⟩
  obtain ⟨d, hM, _⟩ := hi.fit.at i u b hu hb
  exact ⟨d, hM⟩
theorem lift_ok {p k : Nat} {f : List Int} {ds : List (List Nat)} (hp : PrimeN p) (hm : ∀ d ∈ ds, MonN p d) (hc : CoA p (monL p ds)) (hb : ¬ BadL p f (monL p ds)) :
    ∀ L0 L1 e, LReach p k f (symL p (monL p ds)) (symL p (cofsG p (monL p ds))) L0 L1 e → ∀ u ∈ L0, 0 < (trimZ u).length := fun L0 L1 e h u hu => by
  obtain ⟨n, hi⟩ := lift_inv hp hm hc hb h
  obtain ⟨i, hiu⟩ := List.getElem?_of_mem hu
  obtain ⟨d, hM⟩ := (lift_mon hi).2 i u hiu
  rw [hM.len]; omega
theorem mon_ldP {u : List Int} {d : Nat} (h : Mon u d) : ldP u = 1 := by
  unfold ldP
  rw [h.len, show (((d + 1 : Nat) : Int) - 1) = ((d : Nat) : Int) by omega, coI_nat, co_trim, h.1]
theorem reach_le {p k e : Nat} {f : List Int} {A0 A1 L0 L1 : List (List Int)} (h : LReach p k f A0 A1 L0 L1 e) (hk : 1 ≤ k) : e ≤ k := by
  induction h with
  | start => exact hk
  | next _ he _ _ _ _ => omega
theorem reach_trim {p k e : Nat} {f : List Int} {ds : List (List Nat)} {A1 L0 L1 : List (List Int)} (h : LReach p k f (symL p ds) A1 L0 L1 e) : ∀ u ∈ L0, trimZ u = u := by
  induction h with
  | start =>
    intro u hu
    obtain ⟨d, _, rfl⟩ := List.mem_map.1 hu
    exact canon_trim isZI _
  | next _ _ _ _ _ _ =>
    intro u hu
    obtain ⟨q, _, rfl⟩ := List.mem_map.1 hu
    exact canon_trim isZI _
theorem lift_red {p k e n : Nat} {f : List Int} {A0 L0 L1 : List (List Int)} (hp : 2 ≤ p) (hi : LInv p f A0 L0 L1 e n) (he : e ≤ k) {u : List Int} (hu : u ∈ L0) (i : Nat) : symZ (p ^ k) (co u i) = co u i := by
  have h1 := hi.red u hu i
  have hpos : 0 < p ^ e := Nat.pow_pos (by omega)
  have h2 := symZ_rng hpos (co u i)
  rw [h1] at h2
  have h3 : ((p ^ e : Nat) : Int) ≤ ((p ^ k : Nat) : Int) := Int.ofNat_le.2 (Nat.pow_le_pow_right (by omega) he)
  exact symZ_self (by omega) (by omega)
theorem lift_same {p e n : Nat} {f : List Int} {ds : List (List Nat)} {L0 L1 : List (List Int)} (hp : 2 ≤ p) (hi : LInv p f (symL p ds) L0 L1 e n) {i : Nat} {u : List Int} {d : List Nat} (hu : L0[i]? = some u) (hd : ds[i]? = some d) : redP p u = nrmP p d := by
  have hp0 : 0 < p := by omega
  obtain ⟨b, hb⟩ : ∃ b, (symL p ds)[i]? = some b := ⟨_, List.getElem?_eq_getElem (by have := (List.getElem?_eq_some_iff.1 hu).1; have := hi.fit.len; omega)⟩
  obtain ⟨m, _, _, hcg⟩ := hi.fit.at i u b hu hb
  obtain ⟨d', h1, h2⟩ := symL_get hb
  rw [hd] at h1; obtain rfl := Option.some.inj h1
  rw [nrmP_red]
  exact redP_eq hp0 (hcg.trans (by rw [h2]; exact sym_cg p d))
theorem lift_prod {p k e n : Nat} {f : List Int} {A0 L0 L1 : List (List Int)} (hi : LInv p f A0 L0 L1 e n) (hx : e = k ∨ isFac f L0) : CgV ((p ^ k : Nat) : Int) (scaleP (pL L0) (ldP f)) f := by
  rcases hx with h | h
  · subst h; exact hi.pr
  · refine CgV.eqv fun x => ?_
    unfold isFac at h
    rw [evI_scale, ← evI_trim f, h, evI_trim, evI_fold, evI_const]
theorem ldP_co {F : List Int} {n : Nat} (h : (trimZ F).length = n + 1) : ldP F = co F n := by
  unfold ldP
  rw [h, show (((n + 1 : Nat) : Int) - 1) = ((n : Nat) : Int) by omega, coI_nat, co_trim]
theorem redP_co {p : Nat} (f : List Int) (i : Nat) : (redP p f).getD i 0 = md p (co f i) := by
  have h1 := co_zltrim (f.map (md p)) i
  have h2 : (redP p f).getD i 0 = (f.map (md p)).getD i 0 := by
    have h3 := co_zl (redP p f) i
    unfold redP at h3 ⊢
    rw [h3] at h1
    exact Int.ofNat_inj.1 h1
  rw [h2, getD_mapZ f i (md_zero p)]
theorem redP_len {p : Nat} (hp : 0 < p) (f : List Int) : (redP p f).length ≤ (trimZ f).length := by
  rcases Nat.lt_or_ge (trimZ f).length (redP p f).length with h | h
  · exfalso
    have h1 := (canP_red hp f).2 (by omega)
    rw [redP_co, ← co_trim, co_ge (by omega), md_zero] at h1
    omega
  · exact h
theorem lead_len {p : Nat} (hp : 0 < p) {f : List Int} (h : md p (ldP f) ≠ 0) : (redP p f).length = (trimZ f).length ∧ 0 < (redP p f).length := by
  have h0 : 0 < (trimZ f).length := by
    rcases Nat.eq_zero_or_pos (trimZ f).length with e | e
    · exfalso; refine h ?_
      have : trimZ f = [] := List.eq_nil_of_length_eq_zero e
      unfold ldP; rw [this]
      have : coI [] ((([] : List Int).length : Int) - 1) = 0 := by unfold coI; rw [if_pos (by simp)]
      rw [this, md_zero]
    · exact e
  obtain ⟨n, hn⟩ : ∃ n, (trimZ f).length = n + 1 := ⟨(trimZ f).length - 1, by omega⟩
  rw [ldP_co hn] at h
  have h1 := redP_len hp f
  rcases Nat.lt_or_ge n (redP p f).length with h2 | h2
  · omega
  · exfalso
    have h3 := redP_co (p := p) f n
    have h4 : (redP p f).getD n 0 = 0 := by
      have := co_zl (redP p f) n
      rw [co_ge (by rw [zl_len]; omega)] at this
      omega
    omega
theorem len_lead {p : Nat} (hp : 0 < p) {f : List Int} (h : (redP p f).length = (trimZ f).length) (h0 : 0 < (redP p f).length) : md p (ldP f) = leadP (redP p f) ∧ md p (ldP f) ≠ 0 := by
  obtain ⟨n, hn⟩ : ∃ n, (trimZ f).length = n + 1 := ⟨(trimZ f).length - 1, by omega⟩
  have h1 := (canP_red hp f).2 (by omega)
  have e : leadP (redP p f) = md p (ldP f) := by
    unfold leadP
    rw [h, hn, Nat.add_sub_cancel, redP_co, ldP_co hn]
  exact ⟨e.symm, by rw [← e]; unfold leadP; omega⟩
theorem bad_of_len {p : Nat} (hp : 0 < p) {f : List Int} {ml : List (List Nat)} (h : (redP p f).length ≠ (trimZ f).length ∨ (redP p f).length = 0) : BadL p f ml := by
  rcases Classical.em (md p (ldP f) = 0) with h1 | h1
  · exact .inl h1
  · exfalso
    have := lead_len hp h1
    omega
theorem good_of_fac {p : Nat} (hp : PrimeN p) {f : List Int} {ds : List (List Nat)} (hf : FacOK p (zl (monicP p (nrmP p (redP p f)))) ds) (h : (redP p f).length = (trimZ f).length) (h0 : 0 < (redP p f).length) : ¬ BadL p f (monL p ds) := by
  have hp0 : 0 < p := by have := hp.1; omega
  obtain ⟨h1, h2⟩ := len_lead hp0 h h0
  rw [monL_self hp.1 hf.mon]
  have hc := canP_red hp0 f
  rw [hc.nrm] at hf
  intro hb
  rcases hb with hb | hb
  · exact h2 hb
  · refine hb ?_
    rw [nrmP_red, nrmP_red]
    refine redP_eq hp0 ((prodN_cg hp0 ds _).trans ?_)
    obtain ⟨_, _, h3⟩ := lead_mn hp hc h0
    refine (((CgV.refl _ _).mul hf.prod).trans ?_).trans h3.symm
    refine CgV.eqv fun x => ?_
    rw [evI_pmul, evI_scale, h1]
    simp only [zl, List.map, evI]; grind
end Go.Gx

/-
  A list of polynomials modulo a number that grows beside a box; what the walk of the law HenselReturns keeps. No program in sight.
-/
namespace Go.Gx
open Go.RowKit
section
variable {g z : Nat} {w w' : World} {B : Nat} {el : TypeId} {A : Option Addr} {n c : Nat} {l : List NE} {G : Nat → Prop}
end
section
variable {dfs : List Deferred} {P : Program} {n : Nat} {e : Nat → Value} {w : World} {K : Act → World → Prop} {Q : Exit → Act → World → Prop} {ty : TypeId} {pos : String} {af : Array Edge} {gd : Option (Nat × Bool)}
end
theorem vf_next {c : Int} {fm : List PE} {i : Nat} {r : PE} {p q : List Int} (h : ∀ x, evI p x = c * evI (pL (zsL (fm.take i))) x) (he : fm[i]? = some r) (e : q = trimZ (pmul p (zs r.l))) : ∀ x, evI q x = c * evI (pL (zsL (fm.take (i + 1)))) x := fun x => by
  have h1 : zsL (fm.take (i + 1)) = zsL (fm.take i) ++ [zs r.l] := by
    unfold zsL
    rw [List.take_add_one, he, List.map_append]
    rfl
  rw [e, evI_trim, evI_pmul, h, h1, pL_snoc]; grind
theorem vf_start {c : Int} {l1 l2 : List Int} (h1 : l1 = trimZ [1]) (h2 : l2 = trimZ (scaleP l1 c)) : ∀ x, evI l2 x = c * evI (pL []) x := fun x => by
  rw [h2, evI_trim, evI_scale, h1, evI_trim]; simp [evI, pL]
theorem take_all {fm : List PE} {i : Nat} (h : fm.length ≤ i) : fm.take i = fm := List.take_of_length_le h
theorem zsL_at {fl : List PE} {i : Nat} {A : Option Addr} {n c : Nat} {l : List RI} (h : fl[i]? = some ⟨A, n, c, l⟩) : (zsL fl)[i]? = some (zs l) := by simp [zsL, h]
end Go.Gx

/-
  Lists of small integers that came in, lists that grow, two polynomials in a list. No program in sight.
-/
namespace Go.Gx
open Go.RowKit
section
variable {w w' : World} {S S' G : Nat → Prop} {A : Option Addr} {n c : Nat} {xs : List Int}
end
end Go.Gx

/-
  A factorization lifted to a power is, reduced, the one lifted to a smaller power. Plain numbers; no program in sight.
-/
namespace Go.Gx
theorem Fit.symm {p : Int} {as bs : List (List Int)} (h : Fit p as bs) : Fit p bs as := by
  induction h with
  | nil => exact .nil
  | cons d ha hb hc _ ih => exact .cons d hb ha hc.symm ih
theorem mon_scal {p c : Nat} {d : List Nat} (hp : PrimeN p) (h : MonN p d) (hc : 0 < c) (hcp : c < p) : monicP p (nrmP p (scalP p d c)) = d := by
  have hp0 : 0 < p := by have := hp.1; omega
  have hpos := h.pos
  have hcs := canP_scal hp0 d c
  have hl : (scalP p d c).length = d.length := scal_len (by omega) (by
    have : leadP d = 1 := h.one
    rw [this, Nat.one_mul, Nat.mod_eq_of_lt hcp]; omega)
  rw [hcs.nrm]
  obtain ⟨hm, hml, _⟩ := lead_mn hp hcs (by omega)
  have e : monicP p (scalP p d c) = scalP p (scalP p d c) (invN p (leadP (scalP p d c))) := by unfold monicP; rw [if_neg (by omega)]
  have h1 : CgV (p : Int) (zl (monicP p (scalP p d c))) (scaleP (scaleP (zl d) c) (invN p (leadP (scalP p d c)) : Nat)) := by
    rw [e]; exact (cgN_scal _ _).trans ((cgN_scal d c).scale _)
  have h2 : Dv (p : Int) (zl d) (zl (monicP p (scalP p d c))) := ⟨[(c : Int) * (invN p (leadP (scalP p d c)) : Nat)], h1.trans (CgV.eqv fun x => by simp only [evI_scale, evI_pmul, evI_const]; grind)⟩
  have h3 := dv_same (by have := hm.mz; rw [hml, hl] at this; exact this) h.mz h2
  have h4 := redP_eq hp0 h3
  rw [← nrmP_red, ← nrmP_red, hm.can.nrm, h.can.nrm] at h4
  exact h4
def sclL (p : Nat) (ds : List (List Nat)) (n : Nat) : List (List Nat) := (List.range n).map fun i => scalP p (ds.getD i []) (1 + i % (p - 1))
theorem monL_scl {p : Nat} (hp : PrimeN p) {ds : List (List Nat)} (hm : ∀ d ∈ ds, MonN p d) : monL p (sclL p ds ds.length) = ds := by
  apply List.ext_getElem
  · simp [monL, sclL]
  · intro i h1 h2
    have hp1 := hp.1
    have hlt : 1 + i % (p - 1) < p := by have := Nat.mod_lt i (show 0 < p - 1 by omega); omega
    simp only [monL, sclL, List.getElem_map, List.getElem_range]
    rw [show ds.getD i [] = ds[i] by simp [List.getD, h2]]
    exact mon_scal hp (hm _ (List.getElem_mem h2)) (by omega) hlt
theorem sclL_next {p n : Nat} {ds L : List (List Nat)} {x d : List Nat} (h : L = sclL p ds n) (hd : ds.getD n [] = d) (hx : x = scalP p d (1 + n % (p - 1))) : L ++ [x] = sclL p ds (n + 1) := by
  subst h hd hx
  unfold sclL
  rw [List.range_succ, List.map_append]; rfl
theorem lower_same {p s g ea eb na nb : Nat} {f : List Int} {ds : List (List Nat)} (hp : PrimeN p) (hm : ∀ d ∈ ds, MonN p d) (hc : CoA p ds) (hl : md p (ldP f) ≠ 0) {La La1 Lb Lb1 : List (List Int)} (hsg : s ≤ g)
    (ha : LInv p f (symL p ds) La La1 ea na) (hxa : ea = g ∨ isFac f La) (hb : LInv p f (symL p ds) Lb Lb1 eb nb) (hxb : eb = s ∨ isFac f Lb) (heb : eb ≤ s) :
    ∀ (i : Nat) (a b : List Int), La[i]? = some a → Lb[i]? = some b → redZ (p ^ s) a = trimZ b := by
  have hp0 : 0 < p := by have := hp.1; omega
  have h1 := lift_prod (k := g) ha hxa
  have h2 := lift_prod (k := s) hb hxb
  have hd : ((p ^ s : Nat) : Int) ∣ ((p ^ g : Nat) : Int) := Int.natCast_dvd_natCast.2 (Nat.pow_dvd_pow p hsg)
  have h3 : CgV ((p ^ s : Nat) : Int) (scaleP (pL La) (ldP f)) (scaleP (pL Lb) (ldP f)) := (h1.dvd hd).trans h2.symm
  have hcop := cop_pow (n := s) hp hl
  have h4 : CgV ((p ^ s : Nat) : Int) (pL La) (pL Lb) := CgV.of fun i => by
    obtain ⟨k, hk⟩ := h3.cof i
    rw [co_scaleP, co_scaleP] at hk
    refine cop_dvd hcop ⟨k, ?_⟩
    rw [Int.mul_sub]; grind
  have hfit : Fit (p : Int) La Lb := ha.fit.trans hb.fit.symm
  have hcz := coa_pw hp hm hc
  have hpw : Pw (p : Int) Lb := pw_of fun i j x y hj hx hy => by
    have key : ∀ (i : Nat) (x : List Int), Lb[i]? = some x → ∃ d, (ds.map zl)[i]? = some (zl d) ∧ CgV (p : Int) (zl d) x := fun i x hx => by
      obtain ⟨u, hu⟩ : ∃ u, (symL p ds)[i]? = some u := ⟨_, List.getElem?_eq_getElem (by have := (List.getElem?_eq_some_iff.1 hx).1; have := hb.fit.len; omega)⟩
      obtain ⟨m, _, _, hcg⟩ := hb.fit.at i x u hx hu
      obtain ⟨d, hd1, hd2⟩ := symL_get hu
      exact ⟨d, by simp [hd1], ((hcg.trans (by rw [hd2]; exact sym_cg p d)).symm)⟩
    obtain ⟨d1, e1, c1⟩ := key i x hx
    obtain ⟨d2, e2, c2⟩ := key j y hy
    exact (hcz.at i j _ _ (by omega) e1 e2).cg c1 c2
  intro i a b hia hib
  have h5 := uniqL (N := s) hp0 hfit hpw h4 i a b hia hib
  refine trim_inj fun j => ?_
  have h6 := redZ_cg (p ^ s) a j
  rw [co_mapS]
  have h7 := lift_red hp.1 hb heb (List.mem_of_getElem? hib) j
  obtain ⟨k, hk⟩ := h5.cof j
  rw [← h7]
  exact symZ_congr ⟨k, by rw [hk]⟩
end Go.Gx
namespace Go.Gx
theorem lower_ab {p s g na nb nl ns : Nat} {f : List Int} {ds : List (List Nat)} {xa xb : Int} {La Lb : List (List Int)} (hp : PrimeN p) (hm : ∀ d ∈ ds, MonN p d) (hc : CoA p (monL p ds)) (hs : 1 ≤ s ∧ s ≤ g) (hn : nl = ns)
    (ha : (¬ CoA p (monL p ds) ∧ xa = 5 ∧ na = 0) ∨ (CoA p (monL p ds) ∧ BadL p f (monL p ds) ∧ xa = 3 ∧ na = 0) ∨ (CoA p (monL p ds) ∧ ¬ BadL p f (monL p ds) ∧ xa = 0 ∧ (∃ L1 e, LReach p g f (symL p (monL p ds)) (symL p (cofsG p (monL p ds))) La L1 e ∧ (e = g ∨ isFac f La)) ∧ na = nl))
    (hb : (¬ CoA p (monL p ds) ∧ xb = 5 ∧ nb = 0) ∨ (CoA p (monL p ds) ∧ BadL p f (monL p ds) ∧ xb = 3 ∧ nb = 0) ∨ (CoA p (monL p ds) ∧ ¬ BadL p f (monL p ds) ∧ xb = 0 ∧ (∃ L1 e, LReach p s f (symL p (monL p ds)) (symL p (cofsG p (monL p ds))) Lb L1 e ∧ (e = s ∨ isFac f Lb)) ∧ nb = ns)) :
    (xa = xb ∧ na = nb) ∧ (na = 0 ∨ ∀ (i : Nat) (a b : List Int), La[i]? = some a → Lb[i]? = some b → redZ (p ^ s) a = trimZ b) := by
  rcases ha with ⟨h, _⟩ | ⟨_, h, h1, h2⟩ | ⟨_, h, h1, ⟨L1, e, hr, hx⟩, h2⟩
  · exact absurd hc h
  · rcases hb with ⟨g, _⟩ | ⟨_, g, g1, g2⟩ | ⟨_, g, _⟩
    · exact absurd hc g
    · exact ⟨⟨by omega, by omega⟩, .inl h2⟩
    · exact absurd h g
  · rcases hb with ⟨g, _⟩ | ⟨_, g, _⟩ | ⟨_, g, g1, ⟨M1, e', hr', hx'⟩, g2⟩
    · exact absurd hc g
    · exact absurd g h
    · obtain ⟨n1, i1⟩ := lift_inv hp hm hc h hr
      obtain ⟨n2, i2⟩ := lift_inv hp hm hc h hr'
      refine ⟨⟨by omega, by omega⟩, .inr ?_⟩
      rw [monL_self hp.1 hm] at hc
      exact lower_same hp hm hc (fun hz => h (.inl hz)) hs.2 i1 hx i2 hx' (reach_le hr' hs.1)
end Go.Gx
