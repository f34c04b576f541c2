/-
  Polynomials as lists of coefficients: multiples, shifts by powers, derivatives, powers, composition. Plain numbers; no program in sight.
-/
import Derived.Test.YtppegjbdencefaaPolyMath
namespace Go.Gx
theorem rsum_single {F : Nat → Int} {n j : Nat} (hj : j < n) (h : ∀ i, i < n → i ≠ j → F i = 0) : rsum F n = F j := by
  induction n with
  | zero => omega
  | succ n ih =>
    rw [rsum_succ]
    by_cases e : n = j
    · subst e
      rw [rsum_zero (fun i hi => h i (by omega) (by omega))]; omega
    · rw [ih (by omega) (fun i hi hne => h i (by omega) hne), h n (by omega) e]; omega
def scaleP (f : List Int) (c : Int) : List Int := f.map (· * c)
def upP (f : List Int) (n : Nat) : List Int := if f = [] then [] else List.replicate n 0 ++ f
def derivP (f : List Int) : List Int := (List.range (f.length - 1)).map fun i => co f (i + 1) * ((i + 1 : Nat) : Int)
theorem co_scaleP (f : List Int) (c : Int) (i : Nat) : co (scaleP f c) i = co f i * c := by
  simp only [co, scaleP, List.getD, List.getElem?_map]
  cases f[i]? <;> simp
theorem co_upP (f : List Int) (n i : Nat) : co (upP f n) i = if i < n then 0 else co f (i - n) := by
  unfold upP
  split
  · rename_i h; subst h; split <;> simp [co]
  · simp only [co, List.getD]
    split
    · rename_i h; rw [List.getElem?_append_left (by simpa using h), List.getElem?_replicate, if_pos h]; rfl
    · rename_i h; rw [List.getElem?_append_right (by simp; omega)]; simp
theorem co_derivP (f : List Int) (i : Nat) : co (derivP f) i = co f (i + 1) * ((i + 1 : Nat) : Int) := by
  unfold derivP
  rw [co_map_range]
  split
  · rfl
  · rw [co_ge (f := f) (i := i + 1) (by omega)]; simp
theorem co_take (f : List Int) (k i : Nat) : co (f.take k) i = if i < k then co f i else 0 := by
  simp only [co, List.getD, List.getElem?_take]
  split <;> rfl
theorem conv_take_succ (F G : List Int) (k i : Nat) : conv F (G.take (k + 1)) i = conv F (G.take k) i + (if i < k then 0 else co F (i - k) * co G k) := by
  unfold conv convF
  have e : ∀ t, t < i + 1 → co F t * co (G.take (k + 1)) (i - t) = co F t * co (G.take k) (i - t) + (if i - t = k then co F t * co G k else 0) := by
    intro t ht
    rw [co_take, co_take]
    by_cases h1 : i - t < k
    · rw [if_pos (by omega), if_pos h1, if_neg (by omega)]; omega
    · by_cases h2 : i - t = k
      · rw [if_pos (by omega), if_neg (by omega), if_pos h2, h2]; simp
      · rw [if_neg (by omega), if_neg h1, if_neg h2]; simp
  rw [rsum_congr e, rsum_add]
  congr 1
  by_cases hk : i < k
  · rw [if_pos hk]; exact rsum_zero fun t ht => if_neg (by omega)
  · rw [if_neg hk, rsum_single (j := i - k) (by omega) (fun t ht hne => if_neg (by omega)), if_pos (by omega)]
theorem refmul_step (F G : List Int) (k : Nat) : trimZ (padd (trimZ (pmul F (G.take k))) (upP (trimZ (scaleP F (co G k))) k)) = trimZ (pmul F (G.take (k + 1))) := by
  refine trim_inj fun i => ?_
  rw [co_padd, co_trim, co_pmul, co_upP, co_pmul, conv_take_succ, co_trim, co_scaleP]
theorem refmul_end {F G o : List Int} {k : Nat} (h : o = trimZ (pmul F (G.take k))) (hk : G.length ≤ k) : o = trimZ (pmul F G) := by
  rw [h, List.take_of_length_le hk]
theorem refmul_nil (F G : List Int) : ([] : List Int) = trimZ (pmul F (G.take 0)) := by
  unfold pmul; simp [trimB]
theorem scaleP_len (f : List Int) (c : Int) : (scaleP f c).length = f.length := by simp [scaleP]
theorem upP_len (f : List Int) (n : Nat) : (upP f n).length ≤ f.length + n := by unfold upP; split <;> simp <;> omega
theorem trimZ_len (f : List Int) : (trimZ f).length ≤ f.length := trimB_len isZI f
theorem scale_snoc {f out : List Int} {k : Nat} {c z : Int} (h : out = (f.take k).map (· * c)) (hk : k < f.length) (hz : z = co f k * c) : out ++ [z] = (f.take (k + 1)).map (· * c) := by
  rw [List.take_succ_eq_append_getElem hk, List.map_append, ← h, hz]
  simp [co, List.getD, hk]
theorem range_snoc {out : List Int} {k : Nat} {F : Nat → Int} {z : Int} (h : out = (List.range k).map F) (hz : z = F k) : out ++ [z] = (List.range (k + 1)).map F := by
  rw [List.range_succ, List.map_append, ← h, hz]; rfl
/-! powers and composition -/
def ppow (g : List Int) : Nat → List Int
  | 0 => [1]
  | k + 1 => pmul (ppow g k) g
def pcs (f g : List Int) : Nat → List Int
  | 0 => []
  | k + 1 => padd (pcs f g k) (scaleP (ppow g k) (co f k))
def phorn (g : List Int) : List Int → List Int
  | [] => []
  | a :: fs => padd (pmul (phorn g fs) g) [a]
theorem conv_comm (f g : List Int) (k : Nat) : conv f g k = conv g f k := convF_comm _ _ k
theorem conv_addl {f f' h g : List Int} (e : ∀ i, co h i = co f i + co f' i) (k : Nat) : conv h g k = conv f g k + conv f' g k := by
  rw [conv_comm h, conv_comm f, conv_comm f']
  show convF (co g) (co h) k = _
  rw [show convF (co g) (co h) k = convF (co g) (fun i => co f i + co f' i) k from convF_congr (fun _ => rfl) e]
  exact convF_add _ _ _ k
theorem conv_scalel {f h g : List Int} {c : Int} (e : ∀ i, co h i = co f i * c) (k : Nat) : conv h g k = conv f g k * c := by
  unfold conv convF
  rw [← rsum_mul_r]
  refine rsum_congr fun i _ => ?_
  rw [e, Int.mul_assoc, Int.mul_comm c, Int.mul_assoc]
theorem conv_nil (g : List Int) (k : Nat) : conv [] g k = 0 := rsum_zero fun i _ => by simp [co]
theorem pcs_cons (a : Int) (f g : List Int) : ∀ (k i : Nat), co (pcs (a :: f) g (k + 1)) i = co [a] i + conv (pcs f g k) g i
  | 0, i => by
    show co (padd [] (scaleP [1] (co (a :: f) 0))) i = co [a] i + conv [] g i
    rw [co_padd, co_scaleP, conv_nil]
    cases i <;> simp [co]
  | k + 1, i => by
    have ih := pcs_cons a f g k i
    show co (padd (pcs (a :: f) g (k + 1)) (scaleP (ppow g (k + 1)) (co (a :: f) (k + 1)))) i = _
    rw [co_padd, ih, co_scaleP]
    show _ + co (pmul (ppow g k) g) i * _ = _
    rw [co_pmul]
    have e1 : conv (pcs f g (k + 1)) g i = conv (pcs f g k) g i + conv (scaleP (ppow g k) (co f k)) g i := conv_addl (fun j => co_padd _ _ j) i
    rw [e1, conv_scalel (fun j => co_scaleP (ppow g k) (co f k) j) i]
    have e2 : co (a :: f) (k + 1) = co f k := by simp [co]
    rw [e2]
    omega
theorem co_phorn (g : List Int) : ∀ (f : List Int) (i : Nat), co (phorn g f) i = co (pcs f g f.length) i
  | [], i => rfl
  | a :: f, i => by
    have ih := co_phorn g f
    rw [List.length_cons, pcs_cons]
    show co (padd (pmul (phorn g f) g) [a]) i = _
    rw [co_padd, co_pmul, conv_congr (f' := pcs f g f.length) (g' := g) ih (fun _ => rfl)]
    omega
theorem refcomp_step (F G : List Int) (k : Nat) : trimZ (padd (trimZ (pcs F G k)) (trimZ (scaleP (trimZ (ppow G k)) (co F k)))) = trimZ (pcs F G (k + 1)) := by
  refine trim_inj fun i => ?_
  show _ = co (padd (pcs F G k) (scaleP (ppow G k) (co F k))) i
  rw [co_padd, co_padd, co_trim, co_trim, co_scaleP, co_scaleP, co_trim]
theorem refpow_step (F G : List Int) (k : Nat) (hF : ∀ i, co F i = co G i) : trimZ (pmul (trimZ (ppow G k)) F) = trimZ (ppow G (k + 1)) := by
  refine trim_inj fun i => ?_
  show _ = co (pmul (ppow G k) G) i
  rw [co_pmul, co_pmul]
  exact conv_congr (fun j => co_trim _ j) hF
theorem horn_step {V f : List Int} {k : Nat} (g : List Int) (hk : k < f.length) (hV : V = trimZ (phorn g (f.drop (k + 1)))) : trimZ (padd (trimZ (pmul V g)) [co f k]) = trimZ (phorn g (f.drop k)) := by
  rw [List.drop_eq_getElem_cons hk]
  refine trim_inj fun i => ?_
  show _ = co (padd (pmul (phorn g (f.drop (k + 1))) g) [f[k]]) i
  rw [co_padd, co_padd, co_trim, co_pmul, co_pmul, hV]
  rw [conv_congr (f' := phorn g (f.drop (k + 1))) (g' := g) (fun j => co_trim _ j) (fun _ => rfl)]
  have : co f k = f[k] := by simp [co, List.getD, hk]
  rw [this]
theorem pcs_congr {f f' g g' : List Int} (hf : ∀ i, co f i = co f' i) (hg : ∀ i, co g i = co g' i) : ∀ (k i : Nat), co (pcs f g k) i = co (pcs f' g' k) i := by
  have hp : ∀ (k i : Nat), co (ppow g k) i = co (ppow g' k) i := by
    intro k
    induction k with
    | zero => intro i; rfl
    | succ k ih => intro i; show co (pmul _ _) i = co (pmul _ _) i; rw [co_pmul, co_pmul]; exact conv_congr ih hg
  intro k
  induction k with
  | zero => intro i; rfl
  | succ k ih =>
    intro i
    show co (padd _ _) i = co (padd _ _) i
    rw [co_padd, co_padd, ih, co_scaleP, co_scaleP, hp, hf]
theorem ppow_congr {g g' : List Int} (hg : ∀ i, co g i = co g' i) : ∀ (k i : Nat), co (ppow g k) i = co (ppow g' k) i := by
  intro k
  induction k with
  | zero => intro i; rfl
  | succ k ih => intro i; show co (pmul _ _) i = co (pmul _ _) i; rw [co_pmul, co_pmul]; exact conv_congr ih hg
theorem pcs_more {f g : List Int} : ∀ (m i : Nat), co (pcs f g (f.length + m)) i = co (pcs f g f.length) i
  | 0, i => rfl
  | m + 1, i => by
    show co (padd (pcs f g (f.length + m)) (scaleP (ppow g (f.length + m)) (co f (f.length + m)))) i = _
    rw [co_padd, co_scaleP, co_ge (f := f) (i := f.length + m) (by omega), pcs_more m i]
    omega
/-- The product of a power with a further power. -/
theorem conv_pmul_assoc (f g h : List Int) (i : Nat) : conv (pmul f g) h i = conv f (pmul g h) i := by
  show convF (co (pmul f g)) (co h) i = convF (co f) (co (pmul g h)) i
  rw [convF_congr (f := co (pmul f g)) (f' := fun j => conv f g j) (g' := co h) (fun j => co_pmul f g j) (fun _ => rfl), convF_congr (f' := co f) (g := co (pmul g h)) (g' := fun j => conv g h j) (fun _ => rfl) (fun j => co_pmul g h j)]
  exact (convF_assoc _ _ _ i).symm
theorem ppow_comm (g : List Int) : ∀ (k i : Nat), co (pmul g (ppow g k)) i = co (ppow g (k + 1)) i := fun k i => by
  show _ = co (pmul (ppow g k) g) i
  rw [co_pmul, co_pmul, conv_comm]
theorem ppow_sq (g : List Int) : ∀ (m i : Nat), co (ppow (pmul g g) m) i = co (ppow g (2 * m)) i
  | 0, i => rfl
  | m + 1, i => by
    show co (pmul (ppow (pmul g g) m) (pmul g g)) i = co (pmul (pmul (ppow g (2 * m)) g) g) i
    rw [co_pmul, co_pmul, conv_congr (f' := ppow g (2 * m)) (g' := pmul g g) (ppow_sq g m) (fun _ => rfl), conv_pmul_assoc]
theorem pow_odd {R S : List Int} {m : Nat} (i : Nat) : co (pmul (pmul R S) (ppow S (2 * m))) i = co (pmul R (ppow S (2 * m + 1))) i := by
  rw [co_pmul, co_pmul, conv_pmul_assoc]
  exact conv_congr (fun _ => rfl) (fun j => ppow_comm S (2 * m) j)
end Go.Gx
namespace Go.Gx
theorem zsign_iff {s z x : Int} (h : s = z.sign) (hz : z = x) : (s = 0 ↔ x = 0) := by
  subst hz; subst h
  rcases sign_cases z with h | h | h <;> omega
theorem trimZ_of {l : List Int} {k : Nat} (hk : k ≤ l.length) (hz : ∀ j, k ≤ j → l.getD j 0 = 0) (hl : k = 0 ∨ l.getD (k - 1) 0 ≠ 0) : l.take k = trimZ l := by
  refine (trimB_of isZI (l.length - k) l k (by omega) (fun j x hj hx => ?_) ?_).symm
  · have := hz j hj; simp [List.getD, hx] at this; simp [isZI, this]
  · rcases Nat.eq_zero_or_pos k with h0 | h0
    · exact .inl h0
    · right
      rcases hl with hl | hl
      · omega
      · have hlt : k - 1 < l.length := by omega
        refine ⟨l[k-1], List.getElem?_eq_getElem hlt, ?_⟩
        simp [List.getD, hlt] at hl
        simpa [isZI] using hl
/-- The coefficient, 0 beyond both ends. -/
def coI (f : List Int) (i : Int) : Int := if i < 0 then 0 else co f i.toNat
theorem coI_nat (f : List Int) (k : Nat) : coI f (k : Int) = co f k := by simp only [coI]; rw [if_neg (by omega), Int.toNat_natCast]
theorem coI_in {f : List Int} {i : Int} (h : 0 ≤ i) : co f i.toNat = coI f i := by simp only [coI]; rw [if_neg (by omega)]
theorem coI_out {f : List Int} {i : Int} (h : i < 0 ∨ (f.length : Int) ≤ i) : (0 : Int) = coI f i := by
  simp only [coI]
  split
  · rfl
  · exact (co_ge (by omega)).symm
theorem up_end {O f : List Int} {k n nf : Nat} (h : O = List.replicate k 0) (hl : f.length = nf) (hk : nf = 0 ∧ k = 0 ∨ nf ≠ 0 ∧ k = n) : O ++ f = upP f n := by
  subst h
  unfold upP
  rcases hk with ⟨h1, h2⟩ | ⟨h1, h2⟩
  · have : f = [] := List.eq_nil_of_length_eq_zero (by omega)
    subst this h2; simp
  · rw [if_neg (by intro e; subst e; simp at hl; omega), h2]
theorem deriv_snoc {f O : List Int} {k : Nat} {z : Int} (h : O = (List.range (k - 1)).map (fun i => co f (i + 1) * ((i + 1 : Nat) : Int))) (hk : 1 ≤ k) (hz : z = co f k * (k : Int)) : O ++ [z] = (List.range (k + 1 - 1)).map (fun i => co f (i + 1) * ((i + 1 : Nat) : Int)) := by
  obtain ⟨j, rfl⟩ : ∃ j, k = j + 1 := ⟨k - 1, by omega⟩
  simp only [Nat.add_sub_cancel] at h ⊢
  exact range_snoc h hz
end Go.Gx
namespace Go.Gx
theorem canon_of_last {f : List Int} (h : f.length = 0 ∨ co f (f.length - 1) ≠ 0) : Canon isZI f := by
  rcases snoc_cases f with h0 | ⟨k, x, rfl⟩
  · subst h0; rfl
  · refine canon_snoc.2 ?_
    rcases h with h | h
    · simp at h
    · have e : co (k ++ [x]) ((k ++ [x]).length - 1) = x := by simp [co, List.getD]
      rw [e] at h
      simpa [isZI] using h
theorem canon_last {f : List Int} (h : Canon isZI f) (hl : f.length ≠ 0) : co f (f.length - 1) ≠ 0 := by
  rcases snoc_cases f with h0 | ⟨k, x, rfl⟩
  · subst h0; simp at hl
  · have e : co (k ++ [x]) ((k ++ [x]).length - 1) = x := by simp [co, List.getD]
    rw [e]
    have := canon_snoc.1 h
    simpa [isZI] using this
theorem derivP_len (f : List Int) : (derivP f).length = f.length - 1 := by simp [derivP]
theorem derivP_canon {f : List Int} (h : Canon isZI f) : Canon isZI (derivP f) := by
  refine canon_of_last ?_
  rw [derivP_len]
  by_cases h1 : f.length - 1 = 0
  · exact .inl h1
  · right
    have h2 := canon_last h (by omega)
    rw [co_derivP, show f.length - 1 - 1 + 1 = f.length - 1 by omega]
    exact Int.mul_ne_zero h2 (by omega)
theorem deriv_trim (f : List Int) : derivP (trimZ f) = trimZ (derivP f) := by
  have h := derivP_canon (canon_trim isZI f)
  rw [← (h : trimZ _ = _)]
  refine trim_inj fun i => ?_
  rw [co_derivP, co_derivP, co_trim]
theorem map_snoc {l : List RI} {L : List RI} {k : Nat} {h : Int → Int} {r : RI} (hz : zs L = ((zs l).take k).map h) (hk : k < l.length) (hr : r.z = h (co (zs l) k)) : zs (L ++ [r]) = ((zs l).take (k + 1)).map h := by
  rw [List.take_succ_eq_append_getElem (by simpa using hk), List.map_append, ← hz]
  simp [hr, co, List.getD, hk]
theorem map_all {l : List RI} {L : List RI} {k m : Nat} {h : Int → Int} (hz : zs L = ((zs l).take k).map h) (hk : l.length ≤ k) (hm : m = 0) : zs (L ++ List.replicate m RI.zero) = (zs l).map h := by
  subst hm; rw [List.replicate_zero, List.append_nil, hz, List.take_of_length_le (by simpa using hk)]
theorem scale_comm (f : List Int) (c : Int) : f.map (fun x => c * x) = scaleP f c := by
  unfold scaleP; refine List.map_congr_left fun x _ => Int.mul_comm _ _
theorem map_id2 (f : List Int) : f.map (fun x => x) = f := by simp
theorem neg_scale (f : List Int) : f.map (fun x => -x) = scaleP f (-1) := by unfold scaleP; refine List.map_congr_left fun x _ => by omega
theorem one_right (R : List Int) (i : Nat) : conv R [1] i = co R i := by
  rw [conv_comm]
  unfold conv convF
  rw [rsum_single (j := 0) (by omega) (fun t _ hne => by
    have : co [1] t = 0 := co_ge (by simp; omega)
    rw [this]; simp)]
  simp [co]
theorem pow_init (F : List Int) (N : Nat) : trimZ (pmul (trimZ [1]) (ppow (trimZ F) N)) = trimZ (ppow F N) := by
  refine trim_inj fun i => ?_
  rw [co_pmul, conv_comm, conv_congr (f' := ppow F N) (g' := [1]) (ppow_congr (fun j => co_trim _ j) N) (fun j => co_trim _ j), one_right]
theorem pow_odd1 {R S T R' S' : List Int} {m : Nat} (h : trimZ (pmul R (ppow S m)) = T) (hm : m % 2 = 1) (hR : R' = trimZ (pmul R S)) (hS : S' = trimZ (pmul S S)) : trimZ (pmul R' (ppow S' (m / 2))) = T := by
  rw [← h, hR, hS]
  refine trim_inj fun i => ?_
  have e := pow_odd (R := R) (S := S) (m := m / 2) i
  rw [show 2 * (m / 2) + 1 = m by omega] at e
  rw [← e, co_pmul, co_pmul]
  exact conv_congr (fun j => co_trim _ j) (fun j => (ppow_congr (fun t => co_trim _ t) _ j).trans (ppow_sq S (m / 2) j))
theorem pow_even1 {R S T S' : List Int} {m : Nat} (h : trimZ (pmul R (ppow S m)) = T) (hm : ¬ m % 2 = 1) (hS : S' = trimZ (pmul S S)) : trimZ (pmul R (ppow S' (m / 2))) = T := by
  rw [← h, hS]
  refine trim_inj fun i => ?_
  rw [co_pmul, co_pmul]
  refine conv_congr (fun _ => rfl) (fun j => (ppow_congr (fun t => co_trim _ t) _ j).trans ?_)
  rw [ppow_sq, show 2 * (m / 2) = m by omega]
theorem pow_last {R S T R' : List Int} {m m' : Nat} (h : trimZ (pmul R (ppow S m)) = T) (hm : m = 1) (hm' : m' = 0) (hR : R' = trimZ (pmul R S)) : trimZ (pmul R' (ppow S m')) = T := by
  subst hm hm'
  rw [← h, hR]
  refine trim_inj fun i => ?_
  show co (pmul _ [1]) i = co (pmul R (pmul [1] S)) i
  rw [co_pmul, one_right, co_trim, co_pmul, co_pmul]
  refine conv_congr (fun _ => rfl) (fun j => ?_)
  rw [co_pmul, conv_comm, one_right]
theorem pow_end {R S T : List Int} {m : Nat} (h : trimZ (pmul R (ppow S m)) = T) (hm : m = 0) (hc : Canon isZI R) : R = T := by
  subst hm
  rw [← h]
  conv => lhs; rw [← (hc : trimZ R = R)]
  refine trim_inj fun i => ?_
  show _ = co (pmul R [1]) i
  rw [co_pmul, one_right]
theorem trim_one : trimZ [1] = [1] := by decide
theorem last_co {l : List RI} {n : Nat} (h : l.length = n) (hn : n ≠ 0) (f : List Int) (hf : zs l = f) : co f (f.length - 1) = co (zs l) (n - 1) := by
  subst hf h; simp
end Go.Gx
namespace Go.Gx
theorem neg_trim (f : List Int) : scaleP (trimZ f) (-1) = trimZ (scaleP f (-1)) := by
  have h : Canon isZI (scaleP (trimZ f) (-1)) := by
    refine canon_of_last ?_
    rw [scaleP_len]
    by_cases h1 : (trimZ f).length = 0
    · exact .inl h1
    · right
      have := canon_last (canon_trim isZI f) h1
      rw [co_scaleP]
      exact Int.mul_ne_zero this (by decide)
  rw [← (h : trimZ _ = _)]
  refine trim_inj fun i => ?_
  rw [co_scaleP, co_scaleP, co_trim]
end Go.Gx
namespace Go.Gx
/-- How far a power by squaring has come. -/
structure PowI (u a b : Nat) : Prop where
  sum : a + b * u ≤ 127
  pos : 1 ≤ b
  big : b ≤ 254
theorem PowI.bnd {u a b : Nat} (h : PowI u a b) : a ≤ 127 ∧ b ≤ 254 ∧ (1 ≤ b ∧ u ≤ 127) ∧ (0 < u → a + b ≤ 127) := by
  have hub : 1 * u ≤ b * u := Nat.mul_le_mul_right _ h.pos
  refine ⟨by have := h.sum; omega, h.big, ⟨h.pos, by have := h.sum; omega⟩, fun hu => ?_⟩
  have h1 : b * 1 ≤ b * u := Nat.mul_le_mul_left _ hu
  have := h.sum
  omega
theorem PowI.start {u : Nat} (h : u ≤ 127) : PowI u 0 1 := ⟨by omega, by omega, by omega⟩
theorem PowI.odd {u a b : Nat} (h : PowI u a b) (hu : u % 2 = 1) : PowI (u / 2 ^ 1) (a + b) (2 * b) := by
  have h1 := h.sum
  have h2 := h.bnd.2.2.2 (by omega)
  refine ⟨?_, by have := h.pos; omega, by omega⟩
  have e : b * u = b * (2 * (u / 2) + 1) := by rw [show 2 * (u / 2) + 1 = u by omega]
  rw [e, Nat.mul_add, Nat.mul_one, ← Nat.mul_assoc, Nat.mul_comm b 2] at h1
  show a + b + 2 * b * (u / 2) ≤ 127
  omega
theorem PowI.even {u a b : Nat} (h : PowI u a b) (hu : ¬ u % 2 = 1) (h0 : 0 < u) : PowI (u / 2 ^ 1) (a + 0) (2 * b) := by
  have h1 := h.sum
  have h2 := h.bnd.2.2.2 h0
  refine ⟨?_, by have := h.pos; omega, by omega⟩
  have e : b * u = b * (2 * (u / 2)) := by rw [show 2 * (u / 2) = u by omega]
  rw [e, ← Nat.mul_assoc, Nat.mul_comm b 2] at h1
  show a + 0 + 2 * b * (u / 2) ≤ 127
  omega
end Go.Gx
namespace Go.Gx
theorem law_mul (F G : List Int) : trimZ (pmul F G) = trimZ (pmul (trimZ F) (trimZ G)) := by rw [mul_trim]; exact (canon_trim isZI _).symm
theorem law_pow (F : List Int) (k : Nat) : trimZ (pmul (trimZ (ppow F k)) (trimZ F)) = trimZ (ppow F (k + 1)) := refpow_step _ _ _ fun i => co_trim _ i
theorem law_deriv (F : List Int) : trimZ (derivP F) = trimZ (derivP (trimZ F)) := by rw [deriv_trim]; exact (canon_trim isZI _).symm
theorem ri_inj {l : List RI} {i : Nat} {g g' : Bool} {A A' : Option Addr} {n n' c c' : Nat} {d d' : List Nat} (h : l[i]? = some ⟨g, A, n, c, d⟩) (h' : l[i]? = some ⟨g', A', n', c', d'⟩) : g = g' ∧ d = d' := by
  rw [h] at h'; injection h' with h'; injection h' with h1 h2 h3 h4 h5; exact ⟨h1, h5⟩
theorem take_snocZ {l O : List Int} {k : Nat} {z : Int} (h : O = l.take k) (hk : k < l.length) (hz : z = co l k) : O ++ [z] = l.take (k + 1) := by
  rw [List.take_succ_eq_append_getElem hk, h, hz]; simp [co, List.getD, hk]
end Go.Gx
