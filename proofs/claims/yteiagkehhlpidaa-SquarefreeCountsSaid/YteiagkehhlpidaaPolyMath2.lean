/-
  Polynomials as lists of coefficients: multiples, shifts by powers, derivatives, powers, composition. Plain numbers; no program in sight.
-/
import Derived.Test.YteiagkehhlpidaaPolyMath
namespace Go.Gx
theorem rsum_single {F : Nat → Int} {n j : Nat} (hj : j < n) (h : ∀ i, i < n → i ≠ j → F i = 0) : rsum F n = F j := by
  induction n with
  | zero => omega
  | succ n ih =>
    rw [rsum_succ]
    by_cases e : n = j
    · subst e
      rw [rsum_zero (fun i hi => h i (by omega) (by omega))]; omega
    · rw [ih (by omega) (fun i hi hne => h i (by omega) hne), h n (by omega) e]; omega
def scaleP (f : List Int) (c : Int) : List Int := f.map (· * c)
def upP (f : List Int) (n : Nat) : List Int := if f = [] then [] else List.replicate n 0 ++ f
def derivP (f : List Int) : List Int := (List.range (f.length - 1)).map fun i => co f (i + 1) * ((i + 1 : Nat) : Int)
theorem co_scaleP (f : List Int) (c : Int) (i : Nat) : co (scaleP f c) i = co f i * c := by
  simp only [co, scaleP, List.getD, List.getElem?_map]
  cases f[i]? <;> simp
theorem co_upP (f : List Int) (n i : Nat) : co (upP f n) i = if i < n then 0 else co f (i - n) := by
  unfold upP
  split
  · rename_i h; subst h; split <;> simp [co]
  · simp only [co, List.getD]
    split
    · rename_i h; rw [List.getElem?_append_left (by simpa using h), List.getElem?_replicate, if_pos h]; rfl
    · rename_i h; rw [List.getElem?_append_right (by simp; omega)]; simp
theorem co_derivP (f : List Int) (i : Nat) : co (derivP f) i = co f (i + 1) * ((i + 1 : Nat) : Int) := by
  unfold derivP
  rw [co_map_range]
  split
  · rfl
  · rw [co_ge (f := f) (i := i + 1) (by omega)]; simp
theorem co_take (f : List Int) (k i : Nat) : co (f.take k) i = if i < k then co f i else 0 := by
  simp only [co, List.getD, List.getElem?_take]
  split <;> rfl
theorem conv_take_succ (F G : List Int) (k i : Nat) : conv F (G.take (k + 1)) i = conv F (G.take k) i + (if i < k then 0 else co F (i - k) * co G k) := by
  unfold conv convF
  have e : ∀ t, t < i + 1 → co F t * co (G.take (k + 1)) (i - t) = co F t * co (G.take k) (i - t) + (if i - t = k then co F t * co G k else 0) := by
    intro t ht
    rw [co_take, co_take]
    by_cases h1 : i - t < k
    · rw [if_pos (by omega), if_pos h1, if_neg (by omega)]; omega
    · by_cases h2 : i - t = k
      · rw [if_pos (by omega), if_neg (by omega), if_pos h2, h2]; simp
      · rw [if_neg (by omega), if_neg h1, if_neg h2]; simp
  rw [rsum_congr e, rsum_add]
  congr 1
  by_cases hk : i < k
  · rw [if_pos hk]; exact rsum_zero fun t ht => if_neg (by omega)
  · rw [if_neg hk, rsum_single (j := i - k) (by omega) (fun t ht hne => if_neg (by omega)), if_pos (by omega)]
theorem refmul_step (F G : List Int) (k : Nat) : trimZ (padd (trimZ (pmul F (G.take k))) (upP (trimZ (scaleP F (co G k))) k)) = trimZ (pmul F (G.take (k + 1))) := by
  refine trim_inj fun i => ?_
  rw [co_padd, co_trim, co_pmul, co_upP, co_pmul, conv_take_succ, co_trim, co_scaleP]
theorem refmul_end {F G o : List Int} {k : Nat} (h : o = trimZ (pmul F (G.take k))) (hk : G.length ≤ k) : o = trimZ (pmul F G) := by
  rw [h, List.take_of_length_le hk]
theorem refmul_nil (F G : List Int) : ([] : List Int) = trimZ (pmul F (G.take 0)) := by
  unfold pmul; simp [trimB]
theorem scaleP_len (f : List Int) (c : Int) : (scaleP f c).length = f.length := by simp [scaleP]
theorem upP_len (f : List Int) (n : Nat) : (upP f n).length ≤ f.length + n := by unfold upP; split <;> simp <;> omega
theorem trimZ_len (f : List Int) : (trimZ f).length ≤ f.length := trimB_len isZI f
theorem scale_snoc {f out : List Int} {k : Nat} {c z : Int} (h : out = (f.take k).map (· * c)) (hk : k < f.length) (hz : z = co f k * c) : out ++ [z] = (f.take (k + 1)).map (· * c) := by
  rw [List.take_succ_eq_append_getElem hk, List.map_append, ← h, hz]
  simp [co, List.getD, hk]
theorem range_snoc {out : List Int} {k : Nat} {F : Nat → Int} {z : Int} (h : out = (List.range k).map F) (hz : z = F k) : out ++ [z] = (List.range (k + 1)).map F := by
  rw [List.range_succ, List.map_append, ← h, hz]; rfl
/-! powers and composition -/
def ppow (g : List Int) : Nat → List Int
  | 0 => [1]
  | k + 1 => pmul (ppow g k) g
def pcs (f g : List Int) : Nat → List Int
  | 0 => []
  | k + 1 => padd (pcs f g k) (scaleP (ppow g k) (co f k))
def phorn (g : List Int) : List Int → List Int
  | [] => []
  | a :: fs => padd (pmul (phorn g fs) g) [a]
theorem conv_comm (f g : List Int) (k : Nat) : conv f g k = conv g f k := convF_comm _ _ k
theorem conv_addl {f f' h g : List Int} (e : ∀ i, co h i = co f i + co f' i) (k : Nat) : conv h g k = conv f g k + conv f' g k := by
  rw [conv_comm h, conv_comm f, conv_comm f']
  show convF (co g) (co h) k = _
  rw [show convF (co g) (co h) k = convF (co g) (fun i => co f i + co f' i) k from convF_congr (fun _ => rfl) e]
  exact convF_add _ _ _ k
theorem conv_scalel {f h g : List Int} {c : Int} (e : ∀ i, co h i = co f i * c) (k : Nat) : conv h g k = conv f g k * c := by
  unfold conv convF
  rw [← rsum_mul_r]
  refine rsum_congr fun i _ => ?_
  rw [e, Int.mul_assoc, Int.mul_comm c, Int.mul_assoc]
theorem conv_nil (g : List Int) (k : Nat) : conv [] g k = 0 := rsum_zero fun i _ => by simp [co]
theorem pcs_cons (a : Int) (f g : List Int) : ∀ (k i : Nat), co (pcs (a :: f) g (k + 1)) i = co [a] i + conv (pcs f g k) g i
  | 0, i => by
    show co (padd [] (scaleP [1] (co (a :: f) 0))) i = co [a] i + conv [] g i
    rw [co_padd, co_scaleP, conv_nil]
    cases i <;> simp [co]
  | k + 1, i => by
    have ih := pcs_cons a f g k i
    show co (padd (pcs (a :: f) g (k + 1)) (scaleP (ppow g (k + 1)) (co (a :: f) (k + 1)))) i = _
    rw [co_padd, ih, co_scaleP]
    show _ + co (pmul (ppow g k) g) i * _ = _
    rw [co_pmul]
    have e1 : conv (pcs f g (k + 1)) g i = conv (pcs f g k) g i + conv (scaleP (ppow g k) (co f k)) g i := conv_addl (fun j => co_padd _ _ j) i
    rw [e1, conv_scalel (fun j => co_scaleP (ppow g k) (co f k) j) i]
    have e2 : co (a :: f) (k + 1) = co f k := by simp [co]
    rw [e2]
    omega
theorem co_phorn (g : List Int) : ∀ (f : List Int) (i : Nat), co (phorn g f) i = co (pcs f g f.length) i
  | [], i => rfl
  | a :: f, i => by
    have ih := co_phorn g f
    rw [List.length_cons, pcs_cons]
    show co (padd (pmul (phorn g f) g) [a]) i = _
    rw [co_padd, co_pmul, conv_congr (f' := pcs f g f.length) (g' := g) ih (fun _ => rfl)]
    omega
theorem refcomp_step (F G : List Int) (k : Nat) : trimZ (padd (trimZ (pcs F G k)) (trimZ (scaleP (trimZ (ppow G k)) (co F k)))) = trimZ (pcs F G (k + 1)) := by
  refine trim_inj fun i => ?_
  show _ = co (padd (pcs F G k) (scaleP (ppow G k) (co F k))) i
  rw [co_padd, co_padd, co_trim, co_trim, co_scaleP, co_scaleP, co_trim]
theorem refpow_step (F G : List Int) (k : Nat) (hF : ∀ i, co F i = co G i) : trimZ (pmul (trimZ (ppow G k)) F) = trimZ (ppow G (k + 1)) := by
  refine trim_inj fun i => ?_
  show _ = co (pmul (ppow G k) G) i
  rw [co_pmul, co_pmul]
  exact conv_congr (fun j => co_trim _ j) hF
theorem horn_step {V f : List Int} {k : Nat} (g : List Int) (hk : k < f.length) (hV : V = trimZ (phorn g (f.drop (k + 1)))) : trimZ (padd (trimZ (pmul V g)) [co f k]) = trimZ (phorn g (f.drop k)) := by
  rw [List.drop_eq_getElem_cons hk]
  refine trim_inj fun i => ?_
  show _ = co (padd (pmul (phorn g (f.drop (k + 1))) g) [f[k]]) i
  rw [co_padd, co_padd, co_trim, co_pmul, co_pmul, hV]
  rw [conv_congr (f' := phorn g (f.drop (k + 1))) (g' := g) (fun j => co_trim _ j) (fun _ => rfl)]
  have : co f k = f[k] := by simp [co, List.getD, hk]
  rw [this]
theorem pcs_congr {f f' g g' : List Int} (hf : ∀ i, co f i = co f' i) (hg : ∀ i, co g i = co g' i) : ∀ (k i : Nat), co (pcs f g k) i = co (pcs f' g' k) i := by
  have hp : ∀ (k i : Nat), co (ppow g k) i = co (ppow g' k) i := by
    intro k
    induction k with
    | zero => intro i; rfl
    | succ k ih => intro i; show co (pmul _ _) i = co (pmul _ _) i; rw [co_pmul, co_pmul]; exact conv_congr ih hg
  intro k
  induction k with
  | zero => intro i; rfl
  | succ k ih =>
    intro i
    show co (padd _ _) i = co (padd _ _) i
    rw [co_padd, co_padd, ih, co_scaleP, co_scaleP, hp, hf]
theorem ppow_congr {g g' : List Int} (hg : ∀ i, co g i = co g' i) : ∀ (k i : Nat), co (ppow g k) i = co (ppow g' k) i := by
  intro k
  induction k with
  | zero => intro i; rfl
  | succ k ih => intro i; show co (pmul _ _) i = co (pmul _ _) i; rw [co_pmul, co_pmul]; exact conv_congr ih hg
theorem pcs_more {f g : List Int} : ∀ (m i : Nat), co (pcs f g (f.length + m)) i = co (pcs f g f.length) i
  | 0, i => rfl
  | m + 1, i => by
    show co (padd (pcs f g (f.length + m)) (scaleP (ppow g (f.length + m)) (co f (f.length + m)))) i = _
    rw [co_padd, co_scaleP, co_ge (f := f) (i := f.length + m) (by omega), pcs_more m i]
    omega
/-- The product of a power with a further power. -/
theorem conv_pmul_assoc (f g h : List Int) (i : Nat) : conv (pmul f g) h i = conv f (pmul g h) i := by
  show convF (co (pmul f g)) (co h) i = convF (co f) (co (pmul g h)) i
  rw [convF_congr (f := co (pmul f g)) (f' := fun j => conv f g j) (g' := co h) (fun j => co_pmul f g j) (fun _ => rfl), convF_congr (f' := co f) (g := co (pmul g h)) (g' := fun j => conv g h j) (fun _ => rfl) (fun j => co_pmul g h j)]
  exact (convF_assoc _ _ _ i).symm
theorem ppow_comm (g : List Int) : ∀ (k i : Nat), co (pmul g (ppow g k)) i = co (ppow g (k + 1)) i := fun k i => by
  show _ = co (pmul (ppow g k) g) i
  rw [co_pmul, co_pmul, conv_comm]
theorem ppow_sq (g : List Int) : ∀ (m i : Nat), co (ppow (pmul g g) m) i = co (ppow g (2 * m)) i
  | 0, i => rfl
  | m + 1, i => by
    show co (pmul (ppow (pmul g g) m) (pmul g g)) i = co (pmul (pmul (ppow g (2 * m)) g) g) i
    rw [co_pmul, co_pmul, conv_congr (f' := ppow g (2 * m)) (g' := pmul g g) (ppow_sq g m) (fun _ => rfl), conv_pmul_assoc]
theorem pow_odd {R S : List Int} {m : Nat} (i : Nat) : co (pmul (pmul R S) (ppow S (2 * m))) i = co (pmul R (ppow S (2 * m + 1))) i := by
  rw [co_pmul, co_pmul, conv_pmul_assoc]
  exact conv_congr (fun _ => rfl) (fun j => ppow_comm S (2 * m) j)
end Go.Gx
namespace Go.Gx
theorem zsign_iff {s z x : Int} (h : s = z.sign) (hz : z = x) : (s = 0 ↔ x = 0) := by
  subst hz; subst h
  rcases sign_cases z with h | h | h <;> omega
theorem trimZ_of {l : List Int} {k : Nat} (hk : k ≤ l.length) (hz : ∀ j, k ≤ j → l.getD j 0 = 0) (hl : k = 0 ∨ l.getD (k - 1) 0 ≠ 0) : l.take k = trimZ l := by
  refine (trimB_of isZI (l.length - k) l k (by omega) (fun j x hj hx => ?_) ?_).symm
  · have := hz j hj; simp [List.getD, hx] at this; simp [isZI, this]
  · rcases Nat.eq_zero_or_pos k with h0 | h0
    · exact .inl h0
    · right
      rcases hl with hl | hl
      · omega
      · have hlt : k - 1 < l.length := by omega
        refine ⟨l[k-1], List.getElem?_eq_getElem hlt, ?_⟩
        simp [List.getD, hlt] at hl
        simpa [isZI] using hl
/-- The coefficient, 0 beyond both ends. -/
def coI (f : List Int) (i : Int) : Int := if i < 0 then 0 else co f i.toNat
theorem coI_nat (f : List Int) (k : Nat) : coI f (k : Int) = co f k := by simp only [coI]; rw [if_neg (by omega), Int.toNat_natCast]
theorem coI_in {f : List Int} {i : Int} (h : 0 ≤ i) : co f i.toNat = coI f i := by simp only [coI]; rw [if_neg (by omega)]
theorem coI_out {f : List Int} {i : Int} (h : i < 0 ∨ (f.length : Int) ≤ i) : (0 : Int) = coI f i := by
  simp only [coI]
  split
  · rfl
  · exact (co_ge (by omega)).symm
theorem up_end {O f : List Int} {k n nf : Nat} (h : O = List.replicate k 0) (hl : f.length = nf) (hk : nf = 0 ∧ k = 0 ∨ nf ≠ 0 ∧ k = n) : O ++ f = upP f n := by
  subst h
  unfold upP
  rcases hk with ⟨h1, h2⟩ | ⟨h1, h2⟩
  · have : f = [] := List.eq_nil_of_length_eq_zero (by omega)
    subst this h2; simp
  · rw [if_neg (by intro e; subst e; simp at hl; omega), h2]
theorem deriv_snoc {f O : List Int} {k : Nat} {z : Int} (h : O = (List.range (k - 1)).map (fun i => co f (i + 1) * ((i + 1 : Nat) : Int))) (hk : 1 ≤ k) (hz : z = co f k * (k : Int)) : O ++ [z] = (List.range (k + 1 - 1)).map (fun i => co f (i + 1) * ((i + 1 : Nat) : Int)) := by
  obtain ⟨j, rfl⟩ : ∃ j, k = j + 1 := ⟨k - 1, by omega⟩
  simp only [Nat.add_sub_cancel] at h ⊢
  exact range_snoc h hz
end Go.Gx
namespace Go.Gx
theorem canon_of_last {f : List Int} (h : f.length = 0 ∨ co f (f.length - 1) ≠ 0) : Canon isZI f := by
  rcases snoc_cases f with h0 | ⟨k, x, rfl⟩
  · subst h0; rfl
  · refine canon_snoc.2 ?_
    rcases h with h | h
    · simp at h
    · have e : co (k ++ [x]) ((k ++ [x]).length - 1) = x := by simp [co, List.getD]
      rw [e] at h
      simpa [isZI] using h
theorem canon_last {f : List Int} (h : Canon isZI f) (hl : f.length ≠ 0) : co f (f.length - 1) ≠ 0 := by
  rcases snoc_cases f with h0 | ⟨k, x, rfl⟩
  · subst h0; simp at hl
  · have e : co (k ++ [x]) ((k ++ [x]).length - 1) = x := by simp [co, List.getD]
    rw [e]
    have := canon_snoc.1 h
    simpa [isZI] using this
theorem derivP_len (f : List Int) : (derivP f).length = f.length - 1 := by simp [derivP]
theorem derivP_canon {f : List Int} (h : Canon isZI f) : Canon isZI (derivP f) := by
  refine canon_of_last ?_
  rw [derivP_len]
  by_cases h1 : f.length - 1 = 0
  · exact .inl h1
  · right
    have h2 := canon_last h (by omega)
    rw [co_derivP, show f.length - 1 - 1 + 1 = f.length - 1 by omega]
    exact Int.mul_ne_zero h2 (by omega)
theorem deriv_trim (f : List Int) : derivP (trimZ f) = trimZ (derivP f) := by
  have h := derivP_canon (canon_trim isZI f)
  rw [← (h : trimZ _ = _)]
  refine trim_inj fun i => ?_
  rw [co_derivP, co_derivP, co_trim]
theorem map_snoc {l : List RI} {L : List RI} {k : Nat} {h : Int → Int} {r : RI} (hz : zs L = ((zs l).take k).map h) (hk : k < l.length) (hr : r.z = h (co (zs l) k)) : zs (L ++ [r]) = ((zs l).take (k + 1)).map h := by
  rw [List.take_succ_eq_append_getElem (by simpa using hk), List.map_append, ← hz]
  simp [hr, co, List.getD, hk]
theorem map_all {l : List RI} {L : List RI} {k m : Nat} {h : Int → Int} (hz : zs L = ((zs l).take k).map h) (hk : l.length ≤ k) (hm : m = 0) : zs (L ++ List.replicate m RI.zero) = (zs l).map h := by
  subst hm; rw [List.replicate_zero, List.append_nil, hz, List.take_of_length_le (by simpa using hk)]
theorem scale_comm (f : List Int) (c : Int) : f.map (fun x => c * x) = scaleP f c := by
  unfold scaleP; refine List.map_congr_left fun x _ => Int.mul_comm _ _
theorem map_id2 (f : List Int) : f.map (fun x => x) = f := by simp
theorem neg_scale (f : List Int) : f.map (fun x => -x) = scaleP f (-1) := by unfold scaleP; refine List.map_congr_left fun x _ => by omega
theorem one_right (R : List Int) (i : Nat) : conv R [1] i = co R i := by
  rw [conv_comm]
  unfold conv convF
  rw [rsum_single (j := 0) (by omega) (fun t _ hne => by
    have : co [1] t = 0 := co_ge (by simp; omega)
    rw [this]; simp)]
  simp [co]
theorem pow_init (F : List Int) (N : Nat) : trimZ (pmul (trimZ [1]) (ppow (trimZ F) N)) = trimZ (ppow F N) := by
  refine trim_inj fun i => ?_
  rw [co_pmul, conv_comm, conv_congr (f' := ppow F N) (g' := [1]) (ppow_congr (fun j => co_trim _ j) N) (fun j => co_trim _ j), one_right]
theorem pow_odd1 {R S T R' S' : List Int} {m : Nat} (h : trimZ (pmul R (ppow S m)) = T) (hm : m % 2 = 1) (hR : R' = trimZ (pmul R S)) (hS : S' = trimZ (pmul S S)) : trimZ (pmul R' (ppow S' (m / 2))) = T := by
  rw [← h, hR, hS]
  refine trim_inj fun i => ?_
  have e := pow_odd (R := R) (S := S) (m := m / 2) i
  rw [show 2 * (m / 2) + 1 = m by omega] at e
  rw [← e, co_pmul, co_pmul]
  exact conv_congr (fun j => co_trim _ j) (fun j => (ppow_congr (fun t => co_trim _ t) _ j).trans (ppow_sq S (m / 2) j))
theorem pow_even1 {R S T S' : List Int} {m : Nat} (h : trimZ (pmul R (ppow S m)) = T) (hm : ¬ m % 2 = 1) (hS : S' = trimZ (pmul S S)) : trimZ (pmul R (ppow S' (m / 2))) = T := by
  rw [← h, hS]
  refine trim_inj fun i => ?_
  rw [co_pmul, co_pmul]
  refine conv_congr (fun _ => rfl) (fun j => (ppow_congr (fun t => co_trim _ t) _ j).trans ?_)
  rw [ppow_sq, show 2 * (m / 2) = m by omega]
theorem pow_last {R S T R' : List Int} {m m' : Nat} (h : trimZ (pmul R (ppow S m)) = T) (hm : m = 1) (hm' : m' = 0) (hR : R' = trimZ (pmul R S)) : trimZ (pmul R' (ppow S m')) = T := by
  subst hm hm'
  rw [← h, hR]
  refine trim_inj fun i => ?_
  show co (pmul _ [1]) i = co (pmul R (pmul [1] S)) i
  rw [co_pmul, one_right, co_trim, co_pmul, co_pmul]
  refine conv_congr (fun _ => rfl) (fun j => ?_)
  rw [co_pmul, conv_comm, one_right]
theorem pow_end {R S T : List Int} {m : Nat} (h : trimZ (pmul R (ppow S m)) = T) (hm : m = 0) (hc : Canon isZI R) : R = T := by
  subst hm
  rw [← h]
  conv => lhs; rw [← (hc : trimZ R = R)]
  refine trim_inj fun i => ?_
  show _ = co (pmul R [1]) i
  rw [co_pmul, one_right]
theorem trim_one : trimZ [1] = [1] := by decide
theorem last_co {l : List RI} {n : Nat} (h : l.length = n) (hn : n ≠ 0) (f : List Int) (hf : zs l = f) : co f (f.length - 1) = co (zs l) (n - 1) := by
  subst hf h; simp
end Go.Gx
namespace Go.Gx
theorem neg_trim (f : List Int) : scaleP (trimZ f) (-1) = trimZ (scaleP f (-1)) := by
  have h : Canon isZI (scaleP (trimZ f) (-1)) := by
    refine canon_of_last ?_
    rw [scaleP_len]
    by_cases h1 : (trimZ f).length = 0
    · exact .inl h1
    · right
      have := canon_last (canon_trim isZI f) h1
      rw [co_scaleP]
      exact Int.mul_ne_zero this (by decide)
  rw [← (h : trimZ _ = _)]
  refine trim_inj fun i => ?_
  rw [co_scaleP, co_scaleP, co_trim]
end Go.Gx
namespace Go.Gx
/-- How far a power by squaring has come. -/
structure PowI (u a b : Nat) : Prop where
  sum : a + b * u ≤ 127
  pos : 1 ≤ b
  big : b ≤ 254
theorem PowI.bnd {u a b : Nat} (h : PowI u a b) : a ≤ 127 ∧ b ≤ 254 ∧ (1 ≤ b ∧ u ≤ 127) ∧ (0 < u → a + b ≤ 127) := by
  have hub : 1 * u ≤ b * u := Nat.mul_le_mul_right _ h.pos
  refine ⟨by have := h.sum; omega, h.big, ⟨h.pos, by have := h.sum; omega⟩, fun hu => ?_⟩
  have h1 : b * 1 ≤ b * u := Nat.mul_le_mul_left _ hu
  have := h.sum
  omega
theorem PowI.start {u : Nat} (h : u ≤ 127) : PowI u 0 1 := ⟨by omega, by omega, by omega⟩
theorem PowI.odd {u a b : Nat} (h : PowI u a b) (hu : u % 2 = 1) : PowI (u / 2 ^ 1) (a + b) (2 * b) := by
  have h1 := h.sum
  have h2 := h.bnd.2.2.2 (by omega)
  refine ⟨?_, by have := h.pos; omega, by omega⟩
  have e : b * u = b * (2 * (u / 2) + 1) := by rw [show 2 * (u / 2) + 1 = u by omega]
  rw [e, Nat.mul_add, Nat.mul_one, ← Nat.mul_assoc, Nat.mul_comm b 2] at h1
  show a + b + 2 * b * (u / 2) ≤ 127
  omega
theorem PowI.even {u a b : Nat} (h : PowI u a b) (hu : ¬ u % 2 = 1) (h0 : 0 < u) : PowI (u / 2 ^ 1) (a + 0) (2 * b) := by
  have h1 := h.sum
  have h2 := h.bnd.2.2.2 h0
  refine ⟨?_, by have := h.pos; omega, by omega⟩
  have e : b * u = b * (2 * (u / 2)) := by rw [show 2 * (u / 2) = u by omega]
  rw [e, ← Nat.mul_assoc, Nat.mul_comm b 2] at h1
  show a + 0 + 2 * b * (u / 2) ≤ 127
  omega
end Go.Gx
namespace Go.Gx
theorem law_mul (F G : List Int) : trimZ (pmul F G) = trimZ (pmul (trimZ F) (trimZ G)) := by rw [mul_trim]; exact (canon_trim isZI _).symm
theorem law_pow (F : List Int) (k : Nat) : trimZ (pmul (trimZ (ppow F k)) (trimZ F)) = trimZ (ppow F (k + 1)) := refpow_step _ _ _ fun i => co_trim _ i
theorem law_deriv (F : List Int) : trimZ (derivP F) = trimZ (derivP (trimZ F)) := by rw [deriv_trim]; exact (canon_trim isZI _).symm
theorem ri_inj {l : List RI} {i : Nat} {g g' : Bool} {A A' : Option Addr} {n n' c c' : Nat} {d d' : List Nat} (h : l[i]? = some ⟨g, A, n, c, d⟩) (h' : l[i]? = some ⟨g', A', n', c', d'⟩) : g = g' ∧ d = d' := by
  rw [h] at h'; injection h' with h'; injection h' with h1 h2 h3 h4 h5; exact ⟨h1, h5⟩
theorem take_snocZ {l O : List Int} {k : Nat} {z : Int} (h : O = l.take k) (hk : k < l.length) (hz : z = co l k) : O ++ [z] = l.take (k + 1) := by
  rw [List.take_succ_eq_append_getElem hk, h, hz]; simp [co, List.getD, hk]
end Go.Gx
namespace Go.Gx
/-! shift, stretch, reversal -/
/-- The coefficients of f(x + c). -/
def tay (c : Int) : List Int → Nat → Int
  | [], _ => 0
  | a :: _, 0 => a + c * tay c ‹List Int› 0
  | _ :: l, i + 1 => c * tay c l (i + 1) + tay c l i
def syn (c : Int) : List Int → List Int
  | [] => []
  | a :: l => (a + c * co (syn c l) 0) :: syn c l
theorem syn_len (c : Int) : ∀ l : List Int, (syn c l).length = l.length
  | [] => rfl
  | a :: l => by simp [syn, syn_len c l]
theorem cc_zero (c a : Int) (l : List Int) : tay c (a :: l) 0 = a + c * tay c l 0 := rfl
theorem cc_succ (c a : Int) (l : List Int) (i : Nat) : tay c (a :: l) (i + 1) = c * tay c l (i + 1) + tay c l i := rfl
theorem cc_syn (c : Int) : ∀ (l : List Int), tay c l 0 = co (syn c l) 0 ∧ ∀ i, tay c l (i + 1) = tay c (syn c l).tail i
  | [] => ⟨rfl, fun i => rfl⟩
  | a :: l => by
    obtain ⟨h0, h1⟩ := cc_syn c l
    refine ⟨by rw [cc_zero, h0]; rfl, fun i => ?_⟩
    rw [cc_succ]
    show _ = tay c (syn c l) i
    cases hs : syn c l with
    | nil =>
      have : l = [] := List.eq_nil_of_length_eq_zero (by rw [← syn_len c l, hs]; rfl)
      subst this; simp [tay]
    | cons s0 s' =>
      rw [hs] at h0 h1
      simp only [List.tail_cons] at h1
      have h0' : tay c l 0 = s0 := by rw [h0]; rfl
      cases i with
      | zero => rw [cc_zero, h1 0, h0']; omega
      | succ i => rw [cc_succ, h1 (i + 1), h1 i]
theorem conv_lin (V : List Int) (c : Int) : ∀ i, conv V [c, 1] i = c * co V i + (if i = 0 then 0 else co V (i - 1)) := by
  intro i
  rw [conv_comm]
  unfold conv convF
  cases i with
  | zero => simp [rsum, co]
  | succ i =>
    rw [rsum_head, rsum_head, rsum_zero (fun t _ => by
      have : co [c, 1] (t + 1 + 1) = 0 := co_ge (by simp)
      rw [this]; simp)]
    simp [co]
theorem co_phorn_shift (c : Int) : ∀ (l : List Int) (i : Nat), co (phorn [c, 1] l) i = tay c l i
  | [], i => by simp [phorn, co, tay]
  | a :: l, i => by
    have ih := co_phorn_shift c l
    show co (padd (pmul (phorn [c, 1] l) [c, 1]) [a]) i = _
    rw [co_padd, co_pmul, conv_lin, ih]
    cases i with
    | zero => rw [if_pos rfl, cc_zero]; simp [co]; omega
    | succ i => rw [if_neg (by omega), cc_succ, Nat.add_sub_cancel, ih, co_ge (f := [a]) (by simp)]; omega
theorem shift_start {c : Int} {F L : List Int} (h : L = F) : ∀ j, tay c F j = if j < 0 then co L j else tay c (L.drop 0) (j - 0) := by
  intro j; subst h; simp
theorem shift_round {c : Int} {F L L' : List Int} {low : Nat} (h : ∀ j, tay c F j = if j < low then co L j else tay c (L.drop low) (j - low)) (ht : L'.take low = L.take low) (hd : L'.drop low = syn c (L.drop low)) :
    ∀ j, tay c F j = if j < low + 1 then co L' j else tay c (L'.drop (low + 1)) (j - (low + 1)) := by
  intro j
  rw [h j]
  by_cases h1 : j < low
  · rw [if_pos h1, if_pos (by omega)]
    have e1 := co_take L low j
    have e2 := co_take L' low j
    rw [if_pos h1] at e1 e2
    rw [← e1, ← e2, ht]
  · rw [if_neg h1]
    have hs := cc_syn c (L.drop low)
    rw [← hd] at hs
    by_cases h2 : j = low
    · subst h2
      rw [if_pos (by omega), Nat.sub_self, hs.1]
      simp [co, List.getD, List.getElem?_drop]
    · rw [if_neg (by omega), show j - low = (j - (low + 1)) + 1 by omega, hs.2, List.tail_drop]
theorem shift_end {c : Int} {F L : List Int} {low : Nat} (h : ∀ j, tay c F j = if j < low then co L j else tay c (L.drop low) (j - low)) (hl : L.length ≤ low + 1) : ∀ j, co L j = tay c F j := by
  intro j
  rw [h j]
  split
  · rfl
  · rename_i h1
    by_cases h2 : L.length ≤ low
    · rw [List.drop_of_length_le h2, co_ge (by omega)]; rfl
    · have e : L.drop low = [co L low] := by
        rw [List.drop_eq_getElem_cons (by omega), List.drop_of_length_le (by omega)]
        simp [co, List.getD, show low < L.length by omega]
      rw [e]
      by_cases h3 : j = low
      · subst h3; rw [Nat.sub_self, cc_zero]; simp [tay]
      · rw [co_ge (f := L) (i := j) (by omega), show j - low = (j - low - 1) + 1 by omega, cc_succ]; simp [tay]
theorem syn_step {c : Int} {L0 L : List Int} {i : Nat} {z : Int} (hi : i < L0.length) (hl : L.length = L0.length) (ht : L.take (i + 1) = L0.take (i + 1)) (hd : L.drop (i + 1) = syn c (L0.drop (i + 1))) (hz : z = co L i + c * co L (i + 1)) :
    (L.set i z).take i = L0.take i ∧ (L.set i z).drop i = syn c (L0.drop i) := by
  constructor
  · have := congrArg (List.take i) ht
    rw [List.take_take, List.take_take, Nat.min_eq_left (by omega)] at this
    rw [List.take_set_of_le (Nat.le_refl _), this]
  · rw [List.drop_eq_getElem_cons (by simpa [hl] using hi), List.drop_eq_getElem_cons hi]
    simp only [List.getElem_set_self, List.drop_set_of_lt (show i < i + 1 by omega)]
    show _ = (L0[i] + c * co (syn c (L0.drop (i + 1))) 0) :: syn c (L0.drop (i + 1))
    rw [← hd, hz]
    congr 1
    have e1 : co L i = L0[i] := by
      have := congrArg (fun l : List Int => co l i) ht
      simp only [co_take] at this
      rw [if_pos (by omega), if_pos (by omega)] at this
      rw [this]; simp [co, List.getD, hi]
    have e2 : co L (i + 1) = co (L.drop (i + 1)) 0 := by simp [co, List.getD, List.getElem?_drop]
    rw [e1, e2]
theorem syn_one {c : Int} {L : List Int} {k : Nat} (hk : k + 1 = L.length) : L.drop k = syn c (L.drop k) := by
  rw [List.drop_eq_getElem_cons (by omega), List.drop_of_length_le (by omega)]
  simp [syn, co]
theorem phorn_trim (g f : List Int) (i : Nat) : co (phorn g (trimZ f)) i = co (phorn g f) i := by
  rw [co_phorn, co_phorn]
  have h1 := pcs_congr (f := trimZ f) (f' := f) (g := g) (g' := g) (fun j => co_trim f j) (fun _ => rfl) (trimZ f).length i
  have hl := trimZ_len f
  obtain ⟨m, hm⟩ : ∃ m, f.length = (trimZ f).length + m := ⟨f.length - (trimZ f).length, by omega⟩
  have h2 := pcs_more (f := trimZ f) (g := g) m i
  rw [← hm] at h2
  rw [← h2]
  exact pcs_congr (fun j => co_trim f j) (fun _ => rfl) _ i
theorem shift_fin {c : Int} {F R : List Int} (h : ∀ j, co R j = tay c (trimZ F) j) (hc : Canon isZI R) : R = trimZ (phorn [c, 1] F) := by
  rw [← (hc : trimZ R = R)]
  refine trim_inj fun i => ?_
  rw [h, ← co_phorn_shift, phorn_trim]
theorem zs_set {L : List RI} {i : Nat} {r : RI} : zs (L.set i r) = (zs L).set i r.z := by simp [List.map_set]
/-! stretch -/
def strP (c : Int) (f : List Int) : List Int := (List.range f.length).map fun i => co f i * c ^ i
theorem co_strP (c : Int) (f : List Int) (i : Nat) : co (strP c f) i = co f i * c ^ i := by
  unfold strP; rw [co_map_range]
  split
  · rfl
  · rw [co_ge (f := f) (by omega)]; simp
theorem co_phorn_str (c : Int) : ∀ (l : List Int) (i : Nat), co (phorn [0, c] l) i = co l i * c ^ i
  | [], i => by simp [phorn, co]
  | a :: l, i => by
    have ih := co_phorn_str c l
    show co (padd (pmul (phorn [0, c] l) [0, c]) [a]) i = _
    rw [co_padd, co_pmul, conv_comm]
    unfold conv convF
    cases i with
    | zero => simp [rsum, co]
    | succ i =>
      rw [rsum_head, rsum_head, rsum_zero (fun t _ => by
        have : co [0, c] (t + 1 + 1) = 0 := co_ge (by simp)
        rw [this]; simp), co_ge (f := [a]) (by simp)]
      have e1 : co (a :: l) (i + 1) = co l i := by simp [co]
      rw [e1]
      have e2 : c * (co l i * c ^ i) = co l i * (c ^ i * c) := by rw [Int.mul_comm c, Int.mul_assoc]
      show 0 * co (phorn [0, c] l) (i + 1) + (c * co (phorn [0, c] l) i + 0) + 0 = co l i * c ^ (i + 1)
      rw [ih i, e2, Int.pow_succ]
      omega
theorem str_fin {c : Int} {F R : List Int} {k : Nat} (h : ∀ j, co R j = if j < k then co (trimZ F) j * c ^ j else co (trimZ F) j) (hk : R.length ≤ k) : trimZ R = trimZ (phorn [0, c] F) := by
  refine trim_inj fun i => ?_
  rw [co_phorn_str]
  by_cases hi : i < k
  · rw [h, if_pos hi, co_trim]
  · have h1 := h i
    rw [if_neg hi, co_trim, co_ge (by omega)] at h1
    rw [co_ge (f := R) (by omega), ← h1]; simp
theorem str_step {c z : Int} {G R : List Int} {k : Nat} (h : ∀ j, co R j = if j < k then co G j * c ^ j else co G j) (hk : k < R.length) (hz : z = co R k * c ^ k) : ∀ j, co (R.set k z) j = if j < k + 1 then co G j * c ^ j else co G j := by
  intro j
  have e : co (R.set k z) j = if j = k then z else co R j := by
    simp only [co, List.getD, List.getElem?_set]
    by_cases h1 : k = j
    · subst h1; simp [hk]
    · rw [if_neg h1, if_neg (fun h => h1 h.symm)]
  rw [e]
  by_cases h1 : j = k
  · subst h1; rw [if_pos rfl, if_pos (by omega), hz, h j, if_neg (by omega)]
  · rw [if_neg h1, h j]
    by_cases h2 : j < k
    · rw [if_pos h2, if_pos (by omega)]
    · rw [if_neg h2, if_neg (by omega)]
/-! reversal -/
theorem rev_set {Z L : List RI} {m m' k : Nat} {r : RI} (hm : m = m' + 1) (hk : k = m') : (List.replicate m RI.zero ++ L).set k r = List.replicate m' RI.zero ++ (r :: L) := by
  subst hm hk
  rw [List.replicate_succ', List.append_assoc, List.set_append_right _ _ (by simp)]
  simp
theorem rev_step {l L : List RI} {k : Nat} {r : RI} (h : zs L = ((zs l).take k).reverse) (hk : k < l.length) (hr : r.z = co (zs l) k) : zs (r :: L) = ((zs l).take (k + 1)).reverse := by
  rw [List.take_succ_eq_append_getElem (by simpa using hk), List.reverse_append, ← h]
  simp [co, List.getD, hk, hr]
end Go.Gx
namespace Go.Gx
theorem AllN.cons {w : World} {S : Nat → Prop} {M : Nat} {l : List RI} {r : RI} (h : AllN w S M l) (hn : NatR w S r.A r.n r.c r.d) (hm : r.n ≤ M) : AllN w S M (r :: l) := fun x hx => by
  rcases List.mem_cons.1 hx with h1 | h1
  · subst h1; exact ⟨hn, hm⟩
  · exact h x h1
theorem AllC.cons {l : List RI} {r : RI} (h : AllC l) (hr : ICan r.neg r.d) : AllC (r :: l) := fun x hx => by
  rcases List.mem_cons.1 hx with h1 | h1
  · subst h1; exact hr
  · exact h x h1
theorem co_set_ne {f : List Int} {i j : Nat} {z : Int} (h : i ≠ j) : co (f.set i z) j = co f j := by
  simp only [co, List.getD, List.getElem?_set, if_neg h]
end Go.Gx
namespace Go.Gx
theorem small_set {L : List RI} {k M : Nat} {r0 : RI} (h : ∀ j r, k ≤ j → L[j]? = some r → r.n ≤ M) : ∀ j r, k + 1 ≤ j → (L.set k r0)[j]? = some r → r.n ≤ M := fun j r hj hr => by
  rw [List.getElem?_set_ne (by omega)] at hr
  exact h j r (by omega) hr
theorem small_all {w : World} {S : Nat → Prop} {L : List RI} {M : Nat} (h : AllN w S M L) : ∀ j r, 0 ≤ j → L[j]? = some r → r.n ≤ M := fun _ r _ hr => (h r (List.mem_of_getElem? hr)).2
end Go.Gx
namespace Go.Gx
theorem law_comp {F G G' : List Int} {n : Nat} (hg : ∀ i, co G' i = co G i) (hn : (trimZ F).length = n) : trimZ (phorn G F) = trimZ (pcs (trimZ F) G' n) := by
  refine trim_inj fun i => ?_
  rw [← phorn_trim, co_phorn, hn]
  exact (pcs_congr (fun _ => rfl) hg n i).symm
theorem rev_snoc {F O : List Int} {k : Nat} {z : Int} (h : O = (F.drop k).reverse) (hk : 0 < k) (hl : k ≤ F.length) (hz : z = co F (k - 1)) : O ++ [z] = (F.drop (k - 1)).reverse := by
  rw [List.drop_eq_getElem_cons (show k - 1 < F.length by omega), List.reverse_cons, show k - 1 + 1 = k by omega, ← h, hz]
  simp [co, List.getD, show k - 1 < F.length by omega]
theorem same_step {f g : List Int} {k : Nat} {x y c : Int} (h : ∀ i, i < k → co f i = co g i) (hx : x = co f k) (hy : y = co g k) (hc : c = cmpZ x y) (h0 : ¬ c ≠ 0) : ∀ i, i < k + 1 → co f i = co g i := by
  intro i hi
  by_cases e : i = k
  · subst e; rw [← hx, ← hy]; exact cmpZ_eq_zero.1 (by omega)
  · exact h i (by omega)
theorem same_no {f g : List Int} {k : Nat} {x y c : Int} (hx : x = co f k) (hy : y = co g k) (hc : c = cmpZ x y) (h0 : c ≠ 0) : false = decide (f = g) := by
  have : f ≠ g := by
    intro e; subst e
    exact h0 (by rw [hc, hx, hy]; exact cmpZ_eq_zero.2 rfl)
  simp [this]
theorem same_len {f g : List Int} (h : f.length ≠ g.length) : false = decide (f = g) := by
  have : f ≠ g := fun e => h (by rw [e])
  simp [this]
theorem same_all {f g : List Int} {k : Nat} (h : ∀ i, i < k → co f i = co g i) (hl : f.length = g.length) (hk : f.length ≤ k) : true = decide (f = g) := by
  have : f = g := list_ext_co hl fun i hi => h i (by omega)
  simp [this]
end Go.Gx
namespace Go.Gx
/-! height; sums of normal forms -/
def hgt : List Int → Nat
  | [] => 0
  | a :: l => max a.natAbs (hgt l)
theorem hgt_append (a b : List Int) : hgt (a ++ b) = max (hgt a) (hgt b) := by
  induction a with
  | nil => simp [hgt]
  | cons x a ih => simp only [List.cons_append, hgt, ih]; omega
theorem hgt_take (f : List Int) {k : Nat} (hk : k < f.length) : hgt (f.take (k + 1)) = max (hgt (f.take k)) (co f k).natAbs := by
  rw [List.take_succ_eq_append_getElem hk, hgt_append]
  simp [hgt, co, List.getD, hk]
theorem hgt_trim (f : List Int) : hgt (trimZ f) = hgt f := by
  have h : ∀ (m : Nat) (l : List Int), l.length = m → hgt (trimZ l) = hgt l := by
    intro m
    induction m with
    | zero => intro l hl; simp [List.eq_nil_of_length_eq_zero hl, trimB]
    | succ m ih =>
      intro l hl
      rcases snoc_cases l with h0 | ⟨l', y, rfl⟩
      · subst h0; simp at hl
      · cases hy : isZI y with
        | true =>
          have : y = 0 := by simpa [isZI] using hy
          subst this
          show hgt (trimB isZI _) = _
          rw [trimB_snoc_yes isZI l' 0 hy, hgt_append]
          rw [show hgt (trimB isZI l') = hgt l' from ih l' (by simpa using hl)]
          simp [hgt]
        | false =>
          show hgt (trimB isZI _) = _
          rw [trimB_snoc_no isZI l' y hy]
  exact h _ f rfl
theorem hgt_step {f : List Int} {k : Nat} {H : Nat} (hH : H = hgt (f.take k)) (hk : k < f.length) {x c : Int} {a : Nat} (hx : x = co f k) (ha : a = x.natAbs) (hc : c = cmpN a H) : (c > 0 → a = hgt (f.take (k + 1))) ∧ (¬ c > 0 → H = hgt (f.take (k + 1))) := by
  rw [hgt_take f hk, ← hH, ← hx, ← ha]
  rcases cmpN_cases a H with ⟨h1, h2⟩ | ⟨h1, h2⟩ | ⟨h1, h2⟩ <;> constructor <;> intro h <;> omega
theorem hgt_stepZ {f : List Int} {k : Nat} {H x c z : Int} (hH : H = (hgt (f.take k) : Int)) (hk : k < f.length) (hx : x = co f k) (hz : z = (x.natAbs : Int)) (hc : c = cmpZ z H) : (c > 0 → z = (hgt (f.take (k + 1)) : Int)) ∧ (¬ c > 0 → H = (hgt (f.take (k + 1)) : Int)) := by
  rw [hgt_take f hk, ← hx]
  rcases cmpZ_cases z H with ⟨h1, h2⟩ | ⟨h1, h2⟩ | ⟨h1, h2⟩ <;> constructor <;> intro h <;> omega
theorem law_add (F G : List Int) : trimZ (padd F G) = trimZ (padd (trimZ F) (trimZ G)) := trim_inj fun i => by rw [co_padd, co_padd, co_trim, co_trim]
theorem law_sub (F G : List Int) : trimZ (psub F G) = trimZ (padd (trimZ F) (trimZ (scaleP (trimZ G) (-1)))) := trim_inj fun i => by rw [co_psub, co_padd, co_trim, co_trim, co_scaleP, co_trim]; omega
theorem law_scale (F : List Int) (c : Int) : trimZ (scaleP F c) = trimZ (scaleP (trimZ F) c) := trim_inj fun i => by rw [co_scaleP, co_scaleP, co_trim]
end Go.Gx
namespace Go.Gx
-- natAbs_val lies in IntMath
theorem hgt_keep {g : Bool} {d : List Nat} {a b : Nat} (h : zval g d = (a : Int)) (e : val d = b) (h0 : val d = a) : zval g d = (b : Int) := by omega
end Go.Gx
