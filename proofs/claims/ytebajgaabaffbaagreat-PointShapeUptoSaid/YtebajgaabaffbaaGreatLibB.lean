/-
  The laws of the walks and the plain laws of numbers and polynomials, part 2: GatPreds, BldMath, TreeMath, CellPreds, QMath, PtLaws, BasisMath, PtIn, OvMath, LevMath, ShpMath, SqPreds, Known, Known2, TripPreds.
-/
import Derived.Test.YtebajgaabaffbaaGreatLibA
import Derived.LoopN
/-
  Terms that are gathered by their monomials. No program in sight.
-/
namespace Go.Gx
open Go.RowKit
theorem addG_at {c : Int} {m : M4} : ∀ {l : List TM} {i j : Nat}, idxM m (l.map TM.m) i = some j → ∃ k t, j = i + k ∧ l[k]? = some t ∧ t.m = m ∧ addG l c m = l.set k ⟨t.c + c, m⟩
  | [], _, _, h => by simp [idxM] at h
  | t :: l, i, j, h => by
    simp only [List.map_cons, idxM] at h
    split at h
    · rename_i hm
      injection h with h
      exact ⟨0, t, by omega, rfl, hm.symm, by simp [addG, hm]⟩
    · rename_i hm
      obtain ⟨k, u, h1, h2, h3, h4⟩ := addG_at (c := c) h
      refine ⟨k + 1, u, by omega, by simpa using h2, h3, ?_⟩
      rw [addG, if_neg (fun e => hm e.symm), h4, List.set_cons_succ]
theorem addG_new {c : Int} {m : M4} : ∀ {l : List TM} {i : Nat}, idxM m (l.map TM.m) i = none → addG l c m = l ++ [⟨c, m⟩]
  | [], _, _ => rfl
  | t :: l, i, h => by
    simp only [List.map_cons, idxM] at h
    split at h
    · cases h
    · rename_i hm
      rw [addG, if_neg (fun e => hm e.symm), addG_new h]; rfl
theorem tms_monos (l : List TD) : (tms l).map TM.m = l.map TD.m := by simp [tms, TD.t]
theorem tms_set (l : List TD) (i : Nat) (x : TD) : tms (l.set i x) = (tms l).set i x.t := by simp [tms, List.map_set]
theorem tms_append (a b : List TD) : tms (a ++ b) = tms a ++ tms b := by simp [tms]
theorem tms_found {l : List TD} {c : Int} {m : M4} {j : Nat} (h : idxM m (l.map TD.m) 0 = some j) : ∃ t, l[j]? = some t ∧ t.m = m ∧ j < l.length ∧ ∀ x : TD, x.m = m → zval x.g x.d = zval t.g t.d + c → tms (l.set j x) = addG (tms l) c m ∧ (l.set j x).map TD.m = l.map TD.m := by
  rw [← tms_monos] at h
  obtain ⟨k, u, h1, h2, h3, h4⟩ := addG_at (c := c) h
  rw [Nat.zero_add] at h1
  subst h1
  simp only [tms, List.getElem?_map, Option.map_eq_some_iff] at h2
  obtain ⟨t, ht, hu⟩ := h2
  subst hu
  have hj : j < l.length := (List.getElem?_eq_some_iff.1 ht).1
  refine ⟨t, ht, h3, hj, fun x hx hv => ?_⟩
  constructor
  · rw [tms_set, h4]
    congr 1
    show TM.mk _ _ = TM.mk _ _
    rw [hx, hv]; rfl
  · rw [List.map_set, hx]
    apply List.ext_getElem?
    intro i
    rw [List.getElem?_set]
    split
    · rename_i e; subst e
      rw [List.getElem?_map, ht]
      have h3' : t.m = m := h3
      simp [h3', hj]
    · rfl
theorem tms_new {l : List TD} {m : M4} (h : idxM m (l.map TD.m) 0 = none) (x : TD) (hx : x.m = m) : tms (l ++ [x]) = addG (tms l) (zval x.g x.d) m ∧ (l ++ [x]).map TD.m = l.map TD.m ++ [m] := by
  rw [← tms_monos] at h
  refine ⟨?_, by simp [hx]⟩
  rw [addG_new h, tms_append]
  subst hx; rfl
def gathL (p : List TM) : List TM := p.foldl (fun l t => addG l t.c t.m) []
theorem gathL_snoc (p : List TM) (t : TM) : gathL (p ++ [t]) = addG (gathL p) t.c t.m := by simp [gathL]
theorem cofS_fold (p : List TM) (l : List TM) (x : M4) : cofS (p.foldl (fun l t => addG l t.c t.m) l) x = cofS l x + cofS p x := by
  induction p generalizing l with
  | nil => simp [cofS]
  | cons t p ih =>
    rw [List.foldl_cons, ih, cofS_addG, cofS]; omega
theorem cofS_gath (p : List TM) (x : M4) : cofS (gathL p) x = cofS p x := by rw [gathL, cofS_fold, cofS]; omega
theorem addG_nodup {l : List TM} {c : Int} {m : M4} (h : (l.map TM.m).Nodup) : ((addG l c m).map TM.m).Nodup := by
  rw [addG_monos]
  split
  · exact h
  · rename_i hm
    rw [List.nodup_append]
    exact ⟨h, by simp, fun a ha b hb => by rw [List.mem_singleton.1 hb]; exact fun e => hm (e ▸ ha)⟩
theorem gath_nodup (p : List TM) : ((gathL p).map TM.m).Nodup := by
  have key : ∀ (p l : List TM), (l.map TM.m).Nodup → ((p.foldl (fun l t => addG l t.c t.m) l).map TM.m).Nodup := by
    intro p
    induction p with
    | nil => intro l h; exact h
    | cons t p ih => intro l h; exact ih _ (addG_nodup h)
  exact key p [] (by simp)
def nzT (l : List TM) : List TM := l.filter fun t => t.c ≠ 0
theorem cofS_nz (l : List TM) (x : M4) : cofS (nzT l) x = cofS l x := by
  induction l with
  | nil => rfl
  | cons t l ih =>
    unfold nzT at ih ⊢
    by_cases h : t.c = 0
    · rw [List.filter_cons_of_neg (by simp [h]), ih, cofS, h]; simp
    · rw [List.filter_cons_of_pos (by simp [h]), cofS, cofS, ih]
theorem nodup_nz {l : List TM} (h : (l.map TM.m).Nodup) : ((nzT l).map TM.m).Nodup := h.sublist (List.filter_sublist.map _)
theorem nz_snoc (l : List TM) (t : TM) : nzT (l ++ [t]) = if t.c = 0 then nzT l else nzT l ++ [t] := by
  unfold nzT
  rw [List.filter_append]
  by_cases h : t.c = 0 <;> simp [h]
theorem canS_sorted {a l : List TM} (hp : l.Perm (nzT a)) (hn : (a.map TM.m).Nodup) (hs : l.Pairwise fun x y => ¬ x.m.lt y.m) : CanS l ∧ ∀ m, cofS l m = cofS a m := by
  have h1 : (l.map TM.m).Nodup := (hp.map TM.m).nodup_iff.2 (nodup_nz hn)
  refine ⟨⟨?_, fun t ht => ?_⟩, fun m => by rw [cofS_perm hp, cofS_nz]⟩
  · rw [List.Nodup, List.pairwise_map] at h1
    refine (hs.and h1).imp fun h => ?_
    rcases M4.lt_tri _ _ with h2 | h2 | h2
    · exact absurd h2 h.1
    · exact absurd h2 h.2
    · exact h2
  · have := hp.mem_iff.1 ht
    simpa [nzT] using (List.mem_filter.1 this).2
theorem cmpZ_iff {a b : Int} : cmpZ a b = 0 ↔ a = b := by unfold cmpZ; repeat' split; all_goals omega
theorem cmpM0 {a b c d a' b' c' d' : Int} (h4 : cmpZ d d' = 0) (h3 : cmpZ c c' = 0) (h2 : cmpZ b b' = 0) (h1 : cmpZ a a' = 0) : (0 : Int) = cmpM ⟨a, b, c, d⟩ ⟨a', b', c', d'⟩ := by
  rw [cmpZ_iff.1 h4, cmpZ_iff.1 h3, cmpZ_iff.1 h2, cmpZ_iff.1 h1]
  exact (cmpM_zero.2 rfl).symm
theorem cmpM1 {a b c d a' b' c' d' r : Int} (h0 : r ≠ 0) (h4 : r = cmpZ d d') : r = cmpM ⟨a, b, c, d⟩ ⟨a', b', c', d'⟩ := by
  unfold cmpM; dsimp only
  rw [if_pos (fun e => h0 (by rw [h4, e]; exact cmpZ_iff.2 rfl)), h4]
theorem cmpM2 {a b c d a' b' c' d' r : Int} (h4 : cmpZ d d' = 0) (h0 : r ≠ 0) (h3 : r = cmpZ c c') : r = cmpM ⟨a, b, c, d⟩ ⟨a', b', c', d'⟩ := by
  unfold cmpM; dsimp only
  rw [if_neg (fun h => h (cmpZ_iff.1 h4)), if_pos (fun e => h0 (by rw [h3, e]; exact cmpZ_iff.2 rfl)), h3]
theorem cmpM3 {a b c d a' b' c' d' r : Int} (h4 : cmpZ d d' = 0) (h3 : cmpZ c c' = 0) (h0 : r ≠ 0) (h2 : r = cmpZ b b') : r = cmpM ⟨a, b, c, d⟩ ⟨a', b', c', d'⟩ := by
  unfold cmpM; dsimp only
  rw [if_neg (fun h => h (cmpZ_iff.1 h4)), if_neg (fun h => h (cmpZ_iff.1 h3)), if_pos (fun e => h0 (by rw [h2, e]; exact cmpZ_iff.2 rfl)), h2]
theorem cmpM4 {a b c d a' b' c' d' r : Int} (h4 : cmpZ d d' = 0) (h3 : cmpZ c c' = 0) (h2 : cmpZ b b' = 0) (_ : r ≠ 0) (h1 : r = cmpZ a a') : r = cmpM ⟨a, b, c, d⟩ ⟨a', b', c', d'⟩ := by
  unfold cmpM; dsimp only
  rw [if_neg (fun h => h (cmpZ_iff.1 h4)), if_neg (fun h => h (cmpZ_iff.1 h3)), if_neg (fun h => h (cmpZ_iff.1 h2)), h1]
section
variable {P : Program} {n : Nat} {e : Nat → Value} {w : World} {ty : TypeId} {pos : String} {af : Array Edge} {gd : Option (Nat × Bool)}
theorem evLookN {d : Option Nat} {t kt et : TypeId} {x i : Operand} {b : Nat} {ms : List M4} {m : M4} (hm : P.underlying t = some (.map kt et)) (hk : Key4 P kt et) (hx : ev n e x = .map (some b)) (hi : ev n e i = m.v) (hB : MapB w b ms) (hz : (zeroValue et).run P w = .ok (.int .i64 0) w) (h : idxM m ms 0 = none) :
    Ev P n e ⟨d, .lookup t x i true, ty, pos, af, gd⟩ w (.tuple #[.int .i64 0, .bool false]) := by
  have := evLook (d := d) (ty := ty) (pos := pos) (af := af) (gd := gd) hm hk hx hi hB hz
  rw [h] at this; exact this
theorem evLookS {d : Option Nat} {t kt et : TypeId} {x i : Operand} {b j : Nat} {ms : List M4} {m : M4} (hm : P.underlying t = some (.map kt et)) (hk : Key4 P kt et) (hx : ev n e x = .map (some b)) (hi : ev n e i = m.v) (hB : MapB w b ms) (hz : (zeroValue et).run P w = .ok (.int .i64 0) w) (h : idxM m ms 0 = some j) :
    Ev P n e ⟨d, .lookup t x i true, ty, pos, af, gd⟩ w (.tuple #[.int .i64 ((j : Nat) : Int), .bool true]) := by
  have := evLook (d := d) (ty := ty) (pos := pos) (af := af) (gd := gd) hm hk hx hi hB hz
  rw [h] at this; exact this
end
theorem nz_next_z {l lo : List TD} {i : Nat} {x : TD} (hx : l[i]? = some x) (h : tms lo = nzT (tms (l.take i))) (h0 : x.t.c = 0) : tms lo = nzT (tms (l.take (i + 1))) := by
  rw [List.take_add_one, hx, tms_append, show tms (some x).toList = [x.t] from rfl, nz_snoc, if_pos h0, h]
theorem nz_next_s {l lo : List TD} {i : Nat} {x : TD} (hx : l[i]? = some x) (h : tms lo = nzT (tms (l.take i))) (h0 : x.t.c ≠ 0) : tms (lo ++ [x]) = nzT (tms (l.take (i + 1))) := by
  rw [List.take_add_one, hx, tms_append, tms_append, show tms (some x).toList = [x.t] from rfl, nz_snoc, if_neg h0, h]; rfl
theorem gath_next {p l l2 : List TD} {i : Nat} {x : TD} (hx : p[i]? = some x) (h : tms l = gathL (tms (p.take i))) (e : tms l2 = addG (tms l) x.t.c x.t.m) : tms l2 = gathL (tms (p.take (i + 1))) := by
  rw [List.take_add_one, hx, tms_append, show tms (some x).toList = [x.t] from rfl, gathL_snoc, ← h, e]
theorem MapB.ext {w w' : World} {b : Nat} {ms : List M4} (h : MapB w b ms) (f : Ext w w') : MapB w' b ms := h.frm f fun h => h
theorem MapB.frmB {w w' : World} {G : Nat → Prop} {b : Nat} {ms : List M4} (h : MapB w b ms) (f : Frm G w w') (hd : ∀ x, x < w.heap.size → x = b → ¬ G x) : MapB w' b ms := h.frm f (hd b h.lt rfl)
def GatR (tG el : TypeId) (w : World) (Lo B pg : Nat) (l : List TD) : Prop := ∃ mb gN A n c, Blk w pg tG [.map (some mb), .slice A n c] ∧ MapB w mb (l.map TD.m) ∧ OwnN TMK w B el gN A n c l (fun b => B ≤ b) ∧ Lo ≤ pg ∧ Lo ≤ mb ∧ pg < B ∧ mb < B ∧ pg ≠ mb ∧ B ≤ w.heap.size
theorem GatR.frmB {tG el : TypeId} {w w' : World} {Lo B pg : Nat} {l : List TD} {G : Nat → Prop} (h : GatR tG el w Lo B pg l) (f : Frm G w w') (hd : ∀ b, b < w.heap.size → Lo ≤ b → ¬ G b) : GatR tG el w' Lo B pg l := by
  obtain ⟨mb, gN, A, n, c, h1, h2, h3, h4, h5, h6, h7, h8, h9⟩ := h
  exact ⟨mb, gN, A, n, c, h1.frm f (hd pg h1.lt h4), h2.frm f (hd mb h2.lt h5), h3.frmB f fun b hb hs => hd b hb (by rcases hs with hs | hs <;> omega), h4, h5, h6, h7, h8, Nat.le_trans h9 f.size⟩
section
variable {α : Type} {L : SK α} {w w' : World} {B : Nat} {el : TypeId} {gN : Nat} {A : Option Addr} {n c : Nat} {l : List α} {S S' : Nat → Prop}
theorem OwnN.base (h : OwnN L w B el gN A n c l S) (hn : 0 < n) : ∃ g, A = some ⟨g, 0, none⟩ ∧ gN = g + 1 := by
  rcases h.k.own.2 with ⟨_, h0⟩ | ⟨g, cap, cur, hv, _⟩
  · omega
  · injection hv with h1 h2 h3
    subst h1
    exact ⟨g, rfl, h.k.no.symm⟩
end
section
variable {dfs : List Deferred} {P : Program} {n : Nat} {e : Nat → Value} {w : World} {K : Act → World → Prop} {Q : Exit → Act → World → Prop} {ty : TypeId} {pos : String} {af : Array Edge} {gd : Option (Nat × Bool)}
theorem oSetN {α : Type} {L : SK α} {t el : TypeId} {a x : Operand} {B gN g m c i o : Nat} {v : Value} {l : List α} {S : Nat → Prop} {f f' : α} (vs : List Value) (ha : ev n e a = .pointer (some ⟨g, i * L.k + o, none⟩)) (hx : ev n e x = v) (hv : v.cells = vs.toArray) (hs : ∀ w, (sizeOf t).run P w = .ok vs.length w) (h1 : vs.all Value.oneCell' = true)
    (hO : OwnN L w B el gN (some ⟨g, 0, none⟩) m c l S) (hf : l[i]? = some f) (he : L.cells f' = (L.cells f).take o ++ vs ++ (L.cells f).drop (o + vs.length)) (ho : o + vs.length ≤ L.k) (hR : L.R w (fun b => S b ∧ b + 1 ≠ gN) f')
    (k : ∀ w', Frm (fun b => b + 1 = gN) w w' → w'.heap.size = w.heap.size → OwnN L w' B el gN (some ⟨g, 0, none⟩) m c (l.set i f') S → K (mkA dfs n e) w') :
    OpW P ⟨none, .store t a x, ty, pos, af, gd⟩ (mkA dfs n e) w K Q := by
  have hg : gN = g + 1 := hO.k.no.symm
  rcases hO.k.own.2 with ⟨hv', h0⟩ | ⟨g', cap, cur, hv', hb, hcur, hnc, hcm, hsz, htake⟩
  · cases hv'
  · injection hv' with e1 e2 e3
    injection e1 with e1
    injection e1 with e1
    subst e1 e3
    have hi : i < l.length := (List.getElem?_eq_some_iff.1 hf).1
    have hle : i * L.k + L.k ≤ l.length * L.k := by have := Nat.mul_le_mul_right L.k (show i + 1 ≤ l.length from hi); rw [Nat.add_mul] at this; omega
    have hfl := L.flat_len l
    have hlen := hO.k.own.1
    have ecur : cur.toList = L.flat l ++ cur.toList.drop (m * L.k) := by rw [← htake, List.take_append_drop]
    have hB : Blk w g el (L.flat l ++ cur.toList.drop (m * L.k)) := by unfold Blk; rw [← ecur]; exact hcur
    refine oStore vs ha hx hv hs h1 hB (by rw [List.length_append]; omega) fun w' h2 h3 h4 => ?_
    have hF : Frm (fun b => b + 1 = gN) w w' := h2.mono fun b _ h => by rw [h, hg]
    have h5 := L.flat_part hf he ho
    have e2 : (L.flat l ++ cur.toList.drop (m * L.k)).take (i * L.k + o) ++ vs ++ (L.flat l ++ cur.toList.drop (m * L.k)).drop (i * L.k + o + vs.length) = L.flat (l.set i f') ++ cur.toList.drop (m * L.k) := by
      rw [List.take_append_of_le_length (by omega), List.drop_append_of_le_length (by omega), ← List.append_assoc, h5]
    rw [e2] at h4
    have hR2 : ∀ y : α, L.R w (fun b => S b ∧ b + 1 ≠ gN) y → L.R w' (fun b => S b ∧ b + 1 ≠ gN) y := fun y h => L.frmB h hF fun b _ hb => hb.2
    have hall : ∀ y ∈ l.set i f', L.R w' (fun b => S b ∧ b + 1 ≠ gN) y := fun y hy => by
      rcases List.mem_or_eq_of_mem_set hy with h | h
      · exact hR2 y (hO.elt h)
      · subst h; exact hR2 y hR
    refine k w' hF h3 ⟨⟨⟨?_, .inr ⟨g, c, (L.flat (l.set i f') ++ cur.toList.drop (m * L.k)).toArray, rfl, hb, h4, hnc, hcm, ?_, ?_⟩⟩, fun y hy => L.sub (hall y hy) fun b _ hb => hb.2, hO.k.no⟩, fun y hy => L.sub (hall y hy) fun b _ hb => hb.1⟩
    · rw [L.flat_len, List.length_set, ← hfl, hlen]
    · have h6 := congrArg List.length ecur
      simp only [List.length_append, Array.length_toList] at h6
      simp only [List.size_toArray, List.length_append]
      rw [L.flat_len, List.length_set, ← hfl, ← h6, hsz]
    · have h7 : (L.flat (l.set i f')).length = m * L.k := by rw [L.flat_len, List.length_set, ← hfl, hlen]
      simp [List.take_append_of_le_length (Nat.le_of_eq h7.symm), List.take_of_length_le (Nat.le_of_eq h7)]
end
end Go.Gx

/-
  From canonical terms to the recursive form, piece by piece. Plain numbers; no program in sight.
-/
namespace Go.Gx
def HiEq (L : Nat) (ts : List TM) : Prop := ∀ t ∈ ts, ∀ u ∈ ts, ∀ j, L < j → t.m.get j = u.m.get j
def NnE (ts : List TM) : Prop := ∀ t ∈ ts, ∀ j, 0 ≤ t.m.get j
theorem M4.get_big (m : M4) {j : Nat} (h : 4 < j) : m.get j = 0 := by
  unfold M4.get
  split <;> first | omega | rfl
theorem HiEq.top (ts : List TM) : HiEq 4 ts := fun t _ u _ j hj => by rw [t.m.get_big hj, u.m.get_big hj]
theorem HiEq.sub {L : Nat} {ts us : List TM} (h : HiEq L ts) (hs : ∀ t ∈ us, t ∈ ts) : HiEq L us := fun t ht u hu => h t (hs t ht) u (hs u hu)
theorem HiEq.down {L : Nat} {ts : List TM} {e : Int} (h : HiEq (L + 1) ts) (he : ∀ t ∈ ts, t.m.get (L + 1) = e) : HiEq L ts := fun t ht u hu j hj => by
  rcases Nat.lt_or_ge (L + 1) j with h1 | h1
  · exact h t ht u hu j h1
  · rw [show j = L + 1 by omega, he t ht, he u hu]
theorem lt_get {x y : M4} {L : Nat} (h : y.lt x) (h1 : 1 ≤ L) (h4 : L ≤ 4) (he : ∀ j, L < j → x.get j = y.get j) : y.get L ≤ x.get L := by
  unfold M4.lt at h
  have e2 := he 2
  have e3 := he 3
  have e4 := he 4
  rcases (show L = 1 ∨ L = 2 ∨ L = 3 ∨ L = 4 by omega) with rfl | rfl | rfl | rfl <;> simp only [M4.get] at * <;> omega
theorem desc {L : Nat} {ts : List TM} (hc : CanS ts) (h : HiEq L ts) (h1 : 1 ≤ L) (h4 : L ≤ 4) : ts.Pairwise fun x y => y.m.get L ≤ x.m.get L := by
  have h2 := hc.1
  rw [List.pairwise_iff_getElem] at h2 ⊢
  intro i j hi hj hij
  exact lt_get (h2 i j hi hj hij) h1 h4 fun k hk => h _ (List.getElem_mem hi) _ (List.getElem_mem hj) k hk
theorem CanS.subl {ts us : List TM} (h : CanS ts) (hs : us.Sublist ts) : CanS us := ⟨h.1.sublist hs, fun t ht => h.2 t (hs.subset ht)⟩
theorem bld_skip {L : Nat} {t : TM} {r : List TM} (hc : CanS (t :: r)) (h : HiEq (L + 1) (t :: r)) (h4 : L + 1 ≤ 4) (hn : NnE (t :: r)) (h0 : t.m.get (L + 1) = 0) : HiEq L (t :: r) ∧ bldV (L + 1) (t :: r) = bldV L (t :: r) := by
  refine ⟨h.down (e := 0) fun u hu => ?_, by rw [bldV, if_pos h0]⟩
  rcases List.mem_cons.1 hu with rfl | hu'
  · exact h0
  · have h1 := (List.pairwise_cons.1 (desc hc h (by omega) h4)).1 u hu'
    have h2 := hn u hu (L + 1)
    omega
theorem bld_zero {t : TM} {r : List TM} (L : Nat) (h : L = 0) : bldV L (t :: r) = .mk 0 t.c [] := by subst h; rfl
theorem bld_node {L : Nat} {t : TM} {r : List TM} (h0 : t.m.get (L + 1) ≠ 0) : bldV (L + 1) (t :: r) = .mk ((L + 1 : Nat) : Int) 0 ((List.range (t.m.get (L + 1) + 1).toNat).map fun e : Nat => bldV L ((t :: r).filter fun u => u.m.get (L + 1) = (e : Int))) := by
  rw [bldV, if_neg h0]
def RT.lev : RT → Int
  | .mk l _ _ => l
theorem bld_lev : ∀ (L : Nat) (ts : List TM), 0 ≤ (bldV L ts).lev ∧ (bldV L ts).lev ≤ L
  | 0, [] => by simp [bldV, zeroT, RT.lev]
  | 0, _ :: _ => by simp [bldV, RT.lev]
  | L + 1, [] => by simp [bldV, zeroT, RT.lev]; omega
  | L + 1, t :: r => by
    rw [bldV]
    split
    · have := bld_lev L (t :: r); omega
    · simp only [RT.lev]; omega
theorem bld_ne : ∀ {L : Nat} {ts : List TM}, CanS ts → ts ≠ [] → bldV L ts ≠ zeroT
  | _, [], _, h => absurd rfl h
  | 0, t :: r, hc, _ => by
    intro h
    simp only [bldV, zeroT] at h
    injection h with _ h2
    exact hc.2 t (List.mem_cons_self ..) h2
  | L + 1, t :: r, hc, _ => by
    rw [bldV]
    split
    · exact bld_ne hc (by simp)
    · intro h
      unfold zeroT at h
      injection h with h1
      omega
def AtB (L : Nat) (ts : List TM) (s : Nat) : Prop := ∀ v, ts[s]? = some v → ∀ u ∈ ts.take s, v.m.get L < u.m.get L
def DoneV (L : Nat) (ts : List TM) (s N : Nat) : List RT := (List.range N).map fun e : Nat => bldV L ((ts.take s).filter fun u => u.m.get (L + 1) = (e : Int))
theorem DoneV.start (L : Nat) (ts : List TM) (N : Nat) : DoneV L ts 0 N = List.replicate N zeroT := by
  unfold DoneV
  apply List.ext_getElem?
  intro i
  simp only [List.getElem?_map, List.getElem?_replicate, List.take_zero, List.filter_nil, bldV_nil]
  by_cases h : i < N
  · simp [h]
  · simp [h]
theorem AtB.start (L : Nat) (ts : List TM) : AtB L ts 0 := fun v _ u hu => by simp at hu
structure PieceB (L : Nat) (ts : List TM) (s t : Nat) (e : Int) : Prop where
  le : s ≤ t
  hi : t ≤ ts.length
  all : ∀ u ∈ (ts.take t).drop s, u.m.get L = e
theorem PieceB.start {L : Nat} {ts : List TM} {s : Nat} {e : Int} (h : s ≤ ts.length) : PieceB L ts s s e := ⟨Nat.le_refl _, h, fun u hu => by rw [List.drop_of_length_le (by simp; omega)] at hu; cases hu⟩
theorem PieceB.next {L : Nat} {ts : List TM} {s t : Nat} {e : Int} {v : TM} (h : PieceB L ts s t e) (hv : ts[t]? = some v) (he : v.m.get L = e) : PieceB L ts s (t + 1) e := by
  have ht : t < ts.length := (List.getElem?_eq_some_iff.1 hv).1
  have h1 := h.le
  refine ⟨by omega, by omega, fun u hu => ?_⟩
  rw [List.take_add_one, hv, List.drop_append_of_le_length (by simp; omega)] at hu
  rcases List.mem_append.1 hu with h2 | h2
  · exact h.all u h2
  · have h3 : u = v := by simpa using h2
    rw [h3, he]
theorem mem_piece {α : Type} {l : List α} {s t i : Nat} {v : α} (hv : l[i]? = some v) (h1 : s ≤ i) (h2 : i < t) : v ∈ (l.take t).drop s := by
  have : ((l.take t).drop s)[i - s]? = some v := by rw [List.getElem?_drop, show s + (i - s) = i by omega, List.getElem?_take, if_pos h2, hv]
  exact List.mem_of_getElem? this
theorem piece_done {L : Nat} {ts : List TM} {s t : Nat} {e : Int} {v : TM} (hd : ts.Pairwise fun x y => y.m.get L ≤ x.m.get L) (ha : AtB L ts s) (hp : PieceB L ts s t e) (hv : ts[s]? = some v) (he : v.m.get L = e) (hend : ∀ u, ts[t]? = some u → u.m.get L ≠ e) : AtB L ts t := fun u hu x hx => by
  have hle := hp.le
  have key : ∀ {i j : Nat} {a b : TM}, ts[i]? = some a → ts[j]? = some b → i ≤ j → b.m.get L ≤ a.m.get L := fun {i j a b} h1 h2 hij => by
    obtain ⟨hi, rfl⟩ := List.getElem?_eq_some_iff.1 h1
    obtain ⟨hj, rfl⟩ := List.getElem?_eq_some_iff.1 h2
    rcases Nat.lt_or_ge i j with h3 | h3
    · exact List.pairwise_iff_getElem.1 hd i j hi hj h3
    · have : i = j := by omega
      subst this; exact Int.le_refl _
  have h1 : u.m.get L ≤ e := by rw [← he]; exact key hv hu hle
  have h2 := hend u hu
  obtain ⟨i, hi⟩ := List.mem_iff_getElem?.1 hx
  rw [List.getElem?_take] at hi
  split at hi
  · rename_i hit
    rcases Nat.lt_or_ge i s with h3 | h3
    · have := ha v hv x (List.mem_of_getElem? (i := i) (by rw [List.getElem?_take, if_pos h3, hi]))
      omega
    · have := hp.all x (mem_piece hi h3 hit)
      omega
  · cases hi
theorem piece_set {L : Nat} {ts : List TM} {s t N : Nat} {e : Nat} {v : TM} (ha : AtB (L + 1) ts s) (hp : PieceB (L + 1) ts s t (e : Int)) (hv : ts[s]? = some v) (he : v.m.get (L + 1) = (e : Int)) (hN : e < N) : (DoneV L ts s N).set e (bldV L ((ts.take t).drop s)) = DoneV L ts t N := by
  have hle := hp.le
  have e1 : ts.take t = ts.take s ++ (ts.take t).drop s := by
    conv => lhs; rw [← List.take_append_drop s (ts.take t)]
    rw [List.take_take, Nat.min_eq_left hle]
  have hf : ∀ k : Int, (ts.take t).filter (fun u => u.m.get (L + 1) = k) = if k = e then (ts.take t).drop s else (ts.take s).filter (fun u => u.m.get (L + 1) = k) := fun k => by
    rw [e1, List.filter_append, ← e1]
    split
    · rename_i hk; subst hk
      rw [List.filter_eq_nil_iff.2 fun u hu => ?_, List.nil_append, List.filter_eq_self.2 fun u hu => ?_]
      · simpa using hp.all u hu
      · have := ha v hv u hu
        simp; omega
    · rename_i hk
      have h9 : ((ts.take t).drop s).filter (fun u => u.m.get (L + 1) = k) = [] := List.filter_eq_nil_iff.2 fun u hu => by
        have := hp.all u hu
        simp; omega
      rw [h9, List.append_nil]
  unfold DoneV
  apply List.ext_getElem?
  intro i
  rw [List.getElem?_set]
  by_cases hi : e = i
  · subst hi
    simp [hN, hf]
  · rw [if_neg hi]
    by_cases hiN : i < N
    · simp only [List.getElem?_map, List.getElem?_range hiN, Option.map_some, hf]
      rw [if_neg (by omega)]
    · simp [hiN]
theorem DoneV.all {L : Nat} {t : TM} {r : List TM} {s N : Nat} (hs : s = (t :: r).length) (hN : N = (t.m.get (L + 1) + 1).toNat) (h0 : t.m.get (L + 1) ≠ 0) : RT.mk ((L + 1 : Nat) : Int) 0 (DoneV L (t :: r) s N) = bldV (L + 1) (t :: r) := by
  rw [bld_node h0, DoneV, hs, hN, List.take_length]
end Go.Gx

/-
  Canonical trees: copies, comparison, levels. Plain; no program in sight.
-/
namespace Go.Gx
open Go.RowKit
theorem TT.lev_val (t : TT) : t.val.lev = t.lev := by cases t; rfl
theorem TT.val_mk {lev : Int} {g : Bool} {A : Option Addr} {n c : Nat} {d : List Nat} {Ac : Option Addr} {nc cc : Nat} {kids : List TT} : (TT.mk lev g A n c d Ac nc cc kids).val = .mk lev (zval g d) (kids.map TT.val) := by
  rw [TT.val, TT.vals_map]
def TT.zero : TT := .mk 0 false none 0 0 [] none 0 0 []
theorem TT.zero_val : TT.zero.val = zeroT := by rw [TT.zero, TT.val_mk]; rfl
theorem CanT.zero : CanT TT.zero := .const ⟨ICan.zero, by simp [val]⟩
theorem TreeR.zero {w : World} {S : Nat → Prop} : TreeR w S TT.zero := .mk NatR.nil Rd.nil fun t ht => by cases ht
section
variable {lev : Int} {g : Bool} {A : Option Addr} {n c : Nat} {d : List Nat} {Ac : Option Addr} {nc cc : Nat} {kids : List TT}
theorem CanT.const_inv (h : CanT (.mk lev g A n c d Ac nc cc kids)) (h0 : lev = 0) : (ICan g d ∧ val d < 2 ^ 63) ∧ nc = 0 ∧ kids = [] := by
  cases h with
  | const h => exact ⟨h, rfl, rfl⟩
  | node h1 => omega
theorem CanT.node_inv (h : CanT (.mk lev g A n c d Ac nc cc kids)) (h0 : lev ≠ 0) : (1 ≤ lev ∧ lev ≤ 4) ∧ g = false ∧ n = 0 ∧ d = [] ∧ (2 ≤ kids.length ∧ kids.length ≤ 256) ∧ (∀ k ∈ kids, k.lev < lev) ∧ (∀ k ∈ kids, CanT k) ∧ ∀ k, kids.getLast? = some k → k.val ≠ zeroT := by
  cases h with
  | const h => exact absurd rfl h0
  | node h1 h2 hl hk hz => exact ⟨h1, rfl, rfl, rfl, h2, hl, hk, hz⟩
theorem CanT.copy (h : CanT (.mk lev g A n c d Ac nc cc kids)) (h0 : lev ≠ 0) {A' Ac' : Option Addr} {c' nc' cc' : Nat} {K : List TT} (hv : K.map TT.val = kids.map TT.val) (hK : ∀ k ∈ K, CanT k) :
    CanT (.mk lev false A' 0 c' [] Ac' nc' cc' K) ∧ (TT.mk lev false A' 0 c' [] Ac' nc' cc' K).val = (TT.mk lev g A n c d Ac nc cc kids).val := by
  obtain ⟨h1, hg, hn, hd, h2, hl, hk, hz⟩ := h.node_inv h0
  have hlen : K.length = kids.length := by have := congrArg List.length hv; simpa using this
  subst hg hd
  refine ⟨.node h1 (by omega) (fun k hk => ?_) hK fun k hk => ?_, by rw [TT.val_mk, TT.val_mk, hv]⟩
  · obtain ⟨x, hx, he⟩ := List.mem_map.1 (hv ▸ List.mem_map_of_mem (f := TT.val) hk)
    rw [← TT.lev_val, ← he, TT.lev_val]; exact hl x hx
  · have h3 : (kids.map TT.val).getLast? = some k.val := by rw [← hv, List.getLast?_map, hk]; rfl
    rw [List.getLast?_map, Option.map_eq_some_iff] at h3
    obtain ⟨x, hx, he⟩ := h3
    rw [← he]; exact hz x hx
theorem CanT.isZero (h : CanT (.mk lev g A n c d Ac nc cc kids)) (hl : d.length = n) : (TT.mk lev g A n c d Ac nc cc kids).val = zeroT ↔ lev = 0 ∧ n = 0 := by
  rw [TT.val_mk]
  constructor
  · intro h1
    unfold zeroT at h1
    injection h1 with h1 h2 h3
    obtain ⟨hc, _, _⟩ := h.const_inv h1
    refine ⟨h1, ?_⟩
    rcases Nat.eq_zero_or_pos n with h4 | h4
    · exact h4
    · exfalso
      have h5 := val_pos hc.1.1 (by intro e; subst e; simp at hl; omega)
      unfold zval at h2
      split at h2 <;> omega
  · rintro ⟨h1, h2⟩
    obtain ⟨hc, _, hk⟩ := h.const_inv h1
    have hd : d = [] := List.eq_nil_of_length_eq_zero (by omega)
    subst h1 hd hk
    cases g <;> rfl
end
theorem CanT.built {L : Nat} {t : TM} {r : List TM} {A' Ac' : Option Addr} {c' nc' cc' : Nat} {K : List TT} (h4 : L + 1 ≤ 4) (hc : CanS (t :: r)) (hn : NnE (t :: r)) (hb : t.m.get (L + 1) ≤ 255) (h0 : t.m.get (L + 1) ≠ 0) (hv : K.map TT.val = DoneV L (t :: r) (t :: r).length (t.m.get (L + 1) + 1).toNat) (hK : ∀ k ∈ K, CanT k) :
    CanT (.mk ((L + 1 : Nat) : Int) false A' 0 c' [] Ac' nc' cc' K) ∧ (TT.mk ((L + 1 : Nat) : Int) false A' 0 c' [] Ac' nc' cc' K).val = bldV (L + 1) (t :: r) := by
  have hpos := hn t (List.mem_cons_self ..) (L + 1)
  have hN : (t.m.get (L + 1) + 1).toNat = (t.m.get (L + 1)).toNat + 1 := by omega
  have hlen : K.length = (t.m.get (L + 1)).toNat + 1 := by have := congrArg List.length hv; simpa [DoneV, hN] using this
  refine ⟨.node (by omega) (by omega) (fun k hk => ?_) hK fun k hk => ?_, ?_⟩
  · have h1 : k.val ∈ DoneV L (t :: r) (t :: r).length (t.m.get (L + 1) + 1).toNat := hv ▸ List.mem_map_of_mem (f := TT.val) hk
    obtain ⟨e, _, he⟩ := List.mem_map.1 h1
    rw [← TT.lev_val, ← he]
    have := bld_lev L (((t :: r).take (t :: r).length).filter fun u => u.m.get (L + 1) = (e : Int))
    omega
  · have h3 : (DoneV L (t :: r) (t :: r).length (t.m.get (L + 1) + 1).toNat).getLast? = some k.val := by rw [← hv, List.getLast?_map, hk]; rfl
    rw [DoneV, hN, List.range_succ, List.map_append, List.map_singleton, List.getLast?_append, List.getLast?_singleton] at h3
    simp only [Option.some_or] at h3
    injection h3 with h3
    rw [← h3, List.take_length]
    have hmem : t ∈ (t :: r).filter fun u => u.m.get (L + 1) = ((t.m.get (L + 1)).toNat : Int) := List.mem_filter.2 ⟨List.mem_cons_self .., by simp; omega⟩
    exact bld_ne (hc.subl List.filter_sublist) fun e => by rw [e] at hmem; cases hmem
  · rw [TT.val_mk, hv]; exact DoneV.all rfl rfl h0
theorem val_iff {l1 l2 : Int} {g1 g2 : Bool} {A1 A2 B1 B2 : Option Addr} {n1 c1 n2 c2 m1 e1 m2 e2 : Nat} {d1 d2 : List Nat} {k1 k2 : List TT} :
    (TT.mk l1 g1 A1 n1 c1 d1 B1 m1 e1 k1).val = (TT.mk l2 g2 A2 n2 c2 d2 B2 m2 e2 k2).val ↔ l1 = l2 ∧ zval g1 d1 = zval g2 d2 ∧ k1.map TT.val = k2.map TT.val := by
  rw [TT.val_mk, TT.val_mk]
  constructor
  · intro h; injection h with a b c; exact ⟨a, b, c⟩
  · rintro ⟨rfl, h, h2⟩; rw [h, h2]
theorem tms_part (l : List TD) (s t : Nat) : tms ((l.take t).drop s) = ((tms l).take t).drop s := by simp [tms, List.map_take, List.map_drop]
theorem M4.get_range {x : TD} (h : x.ok) (j : Nat) : 0 ≤ x.m.get j ∧ x.m.get j ≤ 255 := by
  obtain ⟨_, _, h1, h2, h3, h4⟩ := h
  unfold M4.get
  split <;> omega
theorem nn_of {l : List TD} (h : ∀ x ∈ l, x.ok) : NnE (tms l) := fun t ht j => by
  obtain ⟨x, hx, rfl⟩ := List.mem_map.1 ht
  exact (M4.get_range (h x hx) j).1
theorem tms_get {l : List TD} {i : Nat} {x : TD} (h : l[i]? = some x) : (tms l)[i]? = some x.t := by simp [tms, h]
theorem tms_len (l : List TD) : (tms l).length = l.length := by simp [tms]
theorem head_skip {f : TD} {r : List TD} {L : Nat} (hc : CanS (tms (f :: r))) (hh : HiEq L (tms (f :: r))) (h4 : L ≤ 4) (hok : ∀ x ∈ f :: r, x.ok) (hL : 0 < L) (h0 : f.m.get L = 0) : HiEq (L - 1) (tms (f :: r)) ∧ bldV L (tms (f :: r)) = bldV (L - 1) (tms (f :: r)) := by
  obtain ⟨M, rfl⟩ : ∃ M, L = M + 1 := ⟨L - 1, by omega⟩
  exact bld_skip (t := f.t) (r := tms r) hc hh h4 (nn_of hok) h0
theorem part_can {l : List TD} {s t : Nat} (h : CanS (tms l)) : CanS (tms ((l.take t).drop s)) := by
  rw [tms_part]; exact h.subl ((List.drop_sublist _ _).trans (List.take_sublist _ _))
theorem part_hi {l : List TD} {s t L : Nat} {e : Int} (h : HiEq (L + 1) (tms l)) (hp : PieceB (L + 1) (tms l) s t e) : HiEq L (tms ((l.take t).drop s)) := by
  rw [tms_part]
  exact (h.sub fun u hu => List.mem_of_mem_take (List.mem_of_mem_drop hu)).down hp.all
theorem piece_next {l : List TD} {s t L : Nat} {x y : TD} (hp : PieceB L (tms l) s t (x.m.get L)) (hy : l[t]? = some y) (he : y.m.get L = x.m.get L) : PieceB L (tms l) s (t + 1) (x.m.get L) := hp.next (tms_get hy) he
theorem piece_lt {l : List TD} {s t L : Nat} {x y : TD} (hst : s ≤ t) (hx : l[s]? = some x) (hy : l[t]? = some y) (he : ¬ y.m.get L = x.m.get L) : s < t := by
  rcases Nat.lt_or_ge s t with h | h
  · exact h
  · exfalso
    have e : s = t := by omega
    subst e
    rw [hx] at hy; injection hy with hy; subst hy; exact he rfl
theorem piece_end {l : List TD} {t L : Nat} {x y : TD} (hy : l[t]? = some y) (he : ¬ y.m.get L = x.m.get L) : ∀ u, (tms l)[t]? = some u → u.m.get L ≠ x.m.get L := fun u hu => by
  rw [tms_get hy] at hu; injection hu with hu; subst hu; exact he
theorem piece_end0 {l : List TD} {t L : Nat} {x : TD} (h : l.length ≤ t) : ∀ u, (tms l)[t]? = some u → u.m.get L ≠ x.m.get L := fun u hu => by
  rw [List.getElem?_eq_none (by rw [tms_len]; exact h)] at hu; cases hu
theorem kids_set {l : List TD} {K : List TT} {s t N M : Nat} {x : TD} {k : TT} (hv : K.map TT.val = DoneV M (tms l) s N) (ha : AtB (M + 1) (tms l) s) (hp : PieceB (M + 1) (tms l) s t (x.m.get (M + 1))) (hx : l[s]? = some x) (h0 : 0 ≤ x.m.get (M + 1)) (hN : (x.m.get (M + 1)).toNat < N) (hk : k.val = bldV M (tms ((l.take t).drop s))) :
    (K.set (x.m.get (M + 1)).toNat k).map TT.val = DoneV M (tms l) t N := by
  rw [List.map_set, hv, hk, tms_part]
  have e : (((x.m.get (M + 1)).toNat : Nat) : Int) = x.m.get (M + 1) := Int.toNat_of_nonneg h0
  exact piece_set ha (by rw [e]; exact hp) (tms_get hx) (by rw [e]; rfl) hN
theorem can_set {K : List TT} {i : Nat} {k : TT} (h : ∀ x ∈ K, CanT x) (hk : CanT k) : ∀ x ∈ K.set i k, CanT x := fun x hx => by
  rcases List.mem_or_eq_of_mem_set hx with h1 | h1
  · exact h x h1
  · rw [h1]; exact hk
theorem at_next {l : List TD} {s t M : Nat} {x : TD} (hc : CanS (tms l)) (hh : HiEq (M + 1) (tms l)) (h4 : M + 1 ≤ 4) (ha : AtB (M + 1) (tms l) s) (hp : PieceB (M + 1) (tms l) s t (x.m.get (M + 1))) (hx : l[s]? = some x) (he : ∀ u, (tms l)[t]? = some u → u.m.get (M + 1) ≠ x.m.get (M + 1)) : AtB (M + 1) (tms l) t :=
  piece_done (desc hc hh (by omega) h4) ha hp (tms_get hx) rfl he
theorem get_le {f x : TD} {r : List TD} {s M : Nat} (hc : CanS (tms (f :: r))) (hh : HiEq (M + 1) (tms (f :: r))) (h4 : M + 1 ≤ 4) (hx : (f :: r)[s]? = some x) : x.m.get (M + 1) ≤ f.m.get (M + 1) := by
  have hd := desc hc hh (by omega) h4
  cases s with
  | zero => simp at hx; subst hx; exact Int.le_refl _
  | succ s =>
    have h1 := (List.pairwise_cons.1 hd).1 x.t (by
      have := List.mem_of_getElem? (l := r) (i := s) (by simpa using hx)
      exact List.mem_map_of_mem (f := TD.t) this)
    exact h1
def levOf : Nat → List TM → Nat
  | 0, _ => 0
  | L + 1, ts => if ts.any (fun t => decide (0 < t.m.get (L + 1))) then L + 1 else levOf L ts
theorem levOf_nil : ∀ L, levOf L [] = 0
  | 0 => rfl
  | L + 1 => by simp [levOf, levOf_nil L]
theorem bld_levOf : ∀ {L : Nat} {ts : List TM}, CanS ts → HiEq L ts → NnE ts → L ≤ 4 → (bldV L ts).lev = levOf L ts
  | L, [], _, _, _, _ => by
    rw [bldV_nil]
    rw [levOf_nil]; rfl
  | 0, t :: r, _, _, _, _ => rfl
  | L + 1, t :: r, hc, hh, hn, h4 => by
    by_cases h0 : t.m.get (L + 1) = 0
    · obtain ⟨h1, h2⟩ := bld_skip hc hh h4 hn h0
      rw [h2, bld_levOf hc h1 hn (by omega), levOf, if_neg]
      rw [List.any_eq_true]
      rintro ⟨u, hu, hp⟩
      simp only [decide_eq_true_eq] at hp
      rcases List.mem_cons.1 hu with rfl | hu'
      · omega
      · have := (List.pairwise_cons.1 (desc hc hh (by omega) h4)).1 u hu'
        omega
    · have hp := hn t (List.mem_cons_self ..) (L + 1)
      rw [bld_node h0, levOf, if_pos]
      · rfl
      · rw [List.any_eq_true]
        exact ⟨t, List.mem_cons_self .., by simp; omega⟩
end Go.Gx

/-
  Elements of lists of structs and their parts: what is read. No program in sight.
-/
namespace Go.Gx
open Go.RowKit
def CellsAt (w : World) (b p : Nat) (cs : List Value) : Prop := ∀ (j : Nat) v, cs[j]? = some v → w.cell? ((⟨b, p, none⟩ : Addr).add j) = some v
section
variable {w w' : World} {b p q : Nat} {cs vs : List Value} {G : Nat → Prop}
theorem CellsAt.frm (h : CellsAt w b p cs) (f : Frm G w w') (hb : b < w.heap.size) (hg : ¬ G b) : CellsAt w' b p cs := fun j v hj => by
  rw [addr_add]
  have h1 := h j v hj
  rw [addr_add] at h1
  exact (f.cell (p := ⟨b, p + j, none⟩) hb hg).trans h1
theorem CellsAt.one (h : CellsAt w b p cs) {j : Nat} {v : Value} (hj : cs[j]? = some v) (hq : q = p + j) : w.cell? ⟨b, q, none⟩ = some v := by
  have h1 := h j v hj
  rw [addr_add] at h1
  rw [hq]; exact h1
theorem CellsAt.part (h : CellsAt w b p cs) {o : Nat} (hv : (cs.drop o).take vs.length = vs) (hq : q = p + o) : CellsAt w b q vs := fun j v hj => by
  rw [addr_add, hq, Nat.add_assoc]
  have hlt := (List.getElem?_eq_some_iff.1 hj).1
  have h1 : cs[o + j]? = some v := by
    rw [← List.getElem?_drop]
    rw [← hv, List.getElem?_take, if_pos hlt] at hj
    exact hj
  have h2 := h (o + j) v h1
  rw [addr_add] at h2
  exact h2
end
section
variable {α : Type} {L : SK α} {w w' : World} {S S' G : Nat → Prop} {A : Option Addr} {n c : Nat} {l : List α}
theorem SListR.get {b off i k p : Nat} (h : SListR L w S (some ⟨b, off, none⟩) n c l) (hi : i < n) (hk : L.k = k) (hp : off + i * k = p) :
    ∃ f, l[i]? = some f ∧ CellsAt w b p (L.cells f) ∧ L.R w S f ∧ S b ∧ b < w.heap.size := by
  obtain ⟨f, h1, h2, h3, h4, h5⟩ := h.at_ hi
  subst hk hp
  refine ⟨f, h1, fun j v hj => ?_, h3, h4, h5⟩
  rw [addr_add, Nat.add_assoc]; exact h2 j v hj
theorem SK.flat_take (m : Nat) : (L.flat l).take (m * L.k) = L.flat (l.take m) := by
  induction l generalizing m with
  | nil => simp [SK.flat]
  | cons a l ih =>
    cases m with
    | zero => simp [SK.flat]
    | succ m =>
      have hl := L.len a
      rw [L.flat_cons, List.take_succ_cons, L.flat_cons, Nat.add_mul, Nat.one_mul, List.take_append, List.take_of_length_le (by omega), hl, show m * L.k + L.k - L.k = m * L.k by omega, ih]
theorem SK.flat_drop (m : Nat) : (L.flat l).drop (m * L.k) = L.flat (l.drop m) := by
  induction l generalizing m with
  | nil => simp [SK.flat]
  | cons a l ih =>
    cases m with
    | zero => simp
    | succ m =>
      have hl := L.len a
      rw [L.flat_cons, List.drop_succ_cons, Nat.add_mul, Nat.one_mul, List.drop_append, List.drop_of_length_le (by omega), List.nil_append, hl, show m * L.k + L.k - L.k = m * L.k by omega, ih]
theorem SListR.take {m : Nat} (h : SListR L w S A n c l) (hm : m ≤ n) : SListR L w S A m c (l.take m) := by
  refine ⟨?_, fun f hf => h.2 f (List.mem_of_mem_take hf)⟩
  have := h.1.take hm
  rw [SK.flat_take] at this
  exact this
theorem SListR.part {b off k p lo hi : Nat} (h : SListR L w S (some ⟨b, off, none⟩) n c l) (h1 : lo ≤ hi) (h2 : hi ≤ n) (h3 : lo < n) (hk : L.k = k) (hp : off + lo * k = p) : SListR L w S (some ⟨b, p, none⟩) (hi - lo) (c - lo) ((l.take hi).drop lo) := by
  have h4 := h.1.2.1
  have h5 := (h.take h2)
  subst hk hp
  rcases Nat.lt_or_ge lo hi with h6 | h6
  · have h7 := h5.1.drop (m := lo) h1
    rw [if_neg (by omega), SK.flat_drop] at h7
    simp only [Option.map_some, addr_add] at h7
    exact ⟨h7, fun f hf => h5.2 f (List.mem_of_mem_drop hf)⟩
  · have e : lo = hi := by omega
    subst e
    have e2 : (l.take lo).drop lo = [] := List.drop_of_length_le (by simp; omega)
    rw [e2, Nat.sub_self]
    exact ⟨⟨by simp [SK.flat], Nat.zero_le _, by have := h.1.2.2.1; omega, fun h0 => absurd h0 (by omega)⟩, fun f hf => by cases hf⟩
end
theorem TD.len {w : World} {S : Nat → Prop} {x : TD} (h : TMR w S x) : x.n ≤ 2 := by
  have a := lt_val_len (k := 2) h.2.1.1 (Nat.lt_trans h.2.2.1 (by decide))
  rw [h.1.len] at a; exact a
def AllS {α : Type} (L : SK α) (w : World) (S : Nat → Prop) (l : List α) : Prop := ∀ f ∈ l, L.R w S f
section
variable {α : Type} {L : SK α} {w w' : World} {S S' G : Nat → Prop} {l : List α}
theorem AllS.frmB (h : AllS L w S l) (f : Frm G w w') (hd : ∀ b, b < w.heap.size → S b → ¬ G b) : AllS L w' S l := fun x hx => L.frmB (h x hx) f hd
theorem AllS.nil : AllS L w S [] := fun x hx => by cases hx
theorem AllS.snoc {x : α} (h : AllS L w S l) (hx : L.R w S x) : AllS L w S (l ++ [x]) := fun y hy => by
  rcases List.mem_append.1 hy with h1 | h1
  · exact h y h1
  · rw [List.mem_singleton.1 h1]; exact hx
theorem AllS.set {x : α} {i : Nat} (h : AllS L w S l) (hx : L.R w S x) : AllS L w S (l.set i x) := fun y hy => by
  rcases List.mem_or_eq_of_mem_set hy with h1 | h1
  · exact h y h1
  · rw [h1]; exact hx
theorem AllS.reps {x : α} {n : Nat} (hx : L.R w S x) : AllS L w S (List.replicate n x) := fun y hy => by rw [List.eq_of_mem_replicate hy]; exact hx
theorem AllS.list {g n : Nat} {t : TypeId} (h : AllS L w S l) (hB : Blk w g t (L.flat l)) (hs : ∀ b, b < w.heap.size → S b → S' b) (hg : S' g) (hl : l.length = n) (hm : n ≤ CapMax) : SListR L w S' (some ⟨g, 0, none⟩) n n l := FillK.list ⟨hB, h⟩ hs hg hl hm
end
theorem TD.exp {x : TD} {j k : Nat} (h : k = j + 1) (hj : j < 4) : x.cells[2 + j]? = some (.int .i64 (x.m.get k)) := by
  subst h
  rcases (show j = 0 ∨ j = 1 ∨ j = 2 ∨ j = 3 by omega) with rfl | rfl | rfl | rfl <;> rfl
theorem set_snoc {α : Type} {D : List α} {z x : α} {i n : Nat} (hi : D.length = i) (hn : i < n) : (D ++ List.replicate (n - i) z).set i x = (D ++ [x]) ++ List.replicate (n - (i + 1)) z := by
  subst hi
  rw [List.set_append_right _ _ (Nat.le_refl _), Nat.sub_self]
  have e : n - D.length = (n - (D.length + 1)) + 1 := by omega
  rw [e, List.replicate_succ, List.set_cons_zero, List.append_assoc]; rfl
theorem set_done {α : Type} {D : List α} {z : α} {i n : Nat} (h : ¬ i < n) : D ++ List.replicate (n - i) z = D := by
  rw [show n - i = 0 by omega]; simp
end Go.Gx

/-
  Fractions in lowest terms: what the operations leave. Plain; no program in sight.
-/
namespace Go.Gx
theorem QE.abs (q : QE) : q.num.natAbs = val q.d := (natAbs_val q.g q.d).symm
theorem QE.cross {r : QE} (hr : r.red) {N D : Int} (hD : 0 < D) (x : r.num * D = N * (r.den : Int)) : r.v = (N : Rat) / (D : Rat) := by
  have h1 := QE.den_pos hr
  have h2 : (0 : Rat) < (D : Rat) := by rw [show (0 : Rat) = ((0 : Int) : Rat) from rfl, Rat.intCast_lt_intCast]; exact hD
  rw [QE.v_def hr, div_eq h1 h2, ← Rat.intCast_mul, ← Rat.intCast_mul, x]
theorem QE.ok_of {r : QE} {M : Nat} (hr : r.red) {N D : Int} (hD : 0 < D) (x : r.num * D = N * (r.den : Int)) (hN : N.natAbs < 2 ^ M) (hM : D.natAbs < 2 ^ M) : r.ok M := by
  have h := low_le (n := r.num) (v := r.den) hr.2.2.1 (by rw [QE.abs]; exact hr.2.2.2) hD x
  rw [QE.abs] at h
  exact ⟨hr, Nat.lt_of_le_of_lt h.1 hN, Nat.lt_of_le_of_lt h.2 hM⟩
theorem QE.cross_v {r q : QE} (hr : r.red) (hq : q.red) (x : r.num * (rden q.den : Int) = rnum q.num q.den * (r.den : Int)) : r.v = q.v := by
  have h2 : 0 < q.den := hq.2.2.1
  rw [rnum_of h2, rden_of h2] at x
  rw [QE.cross hr (by omega) x, QE.v_def hq]
theorem QE.norm_ok {r q : QE} {M : Nat} (hr : r.red) (hq : q.ok M) (x : r.num * (rden q.den : Int) = rnum q.num q.den * (r.den : Int)) : r.ok M := by
  have h2 : 0 < q.den := hq.1.2.2.1
  rw [rnum_of h2, rden_of h2] at x
  exact QE.ok_of hr (by omega) x (by rw [QE.abs]; exact hq.2.1) (by rw [Int.natAbs_natCast]; exact hq.2.2)
end Go.Gx

/-
  Loops of a few rounds, taken one by one. No program in sight.
-/
namespace Go.Gx
theorem lUnroll {P : Program} {Q : Exit → Act → World → Prop} {a : Act} {w : World} {c : Code} (n : Nat) (h : ∀ K : Act → World → Prop, (∀ a w, Code.rounds P c Q n a w → K a w) → c.wp P (Exit.then K Q) a w) : Code.rounds P c Q (n + 1) a w := by
  rw [rounds_succ]; exact h _ fun _ _ h => h
def frV (a b : Int) : Rat := if b = 0 then (a : Rat) else (a : Rat) / (b : Rat)
theorem frV_of {a b n d : Int} (h : b = 0 ∧ n = a ∧ d = 1 ∨ b < 0 ∧ n = -a ∧ d = -b ∨ 0 < b ∧ n = a ∧ d = b) : (n : Rat) / (d : Rat) = frV a b := by
  unfold frV
  rcases h with ⟨h0, rfl, rfl⟩ | ⟨h0, rfl, rfl⟩ | ⟨h0, rfl, rfl⟩
  · rw [if_pos h0]
    have : ((1 : Int) : Rat) = 1 := rfl
    rw [this]; grind
  · rw [if_neg (by omega), Rat.intCast_neg, Rat.intCast_neg]
    have : (b : Rat) ≠ 0 := cast_ne (by omega)
    grind
  · rw [if_neg (by omega)]
theorem fr_lt {n m : Int} {d e : Int} (hd : 0 < d) (he : 0 < e) : decide (n * e < m * d) = decide ((n : Rat) / (d : Rat) < (m : Rat) / (e : Rat)) := by
  have hb' : (0 : Rat) < (d : Rat) := by rw [show (0 : Rat) = ((0 : Int) : Rat) from rfl, Rat.intCast_lt_intCast]; exact hd
  have hd' : (0 : Rat) < (e : Rat) := by rw [show (0 : Rat) = ((0 : Int) : Rat) from rfl, Rat.intCast_lt_intCast]; exact he
  simp only [div_lt hb' hd', ← Rat.intCast_mul, Rat.intCast_lt_intCast]
theorem mul_small {x y : Int} (hx : -128 ≤ x ∧ x ≤ 128) (hy : 0 < y ∧ y ≤ 128) : -32768 ≤ x * y ∧ x * y ≤ 32768 := by
  have h1 : x * y ≤ 128 * y := Int.mul_le_mul_of_nonneg_right hx.2 (by omega)
  have h2 : -128 * y ≤ x * y := Int.mul_le_mul_of_nonneg_right hx.1 (by omega)
  omega
theorem QE.cross0 {r : QE} (hr : r.red) {N D : Int} (hD : D ≠ 0) (x : r.num * D = N * (r.den : Int)) : r.v = (N : Rat) / (D : Rat) := by
  have h1 := QE.den_pos hr
  have h2 : (D : Rat) ≠ 0 := cast_ne hD
  have h3 : (r.num : Rat) * (D : Rat) = (N : Rat) * ((r.den : Int) : Rat) := by rw [← Rat.intCast_mul, ← Rat.intCast_mul, x]
  rw [QE.v_def hr]
  have h4 : ((r.den : Int) : Rat) ≠ 0 := cast_ne (by have := hr.2.2.1; show ((val r.dv : Nat) : Int) ≠ 0; omega)
  grind
theorem QE.ok_of0 {r : QE} {M : Nat} (hr : r.red) {N D : Int} (hD : D ≠ 0) (x : r.num * D = N * (r.den : Int)) (hN : N.natAbs < 2 ^ M) (hM : D.natAbs < 2 ^ M) : r.ok M := by
  rcases Int.lt_or_gt_of_ne hD with h | h
  · exact QE.ok_of hr (D := -D) (N := -N) (by omega) (by rw [Int.mul_neg, Int.neg_mul, x]) (by omega) (by omega)
  · exact QE.ok_of hr h x hN hM
end Go.Gx

/-
  Square-free bases. Plain numbers; no program in sight.
-/
namespace Go.Gx
section
variable {κ : Type}
end
section
variable {κ : Type} [DecidableEq κ]
section
variable (key : QP → κ) (v : QP → Nat) (z : κ) (ks : List κ) (js : List Nat)
end
variable {key : QP → κ} {v : QP → Nat} {z k : κ} {ks : List κ} {js : List Nat} {e i j : Nat} {x y g x' y' d : List Int}
variable {os : List (List Int)} {ls : List (κ × Nat)}
end
end Go.Gx

/-
  What the laws on points are handed, and what it stands for. No program in sight.
-/
namespace Go.Gx
open Go.RowKit
structure ME where
  v : Int
  a : Int
  b : Int
  c : Int
  d : Int
def ME.cells (x : ME) : List Value := [.int .i8 x.v, .int .u8 x.a, .int .u8 x.b, .int .u8 x.c, .int .u8 x.d]
def ME.ok (x : ME) : Prop := (-128 ≤ x.v ∧ x.v ≤ 127) ∧ (0 ≤ x.a ∧ x.a ≤ 255) ∧ (0 ≤ x.b ∧ x.b ≤ 255) ∧ (0 ≤ x.c ∧ x.c ≤ 255) ∧ (0 ≤ x.d ∧ x.d ≤ 255)
def ME.t (x : ME) : TM := ⟨x.v, ⟨x.a, x.b, x.c, x.d⟩⟩
def MER (_ : World) (_ : Nat → Prop) (x : ME) : Prop := x.ok
def MEK : SK ME where
  k := 5
  pos := by decide
  cells := ME.cells
  len _ := rfl
  one _ := rfl
  R := MER
  frmB h _ _ := h
  ext h _ := h
  sub h _ := h
  both h _ := h
structure UE where
  A : Option Addr
  n : Nat
  c : Nat
  l : List ME
  a : Int
  b : Int
  p : Int
  q : Int
def UE.cells (x : UE) : List Value := [.slice x.A x.n x.c, .int .i8 x.a, .int .i8 x.b, .int .i8 x.p, .int .i8 x.q]
def UE.ok (x : UE) : Prop := ((-128 ≤ x.a ∧ x.a ≤ 127) ∧ -128 ≤ x.b ∧ x.b ≤ 127) ∧ ((-128 ≤ x.p ∧ x.p ≤ 127) ∧ -128 ≤ x.q ∧ x.q ≤ 127) ∧ x.n ≤ 1048576
def UER (w : World) (S : Nat → Prop) (x : UE) : Prop := SListR MEK w S x.A x.n x.c x.l ∧ x.ok
theorem SListR.both {α : Type} {L : SK α} {w : World} {S S' : Nat → Prop} {A : Option Addr} {n c : Nat} {l : List α} (h : SListR L w S A n c l) (g : SListR L w S' A n c l) : SListR L w (fun b => S b ∧ S' b) A n c l := ⟨h.1.both g.1, fun x hx => L.both (h.2 x hx) (g.2 x hx)⟩
def UEK : SK UE where
  k := 5
  pos := by decide
  cells := UE.cells
  len _ := rfl
  one _ := rfl
  R := UER
  frmB h f hd := ⟨h.1.frmB f hd, h.2⟩
  ext h f := ⟨h.1.ext f, h.2⟩
  sub h hs := ⟨h.1.sub hs, h.2⟩
  both h g := ⟨h.1.both g.1, h.2⟩
theorem int_neg {x : Int} (h : x < 0) (h1 : -128 ≤ x) : zval true [(-x).toNat] = x ∧ ICan true [(-x).toNat] ∧ val [(-x).toNat] ≤ 128 := by
  refine ⟨by simp [zval, val]; omega, ⟨(canon_snoc (l := [])).2 (by simp [isZ]; omega), fun _ h => by cases h⟩, by simp [val]; omega⟩
theorem int_pos {x : Int} (h : 0 < x) (h1 : x ≤ 127) : zval false [x.toNat] = x ∧ ICan false [x.toNat] ∧ val [x.toNat] ≤ 128 := by
  refine ⟨by simp [zval, val]; omega, ⟨(canon_snoc (l := [])).2 (by simp [isZ]; omega), fun h => by cases h⟩, by simp [val]; omega⟩
noncomputable def polyV (p : List TM) : RT := open Classical in if h : ∃ l, CanS l ∧ ∀ m, cofS l m = cofS p m then bldV 4 h.choose else zeroT
theorem polyV_of {l p : List TM} (h1 : CanS l) (h2 : ∀ m, cofS l m = cofS p m) : bldV 4 l = polyV p := by
  have h : ∃ l, CanS l ∧ ∀ m, cofS l m = cofS p m := ⟨l, h1, h2⟩
  unfold polyV
  rw [dif_pos h, CanS.uniq h1 h.choose_spec.1 fun m => (h2 m).trans (h.choose_spec.2 m).symm]
structure CV where
  t : RT
  lo : Rat
  hi : Rat
def CE.v (x : CE) : CV := ⟨x.t.val, x.lo.v, x.hi.v⟩
noncomputable def UE.v (x : UE) : CV := ⟨polyV (x.l.map ME.t), frV x.a x.b, frV x.p x.q⟩
def ratV (q : Rat) : CV := ⟨zeroT, q, q⟩
theorem mapv_snoc {α β γ : Type} {f : α → γ} {g : β → γ} {D : List α} {l : List β} {i : Nat} {x : α} {y : β} (h : D.map f = (l.take i).map g) (hy : l[i]? = some y) (e : f x = g y) : (D ++ [x]).map f = (l.take (i + 1)).map g := by
  rw [List.take_add_one, hy, List.map_append, List.map_append, h]; simp [e]
theorem mapv_end {α β γ : Type} {f : α → γ} {g : β → γ} {D : List α} {l : List β} {i n : Nat} (h : D.map f = (l.take i).map g) (hl : l.length = n) (hi : n ≤ i) : D.map f = l.map g := by
  rw [h, List.take_of_length_le (by omega)]
theorem all_snoc {α : Type} {Q : α → Prop} {D : List α} {x : α} (h : ∀ t ∈ D, Q t) (hx : Q x) : ∀ t ∈ D ++ [x], Q t := fun t ht => by
  rcases List.mem_append.1 ht with h9 | h9
  · exact h t h9
  · rw [List.mem_singleton.1 h9]; exact hx
section
variable {α : Type} {L : SK α} {w : World} {S : Nat → Prop} {g : Nat} {t : TypeId} {a b : α}
theorem SListR.two (h : Blk w g t (L.cells a ++ L.cells b)) (ha : L.R w S a) (hb : L.R w S b) (hg : S g) : SListR L w S (some ⟨g, 0, none⟩) 2 2 [a, b] :=
  SListR.of_blk (by rw [L.flat_cons, L.flat_one]; exact h) (fun f hf => by
    rcases List.mem_cons.1 hf with h1 | h1
    · rw [h1]; exact ha
    · rw [List.mem_singleton.1 h1]; exact hb) hg rfl (Nat.le_refl _) (by decide)
end
section
variable {α : Type} {L : SK α} {w : World} {S : Nat → Prop} {g : Nat} {t : TypeId} {a b c d : α}
end
def CellsIn (w : World) (S : Nat → Prop) (b p : Nat) (cs : List Value) : Prop := CellsAt w b p cs ∧ S b ∧ b < w.heap.size
theorem CellsIn.frmB {w w' : World} {S G : Nat → Prop} {b p : Nat} {cs : List Value} (h : CellsIn w S b p cs) (f : Frm G w w') (hd : ∀ b, b < w.heap.size → S b → ¬ G b) : CellsIn w' S b p cs := ⟨h.1.frm f h.2.2 (hd b h.2.2 h.2.1), h.2.1, Nat.lt_of_lt_of_le h.2.2 f.size⟩
theorem CellsIn.ext {w w' : World} {S : Nat → Prop} {b p : Nat} {cs : List Value} (h : CellsIn w S b p cs) (f : Ext w w') : CellsIn w' S b p cs := h.frmB f fun _ _ _ h => h
end Go.Gx

/-
  Values of recursive polynomials at a place and over a box. Plain numbers; no program in sight.
-/
namespace Go.Gx
end Go.Gx

/-
  The highest level of a sum of terms. Plain numbers; no program in sight.
-/
namespace Go.Gx
def lvU (h : Int) (m : M4) : Nat → Int
  | 0 => h
  | j + 1 => if 0 < m.get (j + 1) ∧ lvU h m j < (j : Int) + 1 then (j : Int) + 1 else lvU h m j
def lvS (h : Int) (m : M4) : Int := lvU h m 4
def lvL (l : List TM) : Int := l.foldl (fun h t => lvS h t.m) 0
theorem lvU_yes {h x : Int} {m : M4} {j : Nat} (hx : x = lvU h m j) (h1 : m.get (j + 1) > 0) (h2 : (j : Int) + 1 > x) : (j : Int) + 1 = lvU h m (j + 1) := by
  rw [lvU, if_pos ⟨h1, by omega⟩]
theorem lvU_no1 {h x : Int} {m : M4} {j : Nat} (hx : x = lvU h m j) (h1 : ¬ m.get (j + 1) > 0) : x = lvU h m (j + 1) := by
  rw [lvU, if_neg (fun h => h1 h.1)]; exact hx
theorem lvU_no2 {h x : Int} {m : M4} {j : Nat} (hx : x = lvU h m j) (h2 : ¬ (j : Int) + 1 > x) : x = lvU h m (j + 1) := by
  rw [lvU, if_neg (fun h => h2 (by omega))]; exact hx
theorem lvU_rng {h : Int} {m : M4} (hh : 0 ≤ h ∧ h ≤ 4) : ∀ j, j ≤ 4 → 0 ≤ lvU h m j ∧ lvU h m j ≤ 4
  | 0, _ => hh
  | j + 1, hj => by
    have h1 := lvU_rng (m := m) hh j (by omega)
    rw [lvU]; split <;> omega
theorem lvL_snoc (l : List TM) (t : TM) : lvL (l ++ [t]) = lvS (lvL l) t.m := by simp [lvL]
theorem lvL_rng' : ∀ (l : List TM) (h : Int), 0 ≤ h ∧ h ≤ 4 → 0 ≤ l.foldl (fun h t => lvS h t.m) h ∧ l.foldl (fun h t => lvS h t.m) h ≤ 4
  | [], h, hh => hh
  | t :: l, h, hh => lvL_rng' l _ (lvU_rng hh 4 (by omega))
theorem lvL_rng (l : List TM) : 0 ≤ lvL l ∧ lvL l ≤ 4 := lvL_rng' l 0 (by omega)
theorem lvL_take {l : List TD} {i : Nat} {x : TD} (h : l[i]? = some x) : lvL (tms (l.take (i + 1))) = lvS (lvL (tms (l.take i))) x.m := by
  rw [List.take_add_one, h, Option.toList_some, tms_append, show tms [x] = [x.t] from rfl, lvL_snoc]; rfl
theorem lvS_ge {h : Int} {m : M4} {k : Nat} (hk : k ≤ 4) (h1 : 1 ≤ k) : (k : Int) ≤ lvS h m ↔ (k : Int) ≤ h ∨ ∃ j, k ≤ j ∧ j ≤ 4 ∧ 0 < m.get j := by
  have key : ∀ n, n ≤ 4 → ((k : Int) ≤ lvU h m n ↔ (k : Int) ≤ h ∨ ∃ j, k ≤ j ∧ j ≤ n ∧ 0 < m.get j) := by
    intro n
    induction n with
    | zero => intro _; rw [lvU]; exact ⟨.inl, fun h => h.elim id fun ⟨j, a, b, _⟩ => by omega⟩
    | succ n ih =>
      intro hn
      have ih := ih (by omega)
      rw [lvU]
      split
      · next hc =>
        constructor
        · intro hh
          exact .inr ⟨n + 1, by omega, by omega, hc.1⟩
        · rintro (hh | ⟨j, a, b, _⟩)
          · have := ih.2 (.inl hh); omega
          · omega
      · next hc =>
        rw [ih]
        constructor
        · rintro (hh | ⟨j, a, b, c⟩)
          · exact .inl hh
          · exact .inr ⟨j, a, by omega, c⟩
        · rintro (hh | ⟨j, a, b, c⟩)
          · exact .inl hh
          · rcases Nat.lt_or_ge n j with h2 | h2
            · have e : j = n + 1 := by omega
              subst e
              have h3 : ¬ lvU h m n < (n : Int) + 1 := fun h4 => hc ⟨c, h4⟩
              exact ih.1 (by omega)
            · exact .inr ⟨j, a, h2, c⟩
  exact key 4 (by omega)
theorem lvL_ge {k : Nat} (hk : k ≤ 4) (h1 : 1 ≤ k) : ∀ (l : List TM) (h : Int), (k : Int) ≤ l.foldl (fun h t => lvS h t.m) h ↔ (k : Int) ≤ h ∨ ∃ t ∈ l, ∃ j, k ≤ j ∧ j ≤ 4 ∧ 0 < t.m.get j
  | [], h => by simp
  | t :: l, h => by
    rw [List.foldl_cons, lvL_ge hk h1 l, lvS_ge hk h1]
    constructor
    · rintro ((hh | hh) | ⟨u, hu, hh⟩)
      · exact .inl hh
      · exact .inr ⟨t, List.mem_cons_self .., hh⟩
      · exact .inr ⟨u, List.mem_cons_of_mem _ hu, hh⟩
    · rintro (hh | ⟨u, hu, hh⟩)
      · exact .inl (.inl hh)
      · rcases List.mem_cons.1 hu with rfl | hu
        · exact .inl (.inr hh)
        · exact .inr ⟨u, hu, hh⟩
theorem levOf_ge {k : Nat} (h1 : 1 ≤ k) (l : List TM) : ∀ L, k ≤ levOf L l ↔ ∃ t ∈ l, ∃ j, k ≤ j ∧ j ≤ L ∧ 0 < t.m.get j
  | 0 => by rw [levOf]; exact ⟨fun h => by omega, fun ⟨t, _, j, a, b, _⟩ => by omega⟩
  | L + 1 => by
    rw [levOf]
    split
    · next hc =>
      rw [List.any_eq_true] at hc
      obtain ⟨t, ht, hp⟩ := hc
      simp only [decide_eq_true_eq] at hp
      constructor
      · intro hk; exact ⟨t, ht, L + 1, hk, by omega, hp⟩
      · rintro ⟨_, _, j, a, b, _⟩; omega
    · next hc =>
      rw [levOf_ge h1 l L]
      constructor
      · rintro ⟨t, ht, j, a, b, c⟩; exact ⟨t, ht, j, a, by omega, c⟩
      · rintro ⟨t, ht, j, a, b, c⟩
        rcases Nat.lt_or_ge L j with h2 | h2
        · exfalso
          have e : j = L + 1 := by omega
          subst e
          exact hc (List.any_eq_true.2 ⟨t, ht, by simpa using c⟩)
        · exact ⟨t, ht, j, a, h2, c⟩
theorem lvL_levOf (l : List TM) : lvL l = (levOf 4 l : Int) := by
  have r := lvL_rng l
  have r2 : levOf 4 l ≤ 4 := by
    rcases Nat.lt_or_ge 4 (levOf 4 l) with h | h
    · obtain ⟨t, _, j, a, b, _⟩ := (levOf_ge (k := levOf 4 l) (by omega) l 4).1 (Nat.le_refl _); omega
    · exact h
  have key : ∀ k : Nat, 1 ≤ k → k ≤ 4 → ((k : Int) ≤ lvL l ↔ k ≤ levOf 4 l) := fun k a b => by
    rw [levOf_ge a l 4, lvL, lvL_ge b a l 0]
    constructor
    · rintro (h | h)
      · omega
      · exact h
    · exact .inr
  have k1 := key 1 (by omega) (by omega)
  have k2 := key 2 (by omega) (by omega)
  have k3 := key 3 (by omega) (by omega)
  have k4 := key 4 (by omega) (by omega)
  simp only [Int.natCast_one] at k1
  omega
theorem idx_m4 {a b c d : Int} {j : Nat} (hj : j < 4) : (#[Value.int .i64 a, .int .i64 b, .int .i64 c, .int .i64 d] : Array Value)[j]? = some (.int .i64 (M4.get ⟨a, b, c, d⟩ (j + 1))) := by
  rcases (show j = 0 ∨ j = 1 ∨ j = 2 ∨ j = 3 by omega) with rfl | rfl | rfl | rfl <;> rfl
theorem polyV_lev {l p : List TM} (h1 : CanS l) (h2 : ∀ m, cofS l m = cofS p m) (hn : NnE l) : (polyV p).lev = lvL l := by
  rw [← polyV_of h1 h2, bld_levOf h1 (HiEq.top l) hn (Nat.le_refl _), lvL_levOf]
end Go.Gx

/-
  Shapes of points. Plain; no program in sight.
-/
namespace Go.Gx
def CV.shp (i : Nat) (x : CV) : Prop := ¬ x.hi < x.lo ∧ (x.lo < x.hi → x.t.lev = (i : Int) + 1)
def allShp (l : List CV) : Prop := ∀ (i : Nat) (x : CV), l[i]? = some x → x.shp i
theorem cmpQ_one {a b : Rat} {r : Int} (e : r = cmpQ a b) (h : r = 1) : b < a := by
  subst h
  unfold cmpQ at e
  split at e
  · omega
  · next h1 => split at e
               · omega
               · next h2 => exact Rat.lt_of_le_of_ne (Rat.not_lt.1 h1) (fun h3 => h2 h3.symm)
theorem cmpQ_none {a b : Rat} {r : Int} (e : r = cmpQ a b) (h : ¬ r = 1) : ¬ b < a := fun h1 => h (by
  rw [e]; unfold cmpQ
  rw [if_neg (Rat.not_lt.2 (Rat.le_of_lt h1)), if_neg (fun h2 => Rat.lt_irrefl (h2 ▸ h1))])
theorem cmpQ_neg {a b : Rat} {r : Int} (e : r = cmpQ a b) (h : r = -1) : a < b := by
  subst h
  unfold cmpQ at e
  split at e
  · assumption
  · split at e <;> omega
theorem cmpQ_nneg {a b : Rat} {r : Int} (e : r = cmpQ a b) (h : ¬ r = -1) : ¬ a < b := fun h1 => h (by rw [e]; unfold cmpQ; rw [if_pos h1])
section
variable {α : Type} {f : α → CV} {l : List α} {i : Nat} {x : α} {C : Prop} {q : Bool}
theorem shp_snoc (h : allShp ((l.take i).map f)) (hx : l[i]? = some x) (hs : (f x).shp i) : allShp ((l.take (i + 1)).map f) := by
  intro j y hj
  rw [List.take_add_one, hx, Option.toList_some, List.map_append, List.map_singleton] at hj
  have hlen : ((l.take i).map f).length = i := by
    have := (List.getElem?_eq_some_iff.1 hx).1
    simp; omega
  rcases Nat.lt_trichotomy j i with h1 | h1 | h1
  · rw [List.getElem?_append_left (by omega)] at hj; exact h j y hj
  · subst h1
    rw [List.getElem?_append_right (by omega), hlen] at hj
    simp at hj; subst hj; exact hs
  · rw [List.getElem?_eq_none (by simp at hlen ⊢; omega)] at hj; cases hj
theorem shp_at (h : allShp (l.map f)) (hx : l[i]? = some x) : (f x).shp i := h i _ (by simp [hx])
theorem shp_front (h : allShp ((l.take (i + 1)).map f)) : allShp ((l.take i).map f) := fun j y hj => h j y (by
  have hj1 : j < i := by
    have := (List.getElem?_eq_some_iff.1 hj).1
    simp at this; omega
  rw [List.getElem?_map, List.getElem?_take_of_lt hj1] at hj
  rw [List.getElem?_map, List.getElem?_take_of_lt (by omega)]; exact hj)
theorem shp_no (hx : l[i]? = some x) (hn : ¬ (f x).shp i) : false = true ↔ C ∧ allShp ((l.take (i + 1)).map f) :=
  ⟨fun h => (by cases h), fun h => absurd (h.2 i (f x) (by rw [List.getElem?_map, List.getElem?_take_of_lt (by omega), hx]; rfl)) hn⟩
theorem shp_yes (hq : q = true ↔ C ∧ allShp ((l.take i).map f)) (hx : l[i]? = some x) (hs : (f x).shp i) : q = true ↔ C ∧ allShp ((l.take (i + 1)).map f) := by
  rw [hq]
  exact ⟨fun h => ⟨h.1, shp_snoc h.2 hx hs⟩, fun h => ⟨h.1, shp_front h.2⟩⟩
theorem shp_ret (hx : l[i]? = some x) (hn : ¬ (f x).shp i) : false = true ↔ C ∧ allShp (l.map f) := ⟨fun h => (by cases h), fun h => absurd (shp_at h.2 hx) hn⟩
end
theorem uN1 {x : UE} {i : Nat} {g : Bool} (e : g = decide (frV x.p x.q < frV x.a x.b)) (h : g = true) : ¬ x.v.shp i := fun hs => hs.1 (of_decide_eq_true (e.symm.trans h))
theorem uN2 {x : UE} {i : Nat} {g : Bool} {r : Int} (e : g = decide (frV x.a x.b < frV x.p x.q)) (h : g = true) (l : r = (polyV (x.l.map ME.t)).lev) (hn : r ≠ (i : Int) + 1) : ¬ x.v.shp i := fun hs => hn (l.trans (hs.2 (of_decide_eq_true (e.symm.trans h))))
theorem uY1 {x : UE} {i : Nat} {g k : Bool} (e : g = decide (frV x.p x.q < frV x.a x.b)) (h : g = false) (e2 : k = decide (frV x.a x.b < frV x.p x.q)) (h2 : k = false) : x.v.shp i := ⟨of_decide_eq_false (e.symm.trans h), fun h3 => absurd h3 (of_decide_eq_false (e2.symm.trans h2))⟩
theorem uY2 {x : UE} {i : Nat} {g : Bool} {r : Int} (e : g = decide (frV x.p x.q < frV x.a x.b)) (h : g = false) (l : r = (polyV (x.l.map ME.t)).lev) (hn : ¬ r ≠ (i : Int) + 1) : x.v.shp i := ⟨of_decide_eq_false (e.symm.trans h), fun _ => l.symm.trans (by omega)⟩
theorem cN1 {x : CE} {i : Nat} {r : Int} (e : r = cmpQ x.lo.v x.hi.v) (h : r = 1) : ¬ x.v.shp i := fun hs => hs.1 (cmpQ_one e h)
theorem cN2 {x : CE} {i : Nat} {r s : Int} (e : r = cmpQ x.lo.v x.hi.v) (h : r = -1) (l : s = x.t.val.lev) (hn : s ≠ (i : Int) + 1) : ¬ x.v.shp i := fun hs => hn (l.trans (hs.2 (cmpQ_neg e h)))
theorem cY1 {x : CE} {i : Nat} {r : Int} (e : r = cmpQ x.lo.v x.hi.v) (h : ¬ r = 1) (h2 : ¬ r = -1) : x.v.shp i := ⟨cmpQ_none e h, fun h3 => absurd h3 (cmpQ_nneg e h2)⟩
theorem cY2 {x : CE} {i : Nat} {r s : Int} (e : r = cmpQ x.lo.v x.hi.v) (h : ¬ r = 1) (l : s = x.t.val.lev) (hn : ¬ s ≠ (i : Int) + 1) : x.v.shp i := ⟨cmpQ_none e h, fun _ => l.symm.trans (by omega)⟩
theorem allShp_nil : allShp [] := fun i x h => by cases i <;> cases h
end Go.Gx

/-
  Lists of small integers that came in, lists that grow, two polynomials in a list. No program in sight.
-/
namespace Go.Gx
open Go.RowKit
section
variable {w w' : World} {S S' G : Nat → Prop} {A : Option Addr} {n c : Nat} {xs : List Int}
end
end Go.Gx

/-
  Products of known small polynomials: what the reference of chapter 11 computes. Plain numbers; no program in sight.
-/
namespace Go.Gx
end Go.Gx

/-
  Factors of the reference, their products and decomposition. Plain numbers; no program in sight.
-/
namespace Go.Gx
end Go.Gx
namespace Go.Gx
end Go.Gx
namespace Go.Gx
end Go.Gx

/-
  Lists of arrays of three int8; what the walks of the reference want. No program in sight.
-/
namespace Go.Gx
open Go.RowKit
abbrev T3 := Int × Int × Int
section
variable {w w' : World} {S S' G : Nat → Prop} {A : Option Addr} {n c : Nat} {l : List T3}
end
end Go.Gx
namespace Go.Gx
end Go.Gx
namespace Go.Gx
end Go.Gx
