/-
  What the references hold: lists of small numbers, integers as a sign and bits, lists of these; slices that grow by append. No program in sight.
-/
import Derived.Test.YteiagkehhlpidaaVbMath
import Derived.Test.YteiagkehhlpidaaPolyMath
import Derived.Laws.AppendOwn
namespace Go.Gx
open Go.RowKit
variable {dfs : List Deferred}
def i64n (d : Nat) : Value := .int .i64 (d : Int)
/-- Small numbers, one a cell. -/
def DigR (b : Nat) (w : World) (S : Nat → Prop) (A : Option Addr) (n c : Nat) (ds : List Nat) : Prop := Rd w S A n c 1 (ds.map i64n) ∧ ∀ d ∈ ds, d < b
section
variable {b : Nat} {w w' : World} {S S' G : Nat → Prop} {A : Option Addr} {n c : Nat} {ds : List Nat}
theorem DigR.frm (h : DigR b w S A n c ds) (f : Frm G w w') (hd : ∀ b, S b → ¬ G b) : DigR b w' S A n c ds := ⟨h.1.frm f hd, h.2⟩
theorem DigR.frmB (h : DigR b w S A n c ds) (f : Frm G w w') (hd : ∀ b, b < w.heap.size → S b → ¬ G b) : DigR b w' S A n c ds := ⟨h.1.frmB f hd, h.2⟩
theorem DigR.ext (h : DigR b w S A n c ds) (f : Ext w w') : DigR b w' S A n c ds := ⟨h.1.ext f, h.2⟩
theorem DigR.sub (h : DigR b w S A n c ds) (hs : ∀ b, b < w.heap.size → S b → S' b) : DigR b w S' A n c ds := ⟨h.1.sub hs, h.2⟩
theorem DigR.low (h : DigR b w S A n c ds) : DigR b w (· < w.heap.size) A n c ds := ⟨h.1.low, h.2⟩
theorem DigR.nil : DigR b w S none 0 0 [] := ⟨Rd.nil, by simp⟩
theorem DigR.len (h : DigR b w S A n c ds) : ds.length = n := by have := h.1.1; simpa using this
theorem DigR.cap (h : DigR b w S A n c ds) : n ≤ c := h.1.2.1
theorem DigR.max (h : DigR b w S A n c ds) : c ≤ 9223372036854775807 := h.1.2.2.1
theorem DigR.lkm (h : DigR b w S A n c ds) : ds.length = n ∧ n ≤ c ∧ c ≤ 9223372036854775807 := ⟨h.len, h.cap, h.max⟩
theorem DigR.base (h : DigR b w S A n c ds) (hn : 0 < n) : ∃ b off, A = some ⟨b, off, none⟩ := h.1.base hn
theorem DigR.lt (h : DigR b w S A n c ds) (i : Nat) : ds.getD i 0 ≤ b - 1 := by
  rcases Nat.lt_or_ge i ds.length with hi | hi
  · simp only [List.getD, List.getElem?_eq_getElem hi, Option.getD_some]; have := h.2 _ (List.getElem_mem hi); omega
  · simp [List.getD, List.getElem?_eq_none hi]
theorem DigR.cell {g off : Nat} (h : DigR b w S (some ⟨g, off, none⟩) n c ds) {i : Nat} (hi : i < n) : w.cell? ⟨g, off + i, none⟩ = some (.int .i64 ((ds.getD i 0 : Nat) : Int)) := by
  refine h.1.cell ?_
  have hl : i < ds.length := by rw [h.len]; exact hi
  simp [List.getElem?_map, List.getElem?_eq_getElem hl, i64n]
theorem DigR.take {m : Nat} (h : DigR b w S A n c ds) (hm : m ≤ n) : DigR b w S A m c (ds.take m) := by
  refine ⟨?_, fun d hd => h.2 d (List.mem_of_mem_take hd)⟩
  have := h.1.take hm
  rw [Nat.mul_one, ← List.map_take] at this
  exact this
theorem DigR.of_blk {g : Nat} {t : TypeId} (h : Blk w g t (ds.map i64n)) (hS : S g) (hd : ∀ d ∈ ds, d < b) (hl : ds.length = n) (hc : n ≤ c) (hm : c ≤ CapMax) : DigR b w S (some ⟨g, 0, none⟩) n c ds :=
  ⟨Rd.of_blk h hS (by simpa using hl) hc hm, hd⟩
theorem Blk.digi {g : Nat} {t : TypeId} (h : Blk w g t (ds.map i64n)) {i : Nat} (hi : i < ds.length) : w.cell? ⟨g, i, none⟩ = some (.int .i64 ((ds.getD i 0 : Nat) : Int)) := by
  refine h.at_ ?_
  simp [List.getElem?_map, List.getElem?_eq_getElem hi, i64n]
end
/-! ### slices that grow -/
/-- The slice (A, n, c), nil or at the head of a block at or beyond B, that nothing else holds; one cell an element for k = 1. -/
def Own (w : World) (B : Nat) (e : TypeId) (k : Nat) (A : Option Addr) (n c : Nat) (cs : List Value) : Prop := w.ownsRow B e k (.slice A n c) n cs
def notIn (A : Option Addr) (b : Nat) : Prop := ∀ a, A = some a → a.block ≠ b
section
variable {w w' : World} {B : Nat} {e : TypeId} {k : Nat} {A : Option Addr} {n c : Nat} {cs : List Value}
theorem Own.nil : Own w B e k none 0 0 [] := World.ownsRow_nil w B e k
theorem Own.lt (h : Own w B e k A n c cs) : ∀ a, A = some a → B ≤ a.block ∧ a.block < w.heap.size := fun a ha => by
  subst ha
  exact World.ownsRow.lt h a.block rfl
theorem Own.ext (h : Own w B e k A n c cs) (f : Ext w w') : Own w' B e k A n c cs :=
  World.ownsRow.kept (row := none) h ⟨f.os, f.tape, f.output, f.size, fun i hi _ => f.block i hi fun g => g⟩ (by cases (Value.slice A n c).ownBlock <;> simp)
theorem Own.rd (h : Own w B e k A n c cs) : Rd w (fun b => B ≤ b) A n c k cs := by
  refine ⟨h.1, ?_⟩
  rcases h.2 with ⟨hv, rfl⟩ | ⟨g, cap, cur, hv, hb, hg, hnc, hm, _, _⟩
  · injection hv with h1 h2 h3
    subst h3
    exact ⟨Nat.le_refl _, Nat.zero_le _, fun h0 => absurd h0 (by omega)⟩
  · injection hv with h1 h2 h3
    subst h1 h3
    refine ⟨hnc, by simp only [maxLen, CapMax] at hm ⊢; omega, fun _ => ⟨g, 0, rfl, hb, (Array.getElem?_eq_some_iff.1 hg).1, fun j v hj => ?_⟩⟩
    have := World.ownsRow.cells h (g := g) rfl j v hj
    rw [addr_add] at this
    exact this
theorem Own.len (h : Own w B e k A n c cs) : cs.length = n * k := h.1
theorem Own.cap (h : Own w B e k A n c cs) : n ≤ c := h.rd.2.1
theorem Own.max (h : Own w B e k A n c cs) : c ≤ 9223372036854775807 := h.rd.2.2.1
theorem Own.lkm (h : Own w B e k A n c cs) : cs.length = n * k ∧ n ≤ c ∧ c ≤ 9223372036854775807 := ⟨h.len, h.cap, h.max⟩
theorem Own.digR {b : Nat} {ds : List Nat} (h : Own w B e 1 A n c (ds.map i64n)) (hd : ∀ d ∈ ds, d < b) : DigR b w (fun b => B ≤ b) A n c ds := ⟨h.rd, hd⟩
theorem Own.natR {ds : List Nat} (h : Own w B e 1 A n c (ds.map u32)) (hd : ∀ d ∈ ds, d < BS) : NatR w (fun b => B ≤ b) A n c ds := ⟨h.rd, hd⟩
theorem Own.low {B' : Nat} (h : Own w B e k A n c cs) (hB : B' ≤ B) : Own w B' e k A n c cs := by
  refine ⟨h.1, ?_⟩
  rcases h.2 with h1 | ⟨g, cap, cur, hv, hb, rest⟩
  · exact .inl h1
  · exact .inr ⟨g, cap, cur, hv, Nat.le_trans hB hb, rest⟩
/-- Some elements: the block itself. -/
theorem Own.open_ (h : Own w B e 1 A n c cs) (hn : 0 < n) : ∃ g sp, A = some ⟨g, 0, none⟩ ∧ B ≤ g ∧ Blk w g e (cs ++ sp) ∧ (cs ++ sp).length = c := by
  rcases h.2 with ⟨_, h0⟩ | ⟨g, cap, cur, hv, hb, hg, hnc, hm, hsz, htake⟩
  · omega
  · injection hv with h1 h2 h3
    subst h1 h3
    have e1 : cs ++ cur.toList.drop (n * 1) = cur.toList := by rw [← htake, List.take_append_drop]
    refine ⟨g, cur.toList.drop (n * 1), rfl, hb, ?_, ?_⟩
    · unfold Blk; rw [e1]; exact hg
    · rw [e1]; simp [hsz]
theorem Own.close {g : Nat} {sp : List Value} (hb : B ≤ g) (h : Blk w g e (cs ++ sp)) (hl : (cs ++ sp).length = c) (hn : cs.length = n) (hm : c ≤ CapMax) : Own w B e 1 (some ⟨g, 0, none⟩) n c cs := by
  have hnc : n ≤ c := by rw [← hl, ← hn]; simp
  refine ⟨by simpa using hn, .inr ⟨g, c, (cs ++ sp).toArray, rfl, hb, h, hnc, ?_, by simpa using hl, ?_⟩⟩
  · simp only [maxLen, CapMax] at hm ⊢; omega
  · simp [← hn]
theorem Own.whole {g : Nat} (hb : B ≤ g) (h : Blk w g e cs) (hn : cs.length = n) (hm : n ≤ CapMax) : Own w B e 1 (some ⟨g, 0, none⟩) n n cs :=
  Own.close (sp := []) hb (by rwa [List.append_nil]) (by simpa using hn) hn hm
end
/-- Where the slice lies behind an append. -/
theorem append_place {P : Program} {w w' : World} {t ty el : TypeId} {i : TypeInfo} {z : Value} {k bytes B m c g : Nat} {A : Option Addr} {a : Addr} {c' : Nat} {cs vs : List Value} (ht : P.underlying t = some (.slice el)) (hi : P.info? el = some i) (hz : i.zero = some z) (hsize : i.size = k)
    (hby : i.bytes = bytes) (hO : Own w B el k A m c cs) (hl : vs.length = 1 * k) (hnews : ∀ j u, vs[j]? = some u → w.cell? ((⟨g, 0, none⟩ : Addr).add j) = some u) (h1 : ∀ u ∈ vs, u.oneCell' = true) (hm : (m + 1) * bytes ≤ 140737488355328) (hm2 : m + 1 ≤ 9223372036854775807)
    (hr : (Builtin.append_ #[t, t] ty #[.slice A m c, .slice (some ⟨g, 0, none⟩) 1 1]).run P w = .ok (.slice (some a) (m + 1) c') w') : A = some a ∨ w.heap.size ≤ a.block := by
  subst hsize
  subst hby
  rcases hO.2 with ⟨hv, rfl⟩ | ⟨g0, cap, cur, hv, hbg, hg, hnc, hcm, hcs, htake⟩
  · injection hv with e1 e2 e3
    subst e1 e3
    have h := run_append_nil (P := P) w t ty el i z ht hi hz ⟨g, 0, none⟩ 1 1 vs hl hnews (by omega) (by omega) (by omega)
    rw [h] at hr
    injection hr with e4
    injection e4 with e5
    injection e5 with e6
    right; rw [← e6]; exact Nat.le_refl _
  · injection hv with e1 e2 e3
    subst e1 e3
    by_cases hroom : m + 1 ≤ c
    · have hfit : m * i.size + vs.length ≤ cur.size := by rw [hl, hcs, ← Nat.add_mul]; exact Nat.mul_le_mul_right _ hroom
      have h := run_append_room (P := P) w t ty el i ht hi g0 m c cur hg ⟨g, 0, none⟩ 1 1 vs hl hnews h1 hroom hfit
      rw [h] at hr
      injection hr with e4
      injection e4 with e5
      exact .inl e5
    · have holds : ∀ j u, cs[j]? = some u → w.cell? ((⟨g0, 0, none⟩ : Addr).add j) = some u := World.ownsRow.cells hO (g := g0) rfl
      have h := run_append_grow (P := P) w t ty el i z ht hi hz ⟨g0, 0, none⟩ m c cs hO.1 holds ⟨g, 0, none⟩ 1 1 vs hl hnews (by omega) (by omega) (growslice_fits (by omega) hm)
      rw [h] at hr
      injection hr with e4
      injection e4 with e5
      injection e5 with e6
      right; rw [← e6]; exact Nat.le_refl _
section
variable {P : Program} {n : Nat} {e : Nat → Value} {w : World} {K : Act → World → Prop} {Q : Exit → Act → World → Prop} {ty : TypeId} {pos : String} {af : Array Edge} {gd : Option (Nat × Bool)}
/-- append of what lies in a box, to a slice of the call's own. -/
theorem oApp {d : Nat} {s x : Operand} {t el bt : TypeId} {z : Value} {k bytes B m c g : Nat} {A : Option Addr} {cs vs : List Value} (ht : P.underlying t = some (.slice el))
    (hi : (P.info? el).map (fun i => (i.zero, i.size, i.bytes)) = some (some z, k, bytes)) (hz : z.cells.size = k) (hk : 0 < k) (hs : ev n e s = .slice A m c) (hx : ev n e x = .slice (some ⟨g, 0, none⟩) 1 1) (hO : Own w B el k A m c cs) (hb : Blk w g bt vs) (hl : vs.length = k)
    (h1 : vs.all Value.oneCell' = true) (hm : (m + 1) * bytes ≤ 140737488355328) (hm2 : m + 1 ≤ 9223372036854775807) (hB : B ≤ w.heap.size)
    (kk : ∀ A' c' w', Own w' B el k A' (m + 1) c' (cs ++ vs) → Frm (fun b => B ≤ b) w w' → (∀ G : Nat → Prop, (∀ b, G b → notIn A b) → Frm (fun b => ¬ G b) w w') → (∀ a, A' = some a → A = some a ∨ w.heap.size ≤ a.block) → K (mkA dfs n (upd e d (.slice A' (m + 1) c'))) w') :
    OpW P ⟨some d, .call { callee := .builtin .append, args := #[s, x], argTypes := #[t, t] }, ty, pos, af, gd⟩ (mkA dfs n e) w K Q := by
  obtain ⟨i, hi', hz', hsz, hby⟩ := info_parts hi
  unfold OpW
  obtain ⟨v', w', hr, h2, h3, h4⟩ := run_append_own (P := P) w B t ty el i z k bytes ht hi' hz' hsz hby hz hk (.slice A m c) m cs hO ⟨g, 0, none⟩ 1 1 vs (by simpa using hl) (fun j u hj => by rw [addr_add, Nat.zero_add]; exact hb.at_ hj) (List.all_eq_true.1 h1) (by simp only [maxLen]; omega) hm hB
  have hkeep : ∀ a, (Value.slice A m c).ownBlock = some a → B ≤ a := fun a ha => (World.ownsRow.lt hO a ha).1
  obtain ⟨A', c', rfl⟩ : ∃ A' c', v' = .slice A' (m + 1) c' := by
    rcases h2.2 with ⟨_, h0⟩ | ⟨g', cap, cur, hv, _⟩
    · omega
    · exact ⟨_, _, hv⟩
  have hF : Frm (fun b => (Value.slice A m c).ownBlock = some b) w w' := ⟨h3.os, h3.tape, h3.output, h3.size, fun i hi hg => h3.block i hi fun e => hg e.symm⟩
  have hnew : ∀ a, A' = some a → A = some a ∨ w.heap.size ≤ a.block := by
    intro a ha
    subst ha
    exact append_place ht hi' hz' hsz hby hO (by simpa using hl) (fun j u hj => by rw [addr_add, Nat.zero_add]; exact hb.at_ hj) (List.all_eq_true.1 h1) hm hm2 hr
  unfold Oper.wp execOp
  rw [eval_mkA]
  simp only [resolve, invoke, builtin, Sem.run_bind, Sem.run_pure, Result.andThen_ok, List.map_toArray, List.map_cons, List.map_nil, hs, hx, hr, Oper.upon, put_mkA]
  exact kk A' c' w' h2 (hF.mono fun b _ hb => hkeep b hb) (fun G hG => hF.mono fun b _ hb hGb => by
    cases A with
    | none => simp [Value.ownBlock] at hb
    | some a => simp [Value.ownBlock] at hb; exact hG b hGb a rfl hb) hnew
/-- The same, where the slice lies in a span: nothing else of the world is touched. -/
theorem oAppD {d : Nat} {s x : Operand} {t el bt : TypeId} {z : Value} {k bytes B U m c g : Nat} {A : Option Addr} {cs vs : List Value} (ht : P.underlying t = some (.slice el))
    (hi : (P.info? el).map (fun i => (i.zero, i.size, i.bytes)) = some (some z, k, bytes)) (hz : z.cells.size = k) (hk : 0 < k) (hs : ev n e s = .slice A m c) (hx : ev n e x = .slice (some ⟨g, 0, none⟩) 1 1) (hO : Own w B el k A m c cs) (hb : Blk w g bt vs) (hl : vs.length = k)
    (h1 : vs.all Value.oneCell' = true) (hm : (m + 1) * bytes ≤ 140737488355328) (hm2 : m + 1 ≤ 9223372036854775807) (hB : B ≤ w.heap.size) (hA : ∀ a, A = some a → B ≤ a.block ∧ a.block < U)
    (kk : ∀ A' c' w', Own w' B el k A' (m + 1) c' (cs ++ vs) → Frm (fun b => B ≤ b ∧ b < U) w w' → (∀ a, A' = some a → (B ≤ a.block ∧ a.block < U) ∨ w.heap.size ≤ a.block) → K (mkA dfs n (upd e d (.slice A' (m + 1) c'))) w') :
    OpW P ⟨some d, .call { callee := .builtin .append, args := #[s, x], argTypes := #[t, t] }, ty, pos, af, gd⟩ (mkA dfs n e) w K Q :=
  oApp ht hi hz hk hs hx hO hb hl h1 hm hm2 hB fun A' c' w' h2 _ hG hnew => kk A' c' w' h2 ((hG (fun b => ¬ (B ≤ b ∧ b < U)) fun b hb a ha he => hb (he ▸ hA a ha)).mono fun b _ hb => Decidable.not_not.1 hb) fun a ha => (hnew a ha).imp (hA a) id
end
end Go.Gx
namespace Go.Gx
variable {dfs : List Deferred}
theorem Blk.appdig {w : World} {g : Nat} {t : TypeId} {ds : List Nat} {sp : List Value} (h : Blk w g t (ds.map u32 ++ sp)) {i : Nat} (hi : i < ds.length) : w.cell? ⟨g, i, none⟩ = some (.int .u32 ((ds.getD i 0 : Nat) : Int)) := by
  refine h.at_ ?_
  rw [List.getElem?_append_left (by simpa using hi)]
  simp [List.getElem?_map, List.getElem?_eq_getElem hi, u32]
theorem app_set {ds : List Nat} {sp : List Value} {i v : Nat} (hi : i < ds.length) : (ds.map u32 ++ sp).set i (.int .u32 (v : Int)) = (ds.set i v).map u32 ++ sp := by
  rw [List.set_append_left _ _ (by simpa using hi), List.map_set]; rfl
end Go.Gx
namespace Go.Gx
variable {dfs : List Deferred}
section
variable {P : Program} {n : Nat} {e : Nat → Value} {w : World} {ty : TypeId} {pos : String} {af : Array Edge} {gd : Option (Nat × Bool)}
/-- The lowest bit. -/
theorem evAndOne {d : Option Nat} {t t' : TypeId} {x y : Operand} {a : Nat} (hx : ev n e x = .int .i64 (a : Int)) (hy : ev n e y = .int .i64 1) (ha : a ≤ 9223372036854775807) :
    Ev P n e ⟨d, .binOp .and t x y t', ty, pos, af, gd⟩ w (.int .i64 ((a % 2 : Nat) : Int)) := by
  have e1 : (Op.intBits .and .i64 (a : Int) 1) = pure (.int .i64 (IntKind.i64.wrap ((BitVec.ofInt 64 (a : Int) &&& BitVec.ofInt 64 1).toNat : Int))) := rfl
  have e2 : (BitVec.ofInt 64 (a : Int) &&& BitVec.ofInt 64 1).toNat = a % 2 := by
    have h1 : BitVec.ofInt 64 (a : Int) = BitVec.ofNat 64 a := by simp
    have h2 : BitVec.ofInt 64 1 = BitVec.ofNat 64 1 := by decide
    rw [h1, h2, BitVec.toNat_and, BitVec.toNat_ofNat, BitVec.toNat_ofNat, Nat.mod_eq_of_lt (by omega)]
    exact Nat.and_one_is_mod a
  rw [e2, wI64 (z := ((a % 2 : Nat) : Int)) ⟨rfl, by omega, by omega⟩] at e1
  simp only [Ev, execOp, hx, hy, eqGuard, binOp, e1]
  simp
end
end Go.Gx
