/-
  The laws of the walks and the plain laws of numbers and polynomials, part 2: RefPreds, Laws3, DivMath, DivMath2, SqMath, SqPreds, RatMath, EvMath, SqMath2, Det, Subres, EndMath, InvMath, QPoly, Gauss, CountMath, Norm, Bound, GcdMath, GcdPreds, ValMath, SqfMath, QuoMath, YunMath, FacPreds.
-/
import Derived.Test.YtbniolgfaeiedaaGreatLibA
import Derived.Laws.AppendOwn
import Derived.Laws.Strings
import Derived.Scope
/-
  What the references hold: lists of small numbers, integers as a sign and bits, lists of these; slices that grow by append. No program in sight.
-/
namespace Go.Gx
open Go.RowKit
variable {dfs : List Deferred}
def i64n (d : Nat) : Value := .int .i64 (d : Int)
/-- Small numbers, one a cell. -/
def DigR (b : Nat) (w : World) (S : Nat → Prop) (A : Option Addr) (n c : Nat) (ds : List Nat) : Prop := Rd w S A n c 1 (ds.map i64n) ∧ ∀ d ∈ ds, d < b
section
variable {b : Nat} {w w' : World} {S S' G : Nat → Prop} {A : Option Addr} {n c : Nat} {ds : List Nat}
theorem DigR.frm (h : DigR b w S A n c ds) (f : Frm G w w') (hd : ∀ b, S b → ¬ G b) : DigR b w' S A n c ds := ⟨h.1.frm f hd, h.2⟩
theorem DigR.frmB (h : DigR b w S A n c ds) (f : Frm G w w') (hd : ∀ b, b < w.heap.size → S b → ¬ G b) : DigR b w' S A n c ds := ⟨h.1.frmB f hd, h.2⟩
theorem DigR.ext (h : DigR b w S A n c ds) (f : Ext w w') : DigR b w' S A n c ds := ⟨h.1.ext f, h.2⟩
theorem DigR.sub (h : DigR b w S A n c ds) (hs : ∀ b, b < w.heap.size → S b → S' b) : DigR b w S' A n c ds := ⟨h.1.sub hs, h.2⟩
theorem DigR.low (h : DigR b w S A n c ds) : DigR b w (· < w.heap.size) A n c ds := ⟨h.1.low, h.2⟩
theorem DigR.nil : DigR b w S none 0 0 [] := ⟨Rd.nil, by simp⟩
theorem DigR.len (h : DigR b w S A n c ds) : ds.length = n := by have := h.1.1; simpa using this
theorem DigR.cap (h : DigR b w S A n c ds) : n ≤ c := h.1.2.1
theorem DigR.max (h : DigR b w S A n c ds) : c ≤ 9223372036854775807 := h.1.2.2.1
theorem DigR.lkm (h : DigR b w S A n c ds) : ds.length = n ∧ n ≤ c ∧ c ≤ 9223372036854775807 := ⟨h.len, h.cap, h.max⟩
theorem DigR.base (h : DigR b w S A n c ds) (hn : 0 < n) : ∃ b off, A = some ⟨b, off, none⟩ := h.1.base hn
theorem DigR.lt (h : DigR b w S A n c ds) (i : Nat) : ds.getD i 0 ≤ b - 1 := by
  rcases Nat.lt_or_ge i ds.length with hi | hi
  · simp only [List.getD, List.getElem?_eq_getElem hi, Option.getD_some]; have := h.2 _ (List.getElem_mem hi); omega
  · simp [List.getD, List.getElem?_eq_none hi]
theorem DigR.cell {g off : Nat} (h : DigR b w S (some ⟨g, off, none⟩) n c ds) {i : Nat} (hi : i < n) : w.cell? ⟨g, off + i, none⟩ = some (.int .i64 ((ds.getD i 0 : Nat) : Int)) := by
  refine h.1.cell ?_
  have hl : i < ds.length := by rw [h.len]; exact hi
  simp [List.getElem?_map, List.getElem?_eq_getElem hl, i64n]
theorem DigR.take {m : Nat} (h : DigR b w S A n c ds) (hm : m ≤ n) : DigR b w S A m c (ds.take m) := by
  refine ⟨?_, fun d hd => h.2 d (List.mem_of_mem_take hd)⟩
  have := h.1.take hm
  rw [Nat.mul_one, ← List.map_take] at this
  exact this
theorem DigR.of_blk {g : Nat} {t : TypeId} (h : Blk w g t (ds.map i64n)) (hS : S g) (hd : ∀ d ∈ ds, d < b) (hl : ds.length = n) (hc : n ≤ c) (hm : c ≤ CapMax) : DigR b w S (some ⟨g, 0, none⟩) n c ds :=
  ⟨Rd.of_blk h hS (by simpa using hl) hc hm, hd⟩
theorem Blk.digi {g : Nat} {t : TypeId} (h : Blk w g t (ds.map i64n)) {i : Nat} (hi : i < ds.length) : w.cell? ⟨g, i, none⟩ = some (.int .i64 ((ds.getD i 0 : Nat) : Int)) := by
  refine h.at_ ?_
  simp [List.getElem?_map, List.getElem?_eq_getElem hi, i64n]
end
/-! ### slices that grow -/
/-- The slice (A, n, c), nil or at the head of a block at or beyond B, that nothing else holds; one cell an element for k = 1. -/
def Own (w : World) (B : Nat) (e : TypeId) (k : Nat) (A : Option Addr) (n c : Nat) (cs : List Value) : Prop := w.ownsRow B e k (.slice A n c) n cs
def notIn (A : Option Addr) (b : Nat) : Prop := ∀ a, A = some a → a.block ≠ b
section
variable {w w' : World} {B : Nat} {e : TypeId} {k : Nat} {A : Option Addr} {n c : Nat} {cs : List Value}
theorem Own.nil : Own w B e k none 0 0 [] := World.ownsRow_nil w B e k
theorem Own.lt (h : Own w B e k A n c cs) : ∀ a, A = some a → B ≤ a.block ∧ a.block < w.heap.size := fun a ha => by
  subst ha
  exact World.ownsRow.lt h a.block rfl
theorem Own.ext (h : Own w B e k A n c cs) (f : Ext w w') : Own w' B e k A n c cs :=
  World.ownsRow.kept (row := none) h ⟨f.os, f.tape, f.output, f.size, fun i hi _ => f.block i hi fun g => g⟩ (by cases (Value.slice A n c).ownBlock <;> simp)
theorem Own.rd (h : Own w B e k A n c cs) : Rd w (fun b => B ≤ b) A n c k cs := by
  refine ⟨h.1, ?_⟩
  rcases h.2 with ⟨hv, rfl⟩ | ⟨g, cap, cur, hv, hb, hg, hnc, hm, _, _⟩
  · injection hv with h1 h2 h3
    subst h3
    exact ⟨Nat.le_refl _, Nat.zero_le _, fun h0 => absurd h0 (by omega)⟩
  · injection hv with h1 h2 h3
    subst h1 h3
    refine ⟨hnc, by simp only [maxLen, CapMax] at hm ⊢; omega, fun _ => ⟨g, 0, rfl, hb, (Array.getElem?_eq_some_iff.1 hg).1, fun j v hj => ?_⟩⟩
    have := World.ownsRow.cells h (g := g) rfl j v hj
    rw [addr_add] at this
    exact this
theorem Own.len (h : Own w B e k A n c cs) : cs.length = n * k := h.1
theorem Own.cap (h : Own w B e k A n c cs) : n ≤ c := h.rd.2.1
theorem Own.max (h : Own w B e k A n c cs) : c ≤ 9223372036854775807 := h.rd.2.2.1
theorem Own.lkm (h : Own w B e k A n c cs) : cs.length = n * k ∧ n ≤ c ∧ c ≤ 9223372036854775807 := ⟨h.len, h.cap, h.max⟩
theorem Own.digR {b : Nat} {ds : List Nat} (h : Own w B e 1 A n c (ds.map i64n)) (hd : ∀ d ∈ ds, d < b) : DigR b w (fun b => B ≤ b) A n c ds := ⟨h.rd, hd⟩
theorem Own.natR {ds : List Nat} (h : Own w B e 1 A n c (ds.map u32)) (hd : ∀ d ∈ ds, d < BS) : NatR w (fun b => B ≤ b) A n c ds := ⟨h.rd, hd⟩
theorem Own.low {B' : Nat} (h : Own w B e k A n c cs) (hB : B' ≤ B) : Own w B' e k A n c cs := by
  refine ⟨h.1, ?_⟩
  rcases h.2 with h1 | ⟨g, cap, cur, hv, hb, rest⟩
  · exact .inl h1
  · exact .inr ⟨g, cap, cur, hv, Nat.le_trans hB hb, rest⟩
/-- Some elements: the block itself. -/
theorem Own.open_ (h : Own w B e 1 A n c cs) (hn : 0 < n) : ∃ g sp, A = some ⟨g, 0, none⟩ ∧ B ≤ g ∧ Blk w g e (cs ++ sp) ∧ (cs ++ sp).length = c := by
  rcases h.2 with ⟨_, h0⟩ | ⟨g, cap, cur, hv, hb, hg, hnc, hm, hsz, htake⟩
  · omega
  · injection hv with h1 h2 h3
    subst h1 h3
    have e1 : cs ++ cur.toList.drop (n * 1) = cur.toList := by rw [← htake, List.take_append_drop]
    refine ⟨g, cur.toList.drop (n * 1), rfl, hb, ?_, ?_⟩
    · unfold Blk; rw [e1]; exact hg
    · rw [e1]; simp [hsz]
theorem Own.close {g : Nat} {sp : List Value} (hb : B ≤ g) (h : Blk w g e (cs ++ sp)) (hl : (cs ++ sp).length = c) (hn : cs.length = n) (hm : c ≤ CapMax) : Own w B e 1 (some ⟨g, 0, none⟩) n c cs := by
  have hnc : n ≤ c := by rw [← hl, ← hn]; simp
  refine ⟨by simpa using hn, .inr ⟨g, c, (cs ++ sp).toArray, rfl, hb, h, hnc, ?_, by simpa using hl, ?_⟩⟩
  · simp only [maxLen, CapMax] at hm ⊢; omega
  · simp [← hn]
theorem Own.whole {g : Nat} (hb : B ≤ g) (h : Blk w g e cs) (hn : cs.length = n) (hm : n ≤ CapMax) : Own w B e 1 (some ⟨g, 0, none⟩) n n cs :=
  Own.close (sp := []) hb (by rwa [List.append_nil]) (by simpa using hn) hn hm
end
/-- Where the slice lies behind an append. -/
theorem append_place {P : Program} {w w' : World} {t ty el : TypeId} {i : TypeInfo} {z : Value} {k bytes B m c g : Nat} {A : Option Addr} {a : Addr} {c' : Nat} {cs vs : List Value} (ht : P.underlying t = some (.slice el)) (hi : P.info? el = some i) (hz : i.zero = some z) (hsize : i.size = k)
    (hby : i.bytes = bytes) (hO : Own w B el k A m c cs) (hl : vs.length = 1 * k) (hnews : ∀ j u, vs[j]? = some u → w.cell? ((⟨g, 0, none⟩ : Addr).add j) = some u) (h1 : ∀ u ∈ vs, u.oneCell' = true) (hm : (m + 1) * bytes ≤ 140737488355328) (hm2 : m + 1 ≤ 9223372036854775807)
    (hr : (Builtin.append_ #[t, t] ty #[.slice A m c, .slice (some ⟨g, 0, none⟩) 1 1]).run P w = .ok (.slice (some a) (m + 1) c') w') : A = some a ∨ w.heap.size ≤ a.block := by
  subst hsize
  subst hby
  rcases hO.2 with ⟨hv, rfl⟩ | ⟨g0, cap, cur, hv, hbg, hg, hnc, hcm, hcs, htake⟩
  · injection hv with e1 e2 e3
    subst e1 e3
    have h := run_append_nil (P := P) w t ty el i z ht hi hz ⟨g, 0, none⟩ 1 1 vs hl hnews (by omega) (by omega) (by omega)
    rw [h] at hr
    injection hr with e4
    injection e4 with e5
    injection e5 with e6
    right; rw [← e6]; exact Nat.le_refl _
  · injection hv with e1 e2 e3
    subst e1 e3
    by_cases hroom : m + 1 ≤ c
    · have hfit : m * i.size + vs.length ≤ cur.size := by rw [hl, hcs, ← Nat.add_mul]; exact Nat.mul_le_mul_right _ hroom
      have h := run_append_room (P := P) w t ty el i ht hi g0 m c cur hg ⟨g, 0, none⟩ 1 1 vs hl hnews h1 hroom hfit
      rw [h] at hr
      injection hr with e4
      injection e4 with e5
      exact .inl e5
    · have holds : ∀ j u, cs[j]? = some u → w.cell? ((⟨g0, 0, none⟩ : Addr).add j) = some u := World.ownsRow.cells hO (g := g0) rfl
      have h := run_append_grow (P := P) w t ty el i z ht hi hz ⟨g0, 0, none⟩ m c cs hO.1 holds ⟨g, 0, none⟩ 1 1 vs hl hnews (by omega) (by omega) (growslice_fits (by omega) hm)
      rw [h] at hr
      injection hr with e4
      injection e4 with e5
      injection e5 with e6
      right; rw [← e6]; exact Nat.le_refl _
section
variable {P : Program} {n : Nat} {e : Nat → Value} {w : World} {K : Act → World → Prop} {Q : Exit → Act → World → Prop} {ty : TypeId} {pos : String} {af : Array Edge} {gd : Option (Nat × Bool)}
/-- append of what lies in a box, to a slice of the call's own. -/
theorem oApp {d : Nat} {s x : Operand} {t el bt : TypeId} {z : Value} {k bytes B m c g : Nat} {A : Option Addr} {cs vs : List Value} (ht : P.underlying t = some (.slice el))
    (hi : (P.info? el).map (fun i => (i.zero, i.size, i.bytes)) = some (some z, k, bytes)) (hz : z.cells.size = k) (hk : 0 < k) (hs : ev n e s = .slice A m c) (hx : ev n e x = .slice (some ⟨g, 0, none⟩) 1 1) (hO : Own w B el k A m c cs) (hb : Blk w g bt vs) (hl : vs.length = k)
    (h1 : vs.all Value.oneCell' = true) (hm : (m + 1) * bytes ≤ 140737488355328) (hm2 : m + 1 ≤ 9223372036854775807) (hB : B ≤ w.heap.size)
    (kk : ∀ A' c' w', Own w' B el k A' (m + 1) c' (cs ++ vs) → Frm (fun b => B ≤ b) w w' → (∀ G : Nat → Prop, (∀ b, G b → notIn A b) → Frm (fun b => ¬ G b) w w') → (∀ a, A' = some a → A = some a ∨ w.heap.size ≤ a.block) → K (mkA dfs n (upd e d (.slice A' (m + 1) c'))) w') :
    OpW P ⟨some d, .call { callee := .builtin .append, args := #[s, x], argTypes := #[t, t] }, ty, pos, af, gd⟩ (mkA dfs n e) w K Q := by
  obtain ⟨i, hi', hz', hsz, hby⟩ := info_parts hi
  unfold OpW
  obtain ⟨v', w', hr, h2, h3, h4⟩ := run_append_own (P := P) w B t ty el i z k bytes ht hi' hz' hsz hby hz hk (.slice A m c) m cs hO ⟨g, 0, none⟩ 1 1 vs (by simpa using hl) (fun j u hj => by rw [addr_add, Nat.zero_add]; exact hb.at_ hj) (List.all_eq_true.1 h1) (by simp only [maxLen]; omega) hm hB
  have hkeep : ∀ a, (Value.slice A m c).ownBlock = some a → B ≤ a := fun a ha => (World.ownsRow.lt hO a ha).1
  obtain ⟨A', c', rfl⟩ : ∃ A' c', v' = .slice A' (m + 1) c' := by
    rcases h2.2 with ⟨_, h0⟩ | ⟨g', cap, cur, hv, _⟩
    · omega
    · exact ⟨_, _, hv⟩
  have hF : Frm (fun b => (Value.slice A m c).ownBlock = some b) w w' := ⟨h3.os, h3.tape, h3.output, h3.size, append_drawn ht hi' hz' hsz hby hO (by simpa using hl) (fun j u hj => by rw [addr_add, Nat.zero_add]; exact hb.at_ hj) (List.all_eq_true.1 h1) hm2 hm hr, fun i hi hg => h3.block i hi fun e => hg e.symm⟩
  have hnew : ∀ a, A' = some a → A = some a ∨ w.heap.size ≤ a.block := by
    intro a ha
    subst ha
    exact append_place ht hi' hz' hsz hby hO (by simpa using hl) (fun j u hj => by rw [addr_add, Nat.zero_add]; exact hb.at_ hj) (List.all_eq_true.1 h1) hm hm2 hr
  unfold Oper.wp execOp
  rw [eval_mkA]
  simp only [resolve, invoke, builtin, Sem.run_bind, Sem.run_pure, Result.andThen_ok, List.map_toArray, List.map_cons, List.map_nil, hs, hx, hr, Oper.upon, put_mkA]
  exact kk A' c' w' h2 (hF.mono fun b _ hb => hkeep b hb) (fun G hG => hF.mono fun b _ hb hGb => by
    cases A with
    | none => simp [Value.ownBlock] at hb
    | some a => simp [Value.ownBlock] at hb; exact hG b hGb a rfl hb) hnew
/-- The same, where the slice lies in a span: nothing else of the world is touched. -/
theorem oAppD {d : Nat} {s x : Operand} {t el bt : TypeId} {z : Value} {k bytes B U m c g : Nat} {A : Option Addr} {cs vs : List Value} (ht : P.underlying t = some (.slice el))
    (hi : (P.info? el).map (fun i => (i.zero, i.size, i.bytes)) = some (some z, k, bytes)) (hz : z.cells.size = k) (hk : 0 < k) (hs : ev n e s = .slice A m c) (hx : ev n e x = .slice (some ⟨g, 0, none⟩) 1 1) (hO : Own w B el k A m c cs) (hb : Blk w g bt vs) (hl : vs.length = k)
    (h1 : vs.all Value.oneCell' = true) (hm : (m + 1) * bytes ≤ 140737488355328) (hm2 : m + 1 ≤ 9223372036854775807) (hB : B ≤ w.heap.size) (hA : ∀ a, A = some a → B ≤ a.block ∧ a.block < U)
    (kk : ∀ A' c' w', Own w' B el k A' (m + 1) c' (cs ++ vs) → Frm (fun b => B ≤ b ∧ b < U) w w' → (∀ a, A' = some a → (B ≤ a.block ∧ a.block < U) ∨ w.heap.size ≤ a.block) → K (mkA dfs n (upd e d (.slice A' (m + 1) c'))) w') :
    OpW P ⟨some d, .call { callee := .builtin .append, args := #[s, x], argTypes := #[t, t] }, ty, pos, af, gd⟩ (mkA dfs n e) w K Q :=
  oApp ht hi hz hk hs hx hO hb hl h1 hm hm2 hB fun A' c' w' h2 _ hG hnew => kk A' c' w' h2 ((hG (fun b => ¬ (B ≤ b ∧ b < U)) fun b hb a ha he => hb (he ▸ hA a ha)).mono fun b _ hb => Decidable.not_not.1 hb) fun a ha => (hnew a ha).imp (hA a) id
end
end Go.Gx
namespace Go.Gx
variable {dfs : List Deferred}
theorem Blk.appdig {w : World} {g : Nat} {t : TypeId} {ds : List Nat} {sp : List Value} (h : Blk w g t (ds.map u32 ++ sp)) {i : Nat} (hi : i < ds.length) : w.cell? ⟨g, i, none⟩ = some (.int .u32 ((ds.getD i 0 : Nat) : Int)) := by
  refine h.at_ ?_
  rw [List.getElem?_append_left (by simpa using hi)]
  simp [List.getElem?_map, List.getElem?_eq_getElem hi, u32]
theorem app_set {ds : List Nat} {sp : List Value} {i v : Nat} (hi : i < ds.length) : (ds.map u32 ++ sp).set i (.int .u32 (v : Int)) = (ds.set i v).map u32 ++ sp := by
  rw [List.set_append_left _ _ (by simpa using hi), List.map_set]; rfl
end Go.Gx
namespace Go.Gx
variable {dfs : List Deferred}
section
variable {P : Program} {n : Nat} {e : Nat → Value} {w : World} {ty : TypeId} {pos : String} {af : Array Edge} {gd : Option (Nat × Bool)}
/-- The lowest bit. -/
theorem evAndOne {d : Option Nat} {t t' : TypeId} {x y : Operand} {a : Nat} (hx : ev n e x = .int .i64 (a : Int)) (hy : ev n e y = .int .i64 1) (ha : a ≤ 9223372036854775807) :
    Ev P n e ⟨d, .binOp .and t x y t', ty, pos, af, gd⟩ w (.int .i64 ((a % 2 : Nat) : Int)) := by
  have e1 : (Op.intBits .and .i64 (a : Int) 1) = pure (.int .i64 (IntKind.i64.wrap ((BitVec.ofInt 64 (a : Int) &&& BitVec.ofInt 64 1).toNat : Int))) := rfl
  have e2 : (BitVec.ofInt 64 (a : Int) &&& BitVec.ofInt 64 1).toNat = a % 2 := by
    have h1 : BitVec.ofInt 64 (a : Int) = BitVec.ofNat 64 a := by simp
    have h2 : BitVec.ofInt 64 1 = BitVec.ofNat 64 1 := by decide
    rw [h1, h2, BitVec.toNat_and, BitVec.toNat_ofNat, BitVec.toNat_ofNat, Nat.mod_eq_of_lt (by omega)]
    exact Nat.and_one_is_mod a
  rw [e2, wI64 (z := ((a % 2 : Nat) : Int)) ⟨rfl, by omega, by omega⟩] at e1
  simp only [Ev, execOp, hx, hy, eqGuard, binOp, e1]
  simp
end
end Go.Gx

/-
  More laws for walks: bits of words, tables in strings. No program in sight.
-/
namespace Go.Gx
open Go.RowKit
/-- The number of bits of a number below 256. -/
def bl8 (x : Nat) : Nat := if x = 0 then 0 else if x < 2 then 1 else if x < 4 then 2 else if x < 8 then 3 else if x < 16 then 4 else if x < 32 then 5 else if x < 64 then 6 else if x < 128 then 7 else 8
def tabB (s : ByteArray) : Bool := s.size == 256 && (List.range 256).all fun i => (s.data.getD i 0).toNat == bl8 i
section
variable {P : Program} {n : Nat} {e : Nat → Value} {w : World} {ty : TypeId} {pos : String} {af : Array Edge} {gd : Option (Nat × Bool)}
theorem evTab {d : Option Nat} {t : TypeId} {x y : Operand} {s : ByteArray} {k : IntKind} {z : Int} (i : Nat) (ht : P.underlying t = some .string) (hx : ev n e x = .string s) (hs : tabB s = true) (hy : ev n e y = .int k z) (hz : z = (i : Int)) (hi : i < 256) :
    Ev P n e ⟨d, .index t x y, ty, pos, af, gd⟩ w (.int .u8 ((bl8 i : Nat) : Int)) := by
  unfold tabB at hs
  simp only [Bool.and_eq_true, beq_iff_eq, List.all_eq_true, List.mem_range] at hs
  have h1 := hs.2 i hi
  have hlt : i < s.size := by rw [hs.1]; exact hi
  have h2 : (s[i]'hlt).toNat = bl8 i := by
    rw [← h1]
    show (s.data[i]'hlt).toNat = _
    have : i < s.data.size := hlt
    have e0 : s.data.getD i 0 = s.data[i] := by unfold Array.getD; rw [dif_pos this]; rfl
    rw [e0]
  have hr := run_index_string (P := P) w t s k z ht
  rw [dif_pos ⟨by omega, by rw [hz]; exact_mod_cast hlt⟩] at hr
  have e3 : z.toNat = i := by omega
  simp only [Ev, execOp, hx, hy, hr, Sem.run_bind, Result.andThen_ok]
  subst hz
  simp [h2]
theorem or_nat (a b s : Nat) (hb : b < 2 ^ s) : 2 ^ s * a ||| b = 2 ^ s * a + b := (Nat.two_pow_add_eq_or_of_lt hb a).symm
theorem evOr64 {d : Option Nat} {t t' : TypeId} {x y : Operand} {a b c : Nat} (hx : ev n e x = .int .u64 (a : Int)) (hy : ev n e y = .int .u64 (b : Int)) (ha : a < 18446744073709551616) (hb : b < 18446744073709551616) (hc : a ||| b = c) :
    Ev P n e ⟨d, .binOp .or t x y t', ty, pos, af, gd⟩ w (.int .u64 (c : Int)) := by
  have e1 : (Op.intBits .or .u64 (a : Int) (b : Int)) = pure (.int .u64 (IntKind.u64.wrap ((BitVec.ofInt 64 (a : Int) ||| BitVec.ofInt 64 (b : Int)).toNat : Int))) := rfl
  have e2 : (BitVec.ofInt 64 (a : Int) ||| BitVec.ofInt 64 (b : Int)).toNat = c := by
    have h1 : BitVec.ofInt 64 (a : Int) = BitVec.ofNat 64 a := by simp
    have h2 : BitVec.ofInt 64 (b : Int) = BitVec.ofNat 64 b := by simp
    rw [h1, h2, BitVec.toNat_or, BitVec.toNat_ofNat, BitVec.toNat_ofNat, Nat.mod_eq_of_lt ha, Nat.mod_eq_of_lt hb, hc]
  have hlt : c < 18446744073709551616 := by rw [← e2]; exact BitVec.isLt _
  rw [e2, wU64 (z := (c : Int)) ⟨rfl, by omega, by omega⟩] at e1
  simp only [Ev, execOp, hx, hy, eqGuard, binOp, e1]
  simp
theorem evOr32n {d : Option Nat} {t t' : TypeId} {x y : Operand} {a b c : Nat} (hx : ev n e x = .int .u32 (a : Int)) (hy : ev n e y = .int .u32 (b : Int)) (ha : a < 4294967296) (hb : b < 4294967296) (hc : a ||| b = c) :
    Ev P n e ⟨d, .binOp .or t x y t', ty, pos, af, gd⟩ w (.int .u32 (c : Int)) := by
  have h := evOr32 (P := P) (w := w) (d := d) (t := t) (t' := t') (ty := ty) (pos := pos) (af := af) (gd := gd) hx hy
  have e2 : (BitVec.ofNat 32 a ||| BitVec.ofNat 32 b).toNat = c := by
    rw [BitVec.toNat_or, BitVec.toNat_ofNat, BitVec.toNat_ofNat, Nat.mod_eq_of_lt ha, Nat.mod_eq_of_lt hb, hc]
  rw [e2] at h
  exact h
end
theorem shlE64u {a b : Int} {x s : Nat} (ha : a = (x : Int)) (hb : b = (s : Int)) (hs : s ≤ 64) (hx : x * 2 ^ s < 18446744073709551616) : IntKind.u64.wrap (a * 2 ^ (min b.toNat IntKind.u64.bits)) = ((x * 2 ^ s : Nat) : Int) := by
  subst ha hb
  have e : min (s : Int).toNat IntKind.u64.bits = s := by rw [Int.toNat_natCast]; exact Nat.min_eq_left hs
  rw [e]
  exact wU64 ⟨by simp, by omega, by omega⟩
end Go.Gx
namespace Go.Gx
section
variable {Q : Exit → Act → World → Prop} {a : Act} {w : World}
theorem nN (h : Q .normal a w) : Exit.noGoto Q .normal a w := h
theorem nR (h : Q .ret a w) : Exit.noGoto Q .ret a w := h
theorem nE {id : Nat} (h : Q (.exit id) a w) : Exit.noGoto Q (.exit id) a w := h
end
end Go.Gx
namespace Go.Gx
section
variable {P : Program} {n : Nat} {e : Nat → Value} {w : World} {ty : TypeId} {pos : String} {af : Array Edge} {gd : Option (Nat × Bool)}
/-- s[l:h] of a slice whose place is known. -/
theorem evSliceLH {d : Option Nat} {t el : TypeId} {x y y2 : Operand} {g off len cap size : Nat} {k k2 : IntKind} {z z2 : Int} (l h : Nat) (ht : P.underlying t = some (.slice el)) (hs : ∀ w, (sizeOf el).run P w = .ok size w)
    (hx : ev n e x = .slice (some ⟨g, off, none⟩) len cap) (hy : ev n e y = .int k z) (hy2 : ev n e y2 = .int k2 z2) (hz : z = (l : Int)) (hz2 : z2 = (h : Int)) (h1 : l ≤ h) (h2 : h ≤ cap) (h3 : l < cap) (p : Nat) (hp : off + l * size = p) :
    Ev P n e ⟨d, .slice t x (some y) (some y2) none, ty, pos, af, gd⟩ w (.slice (some ⟨g, p, none⟩) (h - l) (cap - l)) := by
  have := evSlice (P := P) (w := w) (d := d) (ty := ty) (pos := pos) (af := af) (gd := gd) l h ht hs hx (lo := some y) (hi := some y2) ⟨k, z, hy, hz⟩ ⟨k2, z2, hy2, hz2⟩ h1 h2
  rw [if_neg (by omega)] at this
  simp only [Option.map_some, addr_add, hp] at this
  exact this
end
end Go.Gx

/-
  Division of digits. Plain numbers; no program in sight.
-/
namespace Go.Gx
theorem wU8 {x z : Int} (h : x = z ∧ 0 ≤ z ∧ z < 256) : IntKind.u8.wrap x = z := by
  obtain ⟨rfl, h1, h2⟩ := h
  simp only [IntKind.wrap, IntKind.bits, IntKind.signed]
  simp
  omega
theorem div32_lt {x y z : Nat} (h : x < z) (hy : y < 4294967296) : (x * 4294967296 + y) / z < 4294967296 := by
  refine Nat.div_lt_of_lt_mul ?_
  have : (x + 1) * 4294967296 ≤ z * 4294967296 := Nat.mul_le_mul_right _ h
  omega
theorem div32_e {X z q m : Nat} (hz : 0 < z) (hzz : z < 4294967296) (hq : X / z < 4294967296) (eq : q = X / z % 4294967296) (em : m = X % z % 4294967296) : q * z + m = X ∧ m < z := by
  have h1 := Nat.mod_lt X hz
  rw [Nat.mod_eq_of_lt hq] at eq
  rw [Nat.mod_eq_of_lt (by omega)] at em
  subst eq em
  refine ⟨?_, h1⟩
  have := Nat.div_add_mod X z
  rw [Nat.mul_comm] at this
  exact this
theorem bl8_spec {x : Nat} (h : x < 256) : x < 2 ^ bl8 x ∧ (x = 0 ∨ 2 ^ (bl8 x - 1) ≤ x) ∧ bl8 x ≤ 8 ∧ (x = 0 ∨ 1 ≤ bl8 x) := by
  unfold bl8
  repeat' split
  all_goals simp
  all_goals omega
theorem len_sh {x s y n : Nat} (hy : y = x / 2 ^ s) (hlt : y < 256) (h0 : s = 0 ∨ y ≠ 0) (hn : n = s + bl8 y) : x < 2 ^ n ∧ (x = 0 ∨ 2 ^ (n - 1) ≤ x) ∧ n ≤ s + 8 := by
  obtain ⟨h1, h2, h3, h4⟩ := bl8_spec hlt
  subst hn
  refine ⟨?_, ?_, by omega⟩
  · rw [Nat.pow_add]
    have : x / 2 ^ s < 2 ^ bl8 y := by rw [← hy]; exact h1
    have h5 := (Nat.div_lt_iff_lt_mul (Nat.pow_pos (by decide))).1 this
    rw [Nat.mul_comm]
    exact h5
  · rcases h2 with h2 | h2
    · rcases h0 with h0 | h0
      · subst h0
        left
        rw [h2] at hy
        simpa using hy.symm
      · exact absurd h2 h0
    · right
      have hb : 1 ≤ bl8 y := by
        rcases h4 with h4 | h4
        · rw [h4] at h2; simp [bl8] at h2
        · exact h4
      have e : 2 ^ (s + bl8 y - 1) = 2 ^ (bl8 y - 1) * 2 ^ s := by rw [← Nat.pow_add]; congr 1; omega
      rw [e]
      have h5 : 2 ^ (bl8 y - 1) ≤ x / 2 ^ s := by rw [← hy]; exact h2
      exact (Nat.le_div_iff_mul_le (Nat.pow_pos (by decide))).1 h5
theorem lead_zeros {x n r : Nat} (h0 : x ≠ 0) (h1 : x < 2 ^ n) (h2 : x = 0 ∨ 2 ^ (n - 1) ≤ x) (h3 : n ≤ 32) (hr : r = 32 - n) : x * 2 ^ r < 4294967296 ∧ 2147483648 ≤ x * 2 ^ r ∧ r ≤ 31 := by
  have hn : 1 ≤ n := by
    rcases Nat.eq_zero_or_pos n with h | h
    · subst h; simp at h1; omega
    · exact h
  have h4 : 2 ^ (n - 1) ≤ x := by rcases h2 with h | h; exact absurd h h0; exact h
  have e1 : (4294967296 : Nat) = 2 ^ n * 2 ^ r := by rw [← Nat.pow_add, hr, show n + (32 - n) = 32 by omega]
  have e2 : (2147483648 : Nat) = 2 ^ (n - 1) * 2 ^ r := by rw [← Nat.pow_add, hr, show n - 1 + (32 - n) = 31 by omega]
  refine ⟨?_, ?_, by omega⟩
  · rw [e1]; exact Nat.mul_lt_mul_of_pos_right h1 (Nat.pow_pos (by decide))
  · rw [e2]; exact Nat.mul_le_mul_right _ h4
theorem val2 {d : List Nat} {n : Nat} (hl : d.length = n) : (n = 0 → val d = 0) ∧ (n = 1 → val d = d.getD 0 0) ∧ (n = 2 → val d = d.getD 1 0 * 4294967296 + d.getD 0 0) := by
  match d, hl with
  | [], h => simp at h; subst h; simp [val]
  | [a], h => simp at h; subst h; simp [val]
  | [a, b], h => simp at h; subst h; simp [val, BS]; omega
  | a :: b :: c :: d, h => simp at h; refine ⟨by omega, by omega, by omega⟩
theorem drop_val {a : List Nat} {k : Nat} (hk : 0 < k) (hl : k ≤ a.length) : val (a.drop (k - 1)) = a.getD (k - 1) 0 + 4294967296 * val (a.drop k) := by
  rw [List.drop_eq_getElem_cons (show k - 1 < a.length by omega), show k - 1 + 1 = k by omega]
  simp [val, List.getD, show k - 1 < a.length by omega]
theorem divs_step {a Q : List Nat} {k d r q r' : Nat} (hk : 0 < k) (hl : k ≤ a.length) (h : val (a.drop k) = d * val Q + r) (he : q * d + r' = r * 4294967296 + a.getD (k - 1) 0) : val (a.drop (k - 1)) = d * val (q :: Q) + r' := by
  rw [drop_val hk hl, h]
  simp only [val]
  rw [Nat.mul_add, Nat.mul_add]
  have e1 : d * (BS * val Q) = 4294967296 * (d * val Q) := by rw [Nat.mul_left_comm]
  rw [e1]
  have e2 : q * d = d * q := Nat.mul_comm _ _
  omega
theorem revN_set {L : List Nat} {m m' k r : Nat} (hm : m = m' + 1) (hk : k = m') : (List.replicate m 0 ++ L).set k r = List.replicate m' 0 ++ (r :: L) := by
  subst hm hk
  rw [List.replicate_succ', List.append_assoc, List.set_append_right _ _ (by simp)]
  simp
theorem lt_revfill {P : List Nat} {m : Nat} (h : ∀ d ∈ P, d < BS) : ∀ d ∈ List.replicate m 0 ++ P, d < BS := by
  intro d hd
  rcases List.mem_append.1 hd with h1 | h1
  · have := List.eq_of_mem_replicate h1; subst this; decide
  · exact h d h1
theorem lt_cons {P : List Nat} {s : Nat} (h : ∀ d ∈ P, d < BS) (hs : s < 4294967296) : ∀ d ∈ s :: P, d < BS := by
  intro d hd
  rcases List.mem_cons.1 hd with h1 | h1
  · subst h1; exact hs
  · exact h d h1
end Go.Gx
namespace Go.Gx
/-! the digit of a quotient -/
def estU (a b c : Nat) : Nat := (a * 4294967296 + b) * 4294967296 + c
def estV (d e : Nat) : Nat := d * 4294967296 + e
theorem est_mul (g d e : Nat) : g * estV d e = g * d * 4294967296 + g * e := by unfold estV; rw [Nat.mul_add, Nat.mul_assoc]
/-- The digit and what is left, before the test. -/
def EstI (a b d g r : Nat) : Prop := g * d + r = a * 4294967296 + b
theorem EstI.start1 {a b d s c : Nat} (ha : a = d) (hs : s + 4294967296 * c = b + d) : EstI a b d 4294967295 (s + 4294967296 * c) := by
  unfold EstI; subst ha; omega
theorem EstI.start2 {a b d q r : Nat} (h : q * d + r = a * 4294967296 + b) : EstI a b d q (r + 4294967296 * 0) := by unfold EstI; omega
theorem EstI.next {a b d g r s c : Nat} (h : EstI a b d g r) (hg : 0 < g) (hs : s + 4294967296 * c = r + d) : EstI a b d (g - 1) (s + 4294967296 * c) := by
  unfold EstI at *
  obtain ⟨j, rfl⟩ : ∃ j, g = j + 1 := ⟨g - 1, by omega⟩
  rw [Nat.add_mul, Nat.one_mul] at h
  simp only [Nat.add_sub_cancel]
  omega
theorem EstI.big {a b d g r : Nat} (h : EstI a b d g r) : (a * 4294967296 + b) * 4294967296 = g * d * 4294967296 + r * 4294967296 := by
  unfold EstI at h
  omega
theorem est_ok {a b c d e g r : Nat} (h : EstI a b d g r) (hle : g * e ≤ r * 4294967296 + c) : g * estV d e ≤ estU a b c := by
  have e := EstI.big h
  rw [est_mul]
  unfold estU
  omega
theorem est_over {a b c d e g s : Nat} (h : EstI a b d g (s + 4294967296 * 1)) (hg : g < 4294967296) (he : e < 4294967296) : g * estV d e ≤ estU a b c := by
  have h1 := mul32_le hg he
  have h2 : g * e ≤ (s + 4294967296 * 1) * 4294967296 + c := by omega
  exact est_ok h h2
theorem est_no {a b c d e g r : Nat} (h : EstI a b d g r) (hgt : r * 4294967296 + c < g * e) : estU a b c < g * estV d e := by
  have hb := EstI.big h
  rw [est_mul]
  unfold estU
  rw [hb, Nat.add_assoc]
  exact Nat.add_lt_add_left hgt _
/-- No greater digit fits. -/
def EstM (a b c d e g : Nat) : Prop := ∀ q, q ≤ 4294967295 → q * estV d e ≤ estU a b c → q ≤ g
theorem EstM.start1 (a b c d e : Nat) : EstM a b c d e 4294967295 := fun _ h _ => h
theorem EstM.start2 {a b c d e q r : Nat} (h : q * d + r = a * 4294967296 + b) (hr : r < d) (hc : c < 4294967296) : EstM a b c d e q := by
  intro p _ hp
  rw [est_mul] at hp
  unfold estU at hp
  rcases Nat.lt_or_ge q p with h1 | h1
  · exfalso
    have h2 : (q + 1) * d ≤ p * d := Nat.mul_le_mul_right _ h1
    rw [Nat.add_mul, Nat.one_mul] at h2
    omega
  · exact h1
theorem EstM.next {a b c d e g : Nat} (h : EstM a b c d e g) (hn : estU a b c < g * estV d e) : EstM a b c d e (g - 1) := by
  intro q hq hp
  have h1 := h q hq hp
  rcases Nat.eq_or_lt_of_le h1 with h2 | h2
  · subst h2; omega
  · omega
theorem est_pos {a b c d e g : Nat} (hn : estU a b c < g * estV d e) : 0 < g := by
  rcases Nat.eq_zero_or_pos g with h | h
  · subst h; simp at hn
  · exact h
theorem est_test {g e h l r c : Nat} (hm : l + 4294967296 * h = g * e) (hl : l < 4294967296) (hc : c < 4294967296) : ((h < r ∨ h = r ∧ l ≤ c) → g * e ≤ r * 4294967296 + c) ∧ (¬ (h < r ∨ h = r ∧ l ≤ c) → r * 4294967296 + c < g * e) := by
  constructor <;> intro hh <;> omega
/-! parts of digits -/
theorem sm_step {P Z v : List Nat} {k d bo cy bo' cy' s : Nat} (h : val P + d * val (v.take k) = val (Z.take k) + BS ^ k * (bo + cy)) (hl : P.length = k) (hs : bo + cy + s + d * v.getD k 0 = Z.getD k 0 + 4294967296 * (bo' + cy')) :
    val (P ++ [s]) + d * val (v.take (k + 1)) = val (Z.take (k + 1)) + BS ^ (k + 1) * (bo' + cy') := by
  rw [val_snoc, hl, val_getD, val_getD, Nat.mul_add d, Nat.pow_succ, Nat.mul_assoc]
  have e1 : d * (BS ^ k * v.getD k 0) = BS ^ k * (d * v.getD k 0) := Nat.mul_left_comm _ _ _
  have e2 : BS ^ k * (bo + cy + s + d * v.getD k 0) = BS ^ k * (Z.getD k 0 + BS * (bo' + cy')) := by rw [hs]
  rw [Nat.mul_add, Nat.mul_add (BS ^ k) (bo + cy), Nat.mul_add (BS ^ k) (Z.getD k 0)] at e2
  rw [e1]
  omega
theorem sm_last {P Z v : List Nat} {k d bo cy bo' s : Nat} (h : val P + d * val (v.take k) = val (Z.take k) + BS ^ k * (bo + cy)) (hl : P.length = k) (hv : v.length ≤ k) (hs : bo + cy + s = Z.getD k 0 + 4294967296 * bo') :
    val (P ++ [s]) + d * val v = val (Z.take (k + 1)) + BS ^ (k + 1) * bo' := by
  have h0 : v.getD k 0 = 0 := getD_ge (n := k) hv k (Nat.le_refl _)
  have := sm_step (bo' := bo') (cy' := 0) h hl (by rw [h0]; omega)
  rw [List.take_of_length_le (show v.length ≤ k + 1 by omega)] at this
  simpa using this
end Go.Gx
namespace Go.Gx
theorem part_take {P Z : List Nat} {s k : Nat} (h : P.length = k) : ((P ++ [s]) ++ Z.drop (k + 1)).take (k + 1) = P ++ [s] := by
  rw [List.take_append_of_le_length (by simp [h])]
  rw [List.take_of_length_le (by simp [h])]
theorem part_drop {P Z : List Nat} {s k : Nat} (h : P.length = k) : ((P ++ [s]) ++ Z.drop (k + 1)).drop (k + 1) = Z.drop (k + 1) := by
  rw [List.drop_append_of_le_length (by simp [h]), List.drop_of_length_le (by simp [h])]; rfl
theorem natne (x : Nat) : decide (((x : Nat) : Int) ≠ 0) = decide (x ≠ 0) := by
  by_cases h : x = 0 <;> simp [h]
end Go.Gx
namespace Go.Gx
theorem est_ok0 {a b c d e g r o h l : Nat} (hI : EstI a b d g (r + 4294967296 * o)) (ho : o = 0) (hm : l + 4294967296 * h = g * e) (hl : l < 4294967296) (hc : c < 4294967296) (ht : h < r ∨ h = r ∧ l ≤ c) : g * estV d e ≤ estU a b c := by
  subst ho
  simp only [Nat.mul_zero, Nat.add_zero] at hI
  exact est_ok hI ((est_test hm hl hc).1 ht)
theorem est_no0 {a b c d e g r o h l : Nat} (hI : EstI a b d g (r + 4294967296 * o)) (ho : o = 0) (hm : l + 4294967296 * h = g * e) (hl : l < 4294967296) (hc : c < 4294967296) (ht : ¬ (h < r ∨ h = r ∧ l ≤ c)) : estU a b c < g * estV d e := by
  subst ho
  simp only [Nat.mul_zero, Nat.add_zero] at hI
  exact est_no hI ((est_test hm hl hc).2 ht)
theorem est_over1 {a b c d e g s o : Nat} (h : EstI a b d g (s + 4294967296 * o)) (ho : o = 1) (hg : g < 4294967296) (he : e < 4294967296) : g * estV d e ≤ estU a b c := by
  subst ho; exact est_over h hg he
theorem EstI.next0 {a b d g r s c o : Nat} (h : EstI a b d g (r + 4294967296 * o)) (ho : o = 0) (hg : 0 < g) (hs : s + 4294967296 * c = r + d) : EstI a b d (g - 1) (s + 4294967296 * c) := by
  subst ho
  simp only [Nat.mul_zero, Nat.add_zero] at h
  exact h.next hg hs
end Go.Gx
namespace Go.Gx
/-! shifts -/
theorem low_mul {x s : Nat} (hs : s ≤ 31) : x * 2 ^ s % 4294967296 = 2 ^ s * (x % 2 ^ (32 - s)) := by
  have e : (4294967296 : Nat) = 2 ^ s * 2 ^ (32 - s) := by rw [← Nat.pow_add, show s + (32 - s) = 32 by omega]
  rw [e, Nat.mul_comm x, Nat.mul_mod_mul_left]
theorem shl_parts {x s c : Nat} (hx : x < 4294967296) (hs : s ≤ 31) (hc : c < 2 ^ s) :
    x * 2 ^ s < 9223372036854775808 ∧ c ||| x * 2 ^ s % 4294967296 = c + x * 2 ^ s % 4294967296 ∧ c + x * 2 ^ s % 4294967296 < 4294967296 ∧ x * 2 ^ s / 4294967296 < 2 ^ s ∧ 2 ^ s ≤ 2147483648 := by
  have hp : (2 : Nat) ^ s ≤ 2147483648 := Nat.pow_le_pow_right (by decide) hs
  have h0 : 0 < (2 : Nat) ^ s := Nat.pow_pos (by decide)
  have h1 : x * 2 ^ s ≤ 4294967295 * 2147483648 := Nat.mul_le_mul (by omega) hp
  refine ⟨by omega, ?_, ?_, ?_, hp⟩
  · rw [low_mul hs, Nat.or_comm, or_nat _ _ _ hc, Nat.add_comm]
  · rw [low_mul hs]
    have e : (4294967296 : Nat) = 2 ^ s * 2 ^ (32 - s) := by rw [← Nat.pow_add, show s + (32 - s) = 32 by omega]
    have h2 : x % 2 ^ (32 - s) < 2 ^ (32 - s) := Nat.mod_lt _ (Nat.pow_pos (by decide))
    have h3 : 2 ^ s * (x % 2 ^ (32 - s) + 1) ≤ 2 ^ s * 2 ^ (32 - s) := Nat.mul_le_mul_left _ h2
    rw [← e, Nat.mul_add, Nat.mul_one] at h3
    omega
  · refine Nat.div_lt_of_lt_mul ?_
    exact Nat.mul_lt_mul_of_pos_right hx h0
theorem shl_get {P Z : List Nat} {w k c t : Nat} (hP : P.length = k) (ht : t = w + k) : (List.replicate w 0 ++ (P ++ (c :: Z))).getD t 0 = c := by
  subst ht
  simp only [List.getD]
  rw [List.getElem?_append_right (by simp), List.length_replicate, Nat.add_sub_cancel_left, List.getElem?_append_right (by omega), hP, Nat.sub_self]
  rfl
theorem shl_set1 {P Z : List Nat} {w k c t v : Nat} (hP : P.length = k) (ht : t = w + k) : (List.replicate w 0 ++ (P ++ (c :: Z))).set t v = List.replicate w 0 ++ (P ++ (v :: Z)) := by
  subst ht
  rw [List.set_append_right _ _ (by simp), List.length_replicate, Nat.add_sub_cancel_left, List.set_append_right _ _ (by omega), hP, Nat.sub_self, List.set_cons_zero]
theorem shl_set2 {P : List Nat} {w k t m m' v h : Nat} (hP : P.length = k) (ht : t = w + (k + 1)) (hm : m = m' + 1) : (List.replicate w 0 ++ (P ++ (v :: List.replicate m 0))).set t h = List.replicate w 0 ++ ((P ++ [v]) ++ (h :: List.replicate m' 0)) := by
  subst ht hm
  rw [List.set_append_right _ _ (by simp), List.length_replicate, Nat.add_sub_cancel_left, List.set_append_right _ _ (by omega), hP, show k + 1 - k = 1 by omega, List.replicate_succ]
  simp
theorem shl_step {P a : List Nat} {k c c' s v : Nat} (h : val P + BS ^ k * c = val (a.take k) * 2 ^ s) (hl : P.length = k) (hv : v + 4294967296 * c' = a.getD k 0 * 2 ^ s + c) : val (P ++ [v]) + BS ^ (k + 1) * c' = val (a.take (k + 1)) * 2 ^ s := by
  rw [dig_step h hl hv, val_getD, Nat.add_mul, Nat.mul_assoc]
theorem shl_end {P a : List Nat} {k c s w m n : Nat} (h : val P + BS ^ k * c = val (a.take k) * 2 ^ s) (hl : P.length = k) (ha : a.length ≤ k) (hm : m = 0) (hn : n = 32 * w + s) : val (List.replicate w 0 ++ (P ++ (c :: List.replicate m 0))) = val a * 2 ^ n := by
  subst hm hn
  rw [val_append, val_zeros, List.length_replicate, List.replicate_zero, val_snoc, hl, h, val_take_all a ha, Nat.pow_add, Nat.pow_mul, Nat.zero_add]
  show (2 ^ 32) ^ w * (val a * 2 ^ s) = _
  rw [Nat.mul_left_comm]
theorem lt_shl {P : List Nat} {w m c : Nat} (h : ∀ d ∈ P, d < BS) (hc : c < 4294967296) : ∀ d ∈ List.replicate w 0 ++ (P ++ (c :: List.replicate m 0)), d < BS := by
  intro d hd
  rcases List.mem_append.1 hd with h1 | h1
  · have := List.eq_of_mem_replicate h1; subst this; decide
  · rcases List.mem_append.1 h1 with h2 | h2
    · exact h d h2
    · rcases List.mem_cons.1 h2 with h3 | h3
      · subst h3; exact hc
      · have := List.eq_of_mem_replicate h3; subst this; decide
theorem shr_digit {T : List Nat} {k s : Nat} (hT : ∀ d ∈ T, d < BS) (hs : s ≤ 31) : val T / 2 ^ s / BS ^ k % BS = (T.getD k 0 + T.getD (k + 1) 0 * 4294967296) / 2 ^ s % 4294967296 := by
  rw [Nat.div_div_eq_div_mul, Nat.mul_comm, ← Nat.div_div_eq_div_mul, ← vb_val]
  rw [show vb 4294967296 T / BS ^ k = vb 4294967296 (T.drop k) from vb_div T hT k]
  rw [vb_tail, vb_tail (T.drop k).tail]
  have e0 : (T.drop k).getD 0 0 = T.getD k 0 := by simp [List.getD, List.getElem?_drop]
  have e1 : (T.drop k).tail.getD 0 0 = T.getD (k + 1) 0 := by simp [List.getD, List.getElem?_drop]
  rw [e0, e1, Nat.mul_add]
  have hp : (4294967296 : Nat) = 2 ^ s * 2 ^ (32 - s) := by rw [← Nat.pow_add, show s + (32 - s) = 32 by omega]
  have e2 : ∀ r : Nat, (T.getD k 0 + (4294967296 * T.getD (k + 1) 0 + 4294967296 * (4294967296 * r))) = (T.getD k 0 + T.getD (k + 1) 0 * 4294967296) + 2 ^ s * (4294967296 * (2 ^ (32 - s) * r)) := by
    intro r
    have e3 : 2 ^ s * (4294967296 * (2 ^ (32 - s) * r)) = 4294967296 * (4294967296 * r) := by
      rw [Nat.mul_left_comm, ← Nat.mul_assoc (2 ^ s), ← hp]
    rw [e3]
    omega
  rw [e2, Nat.add_mul_div_left _ _ (Nat.pow_pos (by decide)), Nat.add_mul_mod_self_left]
theorem shr_step {T P : List Nat} {k s t : Nat} (hT : ∀ d ∈ T, d < BS) (hs : s ≤ 31) (h : val P = val T / 2 ^ s % BS ^ k) (hl : P.length = k) (ht : t = (T.getD k 0 + T.getD (k + 1) 0 * 4294967296) / 2 ^ s % 4294967296) : val (P ++ [t]) = val T / 2 ^ s % BS ^ (k + 1) := by
  rw [val_snoc, hl, h, ht, ← shr_digit hT hs, ← Nat.mod_pow_succ]
theorem shr_end {a T P : List Nat} {k w s n m : Nat} (ha : ∀ d ∈ a, d < BS) (hT : T = a.drop w) (h : val P = val T / 2 ^ s % BS ^ k) (hk : T.length ≤ k) (hn : n = 32 * w + s) : val (P ++ List.replicate m 0) = val a / 2 ^ n := by
  have hTd : ∀ d ∈ T, d < BS := fun d hd => by rw [hT] at hd; exact ha d (List.mem_of_mem_drop hd)
  have h1 : val T < BS ^ k := Nat.lt_of_lt_of_le (val_lt T hTd) (Nat.pow_le_pow_right (by decide) hk)
  have h2 : val T / 2 ^ s < BS ^ k := Nat.lt_of_le_of_lt (Nat.div_le_self _ _) h1
  rw [val_fill, h, Nat.mod_eq_of_lt h2, hn, Nat.pow_add, ← Nat.div_div_eq_div_mul, Nat.pow_mul]
  have h3 : val a / (2 ^ 32) ^ w = val (a.drop w) := by rw [← vb_val, ← vb_val]; exact vb_div a ha w
  rw [h3, ← hT]
theorem shr_zero {a : List Nat} {w n l : Nat} (ha : ∀ d ∈ a, d < BS) (hl : a.length = l) (hw : l ≤ w) (hn : 32 * w ≤ n) : (0 : Nat) = val a / 2 ^ n := by
  have h1 := val_lt a ha
  refine (Nat.div_eq_of_lt (Nat.lt_of_lt_of_le h1 ?_)).symm
  rw [hl, show (BS : Nat) = 2 ^ 32 from rfl, ← Nat.pow_mul]
  exact Nat.pow_le_pow_right (by decide) (by omega)
theorem or_high {x t : Nat} (hx : x < 4294967296) : x ||| t * 4294967296 = x + t * 4294967296 := by
  rw [Nat.or_comm, Nat.mul_comm t]
  have := or_nat t x 32 hx
  rw [show (2 : Nat) ^ 32 = 4294967296 from rfl] at this
  omega
end Go.Gx
namespace Go.Gx
theorem rep_shl {w n : Nat} : List.replicate w 0 ++ ((0 : Nat) :: List.replicate (n - 0) 0) = List.replicate (w + n + 1) 0 := by
  rw [← List.replicate_succ, List.replicate_append_replicate]
  congr 1
end Go.Gx

/-
  Long division of digits. Plain numbers; no program in sight.
-/
namespace Go.Gx
theorem top_split {d : List Nat} {k : Nat} (hd : ∀ x ∈ d, x < BS) (hk : k ≤ d.length) (n : Nat) (hn : n ≤ k) : ∃ L, L < BS ^ n ∧ val (d.take k) = L + BS ^ n * val ((d.take k).drop n) := by
  refine ⟨val ((d.take k).take n), ?_, ?_⟩
  · have h := val_lt ((d.take k).take n) fun x hx => hd x (List.mem_of_mem_take (List.mem_of_mem_take hx))
    rw [List.length_take, List.length_take, Nat.min_eq_left (by omega)] at h
    exact h
  · exact val_split (d.take k) (k := n) (by simp; omega)
theorem drop_two {d : List Nat} {n : Nat} (hn : 2 ≤ n) (hl : d.length = n) : val (d.drop (n - 2)) = estV (d.getD (n - 1) 0) (d.getD (n - 2) 0) := by
  have e1 := drop_val (a := d) (k := n - 1) (by omega) (by omega)
  have e2 := drop_val (a := d) (k := n) (by omega) (by omega)
  rw [List.drop_of_length_le (show d.length ≤ n by omega)] at e2
  rw [show n - 2 = n - 1 - 1 by omega, e1, e2]
  simp only [estV, val]
  omega
theorem drop_three {d : List Nat} {n : Nat} (hn : 2 ≤ n) (hl : d.length = n + 1) : val (d.drop (n - 2)) = estU (d.getD n 0) (d.getD (n - 1) 0) (d.getD (n - 2) 0) := by
  have e1 := drop_val (a := d) (k := n - 1) (by omega) (by omega)
  have e2 := drop_val (a := d) (k := n) (by omega) (by omega)
  have e3 := drop_val (a := d) (k := n + 1) (by omega) (by omega)
  rw [List.drop_of_length_le (show d.length ≤ n + 1 by omega), Nat.add_sub_cancel] at e3
  rw [show n - 2 = n - 1 - 1 by omega, e1, e2, e3]
  simp only [estU, val]
  omega
/-- What the highest digits say of the whole. -/
theorem tops {d : List Nat} {n k X : Nat} (hd : ∀ x ∈ d, x < BS) (hn : 2 ≤ n) (hl : n - 2 ≤ d.length) (hX : val (d.drop (n - 2)) = X) : BS ^ (n - 2) * X ≤ val d ∧ val d < BS ^ (n - 2) * (X + 1) := by
  have h1 := val_split d (k := n - 2) hl
  have h2 := val_lt (d.take (n - 2)) fun x hx => hd x (List.mem_of_mem_take hx)
  rw [List.length_take, Nat.min_eq_left hl] at h2
  rw [hX] at h1
  rw [Nat.mul_add, Nat.mul_one]
  omega
theorem est_bound {E V U v P g : Nat} (hE : 0 < E) (hv1 : E * V ≤ v) (hv2 : v < E * (V + 1)) (hp1 : E * U ≤ P) (hp2 : P < E * (U + 1)) (hok : g * V ≤ U) (hmx : ∀ q, q ≤ 4294967295 → q * V ≤ U → q ≤ g) (hg : g ≤ 4294967295) (hPv : P < v * 4294967296) (hV : 4294967296 ≤ V) :
    P / v ≤ g ∧ (0 < g → (g - 1) * v ≤ P) ∧ (g * v ≤ P → P - g * v < v) := by
  have hv0 : 0 < v := by
    have : E * 1 ≤ E * V := Nat.mul_le_mul_left _ (by omega)
    omega
  have hq : P / v ≤ g := by
    refine hmx _ ?_ ?_
    · have : P / v < 4294967296 := Nat.div_lt_of_lt_mul hPv
      omega
    · have h1 : P / v * v ≤ P := Nat.div_mul_le_self _ _
      have h2 : P / v * (E * V) ≤ P / v * v := Nat.mul_le_mul_left _ hv1
      have h3 : E * (P / v * V) < E * (U + 1) := by rw [Nat.mul_left_comm]; omega
      have := Nat.lt_of_mul_lt_mul_left h3
      omega
  refine ⟨hq, fun h0 => ?_, fun hle => ?_⟩
  · obtain ⟨j, rfl⟩ : ∃ j, g = j + 1 := ⟨g - 1, by omega⟩
    rw [Nat.add_sub_cancel]
    have h1 : E * ((j + 1) * V) ≤ E * U := Nat.mul_le_mul_left _ hok
    have h2 : (j + 1) * v ≤ (j + 1) * (E * (V + 1)) := Nat.mul_le_mul_left _ (by omega)
    have h3 : (j + 1) * (E * (V + 1)) = E * ((j + 1) * V) + E * (j + 1) := by
      rw [Nat.mul_left_comm, Nat.mul_add (j + 1), Nat.mul_one, Nat.mul_add]
    have h4 : E * (j + 1) ≤ E * V := Nat.mul_le_mul_left _ (by omega)
    rw [Nat.add_mul, Nat.one_mul] at h2
    omega
  · have h1 : g ≤ P / v := (Nat.le_div_iff_mul_le hv0).2 hle
    have h2 : g = P / v := by omega
    have h3 := Nat.div_add_mod P v
    have h4 := Nat.mod_lt P hv0
    rw [Nat.mul_comm, ← h2] at h3
    omega
theorem top_le {E V U v P a b c d e : Nat} (hE : 0 < E) (hv2 : v < E * (V + 1)) (hp1 : E * U ≤ P) (hPv : P < v * 4294967296) (hU : U = estU a b c) (hV : V = estV d e) (he : e < 4294967296) : a ≤ d := by
  have h1 : v * 4294967296 ≤ E * (V + 1) * 4294967296 := Nat.mul_le_mul_right _ (by omega)
  have h2 : E * U < E * ((V + 1) * 4294967296) := by rw [← Nat.mul_assoc]; omega
  have h3 := Nat.lt_of_mul_lt_mul_left h2
  subst hU hV
  unfold estU estV at h3
  omega
/-! the rounds -/
structure DivI (D v Q : List Nat) (k N : Nat) : Prop where
  eq : val D + val v * (BS ^ k * val Q) = N
  lt : val D < val v * BS ^ k
theorem DivI.part {D v Q : List Nat} {k N n : Nat} (h : DivI D v Q k N) (hk : 0 < k) (hl : k - 1 + n + 1 ≤ D.length) (hv : val v < BS ^ n) :
    val D = val (D.take (k - 1)) + BS ^ (k - 1) * val ((D.drop (k - 1)).take (n + 1)) ∧ val ((D.drop (k - 1)).take (n + 1)) < val v * 4294967296 ∧ val ((D.drop (k - 1)).drop (n + 1)) = 0 := by
  have e1 := val_split D (k := k - 1) (by omega)
  have e2 := val_split (D.drop (k - 1)) (k := n + 1) (by simp; omega)
  have hk1 : BS ^ k = BS ^ (k - 1) * 4294967296 := by rw [← Nat.pow_succ]; congr 1; omega
  have h1 := h.lt
  rw [hk1, ← Nat.mul_assoc, Nat.mul_comm (val v) (BS ^ (k - 1)), Nat.mul_assoc] at h1
  have h2 : BS ^ (k - 1) * val (D.drop (k - 1)) < BS ^ (k - 1) * (val v * 4294967296) := by omega
  have h3 := Nat.lt_of_mul_lt_mul_left h2
  have h4 : val ((D.drop (k - 1)).drop (n + 1)) = 0 := by
    rcases Nat.eq_zero_or_pos (val ((D.drop (k - 1)).drop (n + 1))) with h0 | h0
    · exact h0
    · exfalso
      have h5 : BS ^ (n + 1) * 1 ≤ BS ^ (n + 1) * val ((D.drop (k - 1)).drop (n + 1)) := Nat.mul_le_mul_left _ h0
      have h6 : (val v + 1) * 4294967296 ≤ BS ^ n * 4294967296 := Nat.mul_le_mul_right _ hv
      have h7 : BS ^ (n + 1) = BS ^ n * 4294967296 := Nat.pow_succ _ _
      rw [Nat.mul_one] at h5
      omega
  rw [h4, Nat.mul_zero, Nat.add_zero] at e2
  refine ⟨by rw [← e2]; exact e1, by rw [← e2]; exact h3, h4⟩
theorem DivI.step {D v Q Zr : List Nat} {k N n q : Nat} (h : DivI D v Q k N) (hk : 0 < k) (hl : k - 1 + n + 1 ≤ D.length) (hv : val v < BS ^ n) (hDt : ∀ d ∈ D, d < BS) (hZ : Zr.length = (D.drop (k - 1)).length)
    (hd : Zr.drop (n + 1) = (D.drop (k - 1)).drop (n + 1)) (he : val (Zr.take (n + 1)) + q * val v = val ((D.drop (k - 1)).take (n + 1))) (hlt : val (Zr.take (n + 1)) < val v) : DivI (D.take (k - 1) ++ Zr) v (q :: Q) (k - 1) N := by
  obtain ⟨h1, h2, h3⟩ := h.part hk hl hv
  have e2 := val_split Zr (k := n + 1) (by rw [hZ]; simp; omega)
  rw [hd, h3, Nat.mul_zero, Nat.add_zero] at e2
  have e3 : val (D.take (k - 1) ++ Zr) = val (D.take (k - 1)) + BS ^ (k - 1) * val (Zr.take (n + 1)) := by
    rw [val_append, List.length_take, Nat.min_eq_left (by omega), e2]
  have hk1 : BS ^ k = BS ^ (k - 1) * BS := by rw [← Nat.pow_succ]; congr 1; omega
  have hU : val (D.take (k - 1)) < BS ^ (k - 1) := by
    have := val_lt (D.take (k - 1)) fun d hd' => hDt d (List.mem_of_mem_take hd')
    rwa [List.length_take, Nat.min_eq_left (by omega)] at this
  constructor
  · rw [e3, ← h.eq, h1, ← he, hk1]
    simp only [val]
    rw [Nat.mul_add (BS ^ (k - 1)) (val (Zr.take (n + 1))), Nat.mul_add (BS ^ (k - 1)) q, Nat.mul_add (val v), Nat.mul_assoc (BS ^ (k - 1)) BS]
    have : val v * (BS ^ (k - 1) * q) = BS ^ (k - 1) * (q * val v) := by rw [Nat.mul_left_comm, Nat.mul_comm (val v)]
    omega
  · rw [e3]
    have h5 : BS ^ (k - 1) * (val (Zr.take (n + 1)) + 1) ≤ BS ^ (k - 1) * val v := Nat.mul_le_mul_left _ hlt
    rw [Nat.mul_add, Nat.mul_one] at h5
    rw [Nat.mul_comm (val v)]
    omega
theorem addback {Pz Z1 Z2 v B q bo cr : Nat} (he : Z1 + (q + 1) * v = Pz + B * bo) (hb : bo ≠ 0) (hbo : bo ≤ 1) (h2 : Z2 + B * cr = Z1 + v) (hZ2 : Z2 < B) (hle : q * v ≤ Pz) (hnl : Pz < (q + 1) * v) (hvB : v < B) : Z2 + q * v = Pz ∧ Z2 < v := by
  have h1 : bo = 1 := by omega
  subst h1
  rw [Nat.add_mul, Nat.one_mul] at he hnl
  have hcr : cr = 1 := by
    rcases Nat.lt_trichotomy cr 1 with h | h | h
    · have : cr = 0 := by omega
      subst this; simp at h2; omega
    · exact h
    · have : B * 2 ≤ B * cr := Nat.mul_le_mul_left _ h
      omega
  subst hcr
  omega
theorem nonneg_of_borrow {Z1 P q v B bo : Nat} (he : Z1 + q * v = P + B * bo) (hZ : Z1 < B) : (bo = 0 ↔ q * v ≤ P) := by
  constructor
  · intro h; subst h; omega
  · intro h
    rcases Nat.eq_zero_or_pos bo with h0 | h0
    · exact h0
    · have : B * 1 ≤ B * bo := Nat.mul_le_mul_left _ h0
      omega
theorem norm_len {b v : List Nat} {n s : Nat} (hb : ∀ d ∈ b, d < BS) (hl : b.length = n) (hn : 0 < n) (h1 : b.getD (n - 1) 0 * 2 ^ s < 4294967296) (h2 : 2147483648 ≤ b.getD (n - 1) 0 * 2 ^ s) (hs : s ≤ 31) (hv : val v = val b * 2 ^ s) (hvt : ∀ d ∈ v, d < BS) (hc : Canon isZ v) :
    v.length = n ∧ 2147483648 ≤ v.getD (n - 1) 0 := by
  have e1 := val_split b (k := n - 1) (by omega)
  have e2 := drop_val (a := b) (k := n) hn (by omega)
  rw [List.drop_of_length_le (show b.length ≤ n by omega)] at e2
  have h3 := val_lt (b.take (n - 1)) fun d hd => hb d (List.mem_of_mem_take hd)
  rw [List.length_take, Nat.min_eq_left (by omega)] at h3
  have e3 : val b = val (b.take (n - 1)) + BS ^ (n - 1) * b.getD (n - 1) 0 := by rw [e1, e2]; simp [val]
  have hp : 0 < (2 : Nat) ^ s := Nat.pow_pos (by decide)
  have hB : BS ^ n = BS ^ (n - 1) * 4294967296 := by rw [← Nat.pow_succ]; congr 1; omega
  have e4 : (b.getD (n - 1) 0 + 1) * 2 ^ s ≤ 4294967296 := by
    have e : (4294967296 : Nat) = 2 ^ (32 - s) * 2 ^ s := by rw [← Nat.pow_add, show 32 - s + s = 32 by omega]
    have h5 : b.getD (n - 1) 0 * 2 ^ s < 2 ^ (32 - s) * 2 ^ s := by rw [← e]; exact h1
    have h6 := Nat.lt_of_mul_lt_mul_right h5
    have h7 : (b.getD (n - 1) 0 + 1) * 2 ^ s ≤ 2 ^ (32 - s) * 2 ^ s := Nat.mul_le_mul_right _ h6
    rw [← e] at h7
    exact h7
  have hup : val v < BS ^ n := by
    rw [hv, hB]
    have h5 : val b + 1 ≤ BS ^ (n - 1) * (b.getD (n - 1) 0 + 1) := by rw [Nat.mul_add, Nat.mul_one]; omega
    have h6 : (val b + 1) * 2 ^ s ≤ BS ^ (n - 1) * (b.getD (n - 1) 0 + 1) * 2 ^ s := Nat.mul_le_mul_right _ h5
    have h7 : BS ^ (n - 1) * ((b.getD (n - 1) 0 + 1) * 2 ^ s) ≤ BS ^ (n - 1) * 4294967296 := Nat.mul_le_mul_left _ e4
    rw [Nat.mul_assoc] at h6
    rw [Nat.add_mul, Nat.one_mul] at h6
    omega
  have hlo : BS ^ (n - 1) * 2147483648 ≤ val v := by
    rw [hv, e3, Nat.add_mul, Nat.mul_assoc]
    have : BS ^ (n - 1) * 2147483648 ≤ BS ^ (n - 1) * (b.getD (n - 1) 0 * 2 ^ s) := Nat.mul_le_mul_left _ h2
    omega
  have hle : v.length ≤ n := lt_val_len hc hup
  have hge : n ≤ v.length := by
    rcases Nat.lt_or_ge v.length n with h5 | h5
    · exfalso
      have h6 := val_lt v hvt
      have h7 : BS ^ v.length ≤ BS ^ (n - 1) := Nat.pow_le_pow_right (by decide) (by omega)
      have h8 : BS ^ (n - 1) * 1 ≤ BS ^ (n - 1) * 2147483648 := Nat.mul_le_mul_left _ (by decide)
      omega
    · exact h5
  refine ⟨by omega, ?_⟩
  have e5 := val_split v (k := n - 1) (by omega)
  have e6 := drop_val (a := v) (k := n) hn (by omega)
  rw [List.drop_of_length_le (show v.length ≤ n by omega)] at e6
  have h5 := val_lt (v.take (n - 1)) fun d hd => hvt d (List.mem_of_mem_take hd)
  rw [List.length_take, Nat.min_eq_left (by omega)] at h5
  have e7 : val v = val (v.take (n - 1)) + BS ^ (n - 1) * v.getD (n - 1) 0 := by rw [e5, e6]; simp [val]
  have h6 : BS ^ (n - 1) * 2147483648 < BS ^ (n - 1) * (v.getD (n - 1) 0 + 1) := by rw [Nat.mul_add, Nat.mul_one]; omega
  have := Nat.lt_of_mul_lt_mul_left h6
  omega
theorem DivI.start {D v : List Nat} {k N m n s va : Nat} (hD : val D = N) (hN : N = va * 2 ^ s) (hva : va < BS ^ (m - 1)) (hs : s ≤ 31) (hv : BS ^ (n - 1) * 2147483648 ≤ val v) (hn : 0 < n) (hk : k = m - n) (hm : n ≤ m) : DivI D v [] k N := by
  refine ⟨by simp [val, hD], ?_⟩
  rw [hD, hN, hk]
  have h1 : va * 2 ^ s < BS ^ (m - 1) * 2 ^ s := Nat.mul_lt_mul_of_pos_right hva (Nat.pow_pos (by decide))
  have h2 : BS ^ (m - 1) * 2 ^ s ≤ BS ^ (m - 1) * 2147483648 := Nat.mul_le_mul_left _ (Nat.pow_le_pow_right (by decide) hs)
  have h3 : BS ^ (n - 1) * 2147483648 * BS ^ (m - n) ≤ val v * BS ^ (m - n) := Nat.mul_le_mul_right _ hv
  have e : BS ^ (n - 1) * 2147483648 * BS ^ (m - n) = BS ^ (m - 1) * 2147483648 := by
    rw [Nat.mul_right_comm, ← Nat.pow_add]; congr 2; omega
  omega
theorem DivI.fin {D v Q b : List Nat} {N s va r : Nat} (h : DivI D v Q 0 N) (hN : N = va * 2 ^ s) (hv : val v = val b * 2 ^ s) (hr : r = val D / 2 ^ s) : va = val b * val Q + r ∧ r < val b := by
  have h1 := h.eq
  have h2 := h.lt
  simp only [Nat.pow_zero, Nat.one_mul, Nat.mul_one] at h1 h2
  have hp : 0 < (2 : Nat) ^ s := Nat.pow_pos (by decide)
  rw [hv, hN] at h1
  rw [hv] at h2
  have h3 : val b * 2 ^ s * val Q = val b * val Q * 2 ^ s := Nat.mul_right_comm _ _ _
  rw [h3] at h1
  have hle : val b * val Q ≤ va := by
    have : val b * val Q * 2 ^ s ≤ va * 2 ^ s := by omega
    exact Nat.le_of_mul_le_mul_right this hp
  have h4 : val D = (va - val b * val Q) * 2 ^ s := by rw [Nat.sub_mul]; omega
  rw [hr, h4, Nat.mul_div_cancel _ hp]
  refine ⟨by omega, ?_⟩
  rw [h4] at h2
  exact Nat.lt_of_mul_lt_mul_right h2
end Go.Gx
namespace Go.Gx
theorem canon_top {d : List Nat} {n : Nat} (hc : Canon isZ d) (hl : d.length = n) (hn : n ≠ 0) : d.getD (n - 1) 0 ≠ 0 := by
  rcases snoc_cases d with h | ⟨k, x, rfl⟩
  · subst h; simp at hl; omega
  · have h1 := canon_snoc.1 hc
    have h2 : x ≠ 0 := by intro e; subst e; simp [isZ] at h1
    simp at hl
    subst hl
    simpa [List.getD] using h2
theorem shl_len {a d : List Nat} {n s va : Nat} (ha : ∀ x ∈ a, x < BS) (hl : a.length = n) (hva : val a = va) (hd : val d = va * 2 ^ s) (hs : s ≤ 31) : val d < BS ^ (n + 1) := by
  have h1 := val_lt a ha
  rw [hl, hva] at h1
  have h2 : (2 : Nat) ^ s ≤ 2147483648 := Nat.pow_le_pow_right (by decide) hs
  have h3 : va * 2 ^ s ≤ va * 2147483648 := Nat.mul_le_mul_left _ h2
  have h4 : BS ^ (n + 1) = BS ^ n * 4294967296 := Nat.pow_succ _ _
  omega
theorem top_ge {d : List Nat} {n : Nat} (hl : d.length = n) (hn : 0 < n) : BS ^ (n - 1) * d.getD (n - 1) 0 ≤ val d := by
  have e1 := val_split d (k := n - 1) (by omega)
  have e2 := drop_val (a := d) (k := n) hn (by omega)
  rw [e2, Nat.mul_add] at e1
  omega
theorem part_getD {D : List Nat} {j m i : Nat} (h : i < m) : ((D.drop j).take m).getD i 0 = D.getD (j + i) 0 := by
  simp [List.getD, List.getElem?_take, h, List.getElem?_drop]
theorem revN_get {L : List Nat} {m r : Nat} : (List.replicate m 0 ++ (r :: L)).getD m 0 = r := by
  simp only [List.getD]
  rw [List.getElem?_append_right (by simp)]
  simp
theorem val_take_lt {d : List Nat} {k : Nat} (h : ∀ x ∈ d, x < BS) : val (d.take k) < BS ^ k := by
  have h1 := val_lt (d.take k) fun x hx => h x (List.mem_of_mem_take hx)
  exact Nat.lt_of_lt_of_le h1 (Nat.pow_le_pow_right (by decide) (by simp; omega))
end Go.Gx
namespace Go.Gx
theorem take_app {D Z : List Nat} {j : Nat} (h : j ≤ D.length) : (D.take j ++ Z).drop j = Z := by
  rw [List.drop_append_of_le_length (by simp; omega), List.drop_of_length_le (by simp; omega)]; rfl
theorem take_app2 {D Z : List Nat} {j : Nat} (h : j ≤ D.length) : (D.take j ++ Z).take j = D.take j := by
  rw [List.take_append_of_le_length (by simp; omega), List.take_take, Nat.min_self]
theorem rem_len {r b : List Nat} {nr nb : Nat} (cn : Canon isZ r) (hlt : val r < val b) (hb : ∀ d ∈ b, d < BS) (lb : b.length = nb) (lr : r.length = nr) : nr ≤ nb := by
  rw [← lr]
  have h := val_lt b hb
  rw [lb] at h
  exact lt_val_len cn (by omega)
end Go.Gx
namespace Go.Gx
theorem revN_set2 {L : List Nat} {m r x : Nat} : (List.replicate m 0 ++ (x :: L)).set m r = List.replicate m 0 ++ (r :: L) := by
  rw [List.set_append_right _ _ (by simp)]
  simp
end Go.Gx
namespace Go.Gx
theorem gcd_step {x y q r G : Nat} (h : Nat.gcd x y = G) (e : x = y * q + r) (hr : r < y) : Nat.gcd y r = G := by
  have h1 : x % y = r := by rw [e, Nat.mul_add_mod, Nat.mod_eq_of_lt hr]
  rw [← h, Nat.gcd_comm x y, Nat.gcd_rec y x, h1, Nat.gcd_comm]
theorem gcd_stop {x y G : Nat} (h : Nat.gcd x y = G) (hy : y = 0) : x = G := by subst hy; simpa using h
theorem gcd_mod {m n G : Nat} (h : Nat.gcd m n = G) : Nat.gcd n (m % n) = G := by rw [← h, Nat.gcd_comm m n, Nat.gcd_rec n m, Nat.gcd_comm]
theorem canon_pos {d : List Nat} {n : Nat} (hc : Canon isZ d) (hl : d.length = n) (hn : n ≠ 0) : 0 < val d := val_pos hc (by intro e; subst e; simp at hl; omega)
theorem quo_val {g g' : Bool} {a b q : List Nat} {r : Nat} (he : val a = val b * val q + r) (hr : r < val b) : zval (g != g') q = (zval g a).tdiv (zval g' b) := by
  have hq : val q = val a / val b := by
    rw [he, Nat.mul_add_div (by omega), Nat.div_eq_of_lt hr]; omega
  cases g <;> cases g' <;> simp [zval, hq, Int.ofNat_tdiv, Int.neg_tdiv, Int.tdiv_neg]
theorem rem_val {g g' : Bool} {a b d : List Nat} {q : Nat} (he : val a = val b * q + val d) (hr : val d < val b) : zval g d = (zval g a).tmod (zval g' b) := by
  have hq : val d = val a % val b := by rw [he, Nat.mul_add_mod, Nat.mod_eq_of_lt hr]
  have h0 : ((val a : Int)).tmod (val b : Int) = (val a : Int) % (val b : Int) := Int.tmod_eq_emod_of_nonneg (by omega)
  cases g <;> cases g' <;> simp [zval, hq, Int.neg_tmod, Int.tmod_neg, h0]
end Go.Gx

/-
  Contents and primitive parts of polynomials. Plain numbers; no program in sight.
-/
namespace Go.Gx
theorem drop_predZ {F : List Int} {k : Nat} (hk : 0 < k) (hl : k ≤ F.length) : F.drop (k - 1) = co F (k - 1) :: F.drop k := by
  rw [List.drop_eq_getElem_cons (show k - 1 < F.length by omega), show k - 1 + 1 = k by omega]
  simp [co, List.getD, show k - 1 < F.length by omega]
def contP (l : List Int) : Nat := l.foldr (fun a g => Nat.gcd g a.natAbs) 0
theorem contP_cons (a : Int) (l : List Int) : contP (a :: l) = Nat.gcd (contP l) a.natAbs := rfl
theorem cont_step {F : List Int} {k c g u : Nat} {a : Int} (hg : g = Nat.gcd c (contP (F.drop k))) (hk : 0 < k) (hl : k ≤ F.length) (ha : a = co F (k - 1)) (hu : u = a.natAbs) : Nat.gcd g u = Nat.gcd c (contP (F.drop (k - 1))) := by
  rw [drop_predZ hk hl, contP_cons, ← ha, ← hu, hg, Nat.gcd_assoc]
theorem cont_start {F : List Int} {k c : Nat} (hk : F.length ≤ k) : c = Nat.gcd c (contP (F.drop k)) := by
  rw [List.drop_of_length_le hk]; simp [contP]
/-- Once 1, always 1. -/
theorem cont_one {F : List Int} {c : Nat} : ∀ (k : Nat), Nat.gcd c (contP (F.drop k)) = 1 → Nat.gcd c (contP F) = 1
  | 0, h => h
  | k + 1, h => by
    rcases Nat.lt_or_ge k F.length with hk | hk
    · refine cont_one k ?_
      have e := cont_step (F := F) (k := k + 1) (c := c) rfl (by omega) (by omega) rfl rfl
      rw [show k + 1 - 1 = k from rfl, h] at e
      rw [← e]; simp
    · rw [List.drop_of_length_le (by omega)] at h
      have : c = 1 := by simpa [contP] using h
      rw [this]; simp
def cc2 (F G : List Int) : Nat → Nat
  | 0 => 0
  | 1 => contP F
  | _ => Nat.gcd (contP F) (contP G)
theorem cc2_step {F G H : List Int} {i : Nat} (hi : i < 2) (h0 : i = 0 → H = F) (h1 : i = 1 → H = G) : Nat.gcd (cc2 F G i) (contP H) = cc2 F G (i + 1) := by
  rcases (show i = 0 ∨ i = 1 by omega) with rfl | rfl
  · rw [h0 rfl]; simp [cc2]
  · rw [h1 rfl]; rfl
theorem cc2_one {F G : List Int} {i : Nat} (hi : i < 2) (h : cc2 F G (i + 1) = 1) : cc2 F G 2 = 1 := by
  rcases (show i = 0 ∨ i = 1 by omega) with rfl | rfl
  · have h : contP F = 1 := h
    show Nat.gcd (contP F) (contP G) = 1
    rw [h]; simp
  · exact h
theorem contP_zero : ∀ {F : List Int}, contP F = 0 → ∀ i, co F i = 0
  | [], _, i => by simp [co]
  | a :: F, h, i => by
    rw [contP_cons] at h
    have h1 := Nat.eq_zero_of_gcd_eq_zero_left h
    have h2 := Nat.eq_zero_of_gcd_eq_zero_right h
    cases i with
    | zero => simp [co]; omega
    | succ i => have := contP_zero h1 i; simpa [co] using this
def ldP (F : List Int) : Int := coI (trimZ F) (((trimZ F).length : Int) - 1)
theorem ld_zero {F : List Int} (h : ldP F = 0) : trimZ F = [] := by
  rcases Nat.eq_zero_or_pos (trimZ F).length with h0 | h0
  · exact List.eq_nil_of_length_eq_zero h0
  · exfalso
    unfold ldP at h
    rw [show (((trimZ F).length : Int) - 1) = (((trimZ F).length - 1 : Nat) : Int) by omega, coI_nat] at h
    exact canon_last (f := trimZ F) (canon_trim isZI F) (by omega) h
theorem cont_pos {F : List Int} (h : ldP F ≠ 0) : 0 < contP F := by
  rcases Nat.eq_zero_or_pos (contP F) with h0 | h0
  · exfalso; apply h
    have hz := contP_zero h0
    unfold ldP
    by_cases hl : (((trimZ F).length : Int) - 1) < 0
    · simp [coI, hl]
    · rw [← coI_in (by omega), co_trim, hz]
  · exact h0
def primC (F : List Int) : Int := if ldP F < 0 then -(contP F : Int) else (contP F : Int)
def primP (F : List Int) : List Int := (trimZ F).map (fun x => x.tdiv (primC F))
theorem primP_zero {F : List Int} (h : ldP F = 0) : [] = primP F := by unfold primP; rw [ld_zero h]; rfl
theorem ov_step {G L : List Int} {k : Nat} {v c : Int} (h : ∀ j, co L j = if j < k then (co G j).tdiv c else co G j) (hk : k < L.length) (hv : v = (co L k).tdiv c) : ∀ j, co (L.set k v) j = if j < k + 1 then (co G j).tdiv c else co G j := fun j => by
  by_cases e : j = k
  · subst e
    rw [if_pos (by omega), hv, h j, if_neg (by omega)]
    simp [co, List.getD, List.getElem?_set_self hk]
  · have e2 : co (L.set k v) j = co L j := by simp only [co, List.getD]; rw [List.getElem?_set_ne (Ne.symm e)]
    rw [e2, h j]
    by_cases h1 : j < k
    · rw [if_pos h1, if_pos (by omega)]
    · rw [if_neg h1, if_neg (by omega)]
theorem ov_fin {G L : List Int} {k : Nat} {c : Int} (h : ∀ j, co L j = if j < k then (co G j).tdiv c else co G j) (hl : L.length = G.length) (hk : G.length ≤ k) : L = G.map (fun x => x.tdiv c) := by
  apply List.ext_getElem
  · simpa using hl
  · intro i h1 h2
    have e := h i
    rw [if_pos (by omega)] at e
    simp only [co, List.getD] at e
    rw [List.getElem?_eq_getElem h1, List.getElem?_eq_getElem (by omega)] at e
    simpa using e
theorem co_pow1 (a : Int) : ∀ (n i : Nat), co (ppow [a] n) i = if i = 0 then a ^ n else 0
  | 0, i => by cases i <;> simp [ppow, co]
  | n + 1, i => by
    show co (pmul (ppow [a] n) [a]) i = _
    rw [co_pmul]
    unfold conv convF
    cases i with
    | zero =>
      have e := co_pow1 a n 0
      simp [rsum, co, Int.pow_succ] at e ⊢
      rw [e]
    | succ i =>
      rw [if_neg (by omega)]
      have : rsum (fun j => co (ppow [a] n) j * co [a] (i + 1 - j)) (i + 1 + 1) = rsum (fun _ => 0) (i + 1 + 1) := rsum_congr fun j hj => by
        rw [co_pow1 a n]
        by_cases h0 : j = 0
        · subst h0; simp [co]
        · rw [if_neg h0, Int.zero_mul]
      rw [this]
      have z : ∀ m, rsum (fun _ => (0 : Int)) m = 0 := by intro m; induction m with | zero => rfl | succ m ih => simp [rsum, ih]
      exact z _
theorem ld_pow1 {a : Int} {n : Nat} {F : List Int} (h : F = trimZ (ppow [a] n)) : ldP F = a ^ n := by
  have hF : trimZ F = F := by rw [h]; exact canon_trim isZI _
  have hc : ∀ i, co F i = if i = 0 then a ^ n else 0 := fun i => by rw [h, co_trim, co_pow1]
  unfold ldP
  rw [hF]
  rcases Nat.eq_zero_or_pos F.length with h0 | h0
  · rw [← coI_out (.inl (by omega))]
    have := hc 0
    rw [if_pos rfl, List.eq_nil_of_length_eq_zero h0] at this
    simpa [co] using this
  · rw [show ((F.length : Int) - 1) = ((F.length - 1 : Nat) : Int) by omega, coI_nat]
    have h1 := canon_last (f := F) (by rw [h]; exact canon_trim isZI _) (by omega)
    rw [hc] at h1 ⊢
    by_cases e : F.length - 1 = 0
    · rw [if_pos e]
    · rw [if_neg e] at h1; exact absurd rfl h1
end Go.Gx

/-
  Lists of small integers that came in, lists that grow, two polynomials in a list. No program in sight.
-/
namespace Go.Gx
open Go.RowKit
def I16R (w : World) (S : Nat → Prop) (A : Option Addr) (n c : Nat) (xs : List Int) : Prop := Rd w S A n c 1 (xs.map (Value.int .i16)) ∧ ∀ x ∈ xs, -32768 ≤ x ∧ x ≤ 32767
section
variable {w w' : World} {S S' G : Nat → Prop} {A : Option Addr} {n c : Nat} {xs : List Int}
theorem I16R.frmB (h : I16R w S A n c xs) (f : Frm G w w') (hd : ∀ b, b < w.heap.size → S b → ¬ G b) : I16R w' S A n c xs := ⟨h.1.frmB f hd, h.2⟩
theorem I16R.ext (h : I16R w S A n c xs) (f : Ext w w') : I16R w' S A n c xs := ⟨h.1.ext f, h.2⟩
theorem I16R.low (h : I16R w S A n c xs) : I16R w (· < w.heap.size) A n c xs := ⟨h.1.low, h.2⟩
theorem I16R.len (h : I16R w S A n c xs) : xs.length = n := by have := h.1.1; simpa using this
theorem I16R.lkm (h : I16R w S A n c xs) : xs.length = n ∧ n ≤ c ∧ c ≤ 9223372036854775807 := ⟨h.len, h.1.2.1, h.1.2.2.1⟩
theorem I16R.base (h : I16R w S A n c xs) (hn : 0 < n) : ∃ b off, A = some ⟨b, off, none⟩ := h.1.base hn
theorem I16R.rng (h : I16R w S A n c xs) (i : Nat) : -32768 ≤ xs.getD i 0 ∧ xs.getD i 0 ≤ 32767 := by
  rcases Nat.lt_or_ge i xs.length with hi | hi
  · simp only [List.getD, List.getElem?_eq_getElem hi, Option.getD_some]; exact h.2 _ (List.getElem_mem hi)
  · simp [List.getD, List.getElem?_eq_none hi]
theorem I16R.cell {b off : Nat} (h : I16R w S (some ⟨b, off, none⟩) n c xs) {i : Nat} (hi : i < n) : w.cell? ⟨b, off + i, none⟩ = some (.int .i16 (xs.getD i 0)) := by
  refine h.1.cell ?_
  have hl : i < xs.length := by rw [h.len]; exact hi
  simp [List.getElem?_map, List.getElem?_eq_getElem hl]
theorem Own.intsR {B : Nat} {e : TypeId} (h : Own w B e 1 A n c (xs.map (Value.int .i64))) (hx : ∀ x ∈ xs, -9223372036854775808 ≤ x ∧ x ≤ 9223372036854775807) : IntsR w (fun b => B ≤ b) A n c xs := ⟨h.rd, hx⟩
end
theorem take_snoc16 {O F : List Int} {k : Nat} (h : O = F.take k) (hk : k < F.length) : O ++ [F.getD k 0] = F.take (k + 1) := by
  rw [h, List.take_add_one, List.getElem?_eq_getElem hk]; simp [List.getD, List.getElem?_eq_getElem hk]
theorem small_snoc {O : List Int} {x : Int} (h : ∀ y ∈ O, -32768 ≤ y ∧ y ≤ 32767) (hx : -32768 ≤ x ∧ x ≤ 32767) : ∀ y ∈ O ++ [x], -32768 ≤ y ∧ y ≤ 32767 := fun y hy => by
  rcases List.mem_append.1 hy with h1 | h1
  · exact h y h1
  · simp at h1; subst h1; exact hx
theorem small_wide {O : List Int} (h : ∀ y ∈ O, -32768 ≤ y ∧ y ≤ 32767) : ∀ y ∈ O, -9223372036854775808 ≤ y ∧ y ≤ 9223372036854775807 := fun y hy => by have := h y hy; omega
/-- One of two polynomials of a list. -/
theorem two_polys {w : World} {g : Nat} {t : TypeId} {S : Nat → Prop} {Af Ag : Option Addr} {nf cf ng cg Mf Mg k : Nat} {lf lg : List RI} (h : Blk w g t [.slice Af nf cf, .slice Ag ng cg]) (hf : PolyR w S Af nf cf lf Mf) (hg : PolyR w S Ag ng cg lg Mg) (hk : k < 2) :
    ∃ A n c l, w.cell? ⟨g, k, none⟩ = some (.slice A n c) ∧ PolyR w S A n c l (max Mf Mg) ∧ (k = 0 → zs l = zs lf ∧ n = nf) ∧ (k = 1 → zs l = zs lg ∧ n = ng) := by
  rcases (show k = 0 ∨ k = 1 by omega) with rfl | rfl
  · exact ⟨Af, nf, cf, lf, h.at_ rfl, hf.le (by omega), fun _ => ⟨rfl, rfl⟩, fun h => by omega⟩
  · exact ⟨Ag, ng, cg, lg, h.at_ rfl, hg.le (by omega), fun h => by omega, fun _ => ⟨rfl, rfl⟩⟩
theorem one_poly {w : World} {g : Nat} {t : TypeId} {S : Nat → Prop} {Af : Option Addr} {nf cf Mf k : Nat} {lf : List RI} (h : Blk w g t [.slice Af nf cf]) (hf : PolyR w S Af nf cf lf Mf) (hk : k < 1) :
    ∃ A n c l, w.cell? ⟨g, k, none⟩ = some (.slice A n c) ∧ PolyR w S A n c l Mf ∧ zs l = zs lf ∧ n = nf := by
  obtain rfl : k = 0 := by omega
  exact ⟨Af, nf, cf, lf, h.at_ rfl, hf, rfl, rfl⟩
/-- One of the three factors: f with the power xk, nothing with the power 0, f with the power -3. -/
theorem three_facs {w : World} {g : Nat} {t : TypeId} {S : Nat → Prop} {Af : Option Addr} {nf cf Mf k : Nat} {lf : List RI} {xk : Int} (h : Blk w g t [.slice Af nf cf, .int .i64 xk, .slice none 0 0, .int .i64 0, .slice Af nf cf, .int .i64 (-3)]) (hf : PolyR w S Af nf cf lf Mf) (hk : k < 3) :
    ∃ A n c l x, w.cell? ⟨g, k * 2, none⟩ = some (.slice A n c) ∧ w.cell? ⟨g, k * 2 + 1, none⟩ = some (.int .i64 x) ∧ PolyR w S A n c l Mf ∧ n ≤ nf ∧ (k = 0 → zs l = zs lf ∧ x = xk) ∧ (k ≠ 0 → -3 ≤ x ∧ x ≤ 0) := by
  rcases (show k = 0 ∨ k = 1 ∨ k = 2 by omega) with rfl | rfl | rfl
  · exact ⟨Af, nf, cf, lf, xk, h.at_ rfl, h.at_ rfl, hf, Nat.le_refl _, fun _ => ⟨rfl, rfl⟩, fun h => absurd rfl h⟩
  · exact ⟨none, 0, 0, [], 0, h.at_ rfl, h.at_ rfl, PolyR.nil, Nat.zero_le _, fun h => by omega, fun _ => by omega⟩
  · exact ⟨Af, nf, cf, lf, -3, h.at_ rfl, h.at_ rfl, hf, Nat.le_refl _, fun h => by omega, fun _ => by omega⟩
end Go.Gx

/-
  Fractions. Plain numbers; no program in sight.
-/
namespace Go.Gx
def rnum (z : Int) (v : Nat) : Int := if v = 0 then 0 else z
def rden (v : Nat) : Nat := if v = 0 then 1 else v
theorem rden_pos (v : Nat) : 0 < rden v := by unfold rden; split <;> omega
theorem rden_of {v : Nat} (h : 0 < v) : rden v = v := by unfold rden; rw [if_neg (by omega)]
theorem rnum_of {z : Int} {v : Nat} (h : 0 < v) : rnum z v = z := by unfold rnum; rw [if_neg (by omega)]
theorem tdiv_dvd {z G q : Int} (h : G ∣ z) (hq : q = z.tdiv G) : z = G * q := by rw [hq]; exact (Int.mul_tdiv_cancel' h).symm
theorem reduce_math {zn zd G n d : Int} {a b : Nat} (ha : a = zn.natAbs) (hb : b = zd.natAbs) (hG : G = (Nat.gcd a b : Int)) (hd : 0 < zd) (en : n = zn.tdiv G) (ed : d = zd.tdiv G) :
    n * zd = zn * d ∧ 0 < d ∧ Nat.gcd n.natAbs d.natAbs = 1 := by
  subst ha hb
  have hgp : 0 < Nat.gcd zn.natAbs zd.natAbs := Nat.gcd_pos_of_pos_right _ (by omega)
  have d1 : G ∣ zn := by rw [hG]; exact Int.ofNat_dvd_left.2 (Nat.gcd_dvd_left _ _)
  have d2 : G ∣ zd := by rw [hG]; exact Int.ofNat_dvd_left.2 (Nat.gcd_dvd_right _ _)
  have h1 := tdiv_dvd d1 en
  have h2 := tdiv_dvd d2 ed
  have hG0 : 0 < G := by rw [hG]; omega
  have hd0 : 0 < d := by
    rcases Int.lt_trichotomy d 0 with h | h | h
    · have := Int.mul_neg_of_pos_of_neg hG0 h; omega
    · rw [h] at h2; omega
    · exact h
  refine ⟨?_, hd0, ?_⟩
  · rw [h1, h2, ← Int.mul_assoc, Int.mul_comm n G]
  · have e1 : zn.natAbs = Nat.gcd zn.natAbs zd.natAbs * n.natAbs := by
      have := congrArg Int.natAbs h1
      rw [Int.natAbs_mul, hG] at this
      simpa using this
    have e2 : zd.natAbs = Nat.gcd zn.natAbs zd.natAbs * d.natAbs := by
      have := congrArg Int.natAbs h2
      rw [Int.natAbs_mul, hG] at this
      simpa using this
    have e3 : Nat.gcd (Nat.gcd zn.natAbs zd.natAbs * n.natAbs) (Nat.gcd zn.natAbs zd.natAbs * d.natAbs) = Nat.gcd zn.natAbs zd.natAbs * Nat.gcd n.natAbs d.natAbs := Nat.gcd_mul_left _ _ _
    rw [← e1, ← e2] at e3
    exact Nat.eq_of_mul_eq_mul_left hgp (by rw [← e3, Nat.mul_one])
theorem make_math {zn zd zn' zd' n : Int} {v : Nat} (h : n * zd' = zn' * (v : Int)) (hs : (zn' = zn ∧ zd' = zd) ∨ (zn' = -zn ∧ zd' = -zd)) : n * zd = zn * (v : Int) := by
  rcases hs with ⟨h1, h2⟩ | ⟨h1, h2⟩
  · rw [← h1, ← h2]; exact h
  · rw [h1, h2, Int.mul_neg, Int.neg_mul] at h; omega
end Go.Gx

/-
  Values of polynomials at fractions. Plain numbers; no program in sight.
-/
namespace Go.Gx
def evQ : List Int → Rat → Rat
  | [], _ => 0
  | a :: l, q => (a : Rat) + q * evQ l q
def evZ (n d : Int) : List Int → Int
  | [] => 0
  | a :: l => a * d ^ l.length + n * evZ n d l
def rv (z : Int) (v : Nat) : Rat := (rnum z v : Rat) / ((rden v : Int) : Rat)
theorem cast_pow (d : Int) (k : Nat) : ((d ^ k : Int) : Rat) = (d : Rat) ^ k := by
  induction k with
  | zero => simp
  | succ k ih => rw [Int.pow_succ, Rat.intCast_mul, ih, Rat.pow_succ]
theorem evZ_Q {n d : Int} {q : Rat} (hq : q * (d : Rat) = (n : Rat)) : ∀ l, ((evZ n d l : Int) : Rat) * (d : Rat) = evQ l q * (d : Rat) ^ l.length
  | [] => by simp [evZ, evQ]
  | a :: l => by
    have ih := evZ_Q hq l
    simp only [evZ, evQ, List.length_cons, Rat.intCast_add, Rat.intCast_mul, cast_pow, Rat.pow_succ]
    grind
theorem cast_ne {d : Int} (h : d ≠ 0) : (d : Rat) ≠ 0 := fun e => h (Rat.intCast_inj.1 (by rw [e]; rfl))
theorem evQ_head (f : List Int) (q : Rat) : evQ f q = ((co f 0 : Int) : Rat) + q * evQ f.tail q := by
  cases f with
  | nil => simp [evQ, co]; grind
  | cons a l => simp [evQ, co]
theorem co_tail (f : List Int) (i : Nat) : co f.tail i = co f (i + 1) := by cases f <;> simp [co]
theorem evQ_ext (q : Rat) : ∀ (n : Nat) (f g : List Int), f.length + g.length ≤ n → (∀ i, co f i = co g i) → evQ f q = evQ g q
  | 0, f, g, hn, _ => by
    have h1 : f = [] := List.eq_nil_of_length_eq_zero (by omega)
    have h2 : g = [] := List.eq_nil_of_length_eq_zero (by omega)
    rw [h1, h2]
  | n + 1, f, g, hn, h => by
    rcases Nat.eq_zero_or_pos (f.length + g.length) with h0 | h0
    · have h1 : f = [] := List.eq_nil_of_length_eq_zero (by omega)
      have h2 : g = [] := List.eq_nil_of_length_eq_zero (by omega)
      rw [h1, h2]
    · rw [evQ_head f, evQ_head g, h 0, evQ_ext q n f.tail g.tail (by simp; omega) (fun i => by rw [co_tail, co_tail]; exact h (i + 1))]
theorem evQ_congr {f g : List Int} (q : Rat) (h : ∀ i, co f i = co g i) : evQ f q = evQ g q := evQ_ext q _ f g (Nat.le_refl _) h
theorem evQ_trim (f : List Int) (q : Rat) : evQ (trimZ f) q = evQ f q := evQ_congr q fun i => co_trim f i
theorem evQ_padd (q : Rat) : ∀ f g : List Int, evQ (padd f g) q = evQ f q + evQ g q
  | [], g => by rw [evQ_congr q (g := g) (fun i => by rw [co_padd]; simp [co])]; simp [evQ]; grind
  | a :: f, [] => by rw [evQ_congr q (g := a :: f) (fun i => by rw [co_padd]; simp [co])]; simp [evQ]; grind
  | a :: f, b :: g => by
    rw [evQ_congr q (g := (a + b) :: padd f g) (fun i => by
      rw [co_padd]
      cases i with
      | zero => simp [co]
      | succ i =>
        have := co_padd f g i
        simp only [co, List.getD_cons_succ] at this ⊢
        omega)]
    simp only [evQ, evQ_padd q f g, Rat.intCast_add]
    grind
theorem evQ_scale (q : Rat) (c : Int) : ∀ f : List Int, evQ (scaleP f c) q = (c : Rat) * evQ f q
  | [] => by simp [scaleP, evQ]
  | a :: f => by
    have ih := evQ_scale q c f
    simp only [scaleP, List.map_cons, evQ, Rat.intCast_mul] at ih ⊢
    rw [ih]
    grind
theorem co_pmul_cons (a : Int) (f g : List Int) (k : Nat) : co (pmul (a :: f) g) k = co (padd (scaleP g a) (0 :: pmul f g)) k := by
  rw [co_pmul, co_padd, co_scaleP]
  unfold conv convF
  rw [rsum_head]
  cases k with
  | zero => simp [rsum, co, Int.mul_comm]
  | succ k =>
    have e1 : co (0 :: pmul f g) (k + 1) = conv f g k := by rw [← co_pmul]; simp [co]
    rw [e1]
    unfold conv convF
    have e2 : rsum (fun i => co (a :: f) (i + 1) * co g (k + 1 - (i + 1))) (k + 1) = rsum (fun i => co f i * co g (k - i)) (k + 1) := rsum_congr fun i _ => by simp [co]
    rw [e2]
    simp [co, Int.mul_comm]
theorem evQ_pmul (q : Rat) : ∀ f g : List Int, evQ (pmul f g) q = evQ f q * evQ g q
  | [], g => by simp [pmul, evQ]
  | a :: f, g => by
    rw [evQ_congr q (co_pmul_cons a f g), evQ_padd, evQ_scale]
    simp only [evQ, evQ_pmul q f g]
    simp
    grind
theorem evQ_phorn (q : Rat) (g : List Int) : ∀ f : List Int, evQ (phorn g f) q = evQ f (evQ g q)
  | [] => rfl
  | a :: f => by
    show evQ (padd (pmul (phorn g f) g) [a]) q = _
    rw [evQ_padd, evQ_pmul, evQ_phorn q g f]
    simp only [evQ]
    grind
/-! how the walk of a value comes out -/
theorem evZ_step {n d v : Int} {F : List Int} {k : Nat} (hk : 0 < k) (hl : k ≤ F.length) (hv : v = evZ n d (F.drop k)) : v * n + co F (k - 1) * d ^ (F.length - 1 - (k - 1)) = evZ n d (F.drop (k - 1)) := by
  rw [List.drop_eq_getElem_cons (show k - 1 < F.length by omega), show k - 1 + 1 = k by omega]
  simp only [evZ, ← hv, List.length_drop]
  rw [show F.length - 1 - (k - 1) = F.length - k by omega]
  have : co F (k - 1) = F[k - 1] := by simp [co, List.getD, show k - 1 < F.length by omega]
  rw [this, Int.mul_comm v n]
  omega
theorem pow_keep {d : Int} {N k : Nat} (hk : k = N) : d ^ (N - 1 - k) = d ^ (N - 1 - (k - 1)) := by congr 1; omega
theorem pow_more {d : Int} {N k : Nat} (hk : 0 < k) (hN : k < N) : d ^ (N - 1 - k) * d = d ^ (N - 1 - (k - 1)) := by rw [← Int.pow_succ]; congr 1; omega
theorem rv_mul {z : Int} {v : Nat} {n d : Int} (h : n * (rden v : Int) = rnum z v * d) (hd : 0 < d) : rv z v * (d : Rat) = (n : Rat) := by
  have h1 : (n : Rat) * ((rden v : Int) : Rat) = (rnum z v : Rat) * (d : Rat) := by rw [← Rat.intCast_mul, ← Rat.intCast_mul, h]
  have h2 : ((rden v : Int) : Rat) ≠ 0 := cast_ne (by have := rden_pos v; omega)
  unfold rv
  grind
theorem scaled_end {n d v p : Int} {F : List Int} {q : Rat} (hq : q * (d : Rat) = (n : Rat)) (hd : 0 < d) (hv : v = evZ n d F) (hp : p = d ^ (F.length - 1)) : (v : Rat) = evQ F q * (p : Rat) ∧ 0 < p := by
  have h1 := evZ_Q hq F
  have h2 := cast_ne (show d ≠ 0 by omega)
  refine ⟨?_, by rw [hp]; exact Int.pow_pos hd⟩
  rw [hv, hp, cast_pow]
  cases F with
  | nil => simp [evZ, evQ]
  | cons a l =>
    simp only [List.length_cons, Nat.add_sub_cancel, Rat.pow_succ] at h1 ⊢
    grind
theorem evalrat_end {v p r : Int} {dr : Nat} {e : Rat} (h : (v : Rat) = e * (p : Rat)) (hp : 0 < p) (hx : r * p = v * (dr : Int)) (hd : 0 < dr) : rv r dr = e := by
  unfold rv
  rw [rnum_of hd, rden_of hd]
  have h1 : (r : Rat) * (p : Rat) = (v : Rat) * ((dr : Int) : Rat) := by rw [← Rat.intCast_mul, ← Rat.intCast_mul, hx]
  have h2 := cast_ne (show p ≠ 0 by omega)
  have h3 := cast_ne (show (dr : Int) ≠ 0 by omega)
  grind
end Go.Gx

/-
  Division of polynomials, step by step. Plain numbers; no program in sight.
-/
namespace Go.Gx
/-- The coefficient of x^i in x^low times G. -/
def cs (G : List Int) (low i : Nat) : Int := if low ≤ i then co G (i - low) else 0
theorem cs_co (G : List Int) (low i : Nat) : co (List.replicate low 0 ++ G) i = cs G low i := by
  unfold cs co
  by_cases h : low ≤ i
  · rw [if_pos h]; simp only [List.getD]; rw [List.getElem?_append_right (by simpa using h)]; simp
  · rw [if_neg h]; simp only [List.getD]; rw [List.getElem?_append_left (by simp; omega)]
    simp [List.getElem?_replicate, show i < low by omega]
theorem evQ_shift (q : Rat) (G : List Int) : ∀ low, evQ (List.replicate low 0 ++ G) q = q ^ low * evQ G q
  | 0 => by simp
  | low + 1 => by
    rw [List.replicate_succ, List.cons_append]
    simp only [evQ, evQ_shift q G low, Rat.pow_succ]
    have : ((0 : Int) : Rat) = 0 := rfl
    rw [this]; grind
theorem co_takeZ (R : List Int) (t i : Nat) : co (R.take t) i = if i < t then co R i else 0 := by
  simp only [co, List.getD, List.getElem?_take]
  by_cases h : i < t
  · rw [if_pos h, if_pos h]
  · rw [if_neg h, if_neg h]; rfl
theorem pseudo_step {F G Q R Q2 R1 : List Int} {L f : Int} {m t low d : Nat} (hI : ∀ x : Rat, evQ F x * (L : Rat) ^ m = evQ Q x * evQ G x + evQ (R.take t) x) (hQl : co Q low = 0)
    (hQ2 : ∀ i, co Q2 i = if i = low then f else co Q i * L) (hR1 : ∀ i, i < t - 1 → co R1 i = co R i * L - f * cs G low i) (hf : f = co R (t - 1)) (hd : co G d = L) (hG : ∀ i, d < i → co G i = 0) (ht : t = low + d + 1) :
    ∀ x : Rat, evQ F x * (L : Rat) ^ (m + 1) = evQ Q2 x * evQ G x + evQ (R1.take (t - 1)) x := fun x => by
  have e1 : evQ Q2 x = (L : Rat) * evQ Q x + (f : Rat) * x ^ low := by
    have : evQ Q2 x = evQ (padd (scaleP Q L) (scaleP (List.replicate low 0 ++ [1]) f)) x := evQ_congr x fun i => by
      rw [co_padd, co_scaleP, co_scaleP, cs_co, hQ2]
      by_cases h : i = low
      · subst h; rw [if_pos rfl, hQl]; simp [cs, co]
      · rw [if_neg h]
        have : cs [1] low i = 0 := by
          unfold cs
          by_cases h2 : low ≤ i
          · rw [if_pos h2]; have : i - low ≠ 0 := by omega
            cases hh : i - low with
            | zero => omega
            | succ j => simp [co]
          · rw [if_neg h2]
        rw [this]; omega
    rw [this, evQ_padd, evQ_scale, evQ_scale, evQ_shift]
    simp only [evQ]
    have h1 : ((1 : Int) : Rat) = 1 := rfl
    rw [h1]; grind
  have e2 : (L : Rat) * evQ (R.take t) x = (f : Rat) * (x ^ low * evQ G x) + evQ (R1.take (t - 1)) x := by
    rw [← evQ_shift, ← evQ_scale, ← evQ_scale, ← evQ_padd]
    refine evQ_congr x fun i => ?_
    rw [co_padd, co_scaleP, co_scaleP, cs_co, co_takeZ, co_takeZ]
    by_cases h1 : i < t - 1
    · rw [if_pos (by omega), if_pos h1, hR1 i h1, Int.mul_comm (cs G low i)]; omega
    · rw [if_neg h1]
      by_cases h2 : i < t
      · have hi : i = t - 1 := by omega
        rw [if_pos h2, hi, ← hf]
        have : cs G low (t - 1) = L := by unfold cs; rw [if_pos (by omega), show t - 1 - low = d by omega, hd]
        rw [this, Int.mul_comm]; omega
      · rw [if_neg h2]
        have : cs G low i = 0 := by unfold cs; rw [if_pos (by omega), hG _ (by omega)]
        rw [this]; simp
  have h := hI x
  rw [e1, Rat.pow_succ]
  grind
theorem exact_step {F G Q R Q2 R1 : List Int} {f : Int} {low : Nat} (hI : ∀ x : Rat, evQ F x = evQ Q x * evQ G x + evQ R x) (hQl : co Q low = 0)
    (hQ2 : ∀ i, co Q2 i = if i = low then f else co Q i) (hR1 : ∀ i, co R1 i = co R i - f * cs G low i) : ∀ x : Rat, evQ F x = evQ Q2 x * evQ G x + evQ R1 x := fun x => by
  have e1 : evQ Q2 x = evQ Q x + (f : Rat) * x ^ low := by
    have : evQ Q2 x = evQ (padd Q (scaleP (List.replicate low 0 ++ [1]) f)) x := evQ_congr x fun i => by
      rw [co_padd, co_scaleP, cs_co, hQ2]
      by_cases h : i = low
      · subst h; rw [if_pos rfl, hQl]; simp [cs, co]
      · rw [if_neg h]
        have : cs [1] low i = 0 := by
          unfold cs
          by_cases h2 : low ≤ i
          · rw [if_pos h2]
            cases hh : i - low with
            | zero => omega
            | succ j => simp [co]
          · rw [if_neg h2]
        rw [this]; omega
    rw [this, evQ_padd, evQ_scale, evQ_shift]
    simp only [evQ]
    have h1 : ((1 : Int) : Rat) = 1 := rfl
    rw [h1]; grind
  have e2 : evQ R x = (f : Rat) * (x ^ low * evQ G x) + evQ R1 x := by
    rw [← evQ_shift, ← evQ_scale, ← evQ_padd]
    refine evQ_congr x fun i => ?_
    rw [co_padd, co_scaleP, cs_co, hR1 i, Int.mul_comm (cs G low i)]; omega
  have h := hI x
  rw [e1]
  grind
theorem co_setZ {L : List Int} {k : Nat} {v : Int} (hk : k < L.length) (j : Nat) : co (L.set k v) j = if j = k then v else co L j := by
  by_cases e : j = k
  · subst e; rw [if_pos rfl]; simp [co, List.getD, List.getElem?_set_self hk]
  · rw [if_neg e]; simp only [co, List.getD]; rw [List.getElem?_set_ne (Ne.symm e)]
theorem mulq_step {Q Q1 : List Int} {j : Nat} {L v : Int} (h : ∀ i, co Q1 i = if i < j then co Q i * L else co Q i) (hj : j < Q1.length) (hv : v = co Q1 j * L) : ∀ i, co (Q1.set j v) i = if i < j + 1 then co Q i * L else co Q i := fun i => by
  rw [co_setZ hj]
  by_cases e : i = j
  · subst e; rw [if_pos rfl, if_pos (by omega), hv, h i, if_neg (by omega)]
  · rw [if_neg e, h i]
    by_cases h1 : i < j
    · rw [if_pos h1, if_pos (by omega)]
    · rw [if_neg h1, if_neg (by omega)]
theorem mulq_start {Q : List Int} {s : Nat} {L : Int} (h0 : ∀ i, i < s → co Q i = 0) : ∀ i, co Q i = if i < s then co Q i * L else co Q i := fun i => by
  by_cases h : i < s
  · rw [if_pos h, h0 i h]; simp
  · rw [if_neg h]
theorem rem_step {R R1 G : List Int} {j low : Nat} {L f v : Int} (h : ∀ i, co R1 i = if i < j then co R i * L - f * cs G low i else co R i) (hj : j < R1.length) (hv : v = co R1 j * L - f * cs G low j) : ∀ i, co (R1.set j v) i = if i < j + 1 then co R i * L - f * cs G low i else co R i := fun i => by
  rw [co_setZ hj]
  by_cases e : i = j
  · subst e; rw [if_pos rfl, if_pos (by omega), hv, h i, if_neg (by omega)]
  · rw [if_neg e, h i]
    by_cases h1 : i < j
    · rw [if_pos h1, if_pos (by omega)]
    · rw [if_neg h1, if_neg (by omega)]
theorem xsub_step {R R1 G : List Int} {j low : Nat} {f v : Int} (h : ∀ i, co R1 i = if i < low + j then co R i - f * cs G low i else co R i) (hj : low + j < R1.length) (hv : v = co R1 (low + j) - f * co G j) : ∀ i, co (R1.set (low + j) v) i = if i < low + (j + 1) then co R i - f * cs G low i else co R i := fun i => by
  rw [co_setZ hj]
  by_cases e : i = low + j
  · subst e; rw [if_pos rfl, if_pos (by omega), hv, h _, if_neg (by omega)]
    have : cs G low (low + j) = co G j := by unfold cs; rw [if_pos (by omega), show low + j - low = j by omega]
    rw [this]
  · rw [if_neg e, h i]
    by_cases h1 : i < low + j
    · rw [if_pos h1, if_pos (by omega)]
    · rw [if_neg h1, if_neg (by omega)]
theorem ld_deg {G : List Int} {d : Nat} (hd : (trimZ G).length = d + 1) : co G d = ldP G ∧ (∀ i, d < i → co G i = 0) ∧ ldP G ≠ 0 := by
  have h1 : ldP G = co (trimZ G) d := by unfold ldP; rw [hd, show (((d + 1 : Nat) : Int) - 1) = (d : Int) by omega, coI_nat]
  refine ⟨by rw [h1, co_trim], fun i hi => ?_, ?_⟩
  · rw [← co_trim]; exact zget_ge (n := d + 1) (by omega) i (by omega)
  · rw [h1]; have := canon_last (f := trimZ G) (canon_trim isZI G) (by omega); rwa [hd] at this
theorem bud_step {B M E s K : Nat} (h : B + E * s ≤ M + E * K) (hs : 0 < s) : B + E + E * (s - 1) ≤ M + E * K := by
  obtain ⟨t, rfl⟩ : ∃ t, s = t + 1 := ⟨s - 1, by omega⟩
  rw [Nat.mul_succ] at h
  rw [Nat.add_sub_cancel]
  omega
def psM (M G K : Nat) : Nat := M + (G + 6) * K
theorem psM_le {B M G t N K : Nat} (h : B + (G + 6) * t ≤ M + (G + 6) * N) (hK : N ≤ K + t) : B ≤ psM M G K := by
  have h1 : (G + 6) * N ≤ (G + 6) * (K + t) := Nat.mul_le_mul_left _ hK
  rw [Nat.mul_add] at h1
  unfold psM
  omega
def exM (M G K : Nat) : Nat := M + (G + 14) * K + 2
theorem exM_le {B M G t N K : Nat} (h : B + (G + 14) * t ≤ M + (G + 14) * N) (hK : N ≤ K) : B + 2 ≤ exM M G K := by
  have h1 : (G + 14) * N ≤ (G + 14) * K := Nat.mul_le_mul_left _ hK
  unfold exM
  omega
theorem exM_64 {M G K L : Nat} (hK : K ≤ L) : exM M G K ≤ M + L * (G + 14) + 2 := by
  have h1 : (G + 14) * K ≤ (G + 14) * L := Nat.mul_le_mul_left _ hK
  unfold exM
  rw [Nat.mul_comm L]
  omega
/-- How an inexact division shows itself. -/
def exFail (F G : List Int) : Prop := ∃ (Q R : List Int) (s : Nat), (∀ x : Rat, evQ F x = evQ Q x * evQ G x + evQ R x) ∧ (∀ i, s + ((trimZ G).length - 1) ≤ i → co R i = 0) ∧ ((0 < s ∧ ¬ ldP G ∣ co R (s - 1 + ((trimZ G).length - 1))) ∨ (s = 0 ∧ ∃ i, co R i ≠ 0))
theorem pq2 {Q Q1 : List Int} {low j : Nat} {L f : Int} (h : ∀ i, co Q1 i = if i < j then co Q i * L else co Q i) (hl : Q.length ≤ j) (hlow : low < Q1.length) : ∀ i, co (Q1.set low f) i = if i = low then f else co Q i * L := fun i => by
  rw [co_setZ hlow]
  by_cases e : i = low
  · rw [if_pos e, if_pos e]
  · rw [if_neg e, if_neg e, h i]
    by_cases h1 : i < j
    · rw [if_pos h1]
    · have hz : co Q i = 0 := zget_ge (n := j) hl i (by omega)
      rw [if_neg h1, hz]; simp
theorem ld_len {G : List Int} (h : ldP G ≠ 0) : ∃ d, (trimZ G).length = d + 1 := by
  rcases Nat.eq_zero_or_pos (trimZ G).length with h0 | h0
  · exfalso; apply h; unfold ldP; rw [← coI_out (.inl (by omega))]
  · exact ⟨(trimZ G).length - 1, by omega⟩
theorem co_zeros (m i : Nat) : co (zs (List.replicate m RI.zero)) i = 0 := by
  simp only [co, List.getD, List.getElem?_map, List.getElem?_replicate]
  by_cases h : i < m
  · simp [h, RI.zero, RI.z, zval, val]
  · simp [h]
theorem evQ_zeros (m : Nat) (x : Rat) : evQ (zs (List.replicate m RI.zero)) x = 0 := (evQ_congr x (g := []) fun i => by rw [co_zeros]; simp [co]).trans rfl
theorem xsub_start {R G : List Int} {low : Nat} {f : Int} : ∀ i, co R i = if i < low + 0 then co R i - f * cs G low i else co R i := fun i => by
  by_cases h : i < low + 0
  · rw [if_pos h]; unfold cs; rw [if_neg (by omega)]; simp
  · rw [if_neg h]
theorem xsub_all {R R1 G : List Int} {low d j : Nat} {f : Int} (h : ∀ i, co R1 i = if i < low + j then co R i - f * cs G low i else co R i) (hj : j = d + 1) (hG : ∀ i, d < i → co G i = 0) : ∀ i, co R1 i = co R i - f * cs G low i := fun i => by
  rw [h i]
  by_cases h1 : i < low + j
  · rw [if_pos h1]
  · rw [if_neg h1]
    have : cs G low i = 0 := by unfold cs; rw [if_pos (by omega), hG _ (by omega)]
    rw [this]; simp
theorem xsub_top {R R1 G : List Int} {low d s : Nat} {f L : Int} (h : ∀ i, co R1 i = co R i - f * cs G low i) (hs : s = low + 1) (h0 : ∀ i, s + d ≤ i → co R i = 0) (hd : co G d = L) (hG : ∀ i, d < i → co G i = 0) (hf : co R (low + d) = L * f) : ∀ i, s - 1 + d ≤ i → co R1 i = 0 := fun i hi => by
  rw [h i]
  by_cases e : i = low + d
  · subst e
    have : cs G low (low + d) = L := by unfold cs; rw [if_pos (by omega), show low + d - low = d by omega, hd]
    rw [this, hf, Int.mul_comm]; omega
  · have : cs G low i = 0 := by unfold cs; rw [if_pos (by omega), hG _ (by omega)]
    rw [this, h0 i (by omega)]; simp
theorem co_ne_of {R : List Int} (h : 0 ≤ ((trimZ R).length : Int) - 1) : ∃ i, co R i ≠ 0 := by
  have := canon_last (f := trimZ R) (canon_trim isZI R) (by omega)
  rw [co_trim] at this
  exact ⟨_, this⟩
theorem evQ_nil_of {R : List Int} {x : Rat} (h : ((trimZ R).length : Int) - 1 < 0) : evQ R x = 0 := by
  rw [← evQ_trim, List.eq_nil_of_length_eq_zero (by omega : (trimZ R).length = 0)]; rfl
/-- Nothing is left of x^2 divided by x. -/
theorem rest_none {q r : List Int} {L : Rat} {k : Nat} (h : ∀ x : Rat, evQ [0, 0, 1] x * L ^ k = evQ q x * evQ [0, 1] x + evQ r x) (hl : r.length ≤ 1) (ht : trimZ r = r) : r.length = 0 := by
  match r, hl, ht, h with
  | [], _, _, _ => rfl
  | [c], _, ht, h =>
    exfalso
    have h0 := h 0
    simp only [evQ] at h0
    have e0 : ((0 : Int) : Rat) = 0 := rfl
    have e1 : ((1 : Int) : Rat) = 1 := rfl
    rw [e0, e1] at h0
    have hc : (c : Rat) = 0 := by grind
    have : c = 0 := Rat.intCast_inj.1 (hc.trans e0.symm)
    subst this
    exact absurd ht (by decide)
  | _ :: _ :: _, hl, _, _ => simp at hl
theorem evQ_ppow (g : List Int) (x : Rat) : ∀ k, evQ (ppow g k) x = evQ g x ^ k
  | 0 => by
    show evQ [1] x = _
    simp only [evQ]
    have e1 : ((1 : Int) : Rat) = 1 := rfl
    rw [e1, Rat.pow_zero]; grind
  | k + 1 => by
    show evQ (pmul (ppow g k) g) x = _
    rw [evQ_pmul, evQ_ppow g x k, Rat.pow_succ]
/-- One factor more. -/
theorem mul3 {P2 P1 W F l : List Int} {i : Nat} {u xk x0 : Int} (hv : ∀ x : Rat, evQ P1 x = if i = 0 then (u : Rat) else (u : Rat) * evQ F x ^ xk.toNat) (hm : ∀ x, evQ P2 x = evQ P1 x * evQ W x) (hw : ∀ x, evQ W x = evQ l x ^ x0.toNat) (h0 : i = 0 → l = F ∧ x0 = xk) (h1 : i ≠ 0 → -3 ≤ x0 ∧ x0 ≤ 0) :
    ∀ x : Rat, evQ P2 x = if i + 1 = 0 then (u : Rat) else (u : Rat) * evQ F x ^ xk.toNat := fun x => by
  rw [if_neg (by omega), hm, hv, hw]
  by_cases h : i = 0
  · rw [if_pos h, (h0 h).1, (h0 h).2]
  · have h2 := h1 h
    rw [if_neg h, show x0.toNat = 0 by omega, Rat.pow_zero, Rat.mul_one]
/-- A factor 0 with a power. -/
theorem mul_dead {F l : List Int} {i : Nat} {u xk x0 d : Int} (h0 : i = 0 → l = F ∧ x0 = xk) (h1 : i ≠ 0 → -3 ≤ x0 ∧ x0 ≤ 0) (hx : 0 < x0) (hd : d = ((trimZ l).length : Int) - 1) (hn : d < 0) : ∀ x : Rat, evQ [] x = (u : Rat) * evQ F x ^ xk.toNat := fun x => by
  have hi : i = 0 := by rcases Nat.eq_zero_or_pos i with h | h; exact h; have := h1 (by omega); omega
  obtain ⟨h2, h3⟩ := h0 hi
  have hz : evQ F x = 0 := by rw [← h2]; exact evQ_nil_of (by omega)
  obtain ⟨k, hk⟩ : ∃ k, xk.toNat = k + 1 := ⟨xk.toNat - 1, by omega⟩
  rw [hz, hk, Rat.pow_succ]; simp [evQ]
end Go.Gx

/-
  Determinants by expansion along columns. Plain numbers; no program in sight.
-/
namespace Go.Gx
abbrev Row := Nat → Int
def lap (D : List Row → Int) (c : Nat) : List Row → List Row → Int
  | _, [] => 0
  | pre, r :: rs => r c * D (pre ++ rs) - lap D c (pre ++ [r]) rs
def det : List Nat → List Row → Int
  | [], [] => 1
  | [], _ :: _ => 0
  | c :: cl, rs => lap (det cl) c [] rs
structure Multi (D : List Row → Int) : Prop where
  add : ∀ (A : List Row) (u v : Row) (B : List Row), D (A ++ (fun c => u c + v c) :: B) = D (A ++ u :: B) + D (A ++ v :: B)
  smul : ∀ (A : List Row) (k : Int) (u : Row) (B : List Row), D (A ++ (fun c => k * u c) :: B) = k * D (A ++ u :: B)
  alt : ∀ (A : List Row) (u : Row) (B : List Row), D (A ++ u :: u :: B) = 0
section
variable {D : List Row → Int} (h : Multi D) (c : Nat)
include h
theorem lap_add_pre (A : List Row) (u v : Row) : ∀ (rs B : List Row), lap D c (A ++ (fun c => u c + v c) :: B) rs = lap D c (A ++ u :: B) rs + lap D c (A ++ v :: B) rs
  | [], B => by simp [lap]
  | r :: rs, B => by
    have ih := lap_add_pre A u v rs (B ++ [r])
    have h1 := h.add A u v (B ++ rs)
    simp only [lap, List.append_assoc, List.cons_append] at ih h1 ⊢
    rw [ih, h1, Int.mul_add]; omega
theorem lap_smul_pre (A : List Row) (k : Int) (u : Row) : ∀ (rs B : List Row), lap D c (A ++ (fun c => k * u c) :: B) rs = k * lap D c (A ++ u :: B) rs
  | [], B => by simp [lap]
  | r :: rs, B => by
    have ih := lap_smul_pre A k u rs (B ++ [r])
    have h1 := h.smul A k u (B ++ rs)
    simp only [lap, List.append_assoc, List.cons_append] at ih h1 ⊢
    rw [ih, h1, Int.mul_sub, ← Int.mul_assoc, Int.mul_comm (r c) k, Int.mul_assoc]
theorem lap_alt_pre (A : List Row) (u : Row) : ∀ (rs B : List Row), lap D c (A ++ u :: u :: B) rs = 0
  | [], B => by simp [lap]
  | r :: rs, B => by
    have ih := lap_alt_pre A u rs (B ++ [r])
    have h1 := h.alt A u (B ++ rs)
    simp only [lap, List.append_assoc, List.cons_append] at ih h1 ⊢
    rw [ih, h1]; simp
theorem lap_add (u v : Row) (B : List Row) : ∀ (A pre : List Row), lap D c pre (A ++ (fun c => u c + v c) :: B) = lap D c pre (A ++ u :: B) + lap D c pre (A ++ v :: B)
  | [], pre => by
    have h1 := lap_add_pre h c pre u v B []
    simp only [List.nil_append, lap]
    rw [h1, Int.add_mul]; omega
  | a :: A, pre => by
    have ih := lap_add u v B A (pre ++ [a])
    have h1 := h.add (pre ++ A) u v B
    simp only [List.append_assoc] at h1
    simp only [List.cons_append, lap]
    rw [ih, h1, Int.mul_add]; omega
theorem lap_smul (k : Int) (u : Row) (B : List Row) : ∀ (A pre : List Row), lap D c pre (A ++ (fun c => k * u c) :: B) = k * lap D c pre (A ++ u :: B)
  | [], pre => by
    have h1 := lap_smul_pre h c pre k u B []
    simp only [List.nil_append, lap]
    rw [h1, Int.mul_sub, Int.mul_assoc]
  | a :: A, pre => by
    have ih := lap_smul k u B A (pre ++ [a])
    have h1 := h.smul (pre ++ A) k u B
    simp only [List.append_assoc] at h1
    simp only [List.cons_append, lap]
    rw [ih, h1, Int.mul_sub, ← Int.mul_assoc, Int.mul_comm (a c) k, Int.mul_assoc]
theorem lap_alt (u : Row) (B : List Row) : ∀ (A pre : List Row), lap D c pre (A ++ u :: u :: B) = 0
  | [], pre => by
    have h1 := lap_alt_pre h c pre u B []
    simp only [List.nil_append, lap, List.append_assoc, List.cons_append]
    rw [h1]; omega
  | a :: A, pre => by
    have ih := lap_alt u B A (pre ++ [a])
    have h1 := h.alt (pre ++ A) u B
    simp only [List.append_assoc] at h1
    simp only [List.cons_append, lap]
    rw [ih, h1]; simp
end
theorem det_multi : ∀ cl, Multi (det cl)
  | [] => ⟨fun A u v B => by cases A <;> simp [det], fun A k u B => by cases A <;> simp [det], fun A u B => by cases A <;> simp [det]⟩
  | c :: cl => ⟨fun A u v B => lap_add (det_multi cl) c u v B A [], fun A k u B => lap_smul (det_multi cl) c k u B A [], fun A u B => lap_alt (det_multi cl) c u B A []⟩
/-- Only the first row meets the first column. -/
theorem lap_none {D : List Row → Int} {c : Nat} : ∀ (rs pre : List Row), (∀ r ∈ rs, r c = 0) → lap D c pre rs = 0
  | [], _, _ => rfl
  | r :: rs, pre, h => by
    simp only [lap]
    rw [h r (by simp), lap_none rs _ fun x hx => h x (by simp [hx])]; simp
theorem det_peel {c : Nat} {cl : List Nat} {u : Row} {rs : List Row} (h : ∀ r ∈ rs, r c = 0) : det (c :: cl) (u :: rs) = u c * det cl rs := by
  simp only [det, lap, List.nil_append]
  rw [lap_none rs _ h]; omega
section
variable {D : List Row → Int} (h : Multi D)
include h
theorem det_swap (A : List Row) (u v : Row) (B : List Row) : D (A ++ u :: v :: B) = - D (A ++ v :: u :: B) := by
  have h1 := h.alt A (fun c => u c + v c) B
  rw [h.add A u v ((fun c => u c + v c) :: B)] at h1
  have h2 := h.add (A ++ [u]) u v B
  have h3 := h.add (A ++ [v]) u v B
  simp only [List.append_assoc, List.cons_append, List.nil_append] at h2 h3
  rw [h2, h3, h.alt A u B, h.alt A v B] at h1
  omega
theorem det_perm {l l' : List Row} (p : l.Perm l') : ∀ A, (D (A ++ l)).natAbs = (D (A ++ l')).natAbs := by
  induction p with
  | nil => intro A; rfl
  | cons x _ ih => intro A; have := ih (A ++ [x]); simpa using this
  | swap x y l => intro A; rw [det_swap h A y x l]; omega
  | trans _ _ ih1 ih2 => intro A; rw [ih1 A, ih2 A]
theorem det_dup {A B : List Row} {u : Row} (hu : u ∈ A ∨ u ∈ B) : D (A ++ u :: B) = 0 := by
  have key : ∀ l : List Row, (A ++ u :: B).Perm (u :: u :: l) → D (A ++ u :: B) = 0 := fun l p => by
    have h1 := det_perm h p []
    have h2 := h.alt [] u l
    simp only [List.nil_append] at h1 h2
    rw [h2] at h1
    omega
  rcases hu with hu | hu
  · obtain ⟨s, t, rfl⟩ := List.append_of_mem hu
    refine key (s ++ (t ++ B)) ?_
    refine (List.perm_middle (a := u) (l₁ := s ++ u :: t) (l₂ := B)).trans (List.Perm.cons u ?_)
    rw [List.append_assoc, List.cons_append]
    exact List.perm_middle
  · obtain ⟨s, t, rfl⟩ := List.append_of_mem hu
    refine key (A ++ (s ++ t)) ?_
    refine List.perm_middle.trans (List.Perm.cons u ?_)
    rw [← List.append_assoc, ← List.append_assoc]
    exact List.perm_middle
/-- A row plus a combination of other rows. -/
theorem det_comb (A B : List Row) (w : Row) (k : Nat → Int) (v : Nat → Row) : ∀ n, (∀ t, t < n → v t ∈ A ∨ v t ∈ B) → D (A ++ (fun c => w c + rsum (fun t => k t * v t c) n) :: B) = D (A ++ w :: B)
  | 0, _ => by simp [rsum]
  | n + 1, hv => by
    have ih := det_comb A B w k v n fun t ht => hv t (by omega)
    have e : (fun c => w c + rsum (fun t => k t * v t c) (n + 1)) = (fun c => (fun c => w c + rsum (fun t => k t * v t c) n) c + (fun c => k n * v n c) c) := by
      funext c; simp only [rsum]; omega
    rw [e, h.add, ih, h.smul, det_dup h (hv n (by omega))]; omega
end
end Go.Gx

/-
  The subresultant sequence: its divisions are exact. Plain numbers; no program in sight.
-/
namespace Go.Gx
/-- x^(n-1) f, .., f -/
def rowsOf (f : List Int) : Nat → List Row
  | 0 => []
  | n + 1 => cs f n :: rowsOf f n
def colsOf : Nat → Nat → List Nat
  | _, 0 => []
  | hi, n + 1 => hi :: colsOf (hi - 1) n
/-- The coefficient of x^j of the subresultant of degree k of a and b, of degrees n and m. -/
def Sr (k : Nat) (a b : List Int) (n m j : Nat) : Int := det (colsOf (n + m - k - 1) (n + m - 2 * k - 1) ++ [j]) (rowsOf a (m - k) ++ rowsOf b (n - k))
theorem mem_rows {f : List Int} {t : Nat} : ∀ {n : Nat}, t < n → cs f t ∈ rowsOf f n
  | 0, h => by omega
  | n + 1, h => by
    rcases Nat.lt_or_ge t n with h1 | h1
    · exact List.mem_cons_of_mem _ (mem_rows h1)
    · obtain rfl : t = n := by omega
      exact List.mem_cons_self
theorem rows_mem {f : List Int} {r : Row} : ∀ {n : Nat}, r ∈ rowsOf f n → ∃ t, t < n ∧ r = cs f t
  | 0, h => by simp [rowsOf] at h
  | n + 1, h => by
    rcases List.mem_cons.1 h with h1 | h1
    · exact ⟨n, by omega, h1⟩
    · obtain ⟨t, h2, h3⟩ := rows_mem h1; exact ⟨t, by omega, h3⟩
theorem rows_replace {D : List Row → Int} (h : Multi D) {a b r : List Int} {L β : Int} {q : Nat → Int} {e : Nat} {Bs : List Row} :
    ∀ (i : Nat) (pre : List Row), (∀ t, t < i → ∀ c, L * cs a t c = β * cs r t c + rsum (fun u => q u * cs b (t + u) c) e) → (∀ t u, t < i → u < e → cs b (t + u) ∈ Bs) →
      L ^ i * D (pre ++ (rowsOf a i ++ Bs)) = β ^ i * D (pre ++ (rowsOf r i ++ Bs))
  | 0, pre, _, _ => by simp [rowsOf]
  | i + 1, pre, h1, h2 => by
    have ih := rows_replace h i (pre ++ [cs r i]) (fun t ht => h1 t (by omega)) (fun t u ht hu => h2 t u (by omega) hu)
    have e1 : (fun c => L * cs a i c) = (fun c => (fun c => β * cs r i c) c + rsum (fun u => q u * cs b (i + u) c) e) := by
      funext c; exact h1 i (by omega) c
    have s1 := h.smul pre L (cs a i) (rowsOf a i ++ Bs)
    have s2 := h.smul pre β (cs r i) (rowsOf a i ++ Bs)
    have s3 := det_comb h pre (rowsOf a i ++ Bs) (fun c => β * cs r i c) q (fun u => cs b (i + u)) e (fun u hu => .inr (List.mem_append_right _ (h2 i u (by omega) hu)))
    rw [← e1, s1, s2] at s3
    simp only [rowsOf, List.cons_append, List.append_assoc, List.nil_append] at ih ⊢
    rw [Int.pow_succ, Int.pow_succ, Int.mul_assoc, s3, ← Int.mul_assoc, Int.mul_comm (L ^ i) β, Int.mul_assoc, ih, ← Int.mul_assoc, Int.mul_comm β]
theorem rows_peel {b r : List Int} {L : Int} {i m s q : Nat} {js : List Nat} (hL : co b m = L) (hb : ∀ x, m < x → co b x = 0) (hr : ∀ t c, t < s → i + m ≤ c → cs r t c = 0) :
    ∀ p, det (colsOf (i + p + m - 1) (p + q) ++ js) (rowsOf b (i + p) ++ rowsOf r s) = L ^ p * det (colsOf (i + m - 1) q ++ js) (rowsOf b i ++ rowsOf r s)
  | 0 => by simp
  | p + 1 => by
    have ih := rows_peel (q := q) (js := js) hL hb hr p
    rw [show i + (p + 1) + m - 1 = i + p + m by omega, show p + 1 + q = (p + q) + 1 by omega, show i + (p + 1) = (i + p) + 1 by omega]
    simp only [colsOf, rowsOf, List.cons_append]
    rw [det_peel (fun x hx => ?_), ih, ← Int.mul_assoc, Int.pow_succ, Int.mul_comm (L ^ p)]
    · congr 2
      unfold cs; rw [if_pos (by omega), show i + p + m - (i + p) = m by omega, hL]
    · rcases List.mem_append.1 hx with h1 | h1
      · obtain ⟨t, ht, rfl⟩ := rows_mem h1
        unfold cs; rw [if_pos (by omega)]; exact hb _ (by omega)
      · obtain ⟨t, ht, rfl⟩ := rows_mem h1
        exact hr t _ ht (by omega)
theorem row_id {a b q r : List Int} {L β : Int} {d : Nat} (hq : ∀ u, d < u → co q u = 0) (h : ∀ x, L * co a x = co (pmul q b) x + β * co r x) (t c : Nat) :
    L * cs a t c = β * cs r t c + rsum (fun u => co q u * cs b (t + u) c) (d + 1) := by
  by_cases hc : t ≤ c
  · have e0 : rsum (fun u => co q u * cs b (t + u) c) (d + 1) = co (pmul q b) (c - t) := by
      rw [co_pmul]
      unfold conv convF
      have e1 := rsum_more (F := fun u => co q u * cs b (t + u) c) (n := d + 1) (m := max (d + 1) (c - t + 1)) (by omega) (fun u h1 h2 => by rw [hq u (by omega), Int.zero_mul])
      have e2 := rsum_more (F := fun u => co q u * cs b (t + u) c) (n := c - t + 1) (m := max (d + 1) (c - t + 1)) (by omega) (fun u h1 h2 => by unfold cs; rw [if_neg (by omega), Int.mul_zero])
      rw [← e1, e2]
      refine rsum_congr fun u hu => ?_
      unfold cs
      rw [if_pos (by omega), show c - (t + u) = c - t - u by omega]
    have h1 := h (c - t)
    rw [e0]
    unfold cs
    rw [if_pos hc, if_pos hc]
    omega
  · have e0 : rsum (fun u => co q u * cs b (t + u) c) (d + 1) = 0 := rsum_zero fun u _ => by unfold cs; rw [if_neg (by omega), Int.mul_zero]
    rw [e0]
    unfold cs
    rw [if_neg hc, if_neg hc]; simp
/-- One step of the sequence. -/
theorem sub_down {a b q r : List Int} {L L1 β : Int} {n m d nr k j : Nat} (hL : co b m = L) (hb : ∀ x, m < x → co b x = 0) (hr : ∀ x, nr < x → co r x = 0) (hq : ∀ u, d < u → co q u = 0)
    (h : ∀ x, L1 * co a x = co (pmul q b) x + β * co r x) (hn : n = m + d) (hnr : nr < m) (hk : k ≤ nr) :
    (L1 ^ (m - k) * Sr k a b n m j).natAbs = (β ^ (m - k) * (L ^ (n - nr) * Sr k b r m nr j)).natAbs := by
  have e1 := rows_replace (det_multi (colsOf (n + m - k - 1) (n + m - 2 * k - 1) ++ [j])) (a := a) (b := b) (r := r) (L := L1) (β := β) (q := co q) (e := d + 1) (Bs := rowsOf b (n - k)) (m - k) []
    (fun t _ c => row_id hq h t c) (fun t u ht hu => mem_rows (by omega))
  have e2 := det_perm (det_multi (colsOf (n + m - k - 1) (n + m - 2 * k - 1) ++ [j])) (List.perm_append_comm (l₁ := rowsOf r (m - k)) (l₂ := rowsOf b (n - k))) []
  have e3 := rows_peel (b := b) (r := r) (L := L) (i := nr - k) (m := m) (s := m - k) (q := m + nr - 2 * k - 1) (js := [j]) hL hb (fun t c ht hc => by
    unfold cs; split
    · exact hr _ (by omega)
    · rfl) (n - nr)
  rw [show nr - k + (n - nr) + m - 1 = n + m - k - 1 by omega, show n - nr + (m + nr - 2 * k - 1) = n + m - 2 * k - 1 by omega, show nr - k + (n - nr) = n - k by omega, show nr - k + m - 1 = m + nr - k - 1 by omega] at e3
  simp only [List.nil_append] at e1 e2
  unfold Sr
  rw [e1, Int.natAbs_mul, Int.natAbs_mul, e2, e3]
/-- The rest of the pseudo-division is a subresultant. -/
theorem sub_prem {a b q R : List Int} {L : Int} {n m d j : Nat} (hL : co b m = L) (hL0 : L ≠ 0) (hb : ∀ x, m < x → co b x = 0) (hr : ∀ x, m ≤ x → co R x = 0) (hq : ∀ u, d < u → co q u = 0)
    (h : ∀ x, L ^ (d + 1) * co a x = co (pmul q b) x + co R x) (hn : n = m + d) (hm : 1 ≤ m) : (Sr (m - 1) a b n m j).natAbs = (co R j).natAbs := by
  have e1 := rows_replace (det_multi (colsOf (n + m - (m - 1) - 1) (n + m - 2 * (m - 1) - 1) ++ [j])) (a := a) (b := b) (r := R) (L := L ^ (d + 1)) (β := 1) (q := co q) (e := d + 1) (Bs := rowsOf b (n - (m - 1))) 1 []
    (fun t _ c => row_id hq (fun x => by rw [h x]; omega) t c) (fun t u ht hu => mem_rows (by omega))
  have e2 := det_perm (det_multi (colsOf (n + m - (m - 1) - 1) (n + m - 2 * (m - 1) - 1) ++ [j])) (List.perm_append_comm (l₁ := rowsOf R 1) (l₂ := rowsOf b (n - (m - 1)))) []
  have e3 := rows_peel (b := b) (r := R) (L := L) (i := 0) (m := m) (s := 1) (q := 0) (js := [j]) hL hb (fun t c ht hc => by
    unfold cs; split
    · exact hr _ (by omega)
    · rfl) (d + 1)
  rw [show 0 + (d + 1) + m - 1 = n + m - (m - 1) - 1 by omega, show d + 1 + 0 = n + m - 2 * (m - 1) - 1 by omega, show 0 + (n + m - 2 * (m - 1) - 1) = n - (m - 1) by omega] at e3
  have e4 : det (colsOf (0 + m - 1) 0 ++ [j]) (rowsOf b 0 ++ rowsOf R 1) = co R j := by
    simp only [colsOf, rowsOf, List.nil_append]
    rw [det_peel (by simp)]
    simp [det, cs]
  rw [e4] at e3
  simp only [List.nil_append, Int.pow_one, Int.one_mul] at e1 e2
  have e5 : (L ^ (d + 1)).natAbs * (Sr (m - 1) a b n m j).natAbs = (L ^ (d + 1)).natAbs * (co R j).natAbs := by
    unfold Sr
    rw [← Int.natAbs_mul, show m - (m - 1) = 1 by omega, e1, e2, e3, Int.natAbs_mul]
    rw [show n + m - 2 * (m - 1) - 1 = d + 1 by omega]
  have hp : (L ^ (d + 1)).natAbs ≠ 0 := Int.natAbs_ne_zero.2 (Int.pow_ne_zero hL0)
  exact Nat.eq_of_mul_eq_mul_left (by omega) e5
/-- The regular subresultant. -/
theorem sub_reg {a b : List Int} {L : Int} {n m : Nat} (hL : co b m = L) (hb : ∀ x, m < x → co b x = 0) (hn : m < n) : Sr m a b n m m = L ^ (n - m) := by
  have e3 := rows_peel (b := b) (r := []) (L := L) (i := 1) (m := m) (s := 0) (q := 0) (js := [m]) hL hb (fun t c ht hc => by omega) (n - m - 1)
  unfold Sr
  rw [show 1 + (n - m - 1) + m - 1 = n + m - m - 1 by omega, show n - m - 1 + 0 = n + m - 2 * m - 1 by omega, show 1 + (n - m - 1) = n - m by omega] at e3
  rw [show m - m = 0 by omega]
  simp only [rowsOf, List.append_nil] at e3
  simp only [rowsOf, List.nil_append]
  rw [e3]
  simp only [colsOf, List.nil_append]
  rw [det_peel (by simp)]
  simp only [det, cs]
  rw [if_pos (by omega), Nat.sub_zero, hL, Int.mul_one, ← Int.pow_succ]
  congr 1
  omega
theorem sub_exp {L l s s' D X A B u e d : Nat} (hL : 0 < L) (hl : 0 < l) (hs : 0 < s) (hu : 1 ≤ u) (he : e ≤ u) (h1 : (L ^ (d + 1)) ^ u * A = D ^ u * (L ^ (d + u - e) * B)) (h2 : A = l ^ u * s ^ (u - 1 + d) * X) (h3 : D = l * s ^ d)
    (h4 : (d = 0 ∧ s' = s) ∨ (1 ≤ d ∧ s' * s ^ (d - 1) = L ^ d)) : B = L ^ e * s' ^ (u - 1) * X := by
  obtain ⟨w, rfl⟩ : ∃ w, u = w + 1 := ⟨u - 1, by omega⟩
  rw [Nat.add_sub_cancel] at h2 ⊢
  have key : (L ^ (d + 1)) ^ (w + 1) * s ^ (w + d) = s ^ (d * (w + 1)) * L ^ (d + (w + 1)) * s' ^ w := by
    rcases h4 with ⟨rfl, rfl⟩ | ⟨hd, h4⟩
    · rw [Nat.zero_mul, Nat.pow_zero, Nat.one_mul, ← Nat.pow_mul]
      congr 2; omega
    · obtain ⟨c, rfl⟩ : ∃ c, d = c + 1 := ⟨d - 1, by omega⟩
      rw [Nat.add_sub_cancel] at h4
      have e1 : s' ^ w * s ^ (c * w) = L ^ ((c + 1) * w) := by rw [Nat.pow_mul, ← Nat.mul_pow, h4, ← Nat.pow_mul]
      have e2 : s ^ ((c + 1) * (w + 1)) = s ^ (c * w) * s ^ (w + (c + 1)) := by rw [← Nat.pow_add]; congr 1; rw [Nat.add_mul, Nat.mul_add]; omega
      have e3 : (L ^ (c + 1 + 1)) ^ (w + 1) = L ^ (c + 1 + (w + 1)) * L ^ ((c + 1) * w) := by
        rw [← Nat.pow_mul, ← Nat.pow_add]; congr 1
        rw [Nat.add_mul, Nat.mul_add]; omega
      rw [e2, e3, ← e1]
      generalize s ^ (c * w) = x
      generalize s ^ (w + (c + 1)) = y
      generalize L ^ (c + 1 + (w + 1)) = z
      generalize s' ^ w = t
      grind
  have e4 : D ^ (w + 1) = l ^ (w + 1) * s ^ (d * (w + 1)) := by rw [h3, Nat.mul_pow, ← Nat.pow_mul]
  have e5 : L ^ (d + (w + 1)) = L ^ (d + (w + 1) - e) * L ^ e := by rw [← Nat.pow_add]; congr 1; omega
  have p1 : 0 < l ^ (w + 1) := Nat.pow_pos hl
  have p2 : 0 < s ^ (d * (w + 1)) := Nat.pow_pos hs
  have p3 : 0 < L ^ (d + (w + 1) - e) := Nat.pow_pos hL
  have e6 : l ^ (w + 1) * (s ^ (d * (w + 1)) * (L ^ (d + (w + 1) - e) * B)) = l ^ (w + 1) * (s ^ (d * (w + 1)) * (L ^ (d + (w + 1) - e) * (L ^ e * s' ^ w * X))) := by
    rw [e4, h2] at h1
    rw [e5] at key
    generalize l ^ (w + 1) = x1 at *
    generalize s ^ (d * (w + 1)) = x2 at *
    generalize L ^ (d + (w + 1) - e) = x3 at *
    generalize L ^ e = x4 at *
    generalize s' ^ w = x5 at *
    generalize s ^ (w + d) = x6 at *
    generalize (L ^ (d + 1)) ^ (w + 1) = x7 at *
    have h5 : x1 * (x2 * (x3 * B)) = x1 * (x7 * x6) * X := by rw [← Nat.mul_assoc x1 x2, ← h1]; grind
    rw [h5, key]; grind
  exact Nat.eq_of_mul_eq_mul_left p3 (Nat.eq_of_mul_eq_mul_left p2 (Nat.eq_of_mul_eq_mul_left p1 e6))
/-- The invariant of the sequence that starts from a0 and b0. -/
structure SubI (a0 b0 : List Int) (n0 m0 : Nat) (a b : List Int) (n m : Nat) (l s : Int) : Prop where
  le : m ≤ n
  top : co b m ≠ 0
  hb : ∀ x, m < x → co b x = 0
  ha : ∀ x, n < x → co a x = 0
  l0 : l ≠ 0
  s0 : s ≠ 0
  sr : ∀ k j, k ≤ m → k < n → (Sr k a b n m j).natAbs = l.natAbs ^ (m - k) * s.natAbs ^ (n - k - 1) * (Sr k a0 b0 n0 m0 j).natAbs
section
variable {a0 b0 a b q R r : List Int} {n0 m0 n m d nr : Nat} {l s D l' s' : Int}
theorem SubI.start (h1 : m ≤ n) (h2 : co b m ≠ 0) (h3 : ∀ x, m < x → co b x = 0) (h4 : ∀ x, n < x → co a x = 0) (hl : l.natAbs = 1) (hs : s.natAbs = 1) : SubI a b n m a b n m l s :=
  ⟨h1, h2, h3, h4, by omega, by omega, fun k j _ _ => by rw [hl, hs]; simp⟩
theorem SubI.exact (h : SubI a0 b0 n0 m0 a b n m l s) (hr : ∀ x, m ≤ x → co R x = 0) (hq : ∀ u, n - m < u → co q u = 0) (hid : ∀ x, co b m ^ (n - m + 1) * co a x = co (pmul q b) x + co R x) (hD : D.natAbs = l.natAbs * s.natAbs ^ (n - m)) (j : Nat) : D ∣ co R j := by
  rcases Nat.lt_or_ge j m with hj | hj
  · have e1 := sub_prem (n := n) (m := m) (d := n - m) (j := j) rfl h.top h.hb hr hq hid (by have := h.le; omega) (by omega)
    have e2 := h.sr (m - 1) j (by omega) (by have := h.le; omega)
    rw [e1, show m - (m - 1) = 1 by omega, show n - (m - 1) - 1 = n - m by omega, Nat.pow_one] at e2
    rw [← Int.natAbs_dvd_natAbs, e2, hD]
    exact Nat.dvd_mul_right _ _
  · rw [hr j hj]; exact Int.dvd_zero _
theorem SubI.reg (h : SubI a0 b0 n0 m0 a b n m l s) (hn : m < n) : s.natAbs ^ (n - m - 1) ∣ (co b m).natAbs ^ (n - m) := by
  have e1 := h.sr m m (Nat.le_refl _) hn
  rw [sub_reg rfl h.hb hn, Int.natAbs_pow, Nat.sub_self, Nat.pow_zero, Nat.one_mul] at e1
  rw [e1]; exact Nat.dvd_mul_right _ _
theorem SubI.next (h : SubI a0 b0 n0 m0 a b n m l s) (hq : ∀ u, n - m < u → co q u = 0) (hid : ∀ x, co b m ^ (n - m + 1) * co a x = co (pmul q b) x + D * co r x) (hD : D.natAbs = l.natAbs * s.natAbs ^ (n - m))
    (ht : co r nr ≠ 0) (hr : ∀ x, nr < x → co r x = 0) (hnr : nr < m) (hl : l'.natAbs = (co b m).natAbs) (hs : (n = m ∧ s' = s) ∨ (m < n ∧ s'.natAbs * s.natAbs ^ (n - m - 1) = (co b m).natAbs ^ (n - m))) : SubI a0 b0 n0 m0 b r m nr l' s' := by
  have hL := h.top
  have hle := h.le
  have h0 := h.l0
  have h1 := h.s0
  refine ⟨by omega, ht, hr, h.hb, by omega, ?_, fun k j hk hkm => ?_⟩
  · rcases hs with ⟨_, rfl⟩ | ⟨_, hs⟩
    · exact h1
    · intro e
      rw [e, Int.natAbs_zero, Nat.zero_mul] at hs
      have : 0 < (co b m).natAbs ^ (n - m) := Nat.pow_pos (by omega)
      omega
  · have e1 := sub_down (n := n) (m := m) (d := n - m) (j := j) rfl h.hb hr hq hid (by omega) hnr hk
    have e2 := h.sr k j (by omega) (by omega)
    rw [Int.natAbs_mul, Int.natAbs_mul, Int.natAbs_mul, Int.natAbs_pow, Int.natAbs_pow, Int.natAbs_pow, Int.natAbs_pow] at e1
    rw [hl]
    have := sub_exp (L := (co b m).natAbs) (l := l.natAbs) (s := s.natAbs) (s' := s'.natAbs) (D := D.natAbs) (X := (Sr k a0 b0 n0 m0 j).natAbs) (A := (Sr k a b n m j).natAbs) (B := (Sr k b r m nr j).natAbs) (u := m - k) (e := nr - k) (d := n - m)
      (by omega) (by omega) (by omega) (by omega) (by omega) (by rw [e1, show n - nr = n - m + (m - k) - (nr - k) by omega]) (by rw [e2, show n - k - 1 = m - k - 1 + (n - m) by omega]) hD
      (hs.imp (fun h => ⟨by omega, by rw [h.2]⟩) (fun h => ⟨by omega, h.2⟩))
    exact this
end
end Go.Gx

/-
  Signs of polynomials beyond their roots. Plain numbers; no program in sight.
-/
namespace Go.Gx
def evI : List Int → Int → Int
  | [], _ => 0
  | a :: l, x => a + x * evI l x
theorem evQ_int (x : Int) : ∀ f : List Int, evQ f (x : Rat) = ((evI f x : Int) : Rat)
  | [] => rfl
  | a :: l => by simp only [evQ, evI, evQ_int x l, Rat.intCast_add, Rat.intCast_mul]
/-- The sign beyond the roots. -/
def sendP (F : List Int) (m : Bool) : Int := if m = true ∧ ((F.length : Int) - 1).tmod 2 ≠ 0 then -(coI F ((F.length : Int) - 1)).sign else (coI F ((F.length : Int) - 1)).sign
theorem big_sign {x : Int} {H : Nat} (hx : (H : Int) + 2 ≤ x ∨ x ≤ -((H : Int) + 2)) : ∀ (F : List Int), F.length ≠ 0 → co F (F.length - 1) ≠ 0 → hgt F ≤ H → evI F x ≠ 0 ∧ (0 < x → (0 < evI F x ↔ 0 < co F (F.length - 1))) ∧ (x < 0 → (0 < evI F x ↔ (if (F.length - 1) % 2 = 0 then 0 < co F (F.length - 1) else co F (F.length - 1) < 0)))
  | [], h, _, _ => absurd rfl h
  | [a], _, h1, _ => by simp [evI, co] at h1 ⊢; exact h1
  | a :: b :: l, _, h1, h2 => by
    have e1 : co (a :: b :: l) ((a :: b :: l).length - 1) = co (b :: l) ((b :: l).length - 1) := by simp [co]
    rw [e1] at h1 ⊢
    simp only [hgt] at h2
    have ih := big_sign hx (b :: l) (by simp) h1 (by simp only [hgt]; omega)
    have ha : a.natAbs ≤ H := by omega
    show a + x * evI (b :: l) x ≠ 0 ∧ (0 < x → (0 < a + x * evI (b :: l) x ↔ _)) ∧ (x < 0 → (0 < a + x * evI (b :: l) x ↔ _))
    generalize evI (b :: l) x = E at *
    generalize co (b :: l) ((b :: l).length - 1) = c at *
    obtain ⟨hE, hp, hn⟩ := ih
    have hl : (a :: b :: l).length - 1 = (b :: l).length - 1 + 1 := by simp
    rw [hl]
    generalize (b :: l).length - 1 = k at *
    rcases hx with hx | hx
    · rcases Int.lt_or_gt_of_ne hE with h | h
      · have h3 : x * E ≤ x * (-1) := Int.mul_le_mul_of_nonneg_left (by omega) (by omega)
        refine ⟨by omega, fun _ => ⟨fun h4 => by omega, fun h4 => ?_⟩, fun h4 => by omega⟩
        have := (hp (by omega)).2 h4; omega
      · have h3 : x * 1 ≤ x * E := Int.mul_le_mul_of_nonneg_left (by omega) (by omega)
        refine ⟨by omega, fun _ => ⟨fun _ => (hp (by omega)).1 h, fun h4 => by omega⟩, fun h4 => by omega⟩
    · have hn' := hn (by omega)
      rcases Int.lt_or_gt_of_ne hE with h | h
      · have h3 : (-x) * 1 ≤ (-x) * (-E) := Int.mul_le_mul_of_nonneg_left (by omega) (by omega)
        rw [Int.neg_mul_neg] at h3
        have hpos : 0 < a + x * E := by omega
        refine ⟨by omega, fun h4 => by omega, fun _ => ⟨fun _ => ?_, fun _ => hpos⟩⟩
        have hne : ¬ (if k % 2 = 0 then 0 < c else c < 0) := fun h5 => by have := hn'.2 h5; omega
        by_cases hk : k % 2 = 0
        · rw [if_pos hk] at hne; rw [if_neg (by omega)]; omega
        · rw [if_neg hk] at hne; rw [if_pos (by omega)]; omega
      · have h3 : (-x) * 1 ≤ (-x) * E := Int.mul_le_mul_of_nonneg_left (by omega) (by omega)
        have e3 : (-x) * E = -(x * E) := Int.neg_mul x E
        have hneg : a + x * E < 0 := by omega
        refine ⟨by omega, fun h4 => by omega, fun _ => ⟨fun h4 => by omega, fun h5 => ?_⟩⟩
        exfalso
        have h6 := hn'.1 h
        by_cases hk : k % 2 = 0
        · rw [if_pos hk] at h6; rw [if_neg (by omega)] at h5; omega
        · rw [if_neg hk] at h6; rw [if_pos (by omega)] at h5; omega
theorem sign_of {z : Int} : (0 < z → z.sign = 1) ∧ (z < 0 → z.sign = -1) ∧ (z = 0 → z.sign = 0) := by
  rcases sign_cases z with h | h | h <;> omega
theorem ends_law {F : List Int} {m : Bool} {x zv zp s : Int} {H : Nat} {q : Rat} (hF : hgt F = H) (hx : (m = false ∧ (H : Int) + 2 ≤ x) ∨ (m = true ∧ x ≤ -((H : Int) + 2))) (hq : q = (x : Rat)) (hv : (zv : Rat) = evQ F q * (zp : Rat)) (hp : 0 < zp) (hs : s = sendP (trimZ F) m) : s = zv.sign := by
  rw [hq, ← evQ_trim, evQ_int, ← Rat.intCast_mul] at hv
  have hz := Rat.intCast_inj.1 hv
  have hh : hgt (trimZ F) ≤ H := by rw [hgt_trim]; omega
  by_cases h0 : (trimZ F).length = 0
  · have e : trimZ F = [] := List.eq_nil_of_length_eq_zero h0
    rw [e] at hz hs
    have hz0 : zv = 0 := by simpa [evI] using hz
    rw [hs, hz0]
    simp [sendP, coI]
  · have hl := canon_last (canon_trim isZI F) h0
    have hb := big_sign (x := x) (H := H) (by omega) (trimZ F) h0 hl hh
    have hc : coI (trimZ F) (((trimZ F).length : Int) - 1) = co (trimZ F) ((trimZ F).length - 1) := by
      rw [show (((trimZ F).length : Int) - 1) = (((trimZ F).length - 1 : Nat) : Int) by omega, coI_nat]
    have ht : (((trimZ F).length : Int) - 1).tmod 2 = ((((trimZ F).length - 1) % 2 : Nat) : Int) := by
      rw [show (((trimZ F).length : Int) - 1) = (((trimZ F).length - 1 : Nat) : Int) by omega]
      exact remE (c := 2) rfl rfl
    unfold sendP at hs
    rw [hc, ht] at hs
    generalize (trimZ F).length - 1 = k at *
    generalize co (trimZ F) k = c at *
    generalize evI (trimZ F) x = E at *
    have hsz : (0 < E → 0 < zv) ∧ (E < 0 → zv < 0) := ⟨fun h => by rw [hz]; exact Int.mul_pos h hp, fun h => by rw [hz]; exact Int.mul_neg_of_neg_of_pos h hp⟩
    have s1 := sign_of (z := zv)
    have s2 := sign_of (z := c)
    rcases hx with ⟨hm, hx⟩ | ⟨hm, hx⟩
    · subst hm
      simp at hs
      have := hb.2.1 (by omega)
      have := hb.1
      omega
    · subst hm
      have h3 := hb.2.2 (by omega)
      have h4 := hb.1
      by_cases hk : k % 2 = 0
      · rw [if_pos hk] at h3
        rw [if_neg (by simp [hk])] at hs
        omega
      · rw [if_neg hk] at h3
        rw [if_pos ⟨rfl, by omega⟩] at hs
        omega
end Go.Gx
namespace Go.Gx
theorem rv_one {z : Int} {v : Nat} (h : v = 1) : rv z v = (z : Rat) := by
  subst h
  have h1 : rnum z 1 = z := rnum_of (by decide)
  have h2 : rden 1 = 1 := rfl
  unfold rv
  rw [h1, h2]
  show (z : Rat) / ((1 : Int) : Rat) = z
  have : ((1 : Int) : Rat) = 1 := rfl
  rw [this]
  grind
end Go.Gx

/-
  Inverses of shifts and reversals; sums of fractions. Plain numbers; no program in sight.
-/
namespace Go.Gx
theorem evQ_zero {f : List Int} (h : ∀ x : Int, evI f x = 0) : trimZ f = [] := by
  by_cases h0 : (trimZ f).length = 0
  · exact List.eq_nil_of_length_eq_zero h0
  · exfalso
    have hl := canon_last (canon_trim isZI f) h0
    have hb := big_sign (x := (hgt (trimZ f) : Int) + 2) (H := hgt (trimZ f)) (.inl (Int.le_refl _)) (trimZ f) h0 hl (Nat.le_refl _)
    apply hb.1
    have e : ((evI (trimZ f) ((hgt (trimZ f) : Int) + 2) : Int) : Rat) = ((evI f ((hgt (trimZ f) : Int) + 2) : Int) : Rat) := by rw [← evQ_int, ← evQ_int, evQ_trim]
    rw [Rat.intCast_inj.1 e]
    exact h _
theorem evQ_psub (q : Rat) (f g : List Int) : evQ (psub f g) q = evQ f q - evQ g q := by
  rw [evQ_congr q (g := padd f (scaleP g (-1))) (fun i => by rw [co_psub, co_padd, co_scaleP]; omega), evQ_padd, evQ_scale]
  show evQ f q + ((-1 : Int) : Rat) * evQ g q = _
  have : ((-1 : Int) : Rat) = -1 := rfl
  rw [this]; grind
theorem poly_eq {f g : List Int} (h : ∀ x : Int, evQ f (x : Rat) = evQ g (x : Rat)) : trimZ f = trimZ g := by
  have h1 : trimZ (psub f g) = [] := evQ_zero fun x => by
    have := evQ_psub (x : Rat) f g
    rw [h x, evQ_int] at this
    have e : evQ g (x : Rat) - evQ g (x : Rat) = ((0 : Int) : Rat) := by
      have : ((0 : Int) : Rat) = 0 := rfl
      rw [this]; grind
    rw [e] at this
    exact Rat.intCast_inj.1 this
  refine trim_inj fun i => ?_
  have h2 := co_trim (psub f g) i
  rw [h1, co_psub] at h2
  have : co [] i = 0 := by simp [co]
  omega
theorem evQ_lin (c : Int) (q : Rat) : evQ [c, 1] q = (c : Rat) + q := by
  simp only [evQ]
  have : ((1 : Int) : Rat) = 1 := rfl
  rw [this]; grind
theorem shift_back {F : List Int} {c d : Int} (hd : d = -c) : trimZ (trimZ (phorn [d, 1] (trimZ (phorn [c, 1] F)))) = trimZ F := by
  rw [show trimZ (trimZ (phorn [d, 1] (trimZ (phorn [c, 1] F)))) = trimZ (phorn [d, 1] (trimZ (phorn [c, 1] F))) from canon_trim isZI _]
  refine poly_eq fun x => ?_
  rw [evQ_phorn, evQ_trim, evQ_phorn, evQ_lin, evQ_lin]
  congr 1
  rw [hd, Rat.intCast_neg]
  grind
theorem rev_back {F : List Int} (h : co F 0 ≠ 0) : trimZ (trimZ (trimZ (trimZ (trimZ F).reverse)).reverse) = trimZ F := by
  have hc : Canon isZI (trimZ F).reverse := by
    refine canon_of_last ?_
    by_cases h0 : (trimZ F).length = 0
    · left; simpa using h0
    · right
      have e : co (trimZ F).reverse ((trimZ F).reverse.length - 1) = co (trimZ F) 0 := by
        simp only [co, List.getD, List.length_reverse]
        rw [List.getElem?_reverse (by omega)]
        congr 2; omega
      rw [e, co_trim]; exact h
  have hc' : trimZ (trimZ F).reverse = (trimZ F).reverse := hc
  have ht : trimZ (trimZ F) = trimZ F := canon_trim isZI F
  rw [hc', hc', List.reverse_reverse, ht, ht]
theorem rv_cross {a b : Int} {u v : Nat} (h : rv a u = rv b v) : rnum a u * (rden v : Int) = rnum b v * (rden u : Int) := by
  unfold rv at h
  have h1 := cast_ne (show ((rden u : Int)) ≠ 0 by have := rden_pos u; omega)
  have h2 := cast_ne (show ((rden v : Int)) ≠ 0 by have := rden_pos v; omega)
  refine Rat.intCast_inj.1 ?_
  rw [Rat.intCast_mul, Rat.intCast_mul]
  grind
theorem rv_of_x {n N D : Int} {v : Nat} {q : Rat} (hx : n * D = N * (v : Int)) (hv : 0 < v) (hD : 0 < D) (hq : q * (D : Rat) = (N : Rat)) : rv n v = q := by
  unfold rv
  rw [rnum_of hv, rden_of hv]
  have h1 : (n : Rat) * (D : Rat) = (N : Rat) * ((v : Int) : Rat) := by rw [← Rat.intCast_mul, ← Rat.intCast_mul, hx]
  have h2 := cast_ne (show D ≠ 0 by omega)
  have h3 := cast_ne (show ((v : Int)) ≠ 0 by omega)
  grind
theorem rv_add {a b n : Int} {u v w : Nat} (hx : n * ((rden u : Int) * (rden v : Int)) = (rnum a u * (rden v : Int) + rnum b v * (rden u : Int)) * (w : Int)) (hw : 0 < w) : rv n w = rv a u + rv b v := by
  have h1 := rden_pos u
  have h2 := rden_pos v
  refine rv_of_x hx hw (Int.mul_pos (by omega) (by omega)) ?_
  have h3 := cast_ne (show ((rden u : Int)) ≠ 0 by omega)
  have h4 := cast_ne (show ((rden v : Int)) ≠ 0 by omega)
  rw [Rat.intCast_add, Rat.intCast_mul, Rat.intCast_mul, Rat.intCast_mul]
  unfold rv
  grind
theorem rv_prod {a b n : Int} {u v w : Nat} (hx : n * ((rden u : Int) * (rden v : Int)) = (rnum a u * rnum b v) * (w : Int)) (hw : 0 < w) : rv n w = rv a u * rv b v := by
  have h1 := rden_pos u
  have h2 := rden_pos v
  refine rv_of_x hx hw (Int.mul_pos (by omega) (by omega)) ?_
  have h3 := cast_ne (show ((rden u : Int)) ≠ 0 by omega)
  have h4 := cast_ne (show ((rden v : Int)) ≠ 0 by omega)
  rw [Rat.intCast_mul, Rat.intCast_mul]
  unfold rv
  grind
theorem two_pick {w : World} {g : Nat} {t : TypeId} {v0 v1 : Value} {k : Nat} (h : Blk w g t [v0, v1]) (hk : k < 2) : ∃ v, w.cell? ⟨g, k, none⟩ = some v ∧ (k = 0 → v = v0) ∧ (k = 1 → v = v1) := by
  rcases (show k = 0 ∨ k = 1 by omega) with h0 | h0
  · subst h0; exact ⟨v0, h.at_ rfl, fun _ => rfl, fun h => by omega⟩
  · subst h0; exact ⟨v1, h.at_ rfl, fun h => by omega, fun _ => rfl⟩
theorem two_slices {w : World} {g : Nat} {t : TypeId} {A0 A1 : Option Addr} {n0 c0 n1 c1 k : Nat} (h : Blk w g t [.slice A0 n0 c0, .slice A1 n1 c1]) (hk : k < 2) : ∃ A n c, w.cell? ⟨g, k, none⟩ = some (.slice A n c) ∧ (k = 0 → n = n0) ∧ (k = 1 → n = n1) := by
  rcases (show k = 0 ∨ k = 1 by omega) with h0 | h0
  · subst h0; exact ⟨A0, n0, c0, h.at_ rfl, fun _ => rfl, fun h => by omega⟩
  · subst h0; exact ⟨A1, n1, c1, h.at_ rfl, fun h => by omega, fun _ => rfl⟩
end Go.Gx
namespace Go.Gx
theorem prod_rule_co (F G : List Int) (k : Nat) : co (derivP (pmul F G)) k = co (padd (pmul (derivP F) G) (pmul F (derivP G))) k := by
  rw [co_derivP, co_pmul, co_padd, co_pmul, co_pmul]
  have hA : conv (derivP F) G k = rsum (fun j => ((j : Nat) : Int) * (co F j * co G (k + 1 - j))) (k + 2) := by
    rw [rsum_head]
    unfold conv convF
    rw [rsum_congr (G := fun i => ((i + 1 : Nat) : Int) * (co F (i + 1) * co G (k + 1 - (i + 1)))) (fun i hi => by
      rw [co_derivP, show k + 1 - (i + 1) = k - i by omega]; grind)]
    simp
  have hB : conv F (derivP G) k = rsum (fun j => ((k + 1 - j : Nat) : Int) * (co F j * co G (k + 1 - j))) (k + 2) := by
    rw [rsum_succ]
    unfold conv convF
    rw [rsum_congr (G := fun j => ((k + 1 - j : Nat) : Int) * (co F j * co G (k + 1 - j))) (fun i hi => by
      rw [co_derivP, show k - i + 1 = k + 1 - i by omega]; grind)]
    simp
  rw [hA, hB, ← rsum_add]
  unfold conv convF
  rw [← rsum_mul_r]
  refine rsum_congr fun j hj => ?_
  have e : ((j : Nat) : Int) + ((k + 1 - j : Nat) : Int) = ((k + 1 : Nat) : Int) := by omega
  rw [← Int.add_mul, e, Int.mul_comm]
theorem deriv_rule (F G : List Int) : trimZ (trimZ (derivP (trimZ (pmul F G)))) = trimZ (trimZ (padd (trimZ (pmul (trimZ (derivP F)) G)) (trimZ (pmul F (trimZ (derivP G)))))) := by
  refine trim_inj fun i => ?_
  rw [co_trim, co_trim, co_derivP, co_trim, ← co_derivP, prod_rule_co, co_padd, co_padd, co_trim, co_trim, co_pmul, co_pmul, co_pmul, co_pmul]
  congr 1
  · exact (conv_congr (fun j => co_trim _ j) (fun _ => rfl)).symm
  · exact (conv_congr (fun _ => rfl) (fun j => co_trim _ j)).symm
end Go.Gx

/-
  Polynomials with rational coefficients: degrees, divisibility, division with rest, common divisors. Plain numbers; no program in sight.
-/
namespace Go.Gx
/-- A polynomial function. -/
structure QP where
  v : Rat → Rat
  p : ∃ (c : Int) (l : List Int), c ≠ 0 ∧ ∀ x, (c : Rat) * v x = evQ l x
theorem QP.eq {f g : QP} (h : ∀ x, f.v x = g.v x) : f = g := by
  cases f; cases g
  simp only [QP.mk.injEq]
  exact funext h
theorem one_cast : ((1 : Int) : Rat) = 1 := rfl
theorem zero_cast : ((0 : Int) : Rat) = 0 := rfl
/-- The polynomial with these coefficients. -/
def P (l : List Int) : QP := ⟨evQ l, 1, l, by decide, fun x => by rw [one_cast]; grind⟩
instance : Add QP := ⟨fun f g => ⟨fun x => f.v x + g.v x, by
  obtain ⟨c, l, hc, h⟩ := f.p
  obtain ⟨d, m, hd, k⟩ := g.p
  exact ⟨c * d, padd (scaleP l d) (scaleP m c), Int.mul_ne_zero hc hd, fun x => by rw [evQ_padd, evQ_scale, evQ_scale, ← h, ← k, Rat.intCast_mul]; grind⟩⟩⟩
instance : Neg QP := ⟨fun f => ⟨fun x => - f.v x, by
  obtain ⟨c, l, hc, h⟩ := f.p
  exact ⟨-c, l, by omega, fun x => by rw [← h, Rat.intCast_neg]; grind⟩⟩⟩
instance : Sub QP := ⟨fun f g => ⟨fun x => f.v x - g.v x, by
  obtain ⟨c, l, hc, h⟩ := f.p
  obtain ⟨d, m, hd, k⟩ := g.p
  exact ⟨c * d, psub (scaleP l d) (scaleP m c), Int.mul_ne_zero hc hd, fun x => by rw [evQ_psub, evQ_scale, evQ_scale, ← h, ← k, Rat.intCast_mul]; grind⟩⟩⟩
instance : Mul QP := ⟨fun f g => ⟨fun x => f.v x * g.v x, by
  obtain ⟨c, l, hc, h⟩ := f.p
  obtain ⟨d, m, hd, k⟩ := g.p
  exact ⟨c * d, pmul l m, Int.mul_ne_zero hc hd, fun x => by rw [evQ_pmul, ← h, ← k, Rat.intCast_mul]; grind⟩⟩⟩
theorem den_ne (r : Rat) : ((r.den : Int) : Rat) ≠ 0 := cast_ne (by have := r.den_nz; omega)
theorem den_mul (r : Rat) : ((r.den : Int) : Rat) * r = (r.num : Rat) := by
  have h : (r.num : Rat) / ((r.den : Int) : Rat) = r := by
    rw [← Rat.divInt_eq_div]; exact Rat.num_divInt_den r
  have := den_ne r
  grind
/-- A constant. -/
def K (r : Rat) : QP := ⟨fun _ => r, r.den, [r.num], by have := r.den_nz; omega, fun x => by rw [den_mul]; simp only [evQ]; grind⟩
instance : OfNat QP 0 := ⟨K 0⟩
instance : OfNat QP 1 := ⟨K 1⟩
theorem pow_ne {a : Rat} (h : a ≠ 0) : ∀ n : Nat, a ^ n ≠ 0
  | 0 => by rw [Rat.pow_zero]; decide
  | n + 1 => by rw [Rat.pow_succ]; exact fun e => (Rat.mul_eq_zero.1 e).elim (pow_ne h n) h
theorem rat_mul_pow (a b : Rat) : ∀ n : Nat, (a * b) ^ n = a ^ n * b ^ n
  | 0 => by simp only [Rat.pow_zero]; grind
  | n + 1 => by simp only [Rat.pow_succ, rat_mul_pow a b n]; grind
theorem rat_pow_add (a : Rat) (m : Nat) : ∀ n : Nat, a ^ (m + n) = a ^ m * a ^ n
  | 0 => by simp only [Rat.pow_zero, Nat.add_zero]; grind
  | n + 1 => by rw [← Nat.add_assoc]; simp only [Rat.pow_succ, rat_pow_add a m n]; grind
instance : HPow QP Nat QP := ⟨fun f n => ⟨fun x => f.v x ^ n, by
  obtain ⟨c, l, hc, h⟩ := f.p
  refine ⟨c ^ n, ppow l n, Int.pow_ne_zero hc, fun x => ?_⟩
  rw [evQ_ppow, ← h, rat_mul_pow, cast_pow]⟩⟩
theorem v_add (f g : QP) (x : Rat) : (f + g).v x = f.v x + g.v x := rfl
theorem v_sub (f g : QP) (x : Rat) : (f - g).v x = f.v x - g.v x := rfl
theorem v_neg (f : QP) (x : Rat) : (-f).v x = - f.v x := rfl
theorem v_mul (f g : QP) (x : Rat) : (f * g).v x = f.v x * g.v x := rfl
theorem v_pow (f : QP) (n : Nat) (x : Rat) : (f ^ n).v x = f.v x ^ n := rfl
theorem v_K (r x : Rat) : (K r).v x = r := rfl
theorem v_0 (x : Rat) : (0 : QP).v x = 0 := rfl
theorem v_1 (x : Rat) : (1 : QP).v x = 1 := rfl
theorem v_P (l : List Int) (x : Rat) : (P l).v x = evQ l x := rfl
theorem qat {f g : QP} (h : f = g) (x : Rat) : f.v x = g.v x := by rw [h]
theorem P_mul (f g : List Int) : P (pmul f g) = P f * P g := QP.eq fun x => evQ_pmul x f g
theorem P_add (f g : List Int) : P (padd f g) = P f + P g := QP.eq fun x => evQ_padd x f g
theorem P_sub (f g : List Int) : P (psub f g) = P f - P g := QP.eq fun x => evQ_psub x f g
theorem P_scale (f : List Int) (c : Int) : P (scaleP f c) = K c * P f := QP.eq fun x => evQ_scale x c f
theorem P_trim (f : List Int) : P (trimZ f) = P f := QP.eq fun x => evQ_trim f x
theorem P_pow (f : List Int) (n : Nat) : P (ppow f n) = P f ^ n := QP.eq fun x => evQ_ppow f x n
theorem P_nil : P [] = 0 := QP.eq fun _ => rfl
theorem P_congr {f g : List Int} (h : ∀ i, co f i = co g i) : P f = P g := QP.eq fun x => evQ_congr x h
theorem P_inj {f g : List Int} (h : P f = P g) : trimZ f = trimZ g := poly_eq fun x => qat h (x : Rat)
theorem P_co {f g : List Int} (h : P f = P g) (i : Nat) : co f i = co g i := by rw [← co_trim f, ← co_trim g, P_inj h]
/-! lengths -/
theorem tlen_spec (l : List Int) : (∀ i, (trimZ l).length ≤ i → co l i = 0) ∧ ((trimZ l).length = 0 ∨ co l ((trimZ l).length - 1) ≠ 0) := by
  refine ⟨fun i hi => ?_, ?_⟩
  · rw [← co_trim]; exact co_ge hi
  · rcases Nat.eq_zero_or_pos (trimZ l).length with h | h
    · exact .inl h
    · right; rw [← co_trim]; exact canon_last (f := trimZ l) (canon_trim isZI l) (by omega)
theorem tlen_of {l : List Int} {n : Nat} (hz : ∀ i, n ≤ i → co l i = 0) (hn : n = 0 ∨ co l (n - 1) ≠ 0) : (trimZ l).length = n := by
  have ⟨a, b⟩ := tlen_spec l
  rcases Nat.lt_trichotomy (trimZ l).length n with h | h | h
  · exact absurd (a (n - 1) (by omega)) (hn.resolve_left (by omega))
  · exact h
  · exact absurd (hz _ (by omega)) (b.resolve_left (by omega))
theorem tlen_scale (l : List Int) {c : Int} (hc : c ≠ 0) : (trimZ (scaleP l c)).length = (trimZ l).length := by
  have ⟨a, b⟩ := tlen_spec l
  refine tlen_of (fun i hi => by rw [co_scaleP, a i hi, Int.zero_mul]) (b.imp id fun h => ?_)
  rw [co_scaleP]; exact Int.mul_ne_zero h hc
theorem co_top {f g : List Int} {m n : Nat} (hf : ∀ i, m < i → co f i = 0) (hg : ∀ i, n < i → co g i = 0) : co (pmul f g) (m + n) = co f m * co g n ∧ ∀ i, m + n < i → co (pmul f g) i = 0 := by
  constructor
  · rw [co_pmul]
    unfold conv convF
    rw [rsum_more (n := m + 1) (by omega) (fun i h1 h2 => by rw [hf i (by omega), Int.zero_mul]), rsum_succ, rsum_zero (fun i hi => by rw [hg (m + n - i) (by omega), Int.mul_zero]), show m + n - m = n by omega, Int.zero_add]
  · intro i hi
    rw [co_pmul]
    refine rsum_zero fun j hj => ?_
    rcases Nat.lt_or_ge m j with h | h
    · rw [hf j h, Int.zero_mul]
    · rw [hg (i - j) (by omega), Int.mul_zero]
theorem tlen_mul {f g : List Int} (hf : (trimZ f).length ≠ 0) (hg : (trimZ g).length ≠ 0) : (trimZ (pmul f g)).length + 1 = (trimZ f).length + (trimZ g).length := by
  have ⟨a, b⟩ := tlen_spec f
  have ⟨c, d⟩ := tlen_spec g
  have ⟨t1, t2⟩ := co_top (f := f) (g := g) (m := (trimZ f).length - 1) (n := (trimZ g).length - 1) (fun i hi => a i (by omega)) (fun i hi => c i (by omega))
  have := tlen_of (l := pmul f g) (n := (trimZ f).length + (trimZ g).length - 1) (fun i hi => t2 i (by omega)) (.inr (by
    rw [show (trimZ f).length + (trimZ g).length - 1 - 1 = (trimZ f).length - 1 + ((trimZ g).length - 1) by omega, t1]
    exact Int.mul_ne_zero (b.resolve_left hf) (d.resolve_left hg)))
  omega
/-- The degree and one more; 0 for 0. -/
noncomputable def dg (f : QP) : Nat := (trimZ (Classical.choose (Classical.choose_spec f.p))).length
theorem dg_eq {f : QP} {c : Int} {l : List Int} (hc : c ≠ 0) (h : ∀ x, (c : Rat) * f.v x = evQ l x) : dg f = (trimZ l).length := by
  have h2 := Classical.choose_spec (Classical.choose_spec f.p)
  revert h2
  unfold dg
  generalize Classical.choose (Classical.choose_spec f.p) = m
  generalize Classical.choose f.p = d
  intro ⟨hd, h2⟩
  have : trimZ (scaleP m c) = trimZ (scaleP l d) := poly_eq fun x => by rw [evQ_scale, evQ_scale, ← h, ← h2]; grind
  rw [← tlen_scale m hc, this, tlen_scale l hd]
theorem dg_P (l : List Int) : dg (P l) = (trimZ l).length := dg_eq (c := 1) (by decide) fun x => by rw [one_cast]; simp only [v_P]; grind
theorem dg_rep (f : QP) : ∃ (c : Int) (l : List Int), c ≠ 0 ∧ K c * f = P l ∧ dg f = (trimZ l).length := by
  obtain ⟨c, l, hc, h⟩ := f.p
  exact ⟨c, l, hc, QP.eq h, dg_eq hc h⟩
theorem K_ne {r : Rat} (h : r ≠ 0) : K r ≠ 0 := fun e => h (qat e 0)
theorem dg_zero {f : QP} : dg f = 0 ↔ f = 0 := by
  obtain ⟨c, l, hc, h, hd⟩ := dg_rep f
  constructor
  · intro h0
    rw [h0] at hd
    have hl : trimZ l = [] := List.eq_nil_of_length_eq_zero hd.symm
    refine QP.eq fun x => ?_
    have h1 := qat h x
    rw [← P_trim, hl, P_nil] at h1
    simp only [v_mul, v_K, v_0] at h1 ⊢
    exact (Rat.mul_eq_zero.1 h1).resolve_left (cast_ne hc)
  · rintro rfl
    have : P l = P [] := by rw [← h, P_nil]; refine QP.eq fun x => ?_; simp only [v_mul, v_0]; grind
    rw [hd, P_inj this]; rfl
theorem dg_pos {f : QP} : f ≠ 0 ↔ 0 < dg f := by
  constructor
  · intro h; rcases Nat.eq_zero_or_pos (dg f) with h0 | h0
    · exact absurd (dg_zero.1 h0) h
    · exact h0
  · intro h e; rw [dg_zero.2 e] at h; omega
theorem dg_mul {f g : QP} (hf : f ≠ 0) (hg : g ≠ 0) : dg (f * g) + 1 = dg f + dg g := by
  obtain ⟨c, l, hc, h, hd⟩ := dg_rep f
  obtain ⟨d, m, hd', k, hk⟩ := dg_rep g
  have : dg (f * g) = (trimZ (pmul l m)).length := dg_eq (c := c * d) (Int.mul_ne_zero hc hd') fun x => by
    rw [evQ_pmul]
    have h1 := qat h x
    have h2 := qat k x
    simp only [v_mul, v_K, v_P] at h1 h2 ⊢
    rw [← h1, ← h2, Rat.intCast_mul]; grind
  rw [this, hd, hk]
  have h1 := dg_pos.1 hf
  have h2 := dg_pos.1 hg
  exact tlen_mul (by omega) (by omega)
theorem qp_dom {f g : QP} (h : f * g = 0) : f = 0 ∨ g = 0 := by
  by_cases hf : f = 0
  · exact .inl hf
  · by_cases hg : g = 0
    · exact .inr hg
    · have h1 := dg_mul hf hg
      have h2 := dg_pos.1 hf
      have h3 := dg_pos.1 hg
      rw [h, dg_zero.2 rfl] at h1
      omega
theorem qp_mul_ne {f g : QP} (hf : f ≠ 0) (hg : g ≠ 0) : f * g ≠ 0 := fun h => (qp_dom h).elim hf hg
theorem qp_cancel {f g h : QP} (hh : h ≠ 0) (e : f * h = g * h) : f = g := by
  have : (f - g) * h = 0 := QP.eq fun x => by have := qat e x; simp only [v_mul, v_sub, v_0] at this ⊢; grind
  have := (qp_dom this).resolve_right hh
  exact QP.eq fun x => by have := qat this x; simp only [v_sub, v_0] at this; grind
theorem qp_pow_ne {f : QP} (hf : f ≠ 0) : ∀ n : Nat, f ^ n ≠ 0
  | 0 => by
    have : f ^ 0 = 1 := QP.eq fun x => by rw [v_pow, v_1, Rat.pow_zero]
    rw [this]; exact K_ne (by decide)
  | n + 1 => by
    have : f ^ (n + 1) = f ^ n * f := QP.eq fun x => by rw [v_pow, v_mul, v_pow, Rat.pow_succ]
    rw [this]; exact qp_mul_ne (qp_pow_ne hf n) hf
theorem qp_pow_add (f : QP) (m n : Nat) : f ^ (m + n) = f ^ m * f ^ n := QP.eq fun x => by simp only [v_pow, v_mul, rat_pow_add]
theorem qp_pow_succ (f : QP) (n : Nat) : f ^ (n + 1) = f ^ n * f := QP.eq fun x => by rw [v_pow, v_mul, v_pow, Rat.pow_succ]
theorem qp_pow_zero (f : QP) : f ^ 0 = 1 := QP.eq fun x => by rw [v_pow, v_1, Rat.pow_zero]
instance : Dvd QP := ⟨fun g f => ∃ q, f = q * g⟩
theorem dg_add (f g : QP) : dg (f + g) ≤ max (dg f) (dg g) := by
  obtain ⟨c, l, hc, h, hd⟩ := dg_rep f
  obtain ⟨d, m, hd', k, hk⟩ := dg_rep g
  have : dg (f + g) = (trimZ (padd (scaleP l d) (scaleP m c))).length := dg_eq (c := c * d) (Int.mul_ne_zero hc hd') fun x => by
    rw [evQ_padd, evQ_scale, evQ_scale]
    have h1 := qat h x
    have h2 := qat k x
    simp only [v_mul, v_K, v_P, v_add] at h1 h2 ⊢
    rw [← h1, ← h2, Rat.intCast_mul]; grind
  rw [this, hd, hk]
  have ⟨a, _⟩ := tlen_spec l
  have ⟨a', _⟩ := tlen_spec m
  have ⟨_, b⟩ := tlen_spec (padd (scaleP l d) (scaleP m c))
  rcases b with b | b
  · omega
  · apply Classical.byContradiction
    intro hn
    apply b
    rw [co_padd, co_scaleP, co_scaleP, a _ (by omega), a' _ (by omega)]; simp
theorem dg_K {r : Rat} (h : r ≠ 0) : dg (K r) = 1 := by
  have : dg (K r) = (trimZ [r.num]).length := dg_eq (c := r.den) (by have := r.den_nz; omega) fun x => by rw [v_K, den_mul]; simp only [evQ]; grind
  rw [this]
  refine tlen_of (fun i hi => co_ge (by simpa using hi)) (.inr ?_)
  simp [co]
  exact h
theorem dg_Kmul {r : Rat} (h : r ≠ 0) (f : QP) : dg (K r * f) = dg f := by
  by_cases hf : f = 0
  · subst hf
    have : K r * 0 = 0 := QP.eq fun x => by simp only [v_mul, v_0]; grind
    rw [this]
  · have := dg_mul (K_ne h) hf
    rw [dg_K h] at this
    omega
theorem dg_neg (f : QP) : dg (-f) = dg f := by
  have : -f = K (-1) * f := QP.eq fun x => by simp only [v_neg, v_mul, v_K]; grind
  rw [this, dg_Kmul (by decide)]
theorem dg_sub (f g : QP) : dg (f - g) ≤ max (dg f) (dg g) := by
  have : f - g = f + -g := QP.eq fun x => by simp only [v_sub, v_add, v_neg]; grind
  rw [this]
  have := dg_add f (-g)
  rwa [dg_neg] at this
theorem dg_one {f : QP} (h : dg f ≤ 1) : ∃ r, f = K r := by
  obtain ⟨c, l, hc, e, hd⟩ := dg_rep f
  have : P l = P [co l 0] := P_congr fun i => by
    cases i with
    | zero => simp [co]
    | succ i => rw [(tlen_spec l).1 (i + 1) (by omega)]; simp [co]
  refine ⟨(co l 0 : Rat) / (c : Rat), QP.eq fun x => ?_⟩
  rw [this] at e
  have h1 := qat e x
  have h2 := cast_ne hc
  simp only [v_mul, v_K, v_P, evQ] at h1 ⊢
  grind
/-! division with rest -/
theorem dvd_small {f g : QP} (h : g ∣ f) (hd : dg f < dg g) : f = 0 := by
  obtain ⟨q, rfl⟩ := h
  by_cases hq : q = 0
  · subst hq; exact QP.eq fun x => by simp only [v_mul, v_0]; grind
  · have hg : g ≠ 0 := dg_pos.2 (by omega)
    have := dg_mul hq hg
    have := dg_pos.1 hq
    omega
theorem dvd_le {f g : QP} (h : g ∣ f) (hf : f ≠ 0) : dg g ≤ dg f := by
  apply Classical.byContradiction
  intro hn
  exact hf (dvd_small h (by omega))
theorem qp_step {f g : QP} (hg : g ≠ 0) (h : dg g ≤ dg f) : ∃ q, dg (f - q * g) < dg f := by
  obtain ⟨c, l, hc, e, hd⟩ := dg_rep f
  obtain ⟨d, m, hd', k, hk⟩ := dg_rep g
  have hg' := dg_pos.1 hg
  have ⟨a, b⟩ := tlen_spec l
  have ⟨a', b'⟩ := tlen_spec m
  replace b := b.resolve_left (by omega)
  replace b' := b'.resolve_left (by omega)
  have h1 := cast_ne hc
  have h2 := cast_ne hd'
  have h3 := cast_ne b'
  refine ⟨K (((co l ((trimZ l).length - 1) : Int) : Rat) * (d : Rat) / ((c : Rat) * ((co m ((trimZ m).length - 1) : Int) : Rat))) * P (List.replicate (dg f - dg g) 0 ++ [1]), ?_⟩
  have : dg (f - K (((co l ((trimZ l).length - 1) : Int) : Rat) * (d : Rat) / ((c : Rat) * ((co m ((trimZ m).length - 1) : Int) : Rat))) * P (List.replicate (dg f - dg g) 0 ++ [1]) * g) =
      (trimZ (psub (scaleP l (co m ((trimZ m).length - 1))) (scaleP (List.replicate (dg f - dg g) 0 ++ m) (co l ((trimZ l).length - 1))))).length :=
    dg_eq (c := c * co m ((trimZ m).length - 1)) (Int.mul_ne_zero hc b') fun x => by
      rw [evQ_psub, evQ_scale, evQ_scale, evQ_shift]
      have e1 := qat e x
      have e2 := qat k x
      simp only [v_mul, v_K, v_P, v_sub, evQ_shift] at e1 e2 ⊢
      rw [← e1, ← e2, Rat.intCast_mul]
      simp only [evQ, one_cast]
      grind
  rw [this]
  have hz : ∀ i, dg f - 1 ≤ i → co (psub (scaleP l (co m ((trimZ m).length - 1))) (scaleP (List.replicate (dg f - dg g) 0 ++ m) (co l ((trimZ l).length - 1)))) i = 0 := fun i hi => by
    rw [co_psub, co_scaleP, co_scaleP, cs_co]
    unfold cs
    rw [if_pos (by omega)]
    by_cases h4 : i = dg f - 1
    · rw [show i - (dg f - dg g) = (trimZ m).length - 1 by omega, show i = (trimZ l).length - 1 by omega, Int.mul_comm]; omega
    · rw [a i (by omega), a' (i - (dg f - dg g)) (by omega)]; simp
  have ⟨_, t⟩ := tlen_spec (psub (scaleP l (co m ((trimZ m).length - 1))) (scaleP (List.replicate (dg f - dg g) 0 ++ m) (co l ((trimZ l).length - 1))))
  rcases t with t | t
  · omega
  · apply Classical.byContradiction
    intro hn
    exact t (hz _ (by omega))
theorem divmod_ {g : QP} (hg : g ≠ 0) : ∀ (n : Nat) (f : QP), dg f ≤ n → ∃ q r, f = q * g + r ∧ dg r < dg g
  | 0, f, h => ⟨0, f, QP.eq fun x => by simp only [v_add, v_mul, v_0]; grind, by have := dg_pos.1 hg; omega⟩
  | n + 1, f, h => by
    rcases Nat.lt_or_ge (dg f) (dg g) with h1 | h1
    · exact ⟨0, f, QP.eq fun x => by simp only [v_add, v_mul, v_0]; grind, h1⟩
    · obtain ⟨q, hq⟩ := qp_step hg h1
      obtain ⟨q', r, e, hr⟩ := divmod_ hg n (f - q * g) (by omega)
      exact ⟨q + q', r, QP.eq fun x => by have := qat e x; simp only [v_add, v_mul, v_sub] at this ⊢; grind, hr⟩
theorem qp_divmod {g : QP} (hg : g ≠ 0) (f : QP) : ∃ q r, f = q * g + r ∧ dg r < dg g := divmod_ hg _ f (Nat.le_refl _)
theorem qdvd_refl (f : QP) : f ∣ f := ⟨1, QP.eq fun x => by simp only [v_mul, v_1]; grind⟩
theorem qdvd_zero (f : QP) : f ∣ 0 := ⟨0, QP.eq fun x => by simp only [v_mul, v_0]; grind⟩
theorem qdvd_trans {f g h : QP} : f ∣ g → g ∣ h → f ∣ h := by
  rintro ⟨q, rfl⟩ ⟨r, rfl⟩
  exact ⟨r * q, QP.eq fun x => by simp only [v_mul]; grind⟩
theorem qdvd_add {f g h : QP} : f ∣ g → f ∣ h → f ∣ g + h := by
  rintro ⟨q, rfl⟩ ⟨r, rfl⟩
  exact ⟨q + r, QP.eq fun x => by simp only [v_mul, v_add]; grind⟩
theorem qdvd_sub {f g h : QP} : f ∣ g → f ∣ h → f ∣ g - h := by
  rintro ⟨q, rfl⟩ ⟨r, rfl⟩
  exact ⟨q - r, QP.eq fun x => by simp only [v_mul, v_sub]; grind⟩
theorem qdvd_mulL {f g : QP} (h : QP) : f ∣ g → f ∣ h * g := by
  rintro ⟨q, rfl⟩
  exact ⟨h * q, QP.eq fun x => by simp only [v_mul]; grind⟩
theorem qdvd_mulR {f g : QP} (h : QP) : f ∣ g → f ∣ g * h := by
  rintro ⟨q, rfl⟩
  exact ⟨h * q, QP.eq fun x => by simp only [v_mul]; grind⟩
theorem qmul_comm (f g : QP) : f * g = g * f := QP.eq fun x => by simp only [v_mul]; grind
theorem qmul_assoc (f g h : QP) : f * g * h = f * (g * h) := QP.eq fun x => by simp only [v_mul]; grind
theorem qmul_mul {f g h k : QP} : f ∣ g → h ∣ k → f * h ∣ g * k := by
  rintro ⟨q, rfl⟩ ⟨r, rfl⟩
  exact ⟨q * r, QP.eq fun x => by simp only [v_mul]; grind⟩
theorem zero_qdvd {f : QP} : (0 : QP) ∣ f → f = 0 := by
  rintro ⟨q, rfl⟩
  exact QP.eq fun x => by simp only [v_mul, v_0]; grind
/-! the multiplicity of a factor -/
def Mul_ (f g : QP) (k : Nat) : Prop := ∃ r, f = r * g ^ k ∧ ¬ g ∣ r
theorem mul_le {f g : QP} {k m : Nat} (hg : g ≠ 0) (h : Mul_ f g k) : g ^ m ∣ f ↔ m ≤ k := by
  obtain ⟨r, rfl, hr⟩ := h
  constructor
  · rintro ⟨q, e⟩
    apply Classical.byContradiction
    intro hn
    obtain ⟨j, rfl⟩ : ∃ j, m = k + j + 1 := ⟨m - k - 1, by omega⟩
    apply hr
    refine ⟨q * g ^ j, qp_cancel (qp_pow_ne hg k) ?_⟩
    rw [e, qp_pow_succ, qp_pow_add]
    exact QP.eq fun x => by simp only [v_mul]; grind
  · intro hm
    obtain ⟨j, rfl⟩ : ∃ j, k = j + m := ⟨k - m, by omega⟩
    exact ⟨r * g ^ j, by rw [qp_pow_add]; exact QP.eq fun x => by simp only [v_mul]; grind⟩
theorem mul_unique {f g : QP} {k m : Nat} (hg : g ≠ 0) (h : Mul_ f g k) (h' : Mul_ f g m) : k = m := by
  have h1 := (mul_le (m := k) hg h').1 ((mul_le (m := k) hg h).2 (Nat.le_refl _))
  have h2 := (mul_le (m := m) hg h).1 ((mul_le (m := m) hg h').2 (Nat.le_refl _))
  omega
theorem mul_more {f g : QP} {k : Nat} (n : Nat) (h : Mul_ f g k) : Mul_ (f * g ^ n) g (k + n) := by
  obtain ⟨r, rfl, hr⟩ := h
  exact ⟨r, by rw [qp_pow_add]; exact qmul_assoc _ _ _, hr⟩
theorem dvd_K {f g : QP} {r : Rat} (hr : r ≠ 0) : (g ∣ K r * f) ↔ g ∣ f := by
  constructor
  · rintro ⟨q, e⟩
    exact ⟨K (1 / r) * q, QP.eq fun x => by have := qat e x; simp only [v_mul, v_K] at this ⊢; grind⟩
  · exact qdvd_mulL _
theorem K_dvd {f g : QP} {r : Rat} (hr : r ≠ 0) : (K r * g ∣ f) ↔ g ∣ f := by
  constructor
  · rintro ⟨q, rfl⟩
    exact ⟨q * K r, QP.eq fun x => by simp only [v_mul, v_K]; grind⟩
  · rintro ⟨q, rfl⟩
    exact ⟨K (1 / r) * q, QP.eq fun x => by simp only [v_mul, v_K]; grind⟩
theorem mul_assocd {f g : QP} {k : Nat} {r s : Rat} (hr : r ≠ 0) (hs : s ≠ 0) (h : Mul_ f g k) : Mul_ (K r * f) (K s * g) k := by
  obtain ⟨q, rfl, hq⟩ := h
  have hp := pow_ne hs k
  refine ⟨K (r / s ^ k) * q, QP.eq fun x => ?_, fun hd => hq ?_⟩
  · simp only [v_mul, v_K, v_pow, rat_mul_pow]; grind
  · exact (dvd_K (r := r / s ^ k) (by grind)).1 ((K_dvd hs).1 hd)
end Go.Gx

/-
  Primitive polynomials: Gauss' lemma, exact division. Plain numbers; no program in sight.
-/
namespace Go.Gx
theorem prime_in : ∀ (m n : Nat), n ≤ m → 2 ≤ n → ∃ p : Nat, 2 ≤ p ∧ p ∣ n ∧ ∀ a b : Nat, p ∣ a * b → p ∣ a ∨ p ∣ b
  | 0, n, h, h2 => by omega
  | m + 1, n, h, h2 => by
    by_cases hd : ∃ d, 2 ≤ d ∧ d < n ∧ d ∣ n
    · obtain ⟨d, h3, h4, h5⟩ := hd
      obtain ⟨p, hp, hpd, hpp⟩ := prime_in m d (by omega) h3
      exact ⟨p, hp, Nat.dvd_trans hpd h5, hpp⟩
    · refine ⟨n, h2, Nat.dvd_refl n, fun a b hab => ?_⟩
      have hg := Nat.gcd_dvd_left n a
      have hg0 : 0 < Nat.gcd n a := Nat.gcd_pos_of_pos_left _ (by omega)
      have hle := Nat.le_of_dvd (by omega) hg
      rcases Nat.lt_or_ge (Nat.gcd n a) 2 with h1 | h1
      · right
        have : Nat.gcd n a = 1 := by omega
        exact Nat.Coprime.dvd_of_dvd_mul_left this hab
      · left
        have : Nat.gcd n a = n := Classical.byContradiction fun hne => hd ⟨_, h1, by omega, hg⟩
        rw [← this]; exact Nat.gcd_dvd_right n a
theorem prime_int {n : Nat} (h : 2 ≤ n) : ∃ p : Nat, 2 ≤ p ∧ p ∣ n ∧ ∀ a b : Int, (p : Int) ∣ a * b → (p : Int) ∣ a ∨ (p : Int) ∣ b := by
  obtain ⟨p, h1, h2, h3⟩ := prime_in n n (Nat.le_refl _) h
  refine ⟨p, h1, h2, fun a b hab => ?_⟩
  rw [Int.ofNat_dvd_left] at hab ⊢
  rw [Int.ofNat_dvd_left]
  rw [Int.natAbs_mul] at hab
  exact h3 _ _ hab
theorem rsum_but {p : Int} {F : Nat → Int} {i : Nat} : ∀ n, (∀ a, a < n → a ≠ i → p ∣ F a) → p ∣ rsum F n - (if i < n then F i else 0)
  | 0, _ => by simp [rsum]
  | n + 1, h => by
    have ih := rsum_but (p := p) (F := F) (i := i) n fun a ha hi => h a (by omega) hi
    rw [rsum_succ]
    by_cases h1 : n = i
    · subst h1
      rw [if_neg (by omega)] at ih
      rw [if_pos (by omega), show rsum F n + F n - F n = rsum F n - 0 by omega]
      exact ih
    · have h2 := h n (by omega) h1
      by_cases h3 : i < n
      · rw [if_pos h3] at ih
        rw [if_pos (by omega), show rsum F n + F n - F i = (rsum F n - F i) + F n by omega]
        exact Int.dvd_add ih h2
      · rw [if_neg h3] at ih
        rw [if_neg (by omega), show rsum F n + F n - 0 = (rsum F n - 0) + F n by omega]
        exact Int.dvd_add ih h2
theorem least {Q : Nat → Prop} : ∀ n, Q n → ∃ j, Q j ∧ ∀ i, i < j → ¬ Q i := fun n => by
  induction n using Nat.strongRecOn with
  | ind n ih =>
    intro h
    by_cases h1 : ∃ i, i < n ∧ Q i
    · obtain ⟨i, h2, h3⟩ := h1; exact ih i h2 h3
    · exact ⟨n, h, fun i hi hq => h1 ⟨i, hi, hq⟩⟩
theorem gauss_prime {p : Int} (hp : ∀ a b : Int, p ∣ a * b → p ∣ a ∨ p ∣ b) {l d : List Int} (h : ∀ i, p ∣ co (pmul l d) i) (hd : ∃ j, ¬ p ∣ co d j) : ∀ i, p ∣ co l i := by
  obtain ⟨j0, hj0⟩ := hd
  obtain ⟨j, hj, hl⟩ := least (Q := fun j => ¬ p ∣ co d j) j0 hj0
  intro i
  induction i using Nat.strongRecOn with
  | ind i ih =>
    have h1 := h (i + j)
    rw [co_pmul] at h1
    have h2 := rsum_but (p := p) (F := fun a => co l a * co d (i + j - a)) (i := i) (i + j + 1) (fun a ha hai => by
      rcases Nat.lt_or_ge a i with h3 | h3
      · exact Int.dvd_mul_of_dvd_left (ih a h3)
      · exact Int.dvd_mul_of_dvd_right (Classical.not_not.1 (hl (i + j - a) (by omega))))
    rw [if_pos (by omega), show i + j - i = j by omega] at h2
    have h3 : p ∣ co l i * co d j := by
      have := Int.dvd_sub h1 h2
      have e : conv l d (i + j) - (rsum (fun a => co l a * co d (i + j - a)) (i + j + 1) - co l i * co d j) = co l i * co d j := by unfold conv convF; omega
      rwa [e] at this
    exact (hp _ _ h3).resolve_right hj
theorem cont_dvd {k : Nat} : ∀ {F : List Int}, (∀ i, (k : Int) ∣ co F i) → k ∣ contP F
  | [], _ => by simp [contP]
  | a :: F, h => by
    rw [contP_cons]
    refine Nat.dvd_gcd (cont_dvd fun i => ?_) ?_
    · have := h (i + 1); simpa [co] using this
    · have := h 0; exact Int.ofNat_dvd_left.1 (by simpa [co] using this)
theorem dvd_cont : ∀ (F : List Int) (i : Nat), (contP F : Int) ∣ co F i
  | [], i => by simp [co]
  | a :: F, i => by
    rw [contP_cons]
    cases i with
    | zero =>
      have : co (a :: F) 0 = a := by simp [co]
      rw [this]; exact Int.ofNat_dvd_left.2 (Nat.gcd_dvd_right _ _)
    | succ i =>
      have : co (a :: F) (i + 1) = co F i := by simp [co]
      rw [this]
      exact Int.dvd_trans (Int.ofNat_dvd.2 (Nat.gcd_dvd_left _ _)) (dvd_cont F i)
theorem co_div (l : List Int) (p : Int) (i : Nat) : co (l.map (fun x => x / p)) i = co l i / p := by
  simp only [co, List.getD, List.getElem?_map]
  cases l[i]? <;> simp
theorem gauss {d R : List Int} (hd : contP d = 1) : ∀ (n : Nat) (c : Int) (l : List Int), c.natAbs ≤ n → c ≠ 0 → (∀ i, co R i * c = co (pmul l d) i) → ∃ W, ∀ i, co l i = c * co W i
  | 0, c, l, hn, hc, _ => by omega
  | n + 1, c, l, hn, hc, h => by
    by_cases h1 : c.natAbs < 2
    · have : c = 1 ∨ c = -1 := by omega
      refine ⟨scaleP l c, fun i => ?_⟩
      rw [co_scaleP]
      rcases this with rfl | rfl <;> omega
    · obtain ⟨p, hp2, hpc, hpp⟩ := prime_int (n := c.natAbs) (by omega)
      have hpc' : (p : Int) ∣ c := Int.ofNat_dvd_left.2 hpc
      obtain ⟨c', rfl⟩ := hpc'
      have hj : ∃ j, ¬ (p : Int) ∣ co d j := by
        apply Classical.byContradiction
        intro hn'
        have : p ∣ contP d := cont_dvd fun i => Classical.byContradiction fun h => hn' ⟨i, h⟩
        rw [hd] at this
        have := Nat.le_of_dvd (by omega) this
        omega
      have hl := gauss_prime hpp (l := l) (d := d) (fun i => by rw [← h i, ← Int.mul_assoc, Int.mul_comm (co R i)]; exact ⟨co R i * c', by rw [Int.mul_assoc]⟩) hj
      have hp0 : (p : Int) ≠ 0 := by omega
      have hc' : c' ≠ 0 := fun e => hc (by rw [e, Int.mul_zero])
      have hco : ∀ i, co l i = p * co (l.map (fun x => x / (p : Int))) i := fun i => by rw [co_div]; exact (Int.mul_ediv_cancel' (hl i)).symm
      have e2 : ∀ i, co (pmul l d) i = p * co (pmul (l.map (fun x => x / (p : Int))) d) i := fun i => by
        rw [co_pmul, co_pmul]
        unfold conv convF
        rw [← rsum_mul]
        exact rsum_congr fun a _ => by rw [hco a, Int.mul_assoc]
      obtain ⟨W, hW⟩ := gauss hd n c' (l.map (fun x => x / (p : Int))) (by
        rw [Int.natAbs_mul] at hn
        have h3 : 2 * c'.natAbs ≤ (p : Int).natAbs * c'.natAbs := Nat.mul_le_mul_right _ (by omega)
        have : c'.natAbs ≠ 0 := by omega
        omega) hc' (fun i => by
        have := h i
        rw [e2 i, ← Int.mul_assoc, Int.mul_comm (co R i), Int.mul_assoc] at this
        exact Int.eq_of_mul_eq_mul_left hp0 this)
      exact ⟨W, fun i => by rw [hco i, hW i, Int.mul_assoc]⟩
/-- Gauss: what a primitive polynomial divides, it divides over the integers. -/
theorem gauss_dvd {d R : List Int} (hd : contP d = 1) (h : P d ∣ P R) : ∃ W, P R = P W * P d := by
  obtain ⟨q, e⟩ := h
  obtain ⟨c, l, hc, hq, _⟩ := dg_rep q
  have e1 : P (scaleP R c) = P (pmul l d) := by rw [P_scale, P_mul, ← hq, e, qmul_assoc]
  obtain ⟨W, hW⟩ := gauss hd _ c l (Nat.le_refl _) hc fun i => by rw [← co_scaleP]; exact P_co e1 i
  refine ⟨W, ?_⟩
  have e2 : P l = K c * P W := by rw [← P_scale]; exact P_congr fun i => by rw [hW i, co_scaleP, Int.mul_comm]
  refine QP.eq fun x => ?_
  have h1 := qat e x
  have h2 := qat hq x
  have h3 := qat e2 x
  have h4 := cast_ne hc
  simp only [v_mul, v_K] at h1 h2 h3 ⊢
  grind
theorem exFail_not {F G : List Int} (hp : contP G = 1) (hl : ldP G ≠ 0) (h : exFail F G) : ¬ P G ∣ P F := by
  intro hd
  obtain ⟨W, hW⟩ := gauss_dvd hp hd
  obtain ⟨Q, R, s, hI, hz, hs⟩ := h
  obtain ⟨d, hdl⟩ := ld_len hl
  have ⟨hdL, hdz, _⟩ := ld_deg hdl
  rw [hdl, show d + 1 - 1 = d from rfl] at hz hs
  have e : P R = P (pmul (psub W Q) G) := QP.eq fun x => by
    have h1 := qat hW x
    have h2 := hI x
    rw [P_mul, P_sub]
    simp only [v_mul, v_sub, v_P] at h1 ⊢
    grind
  have hR : ∀ n, (∀ i, n ≤ i → co R i = 0) → dg (P R) ≤ n := fun n hn => by
    rw [dg_P]
    rcases (tlen_spec R).2 with h | h
    · omega
    · apply Classical.byContradiction
      intro hc; exact h (hn _ (by omega))
  rcases hs with ⟨hs, hs2⟩ | ⟨rfl, i, hi⟩
  · apply hs2
    have hU : ∀ i, s - 1 < i → co (psub W Q) i = 0 := fun i hi => by
      by_cases h0 : P (psub W Q) = 0
      · have := P_co (h0.trans P_nil.symm) i; rw [this]; simp [co]
      · have h1 := hR _ hz
        rw [e, P_mul] at h1
        have h2 := dg_mul h0 (g := P G) (dg_pos.2 (by rw [dg_P]; omega))
        rw [dg_P, dg_P G] at h2
        exact (tlen_spec _).1 i (by omega)
    rw [P_co e, (co_top hU hdz).1, hdL]
    exact Int.dvd_mul_left _ _
  · apply hi
    have h1 := hR d fun i hi => hz i (by omega)
    have h2 : P R = 0 := dvd_small (g := P G) ⟨P (psub W Q), by rw [e, P_mul]⟩ (by rw [dg_P G]; omega)
    have := P_co (h2.trans P_nil.symm) i
    rw [this]; simp [co]
/-! primitive parts -/
theorem primC_abs (F : List Int) : (primC F).natAbs = contP F := by unfold primC; split <;> omega
theorem primC_ne {F : List Int} (h : ldP F ≠ 0) : primC F ≠ 0 := by have := cont_pos h; have := primC_abs F; omega
theorem primC_dvd (F : List Int) (i : Nat) : primC F ∣ co F i := by rw [← Int.natAbs_dvd, primC_abs]; exact dvd_cont F i
theorem co_tdiv (l : List Int) (p : Int) (i : Nat) : co (l.map (fun x => x.tdiv p)) i = (co l i).tdiv p := by
  simp only [co, List.getD, List.getElem?_map]
  cases l[i]? <;> simp
theorem co_prim (F : List Int) (i : Nat) : primC F * co (primP F) i = co F i := by
  unfold primP; rw [co_tdiv, co_trim]; exact Int.mul_tdiv_cancel' (primC_dvd F i)
theorem P_prim (F : List Int) : P F = K (primC F) * P (primP F) := by
  rw [← P_scale]; exact P_congr fun i => by rw [co_scaleP, Int.mul_comm, co_prim]
theorem P_primP {F : List Int} (h : ldP F ≠ 0) : P (primP F) = K (1 / (primC F : Rat)) * P F := QP.eq fun x => by
  have h1 := qat (P_prim F) x
  have h2 := cast_ne (primC_ne h)
  simp only [v_mul, v_K] at h1 ⊢
  grind
theorem cont_prim {F : List Int} (h : ldP F ≠ 0) : contP (primP F) = 1 := by
  have h0 := cont_pos h
  have h1 : contP F * contP (primP F) ∣ contP F := cont_dvd fun i => by
    rw [← co_prim F i]
    have := dvd_cont (primP F) i
    obtain ⟨z, hz⟩ := this
    rw [hz]
    rw [Int.ofNat_dvd_left, Int.natAbs_mul, Int.natAbs_mul, primC_abs]
    exact ⟨z.natAbs, by simp [Nat.mul_assoc]⟩
  have h2 := Nat.le_of_dvd h0 h1
  have h3 : contP (primP F) ≠ 0 := fun e => by rw [e, Nat.mul_zero] at h1; have := Nat.eq_zero_of_zero_dvd h1; omega
  apply Classical.byContradiction
  intro hn
  have : contP F * 2 ≤ contP F * contP (primP F) := Nat.mul_le_mul_left _ (by omega)
  omega
theorem prim_len (F : List Int) : (primP F).length = (trimZ F).length := by unfold primP; simp
theorem prim_trim (F : List Int) : trimZ (primP F) = primP F := by
  by_cases h : ldP F = 0
  · rw [← primP_zero h]; rfl
  · refine canon_of_last ?_
    by_cases h0 : (primP F).length = 0
    · exact .inl h0
    · right
      intro e
      have h1 := co_prim F ((primP F).length - 1)
      rw [e, Int.mul_zero, prim_len] at h1
      rw [prim_len] at h0
      exact (tlen_spec F).2.resolve_left h0 h1.symm
theorem ld_prim {F : List Int} (h : ldP F ≠ 0) : 0 < ldP (primP F) := by
  obtain ⟨d, hd⟩ := ld_len h
  have ⟨h1, _, _⟩ := ld_deg hd
  have ⟨h2, _, h5⟩ := ld_deg (G := primP F) (d := d) (by rw [prim_trim, prim_len, hd])
  have h3 := co_prim F d
  rw [h1, h2] at h3
  have h4 := cont_pos h
  unfold primC at h3
  by_cases hn : ldP F < 0
  · rw [if_pos hn] at h3
    apply Classical.byContradiction
    intro hc
    have : 0 ≤ (contP F : Int) * (-(ldP (primP F))) := Int.mul_nonneg (by omega) (by omega)
    have e : -(contP F : Int) * ldP (primP F) = (contP F : Int) * (-(ldP (primP F))) := by rw [Int.neg_mul, Int.mul_neg]
    omega
  · rw [if_neg hn] at h3
    apply Classical.byContradiction
    intro hc
    have : 0 ≤ (contP F : Int) * (-(ldP (primP F))) := Int.mul_nonneg (by omega) (by omega)
    rw [Int.mul_neg] at this
    omega
theorem ld_zero_iff (F : List Int) : ldP F = 0 ↔ P F = 0 := by
  constructor
  · intro h; rw [← P_trim, ld_zero h, P_nil]
  · intro h
    have := P_inj (h.trans P_nil.symm)
    unfold ldP; rw [this]; rfl
theorem ld_ne_iff (F : List Int) : ldP F ≠ 0 ↔ P F ≠ 0 := not_congr (ld_zero_iff F)
end Go.Gx

/-
  Divisibility and multiplicities, as the program finds them. Plain numbers; no program in sight.
-/
namespace Go.Gx
theorem ld_of_deg {G : List Int} {x : Int} (h : x = ((trimZ G).length : Int) - 1) (hx : ¬ x < 0) : ldP G ≠ 0 := by
  rw [ld_ne_iff, dg_pos, dg_P]; omega
theorem div_rem {F G Q R : List Int} {e nr : Nat} (h : ∀ x : Rat, evQ F x * ((ldP G : Int) : Rat) ^ e = evQ Q x * evQ G x + evQ R x) (hlt : nr + 1 ≤ (trimZ G).length) (ht : trimZ R = R) (hl : R.length = nr) : ((nr : Int) = 0) ↔ P G ∣ P F := by
  have hG : ldP G ≠ 0 := by rw [ld_ne_iff, dg_pos, dg_P]; omega
  have hL := pow_ne (cast_ne hG) e
  have e1 : K (((ldP G : Int) : Rat) ^ e) * P F = P Q * P G + P R := QP.eq fun x => by
    have := h x
    simp only [v_mul, v_K, v_add, v_P]
    grind
  constructor
  · intro h0
    have : R = [] := List.eq_nil_of_length_eq_zero (by omega)
    rw [this, P_nil] at e1
    refine (dvd_K hL).1 ⟨P Q, ?_⟩
    rw [e1]; exact QP.eq fun x => by simp only [v_add, v_0]; grind
  · intro hd
    have h2 : P G ∣ P R := by
      have : P R = K (((ldP G : Int) : Rat) ^ e) * P F - P Q * P G := by rw [e1]; exact QP.eq fun x => by simp only [v_add, v_sub]; grind
      rw [this]
      exact qdvd_sub (qdvd_mulL _ hd) (qdvd_mulL _ (qdvd_refl _))
    have h3 := dvd_small h2 (by rw [dg_P, dg_P, ht]; omega)
    have h4 := dg_zero.2 h3
    rw [dg_P, ht] at h4
    omega
theorem div_zero {F G : List Int} {a b : Int} (ha : a = ((trimZ G).length : Int) - 1) (hn : a < 0) (hb : b = ((trimZ F).length : Int) - 1) : b < 0 ↔ P G ∣ P F := by
  have hG : P G = 0 := dg_zero.1 (by rw [dg_P]; omega)
  rw [hG]
  constructor
  · intro h
    have : P F = 0 := dg_zero.1 (by rw [dg_P]; omega)
    rw [this]; exact qdvd_refl _
  · intro h
    have := dg_zero.2 (zero_qdvd h)
    rw [dg_P] at this
    omega
/-- What the removal of a factor starts from. -/
def RemC (F G : List Int) : Prop := P (primP F) ≠ 0 ∧ 2 ≤ (trimZ G).length ∧ P (primP G) ≠ 0 ∧ contP (primP G) = 1 ∧ ldP (primP G) ≠ 0
/-- k times the factor G, and the rest. -/
def Rem (F G : List Int) (k : Nat) (R : List Int) : Prop :=
  (RemC F G ∧ P (primP F) = P R * P (primP G) ^ k ∧ ¬ P (primP G) ∣ P R) ∨ ((P F = 0 ∨ (trimZ G).length < 2) ∧ k = 0 ∧ R = primP F)
theorem rem_open {F G A B : List Int} (hA : A = primP F) (hB : B = primP G) (h1 : A.length ≠ 0) (h2 : 2 ≤ B.length) : RemC F G := by
  subst hA hB
  rw [prim_len] at h1 h2
  have hG : ldP G ≠ 0 := by rw [ld_ne_iff, dg_pos, dg_P]; omega
  exact ⟨dg_pos.2 (by rw [dg_P, prim_trim, prim_len]; omega), h2, dg_pos.2 (by rw [dg_P, prim_trim, prim_len]; omega), cont_prim hG, by have := ld_prim hG; omega⟩
theorem rem_none {F G A B : List Int} (hA : A = primP F) (hB : B = primP G) (h : A.length = 0 ∨ B.length < 2) : Rem F G 0 A := by
  subst hA hB
  rw [prim_len, prim_len] at h
  exact .inr ⟨h.imp (fun h => dg_zero.1 (by rw [dg_P]; omega)) id, rfl, rfl⟩
theorem rem_start (A : List Int) (g : QP) : P A = P A * g ^ 0 := by rw [qp_pow_zero]; exact QP.eq fun x => by simp only [v_mul, v_1]; grind
theorem rem_quo {A B Q G : List Int} (h : ∀ x : Rat, evQ A x = evQ Q x * evQ B x) (hB : B = G) : P A = P Q * P G := by subst hB; exact QP.eq h
theorem rmv_step {f a q g : QP} {k : Nat} (h : f = a * g ^ k) (hq : a = q * g) : f = q * g ^ (k + 1) := by
  rw [h, hq, qp_pow_succ]; exact QP.eq fun x => by simp only [v_mul]; grind
theorem rem_ne {a q g : QP} (h : a ≠ 0) (hq : a = q * g) : q ≠ 0 := fun e => h (by rw [hq, e]; exact QP.eq fun x => by simp only [v_mul, v_0]; grind)
theorem rem_lt {A Q G : List Int} (h : P A ≠ 0) (hq : P A = P Q * P (primP G)) (hg : P (primP G) ≠ 0) (h2 : 2 ≤ (trimZ G).length) : (trimZ Q).length < (trimZ A).length := by
  have h1 := dg_mul (rem_ne h hq) hg
  rw [← hq, dg_P, dg_P, dg_P, prim_trim, prim_len] at h1
  omega
theorem rem_bud {B E a b M T : Nat} (h : B + E * a ≤ M + E * T) (hlt : b < a) : B + E + E * b ≤ M + E * T := by
  have : E * (b + 1) ≤ E * a := Nat.mul_le_mul_left _ hlt
  rw [Nat.mul_succ] at this
  omega
def remM (M G : Nat) : Nat := M + 4096 * (G + 16) + 1
theorem rem_big {B G a M T : Nat} (h : B + 64 * (G + 16) * a ≤ M + 1 + 64 * (G + 16) * T) (hT : T ≤ 64) : B ≤ remM M G := by
  unfold remM
  have h1 : 64 * (G + 16) * T ≤ 64 * (G + 16) * 64 := Nat.mul_le_mul_left _ hT
  have e : 64 * (G + 16) * 64 = 4096 * (G + 16) := by rw [Nat.mul_comm (64 * (G + 16)) 64, ← Nat.mul_assoc]
  rw [e] at h1
  generalize 64 * (G + 16) * T = X at h h1
  generalize 64 * (G + 16) * a = Y at h
  omega
theorem rem_cap {B G M : Nat} (h : B ≤ remM M G) (hM : M ≤ 4096) (hG : G ≤ 4096) : B ≤ 268435456 :=
  Nat.le_trans h (Nat.le_trans (Nat.add_le_add_right (Nat.add_le_add hM (Nat.mul_le_mul_left 4096 (Nat.add_le_add_right hG 16))) 1) (by decide))
theorem exM_rem {B G K : Nat} (hK : K ≤ 64) : exM B (G + 1) K ≤ B + (64 * (G + 16)) := by
  have h := exM_64 (M := B) (G := G + 1) hK
  have e : 64 * (G + 16) = 64 * (G + 1 + 14) + 64 := by rw [show G + 16 = G + 1 + 14 + 1 by omega, Nat.mul_succ]
  generalize 64 * (G + 1 + 14) = x at *
  omega
/-- The removal finds the multiplicity. -/
theorem rem_mul {F G R : List Int} {k : Nat} (h : Rem F G k R) (hF : P F ≠ 0) (hG : 2 ≤ (trimZ G).length) : Mul_ (P F) (P G) k := by
  rcases h with ⟨⟨h1, h2, h3, h4, h5⟩, e, hn⟩ | ⟨h, _⟩
  · have hG' : ldP G ≠ 0 := by rw [ld_ne_iff, dg_pos, dg_P]; omega
    have hF' : ldP F ≠ 0 := (ld_ne_iff F).2 hF
    have : Mul_ (P (primP F)) (P (primP G)) k := ⟨P R, e, hn⟩
    have := mul_assocd (cast_ne (primC_ne hF')) (cast_ne (primC_ne hG')) this
    rwa [← P_prim, ← P_prim] at this
  · rcases h with h | h
    · exact absurd h hF
    · omega
theorem rem_zero {F G R : List Int} {k : Nat} (h : Rem F G k R) (h0 : P F = 0 ∨ (trimZ G).length < 2) : k = 0 := by
  rcases h with ⟨⟨h1, h2, _⟩, _⟩ | ⟨_, h, _⟩
  · exfalso
    rcases h0 with h0 | h0
    · apply h1
      have hl := ld_zero ((ld_zero_iff F).2 h0)
      unfold primP; rw [hl]; exact P_nil
    · omega
  · exact h
end Go.Gx

/-
  Sizes of coefficients; the law on multiplicities. No program in sight.
-/
namespace Go.Gx
def nrm (l : List Int) : Nat := l.foldr (fun a s => a.natAbs + s) 0
theorem nrm_cons (a : Int) (l : List Int) : nrm (a :: l) = a.natAbs + nrm l := rfl
theorem nrm_head (l : List Int) : nrm l = (co l 0).natAbs + nrm l.tail := by
  cases l with
  | nil => simp [nrm, co]
  | cons a l => simp [nrm_cons, co]
theorem nrm_ext : ∀ (n : Nat) (f g : List Int), f.length + g.length ≤ n → (∀ i, co f i = co g i) → nrm f = nrm g
  | 0, f, g, hn, _ => by
    have h1 : f = [] := List.eq_nil_of_length_eq_zero (by omega)
    have h2 : g = [] := List.eq_nil_of_length_eq_zero (by omega)
    rw [h1, h2]
  | n + 1, f, g, hn, h => by
    rcases Nat.eq_zero_or_pos (f.length + g.length) with h0 | h0
    · have h1 : f = [] := List.eq_nil_of_length_eq_zero (by omega)
      have h2 : g = [] := List.eq_nil_of_length_eq_zero (by omega)
      rw [h1, h2]
    · rw [nrm_head f, nrm_head g, h 0, nrm_ext n f.tail g.tail (by simp; omega) (fun i => by rw [co_tail, co_tail]; exact h (i + 1))]
theorem nrm_congr {f g : List Int} (h : ∀ i, co f i = co g i) : nrm f = nrm g := nrm_ext _ f g (Nat.le_refl _) h
theorem nrm_trim (f : List Int) : nrm (trimZ f) = nrm f := nrm_congr fun i => co_trim f i
theorem nrm_co : ∀ (l : List Int) (i : Nat), (co l i).natAbs ≤ nrm l
  | [], i => by simp [co]
  | a :: l, 0 => by simp [co, nrm_cons]
  | a :: l, i + 1 => by
    have := nrm_co l i
    have e : co (a :: l) (i + 1) = co l i := by simp [co]
    rw [e, nrm_cons]; omega
theorem nrm_padd : ∀ f g : List Int, nrm (padd f g) ≤ nrm f + nrm g
  | [], g => by rw [nrm_congr (g := g) (fun i => by rw [co_padd]; simp [co])]; omega
  | a :: f, [] => by rw [nrm_congr (g := a :: f) (fun i => by rw [co_padd]; simp [co])]; omega
  | a :: f, b :: g => by
    have ih := nrm_padd f g
    rw [nrm_congr (g := (a + b) :: padd f g) (fun i => by
      rw [co_padd]
      cases i with
      | zero => simp [co]
      | succ i =>
        have := co_padd f g i
        simp only [co, List.getD_cons_succ] at this ⊢
        omega)]
    rw [nrm_cons, nrm_cons, nrm_cons]
    omega
theorem nrm_scale (c : Int) : ∀ f : List Int, nrm (scaleP f c) = c.natAbs * nrm f
  | [] => by simp [scaleP, nrm]
  | a :: f => by
    have ih := nrm_scale c f
    simp only [scaleP, List.map_cons, nrm_cons, Int.natAbs_mul] at ih ⊢
    rw [ih, Nat.mul_add, Nat.mul_comm]
theorem nrm_pmul : ∀ f g : List Int, nrm (pmul f g) ≤ nrm f * nrm g
  | [], g => by simp [pmul, nrm]
  | a :: f, g => by
    have ih := nrm_pmul f g
    have h1 := nrm_padd (scaleP g a) (0 :: pmul f g)
    rw [nrm_congr (co_pmul_cons a f g), nrm_cons, Nat.add_mul]
    rw [nrm_scale, nrm_cons] at h1
    simp at h1
    omega
theorem nrm_ppow (g : List Int) : ∀ k, nrm (ppow g k) ≤ nrm g ^ k
  | 0 => by show nrm [1] ≤ _; simp [nrm]
  | k + 1 => by
    show nrm (pmul (ppow g k) g) ≤ _
    rw [Nat.pow_succ]
    exact Nat.le_trans (nrm_pmul _ _) (Nat.mul_le_mul_right _ (nrm_ppow g k))
theorem PolyR.tight {w : World} {S : Nat → Prop} {A : Option Addr} {n c M : Nat} {l : List RI} {K : Nat} (h : PolyR w S A n c l M) (hc : AllC l) (hn : nrm (zs l) < BS ^ K) : PolyR w S A n c l K := by
  refine ⟨h.1, fun r hr => ⟨(h.2 r hr).1, ?_⟩⟩
  have hN := (h.2 r hr).1
  obtain ⟨i, hi, e⟩ := List.getElem_of_mem hr
  have h1 := nrm_co (zs l) i
  have e1 : co (zs l) i = r.z := by simp [co, List.getD, List.getElem?_eq_getElem hi, e]
  rw [e1] at h1
  have e2 : r.z.natAbs = val r.d := by unfold RI.z zval; split <;> omega
  have h2 := lt_val_len (hc r hr).1 (k := K) (by omega)
  have h3 : r.d.length = r.n := by have := hN.1.1; simpa using this
  omega
theorem nrm_small : ∀ (xs : List Int), (∀ x ∈ xs, -32768 ≤ x ∧ x ≤ 32767) → nrm xs ≤ 32768 * xs.length
  | [], _ => by simp [nrm]
  | a :: xs, h => by
    have h1 := h a (by simp)
    have h2 := nrm_small xs fun x hx => h x (by simp [hx])
    rw [nrm_cons, List.length_cons]; omega
theorem nrm_short {F xs : List Int} {k : Nat} (e : F = trimZ (xs.take k)) (h : ∀ x ∈ xs, -32768 ≤ x ∧ x ≤ 32767) : nrm F ≤ 32768 * k := by
  rw [e, nrm_trim]
  have := nrm_small (xs.take k) fun x hx => h x (List.mem_of_mem_take hx)
  have h2 : (xs.take k).length ≤ k := by simp; omega
  omega
theorem pow_norm {G W : List Int} {n N B : Nat} (e : W = trimZ (ppow G n)) (h : nrm G ≤ B) (hB : 0 < B) (hn : n ≤ N) : nrm W ≤ B ^ N := by
  rw [e, nrm_trim]
  exact Nat.le_trans (nrm_ppow G n) (Nat.le_trans (Nat.pow_le_pow_left h n) (Nat.pow_le_pow_right hB hn))
theorem dg_pow_succ {g : QP} (hg : g ≠ 0) (n : Nat) : dg (g ^ (n + 1)) + 1 = dg (g ^ n) + dg g := by rw [qp_pow_succ]; exact dg_mul (qp_pow_ne hg n) hg
theorem dg_pow_ge {g : QP} (hg : 2 ≤ dg g) : ∀ n, n + 1 ≤ dg (g ^ n)
  | 0 => by rw [qp_pow_zero]; exact Nat.le_of_eq (dg_K (by decide)).symm
  | n + 1 => by have := dg_pow_succ (g := g) (dg_pos.2 (by omega)) n; have := dg_pow_ge hg n; omega
theorem dg_pow_le (g : QP) : ∀ n, dg (g ^ n) ≤ n * dg g + 1
  | 0 => by rw [qp_pow_zero]; exact Nat.le_of_eq (by rw [show (1 : QP) = K 1 from rfl, dg_K (by decide)]; simp)
  | n + 1 => by
    by_cases hg : g = 0
    · subst hg
      rw [qp_pow_succ, show (0 : QP) ^ n * 0 = 0 from QP.eq fun x => by simp only [v_mul, v_0]; grind, dg_zero.2 rfl]; omega
    · have := dg_pow_succ hg n
      have := dg_pow_le g n
      rw [Nat.succ_mul]; omega
theorem tlen_pow {G W : List Int} {n N L : Nat} (e : W = trimZ (ppow G n)) (hG : (trimZ G).length ≤ L) (hn : n ≤ N) : W.length ≤ N * L + 1 := by
  have h := dg_pow_le (P G) n
  rw [← P_pow, dg_P, dg_P, ← e] at h
  have : n * (trimZ G).length ≤ N * L := Nat.mul_le_mul hn hG
  omega
theorem P_len {F : List Int} (h : P F = 0) : (trimZ F).length = 0 := by rw [← dg_P]; exact dg_zero.2 h
theorem cnt_H {F G W H : List Int} {n : Nat} (hW : W = trimZ (ppow G n)) (hH : H = trimZ (pmul F W)) : P H = P F * P G ^ n := by
  rw [hH, P_trim, P_mul, hW, P_trim, P_pow]
theorem cnt_none {F G H r : List Int} {n m : Nat} (hH : P H = P F * P G ^ n) (h : Rem H G m r) (h0 : (trimZ F).length = 0 ∨ (trimZ G).length < 2) : m = 0 := by
  refine rem_zero h (h0.imp (fun h => ?_) id)
  rw [hH, dg_zero.1 ((dg_P F).trans h)]
  exact QP.eq fun x => by simp only [v_mul, v_0]; grind
theorem cnt_all {F G H r r' : List Int} {m k n L : Nat} (hH : P H = P F * P G ^ n) (h1 : Rem H G m r) (h2 : Rem F G k r') (hF : (trimZ F).length ≠ 0) (hG : 2 ≤ (trimZ G).length) (hL : (trimZ H).length ≤ L) :
    m = k + n ∧ m + 1 ≤ L ∧ (trimZ (ppow G m)).length ≤ L ∧ (trimZ (ppow G (m + 1))).length ≤ L + (trimZ G).length ∧ P G ^ m ∣ P H ∧ ¬ P G ^ (m + 1) ∣ P H := by
  have hF' : P F ≠ 0 := dg_pos.2 (by rw [dg_P]; omega)
  have hG' : P G ≠ 0 := dg_pos.2 (by rw [dg_P]; omega)
  have hH' : P H ≠ 0 := by rw [hH]; exact qp_mul_ne hF' (qp_pow_ne hG' n)
  have a := rem_mul h1 hH' hG
  have b := rem_mul h2 hF' hG
  have c := mul_more n b
  rw [← hH] at c
  have hd : P G ^ m ∣ P H := (mul_le hG' a).2 (Nat.le_refl _)
  have hn : ¬ P G ^ (m + 1) ∣ P H := fun h => by have := (mul_le hG' a).1 h; omega
  have e1 := dvd_le hd hH'
  have e2 := dg_pow_ge (g := P G) (by rw [dg_P]; exact hG) m
  have e3 := dg_pow_succ hG' m
  rw [dg_P] at e1
  rw [dg_P G, ← P_pow, ← P_pow, dg_P, dg_P] at e3
  rw [← P_pow, dg_P] at e1 e2
  exact ⟨mul_unique hG' a c, by omega, by omega, by omega, hd, hn⟩
end Go.Gx

/-
  Bounds on subresultants and on divisors of polynomials. Plain numbers; no program in sight.
-/
namespace Go.Gx
def rho (cl : List Nat) (r : Row) : Nat := cl.foldr (fun c s => (r c).natAbs + s) 0
def rprod (cl : List Nat) (rs : List Row) : Nat := rs.foldr (fun r s => rho cl r * s) 1
theorem rprod_cons (cl : List Nat) (r : Row) (rs : List Row) : rprod cl (r :: rs) = rho cl r * rprod cl rs := rfl
theorem rho_cons (c : Nat) (cl : List Nat) (r : Row) : rho (c :: cl) r = (r c).natAbs + rho cl r := rfl
theorem rprod_append (cl : List Nat) : ∀ a b : List Row, rprod cl (a ++ b) = rprod cl a * rprod cl b
  | [], b => by simp [rprod]
  | r :: a, b => by rw [List.cons_append, rprod_cons, rprod_cons, rprod_append cl a b, Nat.mul_assoc]
theorem rprod_le (c : Nat) (cl : List Nat) : ∀ rs : List Row, rprod cl rs ≤ rprod (c :: cl) rs
  | [] => Nat.le_refl _
  | r :: rs => by rw [rprod_cons, rprod_cons]; exact Nat.mul_le_mul (by rw [rho_cons]; omega) (rprod_le c cl rs)
theorem lap_bd {D : List Row → Int} {cl : List Nat} {c : Nat} (hD : ∀ rs, (D rs).natAbs ≤ rprod cl rs) : ∀ rs pre : List Row, (lap D c pre rs).natAbs ≤ rprod cl pre * rprod (c :: cl) rs
  | [], pre => by simp [lap]
  | r :: rs, pre => by
    have ih := lap_bd (c := c) hD rs (pre ++ [r])
    have h1 := hD (pre ++ rs)
    rw [rprod_append] at h1 ih
    rw [show rprod cl [r] = rho cl r from Nat.mul_one _] at ih
    have h2 := rprod_le c cl rs
    simp only [lap]
    rw [rprod_cons, rho_cons]
    have h3 : (r c * D (pre ++ rs)).natAbs ≤ (r c).natAbs * (rprod cl pre * rprod (c :: cl) rs) := by
      rw [Int.natAbs_mul]
      exact Nat.mul_le_mul_left _ (Nat.le_trans h1 (Nat.mul_le_mul_left _ h2))
    have h4 : rprod cl pre * (((r c).natAbs + rho cl r) * rprod (c :: cl) rs) = (r c).natAbs * (rprod cl pre * rprod (c :: cl) rs) + rprod cl pre * rho cl r * rprod (c :: cl) rs := by
      generalize rprod cl pre = x
      generalize rprod (c :: cl) rs = y
      generalize (r c).natAbs = z
      generalize rho cl r = t
      grind
    omega
theorem det_bd : ∀ (cl : List Nat) (rs : List Row), (det cl rs).natAbs ≤ rprod cl rs
  | [], [] => by decide
  | [], r :: rs => by simp [det]
  | c :: cl, rs => by
    have := lap_bd (c := c) (det_bd cl) rs []
    rw [show rprod cl [] = 1 from rfl, Nat.one_mul] at this
    exact this
theorem rho_le {r : Row} {H : Nat} (h : ∀ c, (r c).natAbs ≤ H) : ∀ cl : List Nat, rho cl r ≤ cl.length * H
  | [] => by simp [rho]
  | c :: cl => by have := rho_le h cl; have := h c; rw [rho_cons, List.length_cons, Nat.succ_mul]; omega
theorem rprod_pow {cl : List Nat} {X : Nat} : ∀ rs : List Row, (∀ r ∈ rs, rho cl r ≤ X) → rprod cl rs ≤ X ^ rs.length
  | [], _ => by simp [rprod]
  | r :: rs, h => by
    rw [rprod_cons, List.length_cons, Nat.pow_succ, Nat.mul_comm]
    exact Nat.mul_le_mul (rprod_pow rs fun x hx => h x (by simp [hx])) (h r (by simp))
theorem cols_len : ∀ (n hi : Nat), (colsOf hi n).length = n
  | 0, _ => rfl
  | n + 1, hi => by simp [colsOf, cols_len n]
theorem rows_len (f : List Int) : ∀ n, (rowsOf f n).length = n
  | 0 => rfl
  | n + 1 => by simp [rowsOf, rows_len f n]
theorem cs_le {f : List Int} {H : Nat} (h : ∀ i, (co f i).natAbs ≤ H) (t c : Nat) : (cs f t c).natAbs ≤ H := by
  unfold cs; split
  · exact h _
  · simp
theorem Sr_bd {a b : List Int} {n m k j H N : Nat} (ha : ∀ i, (co a i).natAbs ≤ H) (hb : ∀ i, (co b i).natAbs ≤ H) (hH : 1 ≤ H) (hN : n + m ≤ N) (hk : k ≤ m) (hkn : k < n) : (Sr k a b n m j).natAbs ≤ (N * H) ^ N := by
  unfold Sr
  refine Nat.le_trans (det_bd _ _) (Nat.le_trans (rprod_pow (X := N * H) _ fun r hr => ?_) (Nat.pow_le_pow_right (Nat.mul_pos (by omega) hH) ?_))
  · refine Nat.le_trans (rho_le (H := H) (fun c => ?_) _) (Nat.mul_le_mul_right _ (by rw [List.length_append, cols_len]; simp; omega))
    rcases List.mem_append.1 hr with h | h
    · obtain ⟨t, _, rfl⟩ := rows_mem h; exact cs_le ha t c
    · obtain ⟨t, _, rfl⟩ := rows_mem h; exact cs_le hb t c
  · rw [List.length_append, rows_len, rows_len]; omega
/-! divisors -/
def quoL (x : Int) : List Int → List Int
  | [] => []
  | _ :: l => evI l x :: quoL x l
theorem quoL_ev (x : Int) (y : Rat) : ∀ f : List Int, evQ f y = ((evI f x : Int) : Rat) + (y - (x : Rat)) * evQ (quoL x f) y
  | [] => by simp only [evQ, quoL]; rw [show evI [] x = 0 from rfl, zero_cast]; grind
  | a :: l => by
    have ih := quoL_ev x y l
    have e : evI (a :: l) x = a + x * evI l x := rfl
    simp only [evQ, quoL]
    rw [e, Rat.intCast_add, Rat.intCast_mul]
    grind
theorem evI_zero {x : Int} : ∀ {f : List Int}, (∀ i, co f i = 0) → evI f x = 0
  | [], _ => rfl
  | a :: l, h => by
    have h0 := h 0
    have h1 : evI l x = 0 := evI_zero fun i => by have := h (i + 1); simpa [co] using this
    show a + x * evI l x = 0
    rw [h1]
    simp [co] at h0
    omega
theorem quoL_deg {x : Int} : ∀ {f : List Int} {e : Nat}, (∀ i, e < i → co f i = 0) → ∀ i, e ≤ i → co (quoL x f) i = 0
  | [], e, _, i, _ => by simp [quoL, co]
  | a :: l, e, h, i, hi => by
    cases i with
    | zero =>
      have : evI l x = 0 := evI_zero fun i => by have := h (i + 1) (by omega); simpa [co] using this
      simpa [quoL, co] using this
    | succ i =>
      have := quoL_deg (x := x) (f := l) (e := e - 1) (fun j hj => by have := h (j + 1) (by omega); simpa [co] using this) i (by omega)
      simpa [quoL, co] using this
theorem quoL_nrm (x : Nat) (f : List Int) : nrm f ≤ (evI f x).natAbs + (1 + x) * nrm (quoL x f) := by
  have e : P f = P (padd [evI f x] (pmul [-(x : Int), 1] (quoL x f))) := by
    rw [P_add, P_mul]
    refine QP.eq fun y => ?_
    have := quoL_ev x y f
    simp only [v_add, v_mul, v_P, evQ] at this ⊢
    rw [this, Rat.intCast_neg, one_cast]
    grind
  rw [nrm_congr (P_co e)]
  refine Nat.le_trans (nrm_padd _ _) (Nat.add_le_add (by simp [nrm]) (Nat.le_trans (nrm_pmul _ _) (Nat.mul_le_mul_right _ ?_)))
  simp [nrm]; omega
theorem quoL_at (x : Int) (y : Int) (f : List Int) : evI f y = evI f x + (y - x) * evI (quoL x f) y := by
  have h := quoL_ev x (y : Rat) f
  rw [evQ_int, evQ_int, ← Rat.intCast_sub, ← Rat.intCast_mul, ← Rat.intCast_add] at h
  exact Rat.intCast_inj.1 h
theorem newton_bd : ∀ (e : Nat) (g : List Int) (x V X : Nat), (∀ i, e < i → co g i = 0) → x + e ≤ X → (∀ i : Nat, i ≤ e → (evI g ((x + i : Nat) : Int)).natAbs ≤ V) → nrm g ≤ V * (2 * X + 3) ^ e
  | 0, g, x, V, X, h, _, hv => by
    have h1 := quoL_nrm x g
    have h2 : nrm (quoL (x : Int) g) = 0 := by rw [nrm_congr (g := []) (fun i => by rw [quoL_deg h i (by omega)]; simp [co])]; rfl
    have h3 := hv 0 (Nat.le_refl _)
    rw [Nat.add_zero] at h3
    rw [h2] at h1
    simp
    omega
  | e + 1, g, x, V, X, h, hX, hv => by
    have h1 := quoL_nrm x g
    have h3 := hv 0 (by omega)
    rw [Nat.add_zero] at h3
    have ih := newton_bd e (quoL (x : Int) g) (x + 1) (2 * V) X (fun i hi => quoL_deg h i (by omega)) (by omega) (fun i hi => by
      have h4 := hv (i + 1) (by omega)
      have h5 := quoL_at (x : Int) ((x + (i + 1) : Nat) : Int) g
      rw [show x + 1 + i = x + (i + 1) by omega]
      have h6 : (evI (quoL (x : Int) g) ((x + (i + 1) : Nat) : Int)).natAbs ≤ (((x + (i + 1) : Nat) : Int) - (x : Int)).natAbs * (evI (quoL (x : Int) g) ((x + (i + 1) : Nat) : Int)).natAbs :=
        Nat.le_mul_of_pos_left _ (by omega)
      rw [← Int.natAbs_mul] at h6
      omega)
    have h7 : (1 + x) * nrm (quoL (x : Int) g) ≤ (X + 1) * (2 * V * (2 * X + 3) ^ e) := Nat.mul_le_mul (by omega) ih
    have h8 : 1 ≤ (2 * X + 3) ^ e := Nat.pow_pos (by omega)
    have h9 : V ≤ V * (2 * X + 3) ^ e := Nat.le_mul_of_pos_right _ h8
    rw [Nat.pow_succ]
    have h10 : V * ((2 * X + 3) ^ e * (2 * X + 3)) = (X + 1) * (2 * V * (2 * X + 3) ^ e) + V * (2 * X + 3) ^ e := by
      generalize (2 * X + 3) ^ e = z
      grind
    omega
theorem evI_bd {x X : Nat} (hX : x ≤ X) (h1 : 1 ≤ X) : ∀ (f : List Int) (n : Nat), (∀ i, n < i → co f i = 0) → (evI f (x : Int)).natAbs ≤ nrm f * X ^ n
  | [], n, _ => by simp [evI]
  | a :: l, n, h => by
    have e : evI (a :: l) (x : Int) = a + x * evI l (x : Int) := rfl
    rw [e, nrm_cons]
    have hp : 1 ≤ X ^ n := Nat.pow_pos (by omega)
    have ha : a.natAbs ≤ a.natAbs * X ^ n := Nat.le_mul_of_pos_right _ hp
    cases n with
    | zero =>
      have : evI l (x : Int) = 0 := evI_zero fun i => by have := h (i + 1) (by omega); simpa [co] using this
      rw [this]; simp
    | succ n =>
      have ih := evI_bd hX h1 l n fun i hi => by have := h (i + 1) (by omega); simpa [co] using this
      have h2 : ((x : Int) * evI l (x : Int)).natAbs ≤ nrm l * X ^ (n + 1) := by
        rw [Int.natAbs_mul, Int.natAbs_natCast, Nat.pow_succ, ← Nat.mul_assoc, Nat.mul_comm]
        exact Nat.mul_le_mul ih hX
      rw [Nat.add_mul]
      omega
theorem hgt_nrm : ∀ f : List Int, hgt f ≤ nrm f
  | [] => Nat.le_refl _
  | a :: l => by have := hgt_nrm l; rw [nrm_cons]; show max _ _ ≤ _; omega
/-- A divisor of a polynomial has small coefficients. -/
theorem div_bd {f g : List Int} {F n : Nat} (hd : ∃ h : List Int, P f = P g * P h) (h0 : P f ≠ 0) (hF : nrm f ≤ F) (hn : (trimZ f).length ≤ n + 1) : nrm g ≤ F * (2 * (F + n) + 7) ^ (2 * n) := by
  obtain ⟨h, e⟩ := hd
  have hg0 : P g ≠ 0 := fun e' => h0 (by rw [e, e']; exact QP.eq fun x => by simp only [v_mul, v_0]; grind)
  have hh0 : P h ≠ 0 := fun e' => h0 (by rw [e, e']; exact QP.eq fun x => by simp only [v_mul, v_0]; grind)
  have hdg := dg_mul hg0 hh0
  rw [← e, dg_P, dg_P, dg_P] at hdg
  have hp := dg_pos.1 hh0
  rw [dg_P] at hp
  have hf1 := dg_pos.1 h0
  rw [dg_P] at hf1
  have hgt1 : hgt (trimZ f) ≤ F := by rw [hgt_trim]; exact Nat.le_trans (hgt_nrm f) hF
  have hev : ∀ x : Nat, F + 2 ≤ x → x ≤ F + 2 + n → (evI g (x : Int)).natAbs ≤ F * (F + 2 + n) ^ n := fun x hx hx2 => by
    have h1 : evI f (x : Int) = evI g (x : Int) * evI h (x : Int) := by
      have := qat e (x : Rat)
      simp only [v_mul, v_P] at this
      have e2 : ((x : Nat) : Rat) = (((x : Nat) : Int) : Rat) := rfl
      rw [e2, evQ_int, evQ_int, evQ_int, ← Rat.intCast_mul] at this
      exact Rat.intCast_inj.1 this
    have h2 := (big_sign (x := (x : Int)) (H := F) (.inl (by omega)) (trimZ f) (by omega) (canon_last (canon_trim isZI f) (by omega)) hgt1).1
    have h3 : evI (trimZ f) (x : Int) = evI f (x : Int) := by
      have : ((evI (trimZ f) (x : Int) : Int) : Rat) = ((evI f (x : Int) : Int) : Rat) := by rw [← evQ_int, ← evQ_int, evQ_trim]
      exact Rat.intCast_inj.1 this
    rw [h3, h1] at h2
    have h4 : evI h (x : Int) ≠ 0 := fun e' => h2 (by rw [e', Int.mul_zero])
    have h5 := evI_bd (x := x) (X := F + 2 + n) hx2 (by omega) f n fun i hi => (tlen_spec f).1 i (by omega)
    rw [h1, Int.natAbs_mul] at h5
    have h6 : (evI g (x : Int)).natAbs ≤ (evI g (x : Int)).natAbs * (evI h (x : Int)).natAbs := Nat.le_mul_of_pos_right _ (by omega)
    exact Nat.le_trans h6 (Nat.le_trans h5 (Nat.mul_le_mul_right _ hF))
  have h7 := newton_bd n g (F + 2) (F * (F + 2 + n) ^ n) (F + 2 + n) (fun i hi => (tlen_spec g).1 i (by omega)) (Nat.le_refl _) fun i hi => hev (F + 2 + i) (by omega) (by omega)
  refine Nat.le_trans h7 ?_
  rw [Nat.mul_assoc, Nat.two_mul n, Nat.pow_add]
  exact Nat.mul_le_mul_left _ (Nat.mul_le_mul (Nat.pow_le_pow_left (by omega) n) (Nat.pow_le_pow_left (by omega) n))
end Go.Gx

/-
  Greatest common divisors, as the subresultant sequence finds them. Plain numbers; no program in sight.
-/
namespace Go.Gx
/-- A combination of two polynomials. -/
def InI (F G h : QP) : Prop := ∃ u v, h = u * F + v * G
theorem InI.left (F G : QP) : InI F G F := ⟨1, 0, QP.eq fun x => by simp only [v_add, v_mul, v_1, v_0]; grind⟩
theorem InI.right (F G : QP) : InI F G G := ⟨0, 1, QP.eq fun x => by simp only [v_add, v_mul, v_1, v_0]; grind⟩
theorem InI.lin {F G a b : QP} (ha : InI F G a) (hb : InI F G b) (u v : QP) : InI F G (u * a + v * b) := by
  obtain ⟨u1, v1, rfl⟩ := ha
  obtain ⟨u2, v2, rfl⟩ := hb
  exact ⟨u * u1 + v * u2, u * v1 + v * v2, QP.eq fun x => by simp only [v_add, v_mul]; grind⟩
/-- G divides F and g and is a combination of them. -/
def GcdQ (F G g : QP) : Prop := g ∣ F ∧ g ∣ G ∧ InI F G g
theorem GcdQ.dvd {F G g h : QP} (H : GcdQ F G g) (hF : h ∣ F) (hG : h ∣ G) : h ∣ g := by
  obtain ⟨_, _, u, v, rfl⟩ := H
  exact qdvd_add (qdvd_mulL _ hF) (qdvd_mulL _ hG)
theorem GcdQ.symm {F G g : QP} (H : GcdQ F G g) : GcdQ G F g := by
  obtain ⟨h1, h2, u, v, rfl⟩ := H
  exact ⟨h2, h1, v, u, QP.eq fun x => by simp only [v_add, v_mul]; grind⟩
theorem GcdQ.scale {F G g : QP} {a b c : Rat} (H : GcdQ F G g) (ha : a ≠ 0) (hb : b ≠ 0) (hc : c ≠ 0) : GcdQ (K a * F) (K b * G) (K c * g) := by
  obtain ⟨h1, h2, u, v, h3⟩ := H
  refine ⟨(K_dvd hc).2 (qdvd_mulL _ h1), (K_dvd hc).2 (qdvd_mulL _ h2), K (c / a) * u, K (c / b) * v, QP.eq fun x => ?_⟩
  have := qat h3 x
  simp only [v_add, v_mul, v_K] at this ⊢
  rw [this]; grind
theorem GcdQ.zero (F : QP) : GcdQ F 0 F := ⟨qdvd_refl _, qdvd_zero _, InI.left _ _⟩
/-- All common divisors. -/
def Com (F G a b : QP) : Prop := ∀ h : QP, h ∣ a → h ∣ b → h ∣ F ∧ h ∣ G
/-- Where the sequence stands. -/
structure RemI (a0 b0 a b : List Int) (l s D : Int) : Prop where
  sub : SubI a0 b0 ((trimZ a0).length - 1) ((trimZ b0).length - 1) a b ((trimZ a).length - 1) ((trimZ b).length - 1) l s
  hD : D.natAbs = l.natAbs * s.natAbs ^ ((trimZ a).length - (trimZ b).length)
  pa : 1 ≤ (trimZ a).length
  pb : 1 ≤ (trimZ b).length
  ia : InI (P a0) (P b0) (P a)
  ib : InI (P a0) (P b0) (P b)
  cm : Com (P a0) (P b0) (P a) (P b)
theorem pow_abs (x : Int) (n : Nat) : (x ^ n).natAbs = x.natAbs ^ n := Int.natAbs_pow x n
theorem RemI.start {a b : List Int} {D : Int} (h1 : (trimZ b).length ≤ (trimZ a).length) (h2 : 1 ≤ (trimZ b).length) (hD : D = (-1) ^ ((trimZ a).length - (trimZ b).length + 1)) : RemI a b a b 1 (-1) D := by
  have ⟨x1, x2⟩ := tlen_spec a
  have ⟨y1, y2⟩ := tlen_spec b
  refine ⟨SubI.start (by omega) (y2.resolve_left (by omega)) (fun x hx => y1 x (by omega)) (fun x hx => x1 x (by omega)) rfl rfl, ?_, by omega, h2, InI.left _ _, InI.right _ _, fun h ha hb => ⟨ha, hb⟩⟩
  rw [hD, pow_abs, show (-1 : Int).natAbs = 1 from rfl, show (1 : Int).natAbs = 1 from rfl]; simp
section
variable {a0 b0 a b q R r : List Int} {l s D : Int}
theorem RemI.D0 (h : RemI a0 b0 a b l s D) : D ≠ 0 := by
  have h1 := h.sub.l0
  have h2 := h.sub.s0
  have h3 := h.hD
  have : 0 < l.natAbs * s.natAbs ^ ((trimZ a).length - (trimZ b).length) := Nat.mul_pos (by omega) (Nat.pow_pos (by omega))
  omega
theorem RemI.ldb (h : RemI a0 b0 a b l s D) : ldP b = co b ((trimZ b).length - 1) ∧ ldP b ≠ 0 := by
  obtain ⟨d, hd⟩ : ∃ d, (trimZ b).length = d + 1 := ⟨(trimZ b).length - 1, by have := h.pb; omega⟩
  have ⟨h1, _, h3⟩ := ld_deg hd
  exact ⟨by rw [hd, Nat.add_sub_cancel, h1], h3⟩
/-- What a pseudo-division says of the coefficients. -/
structure Psd (a b q R : List Int) : Prop where
  id : ∀ x : Rat, evQ a x * ((ldP b : Int) : Rat) ^ ((trimZ a).length - ((trimZ b).length - 1)) = evQ q x * evQ b x + evQ R x
  lt : R.length + 1 ≤ (trimZ b).length
  tr : trimZ R = R
theorem Psd.poly (h : Psd a b q R) : K (((ldP b : Int) : Rat) ^ ((trimZ a).length - ((trimZ b).length - 1))) * P a = P q * P b + P R := QP.eq fun x => by
  have := h.id x
  simp only [v_mul, v_K, v_add, v_P]; grind
theorem RemI.coid (h : RemI a0 b0 a b l s D) (p : Psd a b q R) : (∀ x, co b ((trimZ b).length - 1) ^ ((trimZ a).length - 1 - ((trimZ b).length - 1) + 1) * co a x = co (pmul q b) x + co R x) ∧ (∀ u, (trimZ a).length - 1 - ((trimZ b).length - 1) < u → co q u = 0) ∧ ∀ x, (trimZ b).length - 1 ≤ x → co R x = 0 := by
  have h1 := h.pa
  have h2 := h.pb
  have h3 := h.sub.le
  have ⟨e1, e2⟩ := h.ldb
  have hp := p.poly
  have hlt := p.lt
  refine ⟨fun x => ?_, fun u hu => ?_, fun x hx => co_ge (by omega)⟩
  · have : P (scaleP a (ldP b ^ ((trimZ a).length - ((trimZ b).length - 1)))) = P (padd (pmul q b) R) := by rw [P_scale, cast_pow, P_add, P_mul]; exact hp
    have := P_co this x
    rw [co_scaleP, co_padd] at this
    rw [← e1, show (trimZ a).length - 1 - ((trimZ b).length - 1) + 1 = (trimZ a).length - ((trimZ b).length - 1) by omega, Int.mul_comm]
    exact this
  · by_cases hq : P q = 0
    · rw [P_co (hq.trans P_nil.symm) u]; simp [co]
    · have hb : P b ≠ 0 := dg_pos.2 (by rw [dg_P]; omega)
      have d1 := dg_mul hq hb
      have d2 : P q * P b = K (((ldP b : Int) : Rat) ^ ((trimZ a).length - ((trimZ b).length - 1))) * P a - P R := by rw [hp]; exact QP.eq fun x => by simp only [v_add, v_sub]; grind
      have d3 := dg_sub (K (((ldP b : Int) : Rat) ^ ((trimZ a).length - ((trimZ b).length - 1))) * P a) (P R)
      rw [← d2, dg_Kmul (pow_ne (cast_ne e2) _), dg_P, dg_P R, p.tr] at d3
      rw [dg_P, dg_P] at d1
      exact (tlen_spec q).1 u (by omega)
theorem RemI.exact (h : RemI a0 b0 a b l s D) (p : Psd a b q R) (j : Nat) : D ∣ co R j := by
  have ⟨h1, h2, h3⟩ := h.coid p
  have h4 := h.sub.le
  have h5 := h.pb
  refine h.sub.exact h3 h2 h1 (h.hD.trans ?_) j
  rw [show (trimZ a).length - 1 - ((trimZ b).length - 1) = (trimZ a).length - (trimZ b).length by omega]
/-- The quotient of the rest. -/
theorem RemI.quo (h : RemI a0 b0 a b l s D) (p : Psd a b q R) (hr : r = (trimZ R).map (fun x => x.tdiv D)) : (∀ x, co R x = D * co r x) ∧ (trimZ r).length = R.length ∧ r.length = R.length ∧ P R = K D * P r := by
  have h1 : ∀ x, co R x = D * co r x := fun x => by rw [hr, co_tdiv, co_trim]; exact (Int.mul_tdiv_cancel' (h.exact p x)).symm
  have h2 : P R = K D * P r := by rw [← P_scale]; exact P_congr fun i => by rw [co_scaleP, h1 i, Int.mul_comm]
  have h3 : dg (P R) = dg (P r) := by rw [h2, dg_Kmul (cast_ne h.D0)]
  rw [dg_P, dg_P, p.tr] at h3
  exact ⟨h1, h3.symm, by rw [hr, p.tr]; simp, h2⟩
theorem RemI.done (h : RemI a0 b0 a b l s D) (p : Psd a b q R) (h0 : R.length = 0) : GcdQ (P a0) (P b0) (P b) := by
  have hR : R = [] := List.eq_nil_of_length_eq_zero h0
  have hp := p.poly
  have ⟨_, e2⟩ := h.ldb
  have hd : P b ∣ P a := by
    refine (dvd_K (pow_ne (cast_ne e2) ((trimZ a).length - ((trimZ b).length - 1)))).1 ⟨P q, ?_⟩
    rw [hp, hR, P_nil]; exact QP.eq fun x => by simp only [v_add, v_0]; grind
  have := h.cm _ hd (qdvd_refl _)
  exact ⟨this.1, this.2, h.ib⟩
theorem const_dvd {f : QP} {l : List Int} (h : (trimZ l).length = 1) : P l ∣ f := by
  have hl : P l ≠ 0 := dg_pos.2 (by rw [dg_P]; omega)
  obtain ⟨c, hc⟩ := dg_one (f := P l) (by rw [dg_P]; omega)
  have hc0 : c ≠ 0 := fun e => hl (by rw [hc, e]; rfl)
  exact ⟨K (1 / c) * f, QP.eq fun x => by rw [hc]; simp only [v_mul, v_K]; grind⟩
theorem gcd_const {F G : QP} {l : List Int} (h : (trimZ l).length = 1) (hi : InI F G (P l)) : GcdQ F G (P l) := ⟨const_dvd h, const_dvd h, hi⟩
theorem RemI.inr (h : RemI a0 b0 a b l s D) (p : Psd a b q R) (hr : r = (trimZ R).map (fun x => x.tdiv D)) : InI (P a0) (P b0) (P r) := by
  have ⟨_, _, _, e⟩ := h.quo p hr
  have hp := p.poly
  have := h.ia.lin h.ib (K (((ldP b : Int) : Rat) ^ ((trimZ a).length - ((trimZ b).length - 1)) / (D : Rat))) (K (-1 / (D : Rat)) * P q)
  have e2 : K (((ldP b : Int) : Rat) ^ ((trimZ a).length - ((trimZ b).length - 1)) / (D : Rat)) * P a + K (-1 / (D : Rat)) * P q * P b = P r := QP.eq fun x => by
    have h1 := qat hp x
    have h2 := qat e x
    have h3 := cast_ne h.D0
    simp only [v_add, v_mul, v_K] at h1 h2 ⊢
    grind
  rwa [e2] at this
theorem RemI.next {s' D' : Int} (h : RemI a0 b0 a b l s D) (p : Psd a b q R) (hr : r = (trimZ R).map (fun x => x.tdiv D)) (hR : R.length ≠ 0)
    (hs : ((trimZ a).length = (trimZ b).length ∧ s' = s) ∨ ((trimZ b).length < (trimZ a).length ∧ s' = ((-ldP b) ^ ((trimZ a).length - (trimZ b).length)).tdiv (s ^ ((trimZ a).length - (trimZ b).length - 1))))
    (hD' : D' = -ldP b * s' ^ ((trimZ b).length - (trimZ r).length)) : RemI a0 b0 b r (-ldP b) s' D' := by
  have ⟨h1, h2, h3⟩ := h.coid p
  have ⟨q1, q2, q3, q4⟩ := h.quo p hr
  have ⟨e1, e2⟩ := h.ldb
  have hle := h.sub.le
  have hpa := h.pa
  have hpb := h.pb
  have hlt := p.lt
  have ⟨z1, z2⟩ := tlen_spec r
  have hreg : ((trimZ b).length < (trimZ a).length) → s'.natAbs * s.natAbs ^ ((trimZ a).length - 1 - ((trimZ b).length - 1) - 1) = (co b ((trimZ b).length - 1)).natAbs ^ ((trimZ a).length - 1 - ((trimZ b).length - 1)) := fun hlt' => by
    have hd := h.sub.reg (by omega)
    rcases hs with ⟨hs, _⟩ | ⟨_, hs⟩
    · omega
    · rw [hs, Int.natAbs_tdiv, pow_abs, pow_abs, Int.natAbs_neg, e1, show (trimZ a).length - 1 - ((trimZ b).length - 1) = (trimZ a).length - (trimZ b).length by omega] at *
      exact Nat.div_mul_cancel hd
  refine ⟨h.sub.next (D := D) (nr := (trimZ r).length - 1) h2 (fun x => by rw [← q1 x]; exact h1 x) ?_ (z2.resolve_left (by omega)) (fun x hx => z1 x (by omega)) (by omega) (by rw [Int.natAbs_neg, e1]) ?_, ?_, hpb, by omega, h.ib, h.inr p hr, fun x hx1 hx2 => ?_⟩
  · rw [h.hD, show (trimZ a).length - 1 - ((trimZ b).length - 1) = (trimZ a).length - (trimZ b).length by omega]
  · rcases hs with ⟨hs, e⟩ | ⟨hs, e⟩
    · exact .inl ⟨by omega, e⟩
    · exact .inr ⟨by omega, hreg hs⟩
  · rw [hD', Int.natAbs_mul, pow_abs]
  · have hxa : x ∣ P a := by
      refine (dvd_K (pow_ne (cast_ne e2) ((trimZ a).length - ((trimZ b).length - 1)))).1 ?_
      rw [p.poly, q4]
      exact qdvd_add (qdvd_mulL _ hx1) (qdvd_mulL _ hx2)
    exact h.cm x hxa hx1
/-- Sizes. -/
theorem RemI.size (h : RemI a0 b0 a b l s D) (p : Psd a b q R) (hr : r = (trimZ R).map (fun x => x.tdiv D)) {H N : Nat} (ha : ∀ i, (co a0 i).natAbs ≤ H) (hb : ∀ i, (co b0 i).natAbs ≤ H) (hH : 1 ≤ H) (hN : (trimZ a0).length + (trimZ b0).length ≤ N) (h0 : (trimZ b).length ≤ (trimZ b0).length) (h00 : (trimZ b0).length ≤ (trimZ a0).length) (j : Nat) : (co r j).natAbs ≤ (N * H) ^ N := by
  have ⟨h1, h2, h3⟩ := h.coid p
  have ⟨q1, _, _, _⟩ := h.quo p hr
  have hle := h.sub.le
  have hpb := h.pb
  rcases Nat.lt_or_ge j ((trimZ b).length - 1) with hj | hj
  · have e1 := sub_prem (n := (trimZ a).length - 1) (m := (trimZ b).length - 1) (d := (trimZ a).length - 1 - ((trimZ b).length - 1)) (j := j) rfl h.sub.top h.sub.hb h3 h2 h1 (by omega) (by omega)
    have e2 := h.sub.sr ((trimZ b).length - 1 - 1) j (by omega) (by omega)
    rw [e1, show (trimZ b).length - 1 - ((trimZ b).length - 1 - 1) = 1 by omega, show (trimZ a).length - 1 - ((trimZ b).length - 1 - 1) - 1 = (trimZ a).length - (trimZ b).length by omega, Nat.pow_one, ← h.hD, q1, Int.natAbs_mul] at e2
    have e3 := Nat.eq_of_mul_eq_mul_left (by have := h.D0; omega) e2
    rw [e3]
    exact Sr_bd ha hb hH (by omega) (by omega) (by omega)
  · have : D * co r j = 0 := by rw [← q1]; exact h3 j hj
    rcases Int.mul_eq_zero.1 this with e | e
    · exact absurd e h.D0
    · rw [e]; simp
theorem RemI.sizeS {s' : Int} (h : RemI a0 b0 a b l s D) (hlt : (trimZ b).length < (trimZ a).length) (hs : s' = ((-ldP b) ^ ((trimZ a).length - (trimZ b).length)).tdiv (s ^ ((trimZ a).length - (trimZ b).length - 1))) {H N : Nat} (ha : ∀ i, (co a0 i).natAbs ≤ H) (hb : ∀ i, (co b0 i).natAbs ≤ H) (hH : 1 ≤ H) (hN : (trimZ a0).length + (trimZ b0).length ≤ N) (h0 : (trimZ b).length ≤ (trimZ b0).length) (h00 : (trimZ b).length < (trimZ a0).length) (h01 : 1 ≤ (trimZ b0).length) : s'.natAbs ≤ (N * H) ^ N := by
  have hpb := h.pb
  have ⟨e1, _⟩ := h.ldb
  have hd := h.sub.reg (by omega)
  have e2 := h.sub.sr ((trimZ b).length - 1) ((trimZ b).length - 1) (Nat.le_refl _) (by omega)
  rw [sub_reg rfl h.sub.hb (by omega), pow_abs, Nat.sub_self, Nat.pow_zero, Nat.one_mul] at e2
  have hp : 0 < s.natAbs ^ ((trimZ a).length - (trimZ b).length - 1) := Nat.pow_pos (by have := h.sub.s0; omega)
  have e3 : s'.natAbs = (Sr ((trimZ b).length - 1) a0 b0 ((trimZ a0).length - 1) ((trimZ b0).length - 1) ((trimZ b).length - 1)).natAbs := by
    rw [hs, Int.natAbs_tdiv, pow_abs, pow_abs, Int.natAbs_neg, e1]
    rw [show (trimZ a).length - 1 - ((trimZ b).length - 1) = (trimZ a).length - (trimZ b).length by omega] at e2
    rw [e2]
    exact Nat.mul_div_cancel_left _ hp
  rw [e3]
  exact Sr_bd ha hb hH (by omega) (by omega) (by omega)
end
end Go.Gx

/-
  Sizes of numbers in memory out of their values; greatest common divisors as the program returns them. No program in sight.
-/
namespace Go.Gx
theorem BS_pos : 1 < BS := by decide
theorem PolyR.coef {w : World} {S : Nat → Prop} {A : Option Addr} {n c M : Nat} {l : List RI} (h : PolyR w S A n c l M) {K : Nat} (hM : M ≤ K) (i : Nat) : (co (zs l) i).natAbs ≤ BS ^ K := by
  rcases Nat.lt_or_ge i l.length with hi | hi
  · have e1 : co (zs l) i = (l[i]).z := by simp [co, List.getD, List.getElem?_eq_getElem hi]
    have hN := h.2 l[i] (List.getElem_mem hi)
    have h3 : (l[i]).d.length = (l[i]).n := by have := hN.1.1.1; simpa using this
    have e2 : (l[i]).z.natAbs = val (l[i]).d := by unfold RI.z zval; split <;> omega
    rw [e1, e2]
    exact Nat.le_trans (Nat.le_of_lt (val_lt _ hN.1.2)) (Nat.pow_le_pow_right (by decide) (by have := hN.2; omega))
  · have e1 : co (zs l) i = 0 := co_ge (by simpa using hi)
    rw [e1]; simp
theorem PolyR.tightC {w : World} {S : Nat → Prop} {A : Option Addr} {n c M : Nat} {l : List RI} {K : Nat} (h : PolyR w S A n c l M) (hc : AllC l) (hn : ∀ i, (co (zs l) i).natAbs < BS ^ K) : PolyR w S A n c l K := by
  refine ⟨h.1, fun r hr => ⟨(h.2 r hr).1, ?_⟩⟩
  have hN := (h.2 r hr).1
  obtain ⟨i, hi, e⟩ := List.getElem_of_mem hr
  have h1 := hn i
  have e1 : co (zs l) i = r.z := by simp [co, List.getD, List.getElem?_eq_getElem hi, e]
  rw [e1] at h1
  have e2 : r.z.natAbs = val r.d := by unfold RI.z zval; split <;> omega
  have h2 := lt_val_len (hc r hr).1 (k := K) (by omega)
  have h3 : r.d.length = r.n := by have := hN.1.1; simpa using this
  omega
theorem int_tight {g : Bool} {d : List Nat} {n K : Nat} (hc : ICan g d) (hl : d.length = n) (hv : (zval g d).natAbs < BS ^ K) : n ≤ K := by
  have e2 : (zval g d).natAbs = val d := by unfold zval; split <;> omega
  have := lt_val_len hc.1 (k := K) (by omega)
  omega
theorem sr_big {K Z : Nat} (h : (K + 1) * 22 < Z) : (22 * BS ^ K) ^ 22 < BS ^ Z := by
  have h1 : 22 * BS ^ K ≤ BS ^ (K + 1) := by rw [Nat.pow_succ, Nat.mul_comm]; exact Nat.mul_le_mul_left _ (by decide)
  refine Nat.lt_of_le_of_lt (Nat.pow_le_pow_left h1 22) ?_
  rw [← Nat.pow_mul]
  exact Nat.pow_lt_pow_right BS_pos h
theorem sr_big1 (K : Nat) : 1 ≤ BS ^ K := Nat.pow_pos (by decide)
def capK : Nat := 2401
def capZ : Nat := 60000
theorem cap_le : capZ ≤ 60000 := Nat.le_refl _
theorem cap_of {M : Nat} (h : M ≤ 2401) : M ≤ capK := h
theorem RemI.sizeZ {a0 b0 a b q R r : List Int} {l s D : Int} (h : RemI a0 b0 a b l s D) (p : Psd a b q R) (hr : r = (trimZ R).map (fun x => x.tdiv D)) (ha : ∀ i, (co a0 i).natAbs ≤ BS ^ capK) (hb : ∀ i, (co b0 i).natAbs ≤ BS ^ capK) (hN : (trimZ a0).length + (trimZ b0).length ≤ 22) (h0 : (trimZ b).length ≤ (trimZ b0).length) (h00 : (trimZ b0).length ≤ (trimZ a0).length) (j : Nat) : (co r j).natAbs < BS ^ capZ :=
  Nat.lt_of_le_of_lt (h.size p hr ha hb (sr_big1 capK) hN h0 h00 j) (sr_big (by decide))
theorem RemI.sizeSZ {a0 b0 a b : List Int} {l s D s' : Int} (h : RemI a0 b0 a b l s D) (hlt : (trimZ b).length < (trimZ a).length) (hs : s' = ((-ldP b) ^ ((trimZ a).length - (trimZ b).length)).tdiv (s ^ ((trimZ a).length - (trimZ b).length - 1))) (ha : ∀ i, (co a0 i).natAbs ≤ BS ^ capK) (hb : ∀ i, (co b0 i).natAbs ≤ BS ^ capK) (hN : (trimZ a0).length + (trimZ b0).length ≤ 22) (h0 : (trimZ b).length ≤ (trimZ b0).length) (h00 : (trimZ b).length < (trimZ a0).length) (h01 : 1 ≤ (trimZ b0).length) : s'.natAbs < BS ^ capZ :=
  Nat.lt_of_le_of_lt (h.sizeS hlt hs ha hb (sr_big1 capK) hN h0 h00 h01) (sr_big (by decide))
theorem trim_len2 {A F : List Int} (e : A = trimZ F) : (trimZ A).length = A.length ∧ (trimZ A).length = (trimZ F).length ∧ P A = P F := by
  have h : trimZ A = A := by rw [e]; exact canon_trim isZI F
  exact ⟨by rw [h], by rw [h, e], by rw [e, P_trim]⟩
theorem gcd_trim {A B F G g : List Int} (ha : P A = P F) (hb : P B = P G) (h : GcdQ (P A) (P B) (P g)) : GcdQ (P F) (P G) (P g) := by rw [← ha, ← hb]; exact h
theorem P_of_len {F : List Int} (h : 1 ≤ (trimZ F).length) : P F ≠ 0 := dg_pos.2 (by rw [dg_P]; exact h)
/-- The greatest common divisor over the integers. -/
structure IsGcd (F G R : List Int) : Prop where
  q : GcdQ (P F) (P G) (P R)
  c : contP R = Nat.gcd (contP F) (contP G)
  s : 0 ≤ ldP R
  t : trimZ R = R
def posP (F : List Int) : List Int := if ldP F < 0 then scaleP F (-1) else F
theorem contP_congr {F G : List Int} (h : ∀ i, co F i = co G i) : contP F = contP G :=
  Nat.dvd_antisymm (cont_dvd fun i => by rw [← h]; exact dvd_cont F i) (cont_dvd fun i => by rw [h]; exact dvd_cont G i)
theorem contP_trim (F : List Int) : contP (trimZ F) = contP F := contP_congr fun i => co_trim F i
theorem contP_scale (F : List Int) (c : Int) : contP (scaleP F c) = c.natAbs * contP F := by
  refine Nat.dvd_antisymm ?_ (cont_dvd fun i => ?_)
  · by_cases hc : c = 0
    · subst hc; simp
    · have h1 : c.natAbs ∣ contP (scaleP F c) := cont_dvd fun i => by rw [co_scaleP]; exact Int.dvd_trans (Int.natAbs_dvd.2 (Int.dvd_refl c)) (Int.dvd_mul_left _ _)
      obtain ⟨k, hk⟩ := h1
      rw [hk]
      refine Nat.mul_dvd_mul_left _ (cont_dvd fun i => ?_)
      have h2 := dvd_cont (scaleP F c) i
      rw [hk, co_scaleP, Int.ofNat_dvd_left, Int.natAbs_mul, Nat.mul_comm (co F i).natAbs] at h2
      rw [Int.ofNat_dvd_left]
      exact Nat.dvd_of_mul_dvd_mul_left (by omega) h2
  · rw [co_scaleP, Int.ofNat_dvd_left, Int.natAbs_mul, Nat.mul_comm]
    exact Nat.mul_dvd_mul (Int.ofNat_dvd_left.1 (dvd_cont F i)) (Nat.dvd_refl _)
theorem ld_scale (F : List Int) (c : Int) : ldP (scaleP F c) = c * ldP F := by
  by_cases h : ldP F = 0
  · rw [h, Int.mul_zero]
    have h1 := (ld_zero_iff F).1 h
    refine (ld_zero_iff _).2 ?_
    rw [P_scale, h1]; exact QP.eq fun x => by simp only [v_mul, v_0]; grind
  · by_cases hc : c = 0
    · subst hc
      rw [Int.zero_mul]
      refine (ld_zero_iff _).2 ?_
      rw [P_scale]; exact QP.eq fun x => by simp only [v_mul, v_K, v_0]; rw [zero_cast]; grind
    · obtain ⟨d, hd⟩ := ld_len h
      have ⟨h1, _, _⟩ := ld_deg hd
      have ⟨h2, _, _⟩ := ld_deg (G := scaleP F c) (d := d) (by rw [tlen_scale F hc, hd])
      rw [← h1, ← h2, co_scaleP, Int.mul_comm]
theorem ld_trim (F : List Int) : ldP (trimZ F) = ldP F := by unfold ldP; rw [show trimZ (trimZ F) = trimZ F from canon_trim isZI F]
theorem trim_trim (F : List Int) : trimZ (trimZ F) = trimZ F := canon_trim isZI F
theorem P_pos (F : List Int) : ∃ c : Rat, c ≠ 0 ∧ P (posP F) = K c * P F := by
  unfold posP
  split
  · exact ⟨((-1 : Int) : Rat), by decide, P_scale F (-1)⟩
  · exact ⟨1, by decide, QP.eq fun x => by simp only [v_mul, v_K]; grind⟩
theorem isGcd_pos {F G R : List Int} (hG : (trimZ G).length = 0) (e : R = trimZ (posP F)) : IsGcd F G R := by
  have hg : P G = 0 := dg_zero.1 (by rw [dg_P]; exact hG)
  have hc : contP G = 0 := by rw [← contP_trim, List.eq_nil_of_length_eq_zero hG]; rfl
  obtain ⟨c, hc0, hp⟩ := P_pos F
  refine ⟨?_, ?_, ?_, by rw [e, trim_trim]⟩
  · rw [e, P_trim, hp, hg]
    refine ⟨(K_dvd hc0).2 (qdvd_refl _), qdvd_zero _, K c, 0, QP.eq fun x => by simp only [v_add, v_mul, v_0]; grind⟩
  · rw [e, contP_trim, hc, Nat.gcd_zero_right]
    unfold posP; split
    · rw [contP_scale]; simp
    · rfl
  · rw [e, ld_trim]
    unfold posP; split
    · rw [ld_scale]; omega
    · omega
theorem IsGcd.symm {F G R : List Int} (h : IsGcd F G R) : IsGcd G F R := ⟨h.q.symm, by rw [h.c, Nat.gcd_comm], h.s, h.t⟩
theorem isGcd_main {F G A B L R : List Int} {c : Int} (hF : ldP F ≠ 0) (hG : ldP G ≠ 0) (hA : A = primP F) (hB : B = primP G) (hL : GcdQ (P A) (P B) (P L)) (h0 : P L ≠ 0) (hc : c = (Nat.gcd (contP F) (contP G) : Int)) (e : R = trimZ (scaleP (primP L) c)) : IsGcd F G R := by
  have hc0 : 0 < c := by rw [hc]; have := Nat.gcd_pos_of_pos_left (contP G) (cont_pos hF); omega
  have hl := (ld_ne_iff L).2 h0
  have hp := ld_prim hl
  refine ⟨?_, ?_, ?_, by rw [e, trim_trim]⟩
  · rw [e, P_trim, P_scale, P_primP hl]
    have h1 := hL.scale (cast_ne (primC_ne hF)) (cast_ne (primC_ne hG)) (c := (c : Rat) * (1 / (primC L : Rat))) (by have := cast_ne (primC_ne hl); have := cast_ne (show c ≠ 0 by omega); grind)
    rw [hA, hB, ← P_prim, ← P_prim] at h1
    have e2 : K ((c : Rat) * (1 / (primC L : Rat))) * P L = K (c : Rat) * (K (1 / (primC L : Rat)) * P L) := QP.eq fun x => by simp only [v_mul, v_K]; grind
    rwa [e2] at h1
  · rw [e, contP_trim, contP_scale, cont_prim hl, hc]; simp
  · rw [e, ld_trim, ld_scale]
    exact Int.le_of_lt (Int.mul_pos hc0 hp)
end Go.Gx
namespace Go.Gx
/-- No common factor of positive degree. -/
def CopQ (f g : QP) : Prop := InI f g 1
theorem K_mul_inv {c : Rat} (h : c ≠ 0) : K (1 / c) * K c = 1 := QP.eq fun x => by simp only [v_mul, v_K, v_1]; grind
theorem cop_gcd {F G R : List Int} {x : Int} (h : IsGcd F G R) (hx : x = ((trimZ R).length : Int) - 1) : x = 0 ↔ CopQ (P F) (P G) := by
  constructor
  · intro h0
    obtain ⟨c, hc⟩ := dg_one (f := P R) (by rw [dg_P]; omega)
    have hc0 : c ≠ 0 := fun e => by
      have : P R = 0 := by rw [hc, e]; rfl
      have := P_len this
      omega
    obtain ⟨_, _, u, v, e⟩ := h.q
    refine ⟨K (1 / c) * u, K (1 / c) * v, QP.eq fun y => ?_⟩
    have := qat e y
    rw [hc] at this
    simp only [v_add, v_mul, v_K, v_1] at this ⊢
    grind
  · intro h1
    have hd : P R ∣ (1 : QP) := by
      obtain ⟨u, v, e⟩ := h1
      rw [e]
      exact qdvd_add (qdvd_mulL _ h.q.1) (qdvd_mulL _ h.q.2.1)
    have h10 : (1 : QP) ≠ 0 := K_ne (by decide)
    have := dvd_le hd h10
    rw [show (1 : QP) = K 1 from rfl, dg_K (by decide), dg_P] at this
    have h2 : P R ≠ 0 := fun e => by
      rw [e] at hd
      exact h10 (zero_qdvd hd)
    have := dg_pos.1 h2
    rw [dg_P] at this
    omega
end Go.Gx

/-
  Irreducible polynomials over the rationals, their multiplicities, derivatives. Plain numbers; no program in sight.
-/
namespace Go.Gx
theorem qp_bezout_ : ∀ (n : Nat) (f g : QP), dg g ≤ n → ∃ d, GcdQ f g d
  | 0, f, g, h => by
    obtain rfl : g = 0 := dg_zero.1 (by omega)
    exact ⟨f, GcdQ.zero f⟩
  | n + 1, f, g, h => by
    by_cases hg : g = 0
    · subst hg; exact ⟨f, GcdQ.zero f⟩
    · obtain ⟨q, r, e, hr⟩ := qp_divmod hg f
      obtain ⟨d, h1, h2, u, v, h3⟩ := qp_bezout_ n g r (by omega)
      refine ⟨d, ?_, h1, v, u - v * q, ?_⟩
      · rw [e]; exact qdvd_add (qdvd_mulL _ h1) h2
      · rw [h3, e]; exact QP.eq fun x => by simp only [v_add, v_mul, v_sub]; grind
theorem qp_bezout (f g : QP) : ∃ d, GcdQ f g d := qp_bezout_ _ f g (Nat.le_refl _)
/-- An irreducible polynomial. -/
def Irr (π : QP) : Prop := 2 ≤ dg π ∧ ∀ a b : QP, π = a * b → dg a = 1 ∨ dg b = 1
theorem Irr.ne {π : QP} (h : Irr π) : π ≠ 0 := dg_pos.2 (by have := h.1; omega)
theorem qmul_zero (f : QP) : f * 0 = 0 := QP.eq fun x => by simp only [v_mul, v_0]; grind
theorem zero_qmul (f : QP) : 0 * f = 0 := QP.eq fun x => by simp only [v_mul, v_0]; grind
theorem qmul_one (f : QP) : f * 1 = f := QP.eq fun x => by simp only [v_mul, v_1]; grind
theorem one_qmul (f : QP) : 1 * f = f := QP.eq fun x => by simp only [v_mul, v_1]; grind
theorem dg_1 : dg (1 : QP) = 1 := dg_K (by decide)
theorem one_ne : (1 : QP) ≠ 0 := K_ne (by decide)
theorem irr_ex : ∀ (n : Nat) (f : QP), dg f ≤ n → 2 ≤ dg f → ∃ π, Irr π ∧ π ∣ f
  | 0, f, h, h2 => by omega
  | n + 1, f, h, h2 => by
    by_cases hi : Irr f
    · exact ⟨f, hi, qdvd_refl f⟩
    · have : ∃ a b : QP, f = a * b ∧ dg a ≠ 1 ∧ dg b ≠ 1 := by
        apply Classical.byContradiction
        intro hn
        refine hi ⟨h2, fun a b e => ?_⟩
        apply Classical.byContradiction
        intro hc
        exact hn ⟨a, b, e, fun h => hc (.inl h), fun h => hc (.inr h)⟩
      obtain ⟨a, b, rfl, ha, hb⟩ := this
      have hab : a * b ≠ 0 := dg_pos.2 (by omega)
      have ha0 : a ≠ 0 := fun e => hab (by rw [e, zero_qmul])
      have hb0 : b ≠ 0 := fun e => hab (by rw [e, qmul_zero])
      have h3 := dg_mul ha0 hb0
      have h4 := dg_pos.1 ha0
      have h5 := dg_pos.1 hb0
      obtain ⟨π, hπ, hd⟩ := irr_ex n a (by omega) (by omega)
      exact ⟨π, hπ, qdvd_mulR _ hd⟩
theorem irr_factor {f : QP} (h : 2 ≤ dg f) : ∃ π, Irr π ∧ π ∣ f := irr_ex _ f (Nat.le_refl _) h
theorem dg_one_ne {a : QP} (h : dg a = 1) : ∃ r : Rat, r ≠ 0 ∧ a = K r := by
  obtain ⟨r, e⟩ := dg_one (f := a) (by omega)
  exact ⟨r, fun e' => by rw [e, e', show K 0 = 0 from rfl, dg_zero.2 rfl] at h; omega, e⟩
theorem irr_prime {π a b : QP} (h : Irr π) (hd : π ∣ a * b) : π ∣ a ∨ π ∣ b := by
  obtain ⟨d, ⟨q, e⟩, hda, u, v, e3⟩ := qp_bezout π a
  rcases h.2 q d e with h1 | h1
  · left
    obtain ⟨r, hr, rfl⟩ := dg_one_ne h1
    rw [e]
    exact (K_dvd hr).2 hda
  · right
    obtain ⟨r, hr, rfl⟩ := dg_one_ne h1
    have : b = K (1 / r) * (u * b * π + v * (a * b)) := QP.eq fun x => by
      have := qat e3 x
      simp only [v_add, v_mul, v_K] at this ⊢
      grind
    rw [this]
    exact qdvd_mulL _ (qdvd_add (qdvd_mulL _ (qdvd_refl π)) (qdvd_mulL _ hd))
theorem irr_not_one {π : QP} (h : Irr π) : ¬ π ∣ 1 := fun hd => by
  have := dvd_le hd one_ne
  rw [dg_1] at this
  have := h.1
  omega
theorem mul_ex {π : QP} (hπ : 2 ≤ dg π) : ∀ (n : Nat) (f : QP), dg f ≤ n → f ≠ 0 → ∃ k, Mul_ f π k
  | 0, f, h, h0 => by have := dg_pos.1 h0; omega
  | n + 1, f, h, h0 => by
    by_cases hd : π ∣ f
    · obtain ⟨q, rfl⟩ := hd
      have hq : q ≠ 0 := fun e => h0 (by rw [e, zero_qmul])
      have := dg_mul hq (dg_pos.2 (by omega) : π ≠ 0)
      obtain ⟨k, r, e, hr⟩ := mul_ex hπ n q (by omega) hq
      exact ⟨k + 1, r, by rw [qp_pow_succ, ← qmul_assoc, ← e], hr⟩
    · exact ⟨0, f, by rw [qp_pow_zero, qmul_one], hd⟩
/-- The multiplicity. -/
noncomputable def va (π f : QP) : Nat := @dite _ (∃ k, Mul_ f π k) (Classical.propDecidable _) (fun h => Classical.choose h) (fun _ => 0)
theorem va_spec {π f : QP} (hπ : Irr π) (hf : f ≠ 0) : Mul_ f π (va π f) := by
  have h := mul_ex hπ.1 _ f (Nat.le_refl _) hf
  unfold va
  rw [dif_pos h]
  exact Classical.choose_spec h
theorem va_of {π f : QP} {k : Nat} (hπ : Irr π) (hf : f ≠ 0) (h : Mul_ f π k) : va π f = k := mul_unique hπ.ne (va_spec hπ hf) h
theorem va_dvd {π f : QP} (hπ : Irr π) (hf : f ≠ 0) (m : Nat) : π ^ m ∣ f ↔ m ≤ va π f := mul_le hπ.ne (va_spec hπ hf)
theorem qp_pow_one (f : QP) : f ^ 1 = f := by rw [qp_pow_succ, qp_pow_zero, one_qmul]
theorem va_pos {π f : QP} (hπ : Irr π) (hf : f ≠ 0) : π ∣ f ↔ 1 ≤ va π f := by rw [← va_dvd hπ hf, qp_pow_one]
theorem va_mul {π f g : QP} (hπ : Irr π) (hf : f ≠ 0) (hg : g ≠ 0) : va π (f * g) = va π f + va π g := by
  obtain ⟨r, e, hr⟩ := va_spec hπ hf
  obtain ⟨s, e', hs⟩ := va_spec hπ hg
  refine va_of hπ (qp_mul_ne hf hg) ⟨r * s, ?_, fun hd => (irr_prime hπ hd).elim hr hs⟩
  rw [qp_pow_add]
  refine QP.eq fun x => ?_
  have h1 := qat e x
  have h2 := qat e' x
  simp only [v_mul] at h1 h2 ⊢
  grind
theorem va_K {π : QP} {r : Rat} (hπ : Irr π) (hr : r ≠ 0) : va π (K r) = 0 := va_of hπ (K_ne hr) ⟨K r, by rw [qp_pow_zero, qmul_one], fun hd => by
  have := dvd_le hd (K_ne hr)
  rw [dg_K hr] at this
  have := hπ.1
  omega⟩
theorem va_pow {π f : QP} (hπ : Irr π) (hf : f ≠ 0) : ∀ n, va π (f ^ n) = n * va π f
  | 0 => by rw [qp_pow_zero, Nat.zero_mul]; exact va_K hπ (by decide)
  | n + 1 => by rw [qp_pow_succ, va_mul hπ (qp_pow_ne hf n) hf, va_pow hπ hf n, Nat.succ_mul]
theorem va_Kmul {π f : QP} {r : Rat} (hπ : Irr π) (hr : r ≠ 0) (hf : f ≠ 0) : va π (K r * f) = va π f := by rw [va_mul hπ (K_ne hr) hf, va_K hπ hr, Nat.zero_add]
theorem dvd_of_va_ : ∀ (n : Nat) (f g : QP), dg f ≤ n → f ≠ 0 → g ≠ 0 → (∀ π, Irr π → va π f ≤ va π g) → f ∣ g
  | 0, f, g, h, hf, _, _ => by have := dg_pos.1 hf; omega
  | n + 1, f, g, h, hf, hg, hv => by
    rcases Nat.lt_or_ge (dg f) 2 with h1 | h1
    · obtain ⟨r, hr, rfl⟩ := dg_one_ne (a := f) (by have := dg_pos.1 hf; omega)
      exact ⟨K (1 / r) * g, QP.eq fun x => by simp only [v_mul, v_K]; grind⟩
    · obtain ⟨π, hπ, q, rfl⟩ := irr_factor h1
      have hq : q ≠ 0 := fun e => hf (by rw [e, zero_qmul])
      have h2 : 1 ≤ va π (q * π) := (va_pos hπ hf).1 ⟨q, rfl⟩
      obtain ⟨s, rfl⟩ := (va_pos hπ hg).2 (Nat.le_trans h2 (hv π hπ))
      have hs : s ≠ 0 := fun e => hg (by rw [e, zero_qmul])
      have h3 := dg_mul hq hπ.ne
      have h4 := hπ.1
      refine qmul_mul (dvd_of_va_ n q s (by omega) hq hs fun ρ hρ => ?_) (qdvd_refl π)
      have h5 := hv ρ hρ
      rw [va_mul hρ hq hπ.ne, va_mul hρ hs hπ.ne] at h5
      omega
theorem dvd_of_va {f g : QP} (hf : f ≠ 0) (hg : g ≠ 0) (h : ∀ π, Irr π → va π f ≤ va π g) : f ∣ g := dvd_of_va_ _ f g (Nat.le_refl _) hf hg h
theorem va_le_of_dvd {π f g : QP} (hπ : Irr π) (hf : f ≠ 0) (hg : g ≠ 0) (h : f ∣ g) : va π f ≤ va π g := by
  obtain ⟨q, rfl⟩ := h
  have hq : q ≠ 0 := fun e => hg (by rw [e, zero_qmul])
  rw [va_mul hπ hq hf]; omega
theorem va_gcd {π f g d : QP} (hπ : Irr π) (hf : f ≠ 0) (hg : g ≠ 0) (hd : d ≠ 0) (h : GcdQ f g d) : va π d = min (va π f) (va π g) := by
  have h1 := va_le_of_dvd hπ hd hf h.1
  have h2 := va_le_of_dvd hπ hd hg h.2.1
  have h3 := (va_dvd hπ hd (min (va π f) (va π g))).1 (h.dvd ((va_dvd hπ hf _).2 (by omega)) ((va_dvd hπ hg _).2 (by omega)))
  omega
theorem va_dg {π f : QP} (hπ : Irr π) (hf : f ≠ 0) : va π f + 1 ≤ dg f := by
  have h1 := dvd_le ((va_dvd hπ hf _).2 (Nat.le_refl _)) hf
  have h2 := dg_pow_ge hπ.1 (va π f)
  omega
theorem cop_iff {f g : QP} : InI f g 1 ↔ ∀ π, Irr π → π ∣ f → ¬ π ∣ g := by
  constructor
  · rintro ⟨u, v, e⟩ π hπ h1 h2
    exact irr_not_one hπ (by rw [e]; exact qdvd_add (qdvd_mulL _ h1) (qdvd_mulL _ h2))
  · intro h
    obtain ⟨d, h1, h2, u, v, e⟩ := qp_bezout f g
    rcases Nat.lt_or_ge (dg d) 2 with h3 | h3
    · by_cases hd : d = 0
      · exfalso
        subst hd
        obtain ⟨π, hπ, _⟩ := irr_factor (f := P [0, 1]) (by rw [dg_P]; decide)
        have hf := zero_qdvd h1
        have hg := zero_qdvd h2
        exact h π hπ (by rw [hf]; exact qdvd_zero _) (by rw [hg]; exact qdvd_zero _)
      · obtain ⟨r, hr, rfl⟩ := dg_one_ne (a := d) (by have := dg_pos.1 hd; omega)
        exact ⟨K (1 / r) * u, K (1 / r) * v, QP.eq fun x => by have := qat e x; simp only [v_add, v_mul, v_K, v_1] at this ⊢; grind⟩
    · exfalso
      obtain ⟨π, hπ, hd⟩ := irr_factor h3
      exact h π hπ (qdvd_trans hd h1) (qdvd_trans hd h2)
/-! derivatives -/
theorem P_deriv_congr {l m : List Int} {c d : Rat} (h : K c * P l = K d * P m) : K c * P (derivP l) = K d * P (derivP m) := by
  have hc := den_ne c
  have hd := den_ne d
  have e : P (scaleP l (c.num * d.den)) = P (scaleP m (d.num * c.den)) := by
    rw [P_scale, P_scale]
    refine QP.eq fun x => ?_
    have := qat h x
    have h1 := den_mul c
    have h2 := den_mul d
    simp only [v_mul, v_K, Rat.intCast_mul] at this ⊢
    rw [← h1, ← h2]; grind
  have e2 : P (scaleP (derivP l) (c.num * d.den)) = P (scaleP (derivP m) (d.num * c.den)) := P_congr fun i => by
    have := P_co e (i + 1)
    rw [co_scaleP, co_scaleP] at this
    rw [co_scaleP, co_scaleP, co_derivP, co_derivP, Int.mul_right_comm, this, Int.mul_right_comm]
  rw [P_scale, P_scale] at e2
  refine QP.eq fun x => ?_
  have := qat e2 x
  have h1 := den_mul c
  have h2 := den_mul d
  simp only [v_mul, v_K, Rat.intCast_mul] at this ⊢
  rw [← h1, ← h2] at this
  grind
noncomputable def der (f : QP) : QP := K (1 / ((Classical.choose f.p : Int) : Rat)) * P (derivP (Classical.choose (Classical.choose_spec f.p)))
theorem der_of {f : QP} {r : Rat} {l : List Int} (h : f = K r * P l) : der f = K r * P (derivP l) := by
  have h2 := Classical.choose_spec (Classical.choose_spec f.p)
  revert h2
  unfold der
  generalize Classical.choose (Classical.choose_spec f.p) = m
  generalize Classical.choose f.p = d
  intro ⟨hd, h2⟩
  refine P_deriv_congr ?_
  rw [← h]
  refine QP.eq fun x => ?_
  have := h2 x
  have := cast_ne hd
  simp only [v_mul, v_K, v_P]
  grind
theorem der_P (l : List Int) : der (P l) = P (derivP l) := by
  have := der_of (f := P l) (r := 1) (l := l) (QP.eq fun x => by simp only [v_mul, v_K]; grind)
  rw [this]; exact QP.eq fun x => by simp only [v_mul, v_K]; grind
theorem qp_rep (f : QP) : ∃ (r : Rat) (l : List Int), r ≠ 0 ∧ f = K r * P l := by
  obtain ⟨c, l, hc, h, _⟩ := dg_rep f
  have := cast_ne hc
  refine ⟨1 / (c : Rat), l, by grind, QP.eq fun x => ?_⟩
  have := qat h x
  simp only [v_mul, v_K] at this ⊢
  grind
theorem der_mul (f g : QP) : der (f * g) = der f * g + f * der g := by
  obtain ⟨r, l, _, e⟩ := qp_rep f
  obtain ⟨s, m, _, e'⟩ := qp_rep g
  have h1 : f * g = K (r * s) * P (pmul l m) := by rw [P_mul]; refine QP.eq fun x => ?_; have := qat e x; have := qat e' x; simp only [v_mul, v_K] at *; grind
  have h2 : P (derivP (pmul l m)) = P (derivP l) * P m + P l * P (derivP m) := by
    rw [← P_mul, ← P_mul, ← P_add]; exact P_congr fun i => prod_rule_co l m i
  rw [der_of h1, der_of e, der_of e', h2]
  refine QP.eq fun x => ?_
  have h3 := qat e x
  have h4 := qat e' x
  simp only [v_add, v_mul, v_K] at h3 h4 ⊢
  rw [h3, h4]; grind
theorem der_K (r : Rat) : der (K r) = 0 := by
  have h : K r = K r * P [1] := QP.eq fun x => by simp only [v_mul, v_K, v_P, evQ]; rw [one_cast]; grind
  rw [der_of h, show derivP [1] = [] from rfl, P_nil, qmul_zero]
theorem der_Kmul (r : Rat) (f : QP) : der (K r * f) = K r * der f := by
  rw [der_mul, der_K, zero_qmul]; exact QP.eq fun x => by simp only [v_add, v_mul, v_0]; grind
theorem der_pow (f : QP) : ∀ n : Nat, der (f ^ (n + 1)) = K ((n + 1 : Nat) : Int) * (f ^ n * der f)
  | 0 => by rw [qp_pow_succ, qp_pow_zero, one_qmul, one_qmul]; exact QP.eq fun x => by simp only [v_mul, v_K]; rw [show (((0 + 1 : Nat) : Int) : Rat) = 1 from rfl]; grind
  | n + 1 => by
    rw [qp_pow_succ, der_mul, der_pow f n, qp_pow_succ]
    refine QP.eq fun x => ?_
    simp only [v_add, v_mul, v_K]
    have : (((n + 1 + 1 : Nat) : Int) : Rat) = (((n + 1 : Nat) : Int) : Rat) + 1 := by rw [show ((n + 1 + 1 : Nat) : Int) = ((n + 1 : Nat) : Int) + 1 from rfl, Rat.intCast_add, one_cast]
    rw [this]; grind
theorem dg_der (f : QP) : dg (der f) = dg f - 1 := by
  obtain ⟨r, l, hr, e⟩ := qp_rep f
  rw [der_of e, dg_Kmul hr, dg_P, ← deriv_trim, derivP_len]
  have : dg f = (trimZ l).length := by rw [e, dg_Kmul hr, dg_P]
  rw [this]
theorem der_ne {f : QP} (h : 2 ≤ dg f) : der f ≠ 0 := dg_pos.2 (by rw [dg_der]; omega)
theorem va_der {π f : QP} (hπ : Irr π) (hf : f ≠ 0) (h1 : π ∣ f) : der f ≠ 0 ∧ va π (der f) + 1 = va π f := by
  have hv := (va_pos hπ hf).1 h1
  have h2 := va_dg hπ hf
  have hd : der f ≠ 0 := der_ne (by omega)
  refine ⟨hd, ?_⟩
  obtain ⟨r, e, hr⟩ := va_spec hπ hf
  obtain ⟨k, hk⟩ : ∃ k, va π f = k + 1 := ⟨va π f - 1, by omega⟩
  rw [hk] at e ⊢
  congr 1
  refine va_of hπ hd ⟨der r * π + K ((k + 1 : Nat) : Int) * (r * der π), ?_, fun hx => ?_⟩
  · have e2 : der f = der (r * π ^ (k + 1)) := by rw [← e]
    rw [e2, der_mul, der_pow, qp_pow_succ]
    exact QP.eq fun x => by simp only [v_add, v_mul, v_K]; grind
  · have h3 : π ∣ K ((k + 1 : Nat) : Int) * (r * der π) := by
      have : K ((k + 1 : Nat) : Int) * (r * der π) = (der r * π + K ((k + 1 : Nat) : Int) * (r * der π)) - der r * π := QP.eq fun x => by simp only [v_add, v_sub]; grind
      rw [this]
      exact qdvd_sub hx (qdvd_mulL _ (qdvd_refl π))
    have h4 := (dvd_K (cast_ne (show ((k + 1 : Nat) : Int) ≠ 0 by omega))).1 h3
    rcases irr_prime hπ h4 with h5 | h5
    · exact hr h5
    · have h6 := dvd_le h5 (der_ne hπ.1)
      rw [dg_der] at h6
      have := hπ.1
      omega
end Go.Gx

/-
  Square-free parts. Plain numbers; no program in sight.
-/
namespace Go.Gx
theorem ld_congr {F G : List Int} (h : P F = P G) : ldP F = ldP G := by unfold ldP; rw [P_inj h]
theorem cont_congr {F G : List Int} (h : P F = P G) : contP F = contP G := contP_congr (P_co h)
theorem ld_mul (F G : List Int) : ldP (pmul F G) = ldP F * ldP G := by
  by_cases hF : ldP F = 0
  · rw [hF, Int.zero_mul]
    refine (ld_zero_iff _).2 ?_
    rw [P_mul, (ld_zero_iff F).1 hF, zero_qmul]
  · by_cases hG : ldP G = 0
    · rw [hG, Int.mul_zero]
      refine (ld_zero_iff _).2 ?_
      rw [P_mul, (ld_zero_iff G).1 hG, qmul_zero]
    · obtain ⟨a, ha⟩ := ld_len hF
      obtain ⟨b, hb⟩ := ld_len hG
      have ⟨x1, x2, _⟩ := ld_deg ha
      have ⟨y1, y2, _⟩ := ld_deg hb
      have h := tlen_mul (f := F) (g := G) (by omega) (by omega)
      have ⟨z1, _, _⟩ := ld_deg (G := pmul F G) (d := a + b) (by omega)
      rw [← z1, (co_top x2 y2).1, x1, y1]
theorem cont_mul_dvd (F G : List Int) : contP F ∣ contP (pmul F G) := cont_dvd fun i => by
  rw [co_pmul]
  have : ∀ n, (contP F : Int) ∣ rsum (fun j => co F j * co G (i - j)) n := fun n => by
    induction n with
    | zero => exact Int.dvd_zero _
    | succ n ih => rw [rsum_succ]; exact Int.dvd_add ih (Int.dvd_trans (dvd_cont F n) (Int.dvd_mul_right _ _))
  exact this _
/-- Primitive, with a positive leading coefficient, without zeros behind it. -/
structure Nrm (R : List Int) : Prop where
  c : contP R = 1
  s : 0 < ldP R
  t : trimZ R = R
theorem Nrm.ne {R : List Int} (h : Nrm R) : P R ≠ 0 := (ld_ne_iff R).1 (by have := h.s; omega)
theorem nrm_prim {F : List Int} (h : P F ≠ 0) : Nrm (primP F) := ⟨cont_prim ((ld_ne_iff F).2 h), ld_prim ((ld_ne_iff F).2 h), prim_trim F⟩
theorem Nrm.self {R : List Int} (h : Nrm R) : primP R = R := by
  have e : primC R = 1 := by unfold primC; rw [if_neg (by have := h.s; omega), h.c]; rfl
  unfold primP; rw [e, h.t]; simp
/-- Such polynomials that divide each other are equal. -/
theorem Nrm.eq {R S : List Int} (hR : Nrm R) (hS : Nrm S) (h1 : P R ∣ P S) (h2 : P S ∣ P R) : R = S := by
  obtain ⟨W, e⟩ := gauss_dvd hR.c h1
  have hW : P W ≠ 0 := fun e' => hS.ne (by rw [e, e', zero_qmul])
  have d1 := dg_mul hW hR.ne
  rw [← e] at d1
  have d2 := dvd_le h2 hR.ne
  have d3 := dg_pos.1 hW
  obtain ⟨c, hc⟩ : ∃ c : Int, P W = P [c] := ⟨co W 0, P_congr fun i => by
    cases i with
    | zero => simp [co]
    | succ i => rw [(tlen_spec W).1 (i + 1) (by rw [← dg_P]; omega)]; simp [co]⟩
  have e2 : P S = P (scaleP R c) := by
    rw [e, hc, P_scale]; exact QP.eq fun x => by simp only [v_mul, v_P, v_K, evQ]; grind
  have h3 := cont_congr e2
  rw [contP_scale, hS.c, hR.c] at h3
  have h4 := ld_congr e2
  rw [ld_scale] at h4
  have h5 := hS.s
  have h6 := hR.s
  have hc1 : c = 1 := by
    have : c.natAbs = 1 := by omega
    rcases Int.natAbs_eq c with h | h
    · omega
    · rw [h, this] at h4
      exfalso
      have : ldP S = -ldP R := by rw [h4]; simp
      omega
  rw [hc1] at e2
  have e3 : P S = P R := by rw [e2]; exact P_congr fun i => by rw [co_scaleP]; omega
  have := P_inj e3
  rw [hS.t, hR.t] at this
  exact this.symm
theorem Nrm.eq_va {R S : List Int} (hR : Nrm R) (hS : Nrm S) (h : ∀ π, Irr π → va π (P R) = va π (P S)) : R = S :=
  hR.eq hS (dvd_of_va hR.ne hS.ne fun π hπ => by rw [h π hπ]; exact Nat.le_refl _) (dvd_of_va hS.ne hR.ne fun π hπ => by rw [h π hπ]; exact Nat.le_refl _)
/-- Factors of such a product are such. -/
theorem Nrm.quo {p r g : List Int} (hp : Nrm p) (hg : 0 < ldP g) (e : P p = P r * P g) (ht : trimZ r = r) : Nrm r := by
  rw [← P_mul] at e
  refine ⟨?_, ?_, ht⟩
  · have h1 := cont_mul_dvd r g
    rw [← cont_congr e, hp.c] at h1
    exact Nat.dvd_one.1 h1
  · have h1 := ld_congr e
    rw [ld_mul] at h1
    have h2 := hp.s
    rw [h1] at h2
    exact Int.pos_of_mul_pos_left h2 hg
theorem va_prim {π : QP} {F : List Int} (hπ : Irr π) (h : P F ≠ 0) : va π (P (primP F)) = va π (P F) := by
  have := va_Kmul hπ (cast_ne (primC_ne ((ld_ne_iff F).2 h))) (nrm_prim h).ne
  rw [← P_prim] at this
  exact this.symm
/-- The greatest common divisor with a primitive polynomial. -/
theorem gcd_nrm {p d g : List Int} (hp : Nrm p) (h : IsGcd p d g) : Nrm g := by
  have hg : P g ≠ 0 := fun e => hp.ne (zero_qdvd (by rw [← e]; exact h.q.1))
  refine ⟨by rw [h.c, hp.c]; simp, ?_, h.t⟩
  have := (ld_ne_iff g).2 hg
  have := h.s
  omega
/-- The square-free part. -/
structure PartOf (F R : List Int) : Prop where
  n : Nrm R
  v : ∀ π, Irr π → va π (P R) = min 1 (va π (P F))
theorem va_gcd_der {π p : QP} {g : QP} (hπ : Irr π) (hp : p ≠ 0) (hg : GcdQ p (der p) g) (hg0 : g ≠ 0) : va π g = va π p - 1 := by
  by_cases h : π ∣ p
  · have ⟨h1, h2⟩ := va_der hπ hp h
    rw [va_gcd hπ hp h1 hg0 hg]; omega
  · have h1 : ¬ 1 ≤ va π p := fun h' => h ((va_pos hπ hp).2 h')
    have h2 := va_le_of_dvd hπ hg0 hp hg.1
    omega
theorem part_main {F p d g r : List Int} (hF : P F ≠ 0) (hp : p = primP F) (hd : d = trimZ (derivP p)) (hg : IsGcd p d g) (e : P p = P r * P g) (ht : trimZ r = r) : PartOf F r := by
  have hn : Nrm p := by rw [hp]; exact nrm_prim hF
  have hgn := gcd_nrm hn hg
  have hr : P r ≠ 0 := fun e' => hn.ne (by rw [e, e', zero_qmul])
  refine ⟨hn.quo hgn.s e ht, fun π hπ => ?_⟩
  have hq := hg.q
  rw [hd, P_trim, ← der_P] at hq
  have h1 := va_gcd_der hπ hn.ne hq hgn.ne
  have h2 := va_mul hπ hr hgn.ne
  rw [← e] at h2
  rw [← va_prim hπ hF, ← hp]
  omega
/-- Square-free. -/
theorem sqf_iff {f : QP} (hf : f ≠ 0) : InI f (der f) 1 ↔ ∀ π, Irr π → va π f ≤ 1 := by
  rw [cop_iff]
  constructor
  · intro h π hπ
    apply Classical.byContradiction
    intro hn
    have hd : π ∣ f := (va_pos hπ hf).2 (by omega)
    have ⟨h1, h2⟩ := va_der hπ hf hd
    exact h π hπ hd ((va_pos hπ h1).2 (by omega))
  · intro h π hπ hd hd'
    have ⟨h1, h2⟩ := va_der hπ hf hd
    have h3 := (va_pos hπ h1).1 hd'
    have := h π hπ
    omega
theorem not_sqf_zero : ¬ InI (0 : QP) (der 0) 1 := by
  rintro ⟨u, v, e⟩
  have : der (0 : QP) = 0 := der_K 0
  rw [this] at e
  have := qat e 0
  simp only [v_add, v_mul, v_0, v_1] at this
  grind
theorem PartOf.sqf {F R : List Int} (h : PartOf F R) : InI (P R) (der (P R)) 1 := (sqf_iff h.n.ne).2 fun π hπ => by rw [h.v π hπ]; omega
theorem PartOf.dvd {F R : List Int} (h : PartOf F R) (hF : P F ≠ 0) : P R ∣ P F := dvd_of_va h.n.ne hF fun π hπ => by rw [h.v π hπ]; omega
theorem PartOf.pow {F R : List Int} (h : PartOf F R) (hF : P F ≠ 0) {n : Nat} (hn : (trimZ F).length ≤ n + 1) : P F ∣ P R ^ n := dvd_of_va hF (qp_pow_ne h.n.ne n) fun π hπ => by
  rw [va_pow hπ h.n.ne, h.v π hπ]
  have := va_dg hπ hF
  rw [dg_P] at this
  rcases Nat.eq_zero_or_pos (va π (P F)) with h0 | h0
  · omega
  · rw [show min 1 (va π (P F)) = 1 by omega]; omega
theorem PartOf.deg {F R : List Int} (h : PartOf F R) (hF : P F ≠ 0) : InI (P F) (der (P F)) 1 ↔ (trimZ R).length = (trimZ F).length := by
  rw [sqf_iff hF, ← dg_P, ← dg_P]
  have hd := h.dvd hF
  constructor
  · intro hv
    have h2 : P F ∣ P R := dvd_of_va hF h.n.ne fun π hπ => by rw [h.v π hπ]; have := hv π hπ; omega
    have := dvd_le hd hF
    have := dvd_le h2 h.n.ne
    omega
  · intro he π hπ
    obtain ⟨q, e⟩ := hd
    have hq : q ≠ 0 := fun e' => hF (by rw [e, e', zero_qmul])
    have d1 := dg_mul hq h.n.ne
    rw [← e] at d1
    have d3 := dg_pos.1 h.n.ne
    obtain ⟨r, hr, rfl⟩ := dg_one_ne (a := q) (by omega)
    have := va_Kmul hπ hr h.n.ne
    rw [← e, h.v π hπ] at this
    omega
/-- The square-free part of x^2. -/
theorem part_x {R : List Int} (h : PartOf [0, 0, 1] R) : R = [0, 1] := by
  have hx : Nrm [0, 1] := ⟨by decide, by decide, by decide⟩
  refine h.n.eq_va hx fun π hπ => ?_
  rw [h.v π hπ]
  have e : P [0, 0, 1] = P [0, 1] ^ 2 := by
    rw [← P_pow]; exact P_congr fun i => by rw [show ppow [0, 1] 2 = [0, 0, 1] by decide]
  rw [e, va_pow hπ hx.ne]
  have := va_dg hπ hx.ne
  rw [dg_P, show (trimZ [(0 : Int), 1]).length = 2 by decide] at this
  omega
theorem nrm_prim_le (F : List Int) : nrm (primP F) ≤ nrm F := by
  have key : ∀ (l : List Int) (c : Int), nrm (l.map (fun x => x.tdiv c)) ≤ nrm l := fun l c => by
    induction l with
    | nil => simp [nrm]
    | cons a l ih =>
      rw [List.map_cons, nrm_cons, nrm_cons]
      have : (a.tdiv c).natAbs ≤ a.natAbs := by rw [Int.natAbs_tdiv]; exact Nat.div_le_self _ _
      omega
  unfold primP
  exact Nat.le_trans (key _ _) (Nat.le_of_eq (nrm_trim F))
theorem div17 {f g : List Int} (hd : ∃ h : List Int, P f = P g * P h) (h0 : P f ≠ 0) (hF : nrm f ≤ 16777216) (hn : (trimZ f).length ≤ 11) : nrm g < BS ^ 17 :=
  Nat.lt_of_le_of_lt (div_bd (n := 10) hd h0 hF hn) (by decide)
theorem div17q {f g : List Int} (hg : contP g = 1) (hd : P g ∣ P f) (h0 : P f ≠ 0) (hF : nrm f ≤ 16777216) (hn : (trimZ f).length ≤ 11) : nrm g < BS ^ 17 := by
  obtain ⟨W, e⟩ := gauss_dvd hg hd
  exact div17 ⟨W, by rw [e, qmul_comm]⟩ h0 hF hn
end Go.Gx

/-
  Lengths of exact quotients. Plain numbers; no program in sight.
-/
namespace Go.Gx
theorem quo_trim {f r g : List Int} (e : P f = P r * P g) (h0 : P f ≠ 0) (hl : r.length = (trimZ f).length - ((trimZ g).length - 1)) : trimZ r = r := by
  have hr : P r ≠ 0 := fun e' => h0 (by rw [e, e', zero_qmul])
  have hg : P g ≠ 0 := fun e' => h0 (by rw [e, e', qmul_zero])
  have h1 := dg_mul hr hg
  rw [← e, dg_P, dg_P, dg_P] at h1
  have h2 := dg_pos.1 hg
  rw [dg_P] at h2
  refine canon_of_last ?_
  rcases (tlen_spec r).2 with h3 | h3
  · exact absurd (dg_zero.1 ((dg_P r).trans h3)) hr
  · right; rwa [show r.length = (trimZ r).length by omega]
end Go.Gx

/-
  The square-free decomposition. Plain numbers; no program in sight.
-/
namespace Go.Gx
/-- Where the decomposition stands at the power k. -/
structure Yun (p : QP) (k : Nat) (rest other U : QP) : Prop where
  p0 : p ≠ 0
  r0 : rest ≠ 0
  vr : ∀ π, Irr π → va π rest = if k ≤ va π p then 1 else 0
  vo : ∀ π, Irr π → π ∣ rest → π ∣ other - K (((va π p : Int) - (k : Int) : Int) : Rat) * der rest
  dgo : dg other ≤ dg rest - 1
  u0 : U ≠ 0
  vu : ∀ π, Irr π → va π U = va π p + 1 - k
theorem va_quo {π f q g : QP} (hπ : Irr π) (hf : f ≠ 0) (e : f = q * g) : va π f = va π q + va π g := by
  have hq : q ≠ 0 := fun e' => hf (by rw [e, e', zero_qmul])
  have hg : g ≠ 0 := fun e' => hf (by rw [e, e', qmul_zero])
  rw [e]; exact va_mul hπ hq hg
theorem dg_quo {f q g : QP} (hf : f ≠ 0) (e : f = q * g) : dg f + 1 = dg q + dg g := by
  have hq : q ≠ 0 := fun e' => hf (by rw [e, e', zero_qmul])
  have hg : g ≠ 0 := fun e' => hf (by rw [e, e', qmul_zero])
  rw [e]; exact dg_mul hq hg
theorem der_split {p rest common o π : QP} (hπ : Irr π) (hp : p ≠ 0) (e1 : p = rest * common) (e2 : der p = o * common) (hr : π ∣ rest) (hv : va π common + 1 = va π p) : π ∣ o - K ((va π p : Int) : Rat) * der rest := by
  obtain ⟨s, es, _⟩ := va_spec hπ hp
  obtain ⟨r, er⟩ := hr
  have hc0 : common ≠ 0 := fun e' => hp (by rw [e1, e', qmul_zero])
  obtain ⟨c, ec, _⟩ := va_spec hπ hc0
  obtain ⟨k, hk⟩ : ∃ k, va π p = k + 1 := ⟨va π common, hv.symm⟩
  have hk' : va π common = k := by omega
  rw [hk] at es ⊢
  rw [hk'] at ec
  have hrc : r * common = s * π ^ k := by
    refine qp_cancel hπ.ne ?_
    have : r * common * π = p := by rw [e1, er]; exact QP.eq fun x => by simp only [v_mul]; grind
    rw [this, es, qp_pow_succ]; exact QP.eq fun x => by simp only [v_mul]; grind
  have hX : (o - K (((k + 1 : Nat) : Int) : Rat) * der rest) * common = (der s - K (((k + 1 : Nat) : Int) : Rat) * der r * c) * π ^ (k + 1) := by
    have d1 : der p = der s * π ^ (k + 1) + s * (K (((k + 1 : Nat) : Int) : Rat) * (π ^ k * der π)) := by
      have : der p = der (s * π ^ (k + 1)) := by rw [← es]
      rw [this, der_mul, der_pow]
    have d2 : der rest = der r * π + r * der π := by rw [er, der_mul]
    rw [qp_pow_succ] at *
    refine QP.eq fun x => ?_
    have h1 := qat e2 x
    have h2 := qat d1 x
    have h3 := qat d2 x
    have h4 := qat hrc x
    have h5 := qat ec x
    simp only [v_mul, v_sub, v_K, v_add] at h1 h2 h3 h4 h5 ⊢
    rw [h3]
    generalize (((k + 1 : Nat) : Int) : Rat) = n at *
    generalize (π ^ k).v x = z at *
    grind
  by_cases hz : o - K (((k + 1 : Nat) : Int) : Rat) * der rest = 0
  · rw [hz]; exact qdvd_zero _
  · have h1 := (va_dvd hπ (qp_mul_ne hz hc0) (k + 1)).1 ⟨_, hX⟩
    rw [va_mul hπ hz hc0] at h1
    exact (va_pos hπ hz).2 (by omega)
theorem Yun.start {p common rest o other : QP} (hp : p ≠ 0) (hg : GcdQ p (der p) common) (e1 : p = rest * common) (e2 : der p = o * common) (e3 : other = o - der rest) : Yun p 1 rest other p := by
  have hr : rest ≠ 0 := fun e' => hp (by rw [e1, e', zero_qmul])
  have hc : common ≠ 0 := fun e' => hp (by rw [e1, e', qmul_zero])
  have vr : ∀ π, Irr π → va π rest = if 1 ≤ va π p then 1 else 0 := fun π hπ => by
    have h1 := va_gcd_der hπ hp hg hc
    have h2 := va_quo hπ hp e1
    split <;> omega
  have dr : dg (o - der rest) ≤ dg rest - 1 := by
    have h1 := dg_sub o (der rest)
    rw [dg_der] at h1
    have h2 := dg_quo hp e1
    have h4 := dg_pos.1 hr
    have h5 := dg_pos.1 hc
    have h3 : dg o ≤ dg rest - 1 := by
      by_cases ho : der p = 0
      · have : o = 0 := by
          rw [ho] at e2
          exact (qp_dom e2.symm).resolve_right hc
        rw [this, dg_zero.2 rfl]; omega
      · have := dg_quo ho e2
        rw [dg_der] at this
        omega
    omega
  refine ⟨hp, hr, vr, fun π hπ hd => ?_, by rw [e3]; exact dr, hp, fun π hπ => by omega⟩
  have hv1 := (va_pos hπ hr).1 hd
  rw [vr π hπ] at hv1
  have hv2 : 1 ≤ va π p := by
    apply Classical.byContradiction; intro hn; rw [if_neg hn] at hv1; omega
  have h1 := va_gcd_der hπ hp hg hc
  have := der_split hπ hp e1 e2 hd (by omega)
  have e4 : other - K (((va π p : Int) - ((1 : Nat) : Int) : Int) : Rat) * der rest = o - K ((va π p : Int) : Rat) * der rest := by
    rw [e3, Rat.intCast_sub]
    refine QP.eq fun x => ?_
    simp only [v_sub, v_mul, v_K]
    rw [show ((((1 : Nat) : Int) : Int) : Rat) = 1 from rfl]; grind
  rw [e4]; exact this
section
variable {p rest other U g r1 o1 : QP} {k : Nat}
theorem Yun.gcd (h : Yun p k rest other U) (hg : GcdQ rest other g) : g ≠ 0 ∧ ∀ π, Irr π → va π g = if va π p = k then 1 else 0 := by
  have hg0 : g ≠ 0 := fun e => h.r0 (zero_qdvd (by rw [← e]; exact hg.1))
  refine ⟨hg0, fun π hπ => ?_⟩
  have h1 := va_le_of_dvd hπ hg0 h.r0 hg.1
  have h2 := h.vr π hπ
  by_cases hk : k ≤ va π p
  · rw [if_pos hk] at h2
    have hd : π ∣ rest := (va_pos hπ h.r0).2 (by omega)
    have h3 := h.vo π hπ hd
    by_cases he : va π p = k
    · rw [if_pos he]
      have h4 : π ∣ other := by
        rw [he] at h3
        have : other = other - K (((k : Int) - (k : Int) : Int) : Rat) * der rest := QP.eq fun x => by simp only [v_sub, v_mul, v_K]; rw [Int.sub_self, zero_cast]; grind
        rw [this]; exact h3
      have := (va_pos hπ hg0).1 (hg.dvd hd h4)
      omega
    · rw [if_neg he]
      apply Classical.byContradiction
      intro hn
      have h4 : π ∣ g := (va_pos hπ hg0).2 (by omega)
      have h5 : π ∣ other := qdvd_trans h4 hg.2.1
      have h6 : π ∣ K (((va π p : Int) - (k : Int) : Int) : Rat) * der rest := by
        have : K (((va π p : Int) - (k : Int) : Int) : Rat) * der rest = other - (other - K (((va π p : Int) - (k : Int) : Int) : Rat) * der rest) := QP.eq fun x => by simp only [v_sub]; grind
        rw [this]; exact qdvd_sub h5 h3
      have h7 := (dvd_K (cast_ne (show ((va π p : Int) - (k : Int)) ≠ 0 by omega))).1 h6
      have ⟨d0, d1⟩ := va_der hπ h.r0 hd
      have := (va_pos hπ d0).1 h7
      omega
  · rw [if_neg hk] at h2
    rw [if_neg (by omega)]
    omega
theorem Yun.next (h : Yun p k rest other U) (hg : GcdQ rest other g) (e1 : rest = r1 * g) (e2 : other = o1 * g) {other' : QP} (e3 : other' = o1 - der r1) : ∃ U', Yun p (k + 1) r1 other' U' ∧ dg U' + dg rest = dg U + 1 := by
  have ⟨hg0, vg⟩ := h.gcd hg
  have hr1 : r1 ≠ 0 := fun e' => h.r0 (by rw [e1, e', zero_qmul])
  have vr1 : ∀ π, Irr π → va π r1 = if k + 1 ≤ va π p then 1 else 0 := fun π hπ => by
    have h1 := va_quo hπ h.r0 e1
    have h2 := h.vr π hπ
    have h3 := vg π hπ
    by_cases a : k ≤ va π p
    · rw [if_pos a] at h2
      by_cases b : va π p = k
      · rw [if_pos b] at h3; rw [if_neg (by omega)]; omega
      · rw [if_neg b] at h3; rw [if_pos (by omega)]; omega
    · rw [if_neg a] at h2; rw [if_neg (by omega)]; omega
  have hU : rest ∣ U := dvd_of_va h.r0 h.u0 fun π hπ => by
    rw [h.vr π hπ, h.vu π hπ]; split <;> omega
  obtain ⟨U', eU⟩ := hU
  have hU' : U' ≠ 0 := fun e' => h.u0 (by rw [eU, e', zero_qmul])
  have dU := dg_quo h.u0 eU
  have dr := dg_quo h.r0 e1
  have p1 := dg_pos.1 hr1
  have p2 := dg_pos.1 hg0
  refine ⟨U', ⟨h.p0, hr1, vr1, fun π hπ hd => ?_, ?_, hU', fun π hπ => ?_⟩, by omega⟩
  · have hv := (va_pos hπ hr1).1 hd
    rw [vr1 π hπ] at hv
    have hk : k + 1 ≤ va π p := by apply Classical.byContradiction; intro hn; rw [if_neg hn] at hv; omega
    have hng : ¬ π ∣ g := fun hx => by
      have := (va_pos hπ hg0).1 hx
      rw [vg π hπ, if_neg (by omega)] at this
      omega
    have h1 := h.vo π hπ (by rw [e1]; exact qdvd_mulR _ hd)
    have key : (other' - K (((va π p : Int) - ((k + 1 : Nat) : Int) : Int) : Rat) * der r1) * g = (other - K (((va π p : Int) - (k : Int) : Int) : Rat) * der rest) + K (((va π p : Int) - (k : Int) : Int) : Rat) * (der g * r1) := by
      have d1 : der rest = der r1 * g + r1 * der g := by rw [e1, der_mul]
      have d2 : (((va π p : Int) - ((k + 1 : Nat) : Int) : Int) : Rat) = (((va π p : Int) - (k : Int) : Int) : Rat) - 1 := by
        rw [show ((va π p : Int) - ((k + 1 : Nat) : Int) : Int) = ((va π p : Int) - (k : Int)) - 1 by omega, Rat.intCast_sub ((va π p : Int) - (k : Int)), one_cast]
      rw [d1, d2, e3, e2]
      refine QP.eq fun x => ?_
      simp only [v_sub, v_mul, v_K, v_add]
      generalize (((va π p : Int) - (k : Int) : Int) : Rat) = n
      grind
    have h2 : π ∣ (other' - K (((va π p : Int) - ((k + 1 : Nat) : Int) : Int) : Rat) * der r1) * g := by
      rw [key]; exact qdvd_add h1 (qdvd_mulL _ (qdvd_mulL _ hd))
    exact (irr_prime hπ h2).resolve_right hng
  · have h1 := dg_sub o1 (der r1)
    rw [dg_der] at h1
    have h3 : dg o1 ≤ dg r1 - 1 := by
      by_cases ho : other = 0
      · have : o1 = 0 := by
          rw [ho] at e2
          exact (qp_dom e2.symm).resolve_right hg0
        rw [this, dg_zero.2 rfl]; omega
      · have h4 := dg_quo ho e2
        have := h.dgo
        have := dg_pos.1 ho
        omega
    rw [e3]; omega
  · have h1 := va_quo hπ h.u0 eU
    rw [h.vu π hπ, h.vr π hπ] at h1
    split at h1 <;> omega
theorem Yun.done (h : Yun p k rest other U) (hd : dg rest ≤ 1) : ∀ π, Irr π → va π p < k := fun π hπ => by
  have h1 := h.vr π hπ
  have h2 := va_dg hπ h.r0
  apply Classical.byContradiction
  intro hn
  rw [if_pos (by omega)] at h1
  omega
end
theorem Nrm.mul {a b : List Int} (ha : Nrm a) (hb : Nrm b) : Nrm (trimZ (pmul a b)) := by
  refine ⟨?_, ?_, trim_trim _⟩
  · rw [contP_trim]
    apply Classical.byContradiction
    intro hn
    have h0 : contP (pmul a b) ≠ 0 := fun e => by
      have := contP_zero e
      have h1 : P (pmul a b) = 0 := by rw [← P_nil]; exact P_congr fun i => by rw [this i]; simp [co]
      rw [P_mul] at h1
      exact qp_mul_ne ha.ne hb.ne h1
    obtain ⟨q, q2, qd, qp⟩ := prime_int (n := contP (pmul a b)) (by omega)
    have hj : ∃ j, ¬ (q : Int) ∣ co b j := by
      apply Classical.byContradiction
      intro hn'
      have : q ∣ contP b := cont_dvd fun i => Classical.byContradiction fun h => hn' ⟨i, h⟩
      rw [hb.c] at this
      have := Nat.le_of_dvd (by omega) this
      omega
    have := gauss_prime qp (l := a) (d := b) (fun i => Int.dvd_trans (Int.ofNat_dvd.2 qd) (dvd_cont _ i)) hj
    have : q ∣ contP a := cont_dvd this
    rw [ha.c] at this
    have := Nat.le_of_dvd (by omega) this
    omega
  · rw [ld_trim, ld_mul]; exact Int.mul_pos ha.s hb.s
theorem Nrm.one : Nrm [1] := ⟨by decide, by decide, by decide⟩
theorem Nrm.pow {a : List Int} (ha : Nrm a) : ∀ n : Nat, ∃ b, Nrm b ∧ P b = P a ^ n
  | 0 => ⟨[1], Nrm.one, by rw [qp_pow_zero]; exact QP.eq fun x => by simp only [v_P, v_1, evQ]; rw [one_cast]; grind⟩
  | n + 1 => by
    obtain ⟨b, hb, e⟩ := Nrm.pow ha n
    exact ⟨trimZ (pmul b a), hb.mul ha, by rw [P_trim, P_mul, e, qp_pow_succ]⟩
end Go.Gx

/-
  Lists of factors in memory; what a decomposition says. No program in sight.
-/
namespace Go.Gx
open Go.RowKit
/-- A polynomial in memory and a power. -/
structure FE where
  A : Option Addr
  n : Nat
  c : Nat
  l : List RI
  k : Int
def FE.cells (f : FE) : List Value := [.slice f.A f.n f.c, .int .i64 f.k]
def cellsF (l : List FE) : List Value := l.flatMap FE.cells
theorem cellsF_len (l : List FE) : (cellsF l).length = l.length * 2 := by
  induction l with
  | nil => rfl
  | cons r l ih => simp only [cellsF, List.flatMap_cons, List.length_append, List.length_cons] at ih ⊢; rw [ih]; simp [FE.cells]; omega
theorem cellsF_append (a b : List FE) : cellsF (a ++ b) = cellsF a ++ cellsF b := by simp [cellsF]
theorem cellsF_cons (r : FE) (l : List FE) : cellsF (r :: l) = .slice r.A r.n r.c :: .int .i64 r.k :: cellsF l := by simp [cellsF, FE.cells]
theorem cellsF_get {l : List FE} : ∀ {i : Nat} {r : FE}, l[i]? = some r → (cellsF l)[i * 2]? = some (.slice r.A r.n r.c) ∧ (cellsF l)[i * 2 + 1]? = some (.int .i64 r.k) := by
  induction l with
  | nil => intro i r h; simp at h
  | cons x l ih =>
    intro i r h
    rw [cellsF_cons]
    cases i with
    | zero => simp at h; subst h; simp
    | succ i =>
      simp at h
      have := ih h
      rw [show (i + 1) * 2 = i * 2 + 1 + 1 by omega]
      simpa using this
def AllF (w : World) (S : Nat → Prop) (M : Nat) (l : List FE) : Prop := ∀ f ∈ l, PolyR w S f.A f.n f.c f.l M
def FacsR (w : World) (S : Nat → Prop) (A : Option Addr) (n c : Nat) (l : List FE) (M : Nat) : Prop := Rd w S A n c 2 (cellsF l) ∧ AllF w S M l
section
variable {w w' : World} {S S' G : Nat → Prop} {A : Option Addr} {n c M : Nat} {l : List FE}
theorem FacsR.frmB (h : FacsR w S A n c l M) (f : Frm G w w') (hd : ∀ b, b < w.heap.size → S b → ¬ G b) : FacsR w' S A n c l M := ⟨h.1.frmB f hd, fun x hx => (h.2 x hx).frmB f hd⟩
theorem FacsR.ext (h : FacsR w S A n c l M) (f : Ext w w') : FacsR w' S A n c l M := ⟨h.1.ext f, fun x hx => (h.2 x hx).ext f⟩
theorem FacsR.sub (h : FacsR w S A n c l M) (hs : ∀ b, b < w.heap.size → S b → S' b) : FacsR w S' A n c l M := ⟨h.1.sub hs, fun x hx => (h.2 x hx).sub hs⟩
theorem FacsR.low (h : FacsR w S A n c l M) : FacsR w (· < w.heap.size) A n c l M := h.sub fun _ hb _ => hb
theorem FacsR.nil : FacsR w S none 0 0 [] M := ⟨Rd.nil, fun f hf => by cases hf⟩
theorem FacsR.len (h : FacsR w S A n c l M) : l.length = n := by have := h.1.1; rw [cellsF_len] at this; omega
theorem FacsR.lkm (h : FacsR w S A n c l M) : l.length = n ∧ n ≤ c ∧ c ≤ 9223372036854775807 := ⟨h.len, h.1.2.1, h.1.2.2.1⟩
theorem FacsR.base (h : FacsR w S A n c l M) (hn : 0 < n) : ∃ b off, A = some ⟨b, off, none⟩ := h.1.base hn
theorem FacsR.at_ {b off i : Nat} (h : FacsR w S (some ⟨b, off, none⟩) n c l M) (hi : i < n) :
    ∃ f, l[i]? = some f ∧ w.cell? ⟨b, off + i * 2, none⟩ = some (.slice f.A f.n f.c) ∧ w.cell? ⟨b, off + i * 2 + 1, none⟩ = some (.int .i64 f.k) ∧ PolyR w S f.A f.n f.c f.l M ∧ S b ∧ b < w.heap.size := by
  have hl : i < l.length := by rw [h.len]; exact hi
  obtain ⟨b', off', e, hS, hb, _⟩ := h.1.2.2.2 (by omega)
  injection e with e
  injection e with e1 e2
  subst e1 e2
  obtain ⟨r, hr⟩ : ∃ r, l[i]? = some r := ⟨_, List.getElem?_eq_getElem hl⟩
  have hc := cellsF_get hr
  exact ⟨r, hr, h.1.cell hc.1, h.1.cell hc.2, h.2 _ (List.mem_of_getElem? hr), hS, hb⟩
end
/-- One that grows. -/
def OwnF (w : World) (B : Nat) (el : TypeId) (A : Option Addr) (n c : Nat) (l : List FE) (M : Nat) : Prop := Own w B el 2 A n c (cellsF l) ∧ AllF w (fun b => notIn A b ∧ B ≤ b) M l
section
variable {w w' : World} {B : Nat} {el : TypeId} {A : Option Addr} {n c M : Nat} {l : List FE}
theorem OwnF.nil : OwnF w B el none 0 0 [] M := ⟨Own.nil, fun f hf => by cases hf⟩
theorem OwnF.ext (h : OwnF w B el A n c l M) (k : Ext w w') : OwnF w' B el A n c l M := ⟨h.1.ext k, fun f hf => (h.2 f hf).ext k⟩
theorem Own.frmG {k : Nat} {cs : List Value} {G : Nat → Prop} (h : Own w B el k A n c cs) (f : Frm G w w') (hd : ∀ b, b < w.heap.size → B ≤ b → ¬ G b) : Own w' B el k A n c cs := by
  refine ⟨h.1, ?_⟩
  rcases h.2 with h1 | ⟨g, cap, cur, hv, hb, hg, rest⟩
  · exact .inl h1
  · have hlt := (Array.getElem?_eq_some_iff.1 hg).1
    exact .inr ⟨g, cap, cur, hv, hb, (f.block g hlt (hd g hlt hb)).trans hg, rest⟩
theorem OwnF.frmB {G : Nat → Prop} (h : OwnF w B el A n c l M) (f : Frm G w w') (hd : ∀ b, b < w.heap.size → B ≤ b → ¬ G b) : OwnF w' B el A n c l M := ⟨h.1.frmG f hd, fun x hx => (h.2 x hx).frmB f fun b hb hs => hd b hb hs.2⟩
theorem OwnF.len (h : OwnF w B el A n c l M) : l.length = n := by have := h.1.1; rw [cellsF_len] at this; omega
theorem OwnF.lkm (h : OwnF w B el A n c l M) : l.length = n ∧ n ≤ c ∧ c ≤ 9223372036854775807 := ⟨h.len, h.1.cap, h.1.max⟩
theorem OwnF.facs (h : OwnF w B el A n c l M) : FacsR w (fun b => B ≤ b) A n c l M := ⟨h.1.rd, fun f hf => (h.2 f hf).sub fun _ _ h => h.2⟩
theorem notIn_new {U : Nat} (h : ∀ a, A = some a → B ≤ a.block ∧ a.block < U) {b : Nat} (hb : U ≤ b) : notIn A b := fun a ha => by have := h a ha; omega
end
section
variable {dfs : List Deferred} {P : Program} {n : Nat} {e : Nat → Value} {w : World} {K : Act → World → Prop} {Q : Exit → Act → World → Prop} {ty : TypeId} {pos : String} {af : Array Edge} {gd : Option (Nat × Bool)}
/-- What does not lie in the list's own block stays as it is. -/
def Beside (A A2 : Option Addr) (w w' : World) : Prop := ∀ (S : Nat → Prop) (A3 : Option Addr) (n3 c3 : Nat) (l3 : List RI) (M : Nat), (∀ b, b < w.heap.size → S b → notIn A b) → PolyR w S A3 n3 c3 l3 M → PolyR w' (fun b => notIn A2 b ∧ S b) A3 n3 c3 l3 M
theorem oAppF {d : Nat} {s x : Operand} {t el bt : TypeId} {zv : Value} {bytes B m c g M : Nat} {A : Option Addr} {l : List FE} {S : Nat → Prop} {A' : Option Addr} {n' c' : Nat} {l' : List RI} {k : Int} (ht : P.underlying t = some (.slice el))
    (hi : (P.info? el).map (fun i => (i.zero, i.size, i.bytes)) = some (some zv, 2, bytes)) (hzv : zv.cells.size = 2) (hs : ev n e s = .slice A m c) (hx : ev n e x = .slice (some ⟨g, 0, none⟩) 1 1) (hO : OwnF w B el A m c l M) (hb : Blk w g bt [.slice A' n' c', .int .i64 k])
    (hp : PolyR w S A' n' c' l' M) (hS : ∀ b, b < w.heap.size → S b → notIn A b ∧ B ≤ b) (hm : (m + 1) * bytes ≤ 140737488355328) (hm2 : m + 1 ≤ 9223372036854775807) (hB : B ≤ w.heap.size)
    (kk : ∀ A2 c2 w', OwnF w' B el A2 (m + 1) c2 (l ++ [⟨A', n', c', l', k⟩]) M → Frm (fun b => B ≤ b) w w' → Beside A A2 w w' → K (mkA dfs n (upd e d (.slice A2 (m + 1) c2))) w') :
    OpW P ⟨some d, .call { callee := .builtin .append, args := #[s, x], argTypes := #[t, t] }, ty, pos, af, gd⟩ (mkA dfs n e) w K Q := by
  refine oApp ht hi hzv (by decide) hs hx hO.1 hb rfl rfl hm hm2 hB fun A2 c2 w' hO' hF hF2 hnew => ?_
  have hk := hF2 (notIn A) fun _ h => h
  have key : Beside A A2 w w' := by
    intro S A3 n3 c3 l3 M hS h
    have h4 := (h.sub (S' := fun b => (notIn A b ∧ b < w.heap.size) ∧ S b) fun b hb hs => ⟨⟨hS b hb hs, hb⟩, hs⟩).frmB hk fun b _ hs hn => hn hs.1.1
    refine h4.sub fun b _ hb => ⟨fun a ha => ?_, hb.2⟩
    rcases hnew a ha with h5 | h5
    · exact hb.1.1 a h5
    · have := hb.1.2; omega
  refine kk A2 c2 w' ⟨by rw [cellsF_append]; exact hO', fun f hf => ?_⟩ hF key
  rcases List.mem_append.1 hf with h5 | h5
  · exact (key _ _ _ _ _ _ (fun _ _ h => h.1) (hO.2 f h5)).sub fun _ _ h => ⟨h.1, h.2.2⟩
  · simp at h5; subst h5; exact (key _ _ _ _ _ _ (fun _ _ h => h.1) (hp.sub hS)).sub fun _ _ h => ⟨h.1, h.2.2⟩
end
end Go.Gx
namespace Go.Gx
/-- What the decomposition's factors are. -/
structure DecE (p : QP) (f : FE) : Prop where
  n : Nrm (zs f.l)
  d : 2 ≤ f.n
  k1 : 1 ≤ f.k ∧ f.k ≤ 10
  ln : f.n ≤ 11
  hn : f.l.length = f.n
  v : ∀ π, Irr π → va π (P (zs f.l)) = if (va π p : Int) = f.k then 1 else 0
structure DecOf (p : QP) (k : Nat) (fs : List FE) : Prop where
  e : ∀ f ∈ fs, DecE p f
  lt : ∀ f ∈ fs, f.k < k
  asc : fs.Pairwise fun a b => a.k < b.k
  all : ∀ π, Irr π → 1 ≤ va π p → va π p < k → ∃ f ∈ fs, f.k = (va π p : Int)
theorem DecOf.nil {p : QP} : DecOf p 1 [] := ⟨by simp, by simp, List.Pairwise.nil, fun π hπ h1 h2 => by omega⟩
theorem DecOf.skip {p g : QP} {k : Nat} {fs : List FE} (h : DecOf p k fs) (hg : dg g ≤ 1) (g0 : g ≠ 0) (vg : ∀ π, Irr π → va π g = if va π p = k then 1 else 0) : DecOf p (k + 1) fs := by
  refine ⟨h.e, fun f hf => by have := h.lt f hf; omega, h.asc, fun π hπ h1 h2 => ?_⟩
  by_cases hk : va π p = k
  · have h3 := vg π hπ
    rw [if_pos hk] at h3
    have := va_dg hπ g0
    omega
  · exact h.all π hπ h1 (by omega)
theorem DecOf.more {p : QP} {k : Nat} {fs : List FE} {f : FE} (h : DecOf p k fs) (hf : DecE p f) (hk : f.k = (k : Int)) : DecOf p (k + 1) (fs ++ [f]) := by
  refine ⟨fun x hx => ?_, fun x hx => ?_, ?_, fun π hπ h1 h2 => ?_⟩
  · rcases List.mem_append.1 hx with h3 | h3
    · exact h.e x h3
    · simp at h3; subst h3; exact hf
  · rcases List.mem_append.1 hx with h3 | h3
    · have := h.lt x h3; omega
    · simp at h3; subst h3; omega
  · refine List.pairwise_append.2 ⟨h.asc, List.pairwise_singleton _ _, fun a ha b hb => ?_⟩
    simp at hb; subst hb; rw [hk]; exact h.lt a ha
  · by_cases h3 : va π p = k
    · exact ⟨f, by simp, by rw [hk, h3]⟩
    · obtain ⟨x, hx, e⟩ := h.all π hπ h1 (by omega)
      exact ⟨x, List.mem_append_left _ hx, e⟩
/-- The product of the powers. -/
noncomputable def prodQ : List FE → QP
  | [] => 1
  | f :: fs => P (zs f.l) ^ f.k.toNat * prodQ fs
theorem prodQ_snoc (fs : List FE) (f : FE) : prodQ (fs ++ [f]) = prodQ fs * P (zs f.l) ^ f.k.toNat := by
  induction fs with
  | nil => simp only [List.nil_append, prodQ]; rw [qmul_one, one_qmul]
  | cons a fs ih => simp only [List.cons_append, prodQ]; rw [ih, qmul_assoc]
theorem prod_nrm : ∀ fs : List FE, (∀ f ∈ fs, Nrm (zs f.l)) → ∃ b, Nrm b ∧ P b = prodQ fs
  | [], _ => ⟨[1], Nrm.one, QP.eq fun x => by simp only [prodQ, v_P, v_1, evQ]; rw [one_cast]; grind⟩
  | f :: fs, h => by
    obtain ⟨b, hb, e⟩ := prod_nrm fs fun x hx => h x (by simp [hx])
    obtain ⟨a, ha, e'⟩ := (h f (by simp)).pow f.k.toNat
    exact ⟨trimZ (pmul a b), ha.mul hb, by rw [P_trim, P_mul, e, e']; rfl⟩
theorem va_prod {p π : QP} (hπ : Irr π) : ∀ fs : List FE, (∀ f ∈ fs, DecE p f) → fs.Pairwise (fun a b => a.k < b.k) → ((∃ f ∈ fs, f.k = (va π p : Int)) → va π (prodQ fs) = va π p) ∧ ((∀ f ∈ fs, f.k ≠ (va π p : Int)) → va π (prodQ fs) = 0)
  | [], _, _ => ⟨fun ⟨f, hf, _⟩ => absurd hf (by simp), fun _ => va_K hπ (by decide)⟩
  | f :: fs, h, ha => by
    have ⟨ih1, ih2⟩ := va_prod hπ fs (fun x hx => h x (by simp [hx])) (List.pairwise_cons.1 ha).2
    have hf := h f (by simp)
    obtain ⟨b, hb, e⟩ := prod_nrm fs fun x hx => (h x (by simp [hx])).n
    have hm : va π (prodQ (f :: fs)) = f.k.toNat * va π (P (zs f.l)) + va π (prodQ fs) := by
      show va π (P (zs f.l) ^ f.k.toNat * prodQ fs) = _
      rw [va_mul hπ (qp_pow_ne hf.n.ne _) (by rw [← e]; exact hb.ne), va_pow hπ hf.n.ne]
    have hv := hf.v π hπ
    constructor
    · rintro ⟨x, hx, ex⟩
      rcases List.mem_cons.1 hx with h1 | h1
      · subst h1
        rw [if_pos ex.symm] at hv
        rw [hm, hv, ih2 fun y hy => by have := (List.pairwise_cons.1 ha).1 y hy; omega]
        omega
      · have : f.k ≠ (va π p : Int) := by have := (List.pairwise_cons.1 ha).1 x h1; omega
        rw [if_neg (fun e' => this e'.symm)] at hv
        rw [hm, hv, ih1 ⟨x, h1, ex⟩]; omega
    · intro hn
      rw [if_neg (fun e' => hn f (by simp) e'.symm)] at hv
      rw [hm, hv, ih2 fun y hy => hn y (by simp [hy])]; omega
/-- The product is the polynomial. -/
theorem DecOf.prod {p : List Int} {k : Nat} {fs : List FE} (h : DecOf (P p) k fs) (hp : Nrm p) (hd : ∀ π, Irr π → va π (P p) < k) : prodQ fs = P p := by
  obtain ⟨b, hb, e⟩ := prod_nrm fs fun x hx => (h.e x hx).n
  have : b = p := hb.eq_va hp fun π hπ => by
    have ⟨h1, h2⟩ := va_prod hπ fs h.e h.asc
    rw [e]
    rcases Nat.eq_zero_or_pos (va π (P p)) with h0 | h0
    · rw [h2 fun f hf => by have := (h.e f hf).k1; omega, h0]
    · exact h1 (h.all π hπ h0 (hd π hπ))
  rw [← e, this]
/-- Factors are square-free, and coprime to each other. -/
theorem DecE.sqf {p : QP} {f : FE} (h : DecE p f) : InI (P (zs f.l)) (der (P (zs f.l))) 1 := (sqf_iff h.n.ne).2 fun π hπ => by rw [h.v π hπ]; split <;> omega
theorem DecE.cop {p : QP} {f g : FE} (h : DecE p f) (h' : DecE p g) (hk : f.k ≠ g.k) : InI (P (zs f.l)) (P (zs g.l)) 1 := cop_iff.2 fun π hπ h1 h2 => by
  have a := (va_pos hπ h.n.ne).1 h1
  have b := (va_pos hπ h'.n.ne).1 h2
  rw [h.v π hπ] at a
  rw [h'.v π hπ] at b
  by_cases x : (va π p : Int) = f.k
  · by_cases y : (va π p : Int) = g.k
    · omega
    · rw [if_neg y] at b; omega
  · rw [if_neg x] at a; omega
/-- What a decomposition returns. -/
def Dec (F : List Int) (u : Int) (fs : List FE) : Prop := (P F = 0 ∧ u = 0 ∧ fs = []) ∨ (P F ≠ 0 ∧ u = primC F ∧ (∃ k, DecOf (P (primP F)) k fs) ∧ prodQ fs = P (primP F))
theorem Dec.law {F R : List Int} {u : Int} {fs : List FE} (h : Dec F u fs) (hR : P R = K u * prodQ fs) : P R = P F := by
  rcases h with ⟨h1, h2, h3⟩ | ⟨h1, h2, _, h4⟩
  · rw [hR, h1, h2, zero_cast]; exact QP.eq fun x => by simp only [v_mul, v_K, v_0]; grind
  · rw [hR, h2, h4, ← P_prim]
theorem Dec.each {F : List Int} {u : Int} {fs : List FE} (h : Dec F u fs) : ∃ p k, DecOf p k fs := by
  rcases h with ⟨_, _, h3⟩ | ⟨_, _, ⟨k, h⟩, _⟩
  · exact ⟨1, 1, by rw [h3]; exact DecOf.nil⟩
  · exact ⟨_, k, h⟩
theorem primC_le (F : List Int) : (primC F).natAbs ≤ nrm F := by
  rw [primC_abs]
  by_cases h : ldP F = 0
  · have := ld_zero h
    rw [← contP_trim, this]; simp [contP]
  · obtain ⟨d, hd⟩ := ld_len h
    have ⟨h1, _, h3⟩ := ld_deg hd
    have h4 := dvd_cont F d
    rw [h1] at h4
    have h5 := Nat.le_of_dvd (by omega) (Int.ofNat_dvd_left.1 h4)
    have h6 := nrm_co F d
    rw [h1] at h6
    omega
theorem dg_rest_U {p rest other U : QP} {k : Nat} (h : Yun p k rest other U) (h2 : 2 ≤ dg rest) : 2 ≤ dg U := by
  obtain ⟨π, hπ, hd⟩ := irr_factor h2
  have h1 := (va_pos hπ h.r0).1 hd
  have h3 := va_dg hπ h.u0
  rw [h.vr π hπ] at h1
  rw [h.vu π hπ] at h3
  have : k ≤ va π p := by apply Classical.byContradiction; intro hn; rw [if_neg hn] at h1; omega
  omega
theorem mul_tlen {f : List Int} {n : Nat} (h : trimZ f = f) (hl : f.length = n) : dg (P f) = n := by rw [dg_P, h, hl]
theorem dec_new {p rest other U : QP} {k : Nat} {A : Option Addr} {n c : Nat} {l : List RI} (h : Yun p k rest other U) (hg : GcdQ rest other (P (zs l))) (hn : Nrm (zs l)) (hl : l.length = n) (hd : 2 ≤ n) (hn11 : n ≤ 11) (hk : 1 ≤ k) (hk10 : k ≤ 10) : DecE p ⟨A, n, c, l, (k : Int)⟩ := by
  refine ⟨hn, hd, ⟨by show (1 : Int) ≤ (k : Int); omega, by show (k : Int) ≤ 10; omega⟩, hn11, hl, fun π hπ => ?_⟩
  have := (h.gcd hg).2 π hπ
  show va π (P (zs l)) = if (va π p : Int) = (k : Int) then 1 else 0
  rw [this]
  by_cases e : va π p = k
  · rw [if_pos e, if_pos (by omega)]
  · rw [if_neg e, if_neg (by omega)]
theorem dec_ex {B n1 : Nat} {rest : QP} {o g : List Int} (h : dg (P o) ≤ dg rest - 1) (h1 : dg rest = n1) (hn : n1 ≤ 11) : exM B 17 ((trimZ o).length - ((trimZ g).length - 1)) ≤ B + 31 * (n1 - 1) + 2 := by
  rw [dg_P] at h
  have h2 := exM_64 (M := B) (G := 17) (K := (trimZ o).length - ((trimZ g).length - 1)) (L := n1 - 1) (by omega)
  have : (n1 - 1) * (17 + 14) = 31 * (n1 - 1) := Nat.mul_comm _ _
  omega
end Go.Gx
