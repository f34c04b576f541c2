/-
  Walks of package cylinderref01: bits.
-/
import Derived.Test.YtppegjbdencefaaFacts
import Derived.Test.YtppegjbdencefaaRefPreds
namespace Go.Proofs.Ytppegjbdencefaa
open Go.RowKit Go.Gx
theorem ref01_Trim {w : World} {Sa : Nat → Prop} {Aa : Option Addr} {na ca : Nat} {da : List Nat} (ha : DigR 2 w Sa Aa na ca da)  : Calls Try.prog 74 #[(.slice Aa na ca)] w (Ret fun v w' => ∃ (Ar : Option Addr) (nr : Nat) (cr : Nat) (dr : List Nat), v = (.slice Ar nr cr) ∧ Ext w w' ∧ DigR 2 w' (Sa) Ar nr cr dr ∧ (dr = trimN da) ∧ (nr ≤ na)) := by
  have la := ha.len; have ka := ha.cap; have ma := ha.max
  replace ha := ha.sub (S' := fun b => Sa b ∧ b < w.heap.size) fun _ hb hs => ⟨hs, hb⟩
  refine enter Try.func74 rfl Try.ntmps74 rfl ?_
  refine wp_seq_k fun K1 hK1 => ?_
  refine wp_region_lit ?_
  refine sEv (v := (.slice none 0 0)) (rfl) rfl rfl ?_
  refine sDone ?_
  refine xN (hK1 _ _ ?_)
  refine wp_seq_k fun K2 hK2 => ?_
  refine wp_region_lit ?_
  refine sEv (v := (.slice Aa na ca)) (rfl) rfl rfl ?_
  refine sEv (v := (.int .i64 ((na : Int)))) (evLen Try.underlying29 rfl) rfl rfl ?_
  refine sEv (v := (.int .i64 ((na : Int)))) (rfl) rfl rfl ?_
  refine sDone ?_
  refine xN (hK2 _ _ ?_)
  refine wp_seq_k fun K3 hK3 => ?_
  refine wp_block ?_
  refine lLoop (fun m e w_ => ∃ (k : Nat), m = k ∧ e 0 = (.slice Aa na ca) ∧ e 3 = (.int .i64 ((k : Int))) ∧ Frm (fun b => False) w w_ ∧ (k ≤ na) ∧ (∀ j, k ≤ j → da.getD j 0 = 0)) ((na)) ?_ ?_
  · refine ⟨(na), rfl, rfl, (congrArg (Value.int .i64) (by omega)), (Frm.refl _ _), ?_, ?_⟩
    · omega
    · exact getD_ge (by omega)
  · rintro m4 e10 w5 ⟨k, hm9, hs6, hs7, hF8, hk, hz⟩
    obtain ⟨r11, rfl⟩ := sq (e := e10) (t := 0) hs6
    obtain ⟨r12, rfl⟩ := sq (e := r11) (t := 3) hs7
    have hz13 := hF8.size
    refine wp_seq_k fun K14 hK14 => ?_
    refine wp_seq_k fun K15 hK15 => ?_
    refine wp_region_lit ?_
    refine sEv (v := (.int .i64 ((k : Int)))) (rfl) rfl rfl ?_
    by_cases hc16 : ((k : Int)) > 0
    · refine sEv (v := (.bool true)) (evGtr true rfl rfl (dT hc16)) rfl rfl ?_
      refine sEv (v := (.bool true)) (rfl) rfl rfl ?_
      refine sEv (v := (.slice Aa na ca)) (rfl) rfl rfl ?_
      refine sEv (v := (.int .i64 ((k : Int)))) (rfl) rfl rfl ?_
      refine sEv (v := (.int .i64 (((k : Int)) - 1))) (evSub (((k : Int)) - 1) rfl rfl (wI64 (by omega))) rfl rfl ?_
      have h17 := (ha.ext hF8)
      obtain ⟨b18, o19, rfl⟩ := h17.base (by omega)
      refine sEv (v := (.pointer (some ⟨b18, o19 + (k - 1), none⟩))) (evIndex (k - 1) Try.underlying29 sz3 rfl rfl (by omega) (by omega) (o19 + (k - 1)) (by omega)) rfl rfl ?_
      have hd20 := h17.lt (k - 1)
      refine sEv (v := (.int .i64 (((da.getD (k - 1) 0 : Nat) : Int)))) (evLoad one3 rfl (h17.cell (by omega))) rfl rfl ?_
      by_cases hc21 : (((da.getD (k - 1) 0 : Nat) : Int)) = 0
      · refine sEv (v := (.bool true)) (evEql true rfl rfl (dT hc21)) rfl rfl ?_
        refine sEv (v := (.bool true)) (rfl) rfl rfl ?_
        refine sDone ?_
        refine xN (hK15 _ _ ?_)
        refine cT rfl ?_
        refine wp_skip ?_
        refine xN (hK14 _ _ ?_)
        refine wp_block ?_
        refine wp_region_lit ?_
        refine sEv (v := (.int .i64 ((k : Int)))) (rfl) rfl rfl ?_
        refine sEv (v := (.int .i64 (((k : Int)) - 1))) (evSub (((k : Int)) - 1) rfl rfl (wI64 (by omega))) rfl rfl ?_
        refine sEv (v := (.int .i64 (((k : Int)) - 1))) (rfl) rfl rfl ?_
        refine sDone ?_
        refine bN ?_
        refine again ((k - 1)) (by omega) ⟨(k - 1), rfl, rfl, (congrArg (Value.int .i64) (by omega)), hF8, ?_, ?_⟩
        · omega
        · exact zeros_down hz (by omega)
      · refine sEv (v := (.bool false)) (evEql false rfl rfl (dF hc21)) rfl rfl ?_
        refine sEv (v := (.bool false)) (rfl) rfl rfl ?_
        refine sDone ?_
        refine xN (hK15 _ _ ?_)
        refine cF rfl ?_
        refine wp_exit (xE (xE (bE ?_)))
        refine xN (hK3 _ _ ?_)
        refine wp_seq_k fun K22 hK22 => ?_
        refine wp_region_lit ?_
        refine sEv (v := (.slice (some ⟨b18, o19, none⟩) na ca)) (rfl) rfl rfl ?_
        refine sEv (v := (.int .i64 ((k : Int)))) (rfl) rfl rfl ?_
        have h23 := h17.take (m := k) (by omega)
        refine sEv (v := (.slice (some ⟨b18, o19, none⟩) k ca)) (evSliceHi k Try.underlying29 sz3 rfl rfl (by omega) (by omega)) rfl rfl ?_
        refine sEv (v := (.slice (some ⟨b18, o19, none⟩) k ca)) (rfl) rfl rfl ?_
        refine sDone ?_
        refine xN (hK22 _ _ ?_)
        refine wp_ret ?_
        refine ret1 (.slice (some ⟨b18, o19, none⟩) k ca) Try.results74 (resT rfl) ?_
        exact ⟨(some ⟨b18, o19, none⟩), k, ca, ((da).take k), rfl, hF8, (DigR.sub h23 fun _ _ h => h.1), (trimN_of (by omega) hz (by omega)), (by omega)⟩
    · refine sEv (v := (.bool false)) (evGtr false rfl rfl (dF hc16)) rfl rfl ?_
      refine sEv (v := (.bool false)) (rfl) rfl rfl ?_
      refine sSkip rfl rfl ?_
      refine sSkip rfl rfl ?_
      refine sSkip rfl rfl ?_
      refine sSkip rfl rfl ?_
      refine sSkip rfl rfl ?_
      refine sSkip rfl rfl ?_
      refine sEv (v := (.bool false)) (rfl) rfl rfl ?_
      refine sDone ?_
      refine xN (hK15 _ _ ?_)
      refine cF rfl ?_
      refine wp_exit (xE (xE (bE ?_)))
      refine xN (hK3 _ _ ?_)
      refine wp_seq_k fun K25 hK25 => ?_
      refine wp_region_lit ?_
      refine sEv (v := (.slice Aa na ca)) (rfl) rfl rfl ?_
      refine sEv (v := (.int .i64 ((k : Int)))) (rfl) rfl rfl ?_
      have h26 := (ha.ext hF8)
      have h27 := h26.take (m := k) (by omega)
      refine sEv (v := (.slice Aa k ca)) (evSliceHi k Try.underlying29 sz3 rfl rfl (by omega) (by omega)) rfl rfl ?_
      refine sEv (v := (.slice Aa k ca)) (rfl) rfl rfl ?_
      refine sDone ?_
      refine xN (hK25 _ _ ?_)
      refine wp_ret ?_
      refine ret1 (.slice Aa k ca) Try.results74 (resT rfl) ?_
      exact ⟨Aa, k, ca, ((da).take k), rfl, hF8, (DigR.sub h27 fun _ _ h => h.1), (trimN_of (by omega) hz (by omega)), (by omega)⟩

theorem ref01_bit {w : World} {Sa : Nat → Prop} {Aa : Option Addr} {na ca : Nat} {da : List Nat} {xi : Nat} (ha : DigR 2 w Sa Aa na ca da) (bi : xi ≤ 9223372036854775807)  : Calls Try.prog 98 #[(.slice Aa na ca), (.int .i64 ((xi : Int)))] w (Ret fun v w' => ∃ (xr : Nat), v = (.int .i64 ((xr : Int))) ∧ Ext w w' ∧ xr ≤ 9223372036854775807 ∧ (xr = da.getD xi 0) ∧ (xr ≤ 1)) := by
  have la := ha.len; have ka := ha.cap; have ma := ha.max
  replace ha := ha.low
  refine enter Try.func98 rfl Try.ntmps98 rfl ?_
  refine wp_seq_k fun K1 hK1 => ?_
  refine wp_region_lit ?_
  refine sEv (v := (.int .i64 (0))) (rfl) rfl rfl ?_
  refine sDone ?_
  refine xN (hK1 _ _ ?_)
  refine wp_seq_k fun K2 hK2 => ?_
  refine wp_seq_k fun K3 hK3 => ?_
  refine wp_region_lit ?_
  refine sEv (v := (.int .i64 ((xi : Int)))) (rfl) rfl rfl ?_
  refine sEv (v := (.slice Aa na ca)) (rfl) rfl rfl ?_
  refine sEv (v := (.int .i64 ((na : Int)))) (evLen Try.underlying29 rfl) rfl rfl ?_
  by_cases hc4 : ((xi : Int)) < ((na : Int))
  · refine sEv (v := (.bool true)) (evLss true rfl rfl (dT hc4)) rfl rfl ?_
    refine sDone ?_
    refine xN (hK3 _ _ ?_)
    refine cT rfl ?_
    refine wp_seq_k fun K5 hK5 => ?_
    refine wp_region_lit ?_
    refine sEv (v := (.slice Aa na ca)) (rfl) rfl rfl ?_
    refine sEv (v := (.int .i64 ((xi : Int)))) (rfl) rfl rfl ?_
    obtain ⟨b6, o7, rfl⟩ := ha.base (by omega)
    refine sEv (v := (.pointer (some ⟨b6, o7 + xi, none⟩))) (evIndex xi Try.underlying29 sz3 rfl rfl (by omega) (by omega) (o7 + xi) (by omega)) rfl rfl ?_
    have hd8 := ha.lt xi
    refine sEv (v := (.int .i64 (((da.getD xi 0 : Nat) : Int)))) (evLoad one3 rfl (ha.cell (by omega))) rfl rfl ?_
    refine sEv (v := (.int .i64 (((da.getD xi 0 : Nat) : Int)))) (rfl) rfl rfl ?_
    refine sDone ?_
    refine xN (hK5 _ _ ?_)
    refine wp_ret (xR ?_)
    refine ret1 (.int .i64 (((da.getD xi 0 : Nat) : Int))) Try.results98 (resT rfl) ?_
    exact ⟨(da.getD xi 0), rfl, (Frm.refl _ _), (by omega), rfl, (by omega)⟩
  · refine sEv (v := (.bool false)) (evLss false rfl rfl (dF hc4)) rfl rfl ?_
    refine sDone ?_
    refine xN (hK3 _ _ ?_)
    refine cF rfl ?_
    refine wp_skip ?_
    refine xN (hK2 _ _ ?_)
    refine wp_seq_k fun K9 hK9 => ?_
    refine wp_region_lit ?_
    refine sEv (v := (.int .i64 (0))) (rfl) rfl rfl ?_
    refine sDone ?_
    refine xN (hK9 _ _ ?_)
    refine wp_ret ?_
    refine ret1 (.int .i64 (0)) Try.results98 (resT rfl) ?_
    exact ⟨(0), rfl, (Frm.refl _ _), (by omega), (getD_ge (n := na) (by omega) _ (by omega)).symm, (by omega)⟩

theorem ref01_Of {w : World} {Sa : Nat → Prop} {Aa : Option Addr} {na ca : Nat} {da : List Nat} (ha : NatR w Sa Aa na ca da) (hna : na ≤ 17179869184) : Calls Try.prog 95 #[(.slice Aa na ca)] w (Ret fun v w' => ∃ (Ar : Option Addr) (nr : Nat) (cr : Nat) (dr : List Nat), v = (.slice Ar nr cr) ∧ Ext w w' ∧ DigR 2 w' (fun b => w.heap.size ≤ b) Ar nr cr dr ∧ (vb 2 dr = val da) ∧ (Canon isZ dr) ∧ (nr ≤ 32 * na)) := by
  have la := ha.len; have ka := ha.cap; have ma := ha.max
  replace ha := ha.low
  refine enter Try.func95 rfl Try.ntmps95 rfl ?_
  refine wp_seq_k fun K1 hK1 => ?_
  refine wp_region_lit ?_
  refine sEv (v := (.slice none 0 0)) (rfl) rfl rfl ?_
  refine sDone ?_
  refine xN (hK1 _ _ ?_)
  refine wp_seq_k fun K2 hK2 => ?_
  refine wp_region_lit ?_
  refine sEv (v := (.slice none 0 0)) (rfl) rfl rfl ?_
  refine sDone ?_
  refine xN (hK2 _ _ ?_)
  refine wp_seq_k fun K3 hK3 => ?_
  refine wp_seq_k fun K4 hK4 => ?_
  refine wp_region_lit ?_
  refine sEv (v := (.int .i64 (0))) (rfl) rfl rfl ?_
  refine sDone ?_
  refine xN (hK4 _ _ ?_)
  refine wp_block ?_
  refine lLoop (fun m e w_ => ∃ (k : Nat) (P : List Nat) (Ao : Option Addr) (co : Nat), m = 32 * na - k ∧ e 0 = (.slice Aa na ca) ∧ e 3 = (.slice Ao k co) ∧ e 4 = (.int .i64 ((k : Int))) ∧ Frm (fun b => w.heap.size ≤ b) w w_ ∧ (k ≤ 32 * na) ∧ (P.length = k) ∧ (∀ d ∈ P, d < 2) ∧ (vb 2 P = val da % 2 ^ k) ∧ (Own w_ w.heap.size 3 1 Ao k co (P.map i64n))) (32 * na - (0)) ?_ ?_
  · refine ⟨(0), ([]), (none), (0), rfl, rfl, rfl, (congrArg (Value.int .i64) (by omega)), (Frm.refl _ _), ?_, ?_, ?_, ?_, ?_⟩
    · omega
    · rfl
    · simp
    · simp [vb, Nat.mod_one]
    · exact Own.nil
  · rintro m5 e12 w6 ⟨k, P, Ao, co, hm11, hs7, hs8, hs9, hF10, hk, hP, hlt, hv, hO⟩
    obtain ⟨r13, rfl⟩ := sq (e := e12) (t := 0) hs7
    obtain ⟨r14, rfl⟩ := sq (e := r13) (t := 3) hs8
    obtain ⟨r15, rfl⟩ := sq (e := r14) (t := 4) hs9
    have hz16 := hF10.size
    refine wp_seq_k fun K17 hK17 => ?_
    refine wp_seq_k fun K18 hK18 => ?_
    refine wp_region_lit ?_
    refine sEv (v := (.int .i64 ((k : Int)))) (rfl) rfl rfl ?_
    refine sEv (v := (.slice Aa na ca)) (rfl) rfl rfl ?_
    refine sEv (v := (.int .i64 ((na : Int)))) (evLen Try.underlying43 rfl) rfl rfl ?_
    refine sEv (v := (.int .i64 (32 * ((na : Int))))) (evMul (32 * ((na : Int))) rfl rfl (wI64 (by omega))) rfl rfl ?_
    by_cases hc19 : ((k : Int)) < (32 * ((na : Int)))
    · refine sEv (v := (.bool true)) (evLss true rfl rfl (dT hc19)) rfl rfl ?_
      refine sDone ?_
      refine xN (hK18 _ _ ?_)
      refine cT rfl ?_
      refine wp_skip ?_
      refine xN (hK17 _ _ ?_)
      refine wp_seq_k fun K20 hK20 => ?_
      refine wp_block ?_
      refine wp_region_lit ?_
      refine sEv (v := (.slice Ao k co)) (rfl) rfl rfl ?_
      refine sEv (v := (.slice Aa na ca)) (rfl) rfl rfl ?_
      refine sEv (v := (.int .i64 ((k : Int)))) (rfl) rfl rfl ?_
      refine sEv (v := (.int .i64 (((k / 32 : Nat) : Int)))) (evQuo (((k / 32 : Nat) : Int)) rfl rfl (by omega) (quoEi64 (by omega) (by omega) (by omega))) rfl rfl ?_
      have h21 := (ha.frmB hF10 q3)
      obtain ⟨b22, o23, rfl⟩ := h21.base (by omega)
      refine sEv (v := (.pointer (some ⟨b22, o23 + (k / 32), none⟩))) (evIndex (k / 32) Try.underlying43 sz62 rfl rfl (by omega) (by omega) (o23 + (k / 32)) (by omega)) rfl rfl ?_
      have hd24 := h21.lt (k / 32)
      refine sEv (v := (.int .u32 (((da.getD (k / 32) 0 : Nat) : Int)))) (evLoad one62 rfl (h21.cell (by omega))) rfl rfl ?_
      refine sEv (v := (.int .i64 ((k : Int)))) (rfl) rfl rfl ?_
      refine sEv (v := (.int .i64 (((k % 32 : Nat) : Int)))) (evRem (((k % 32 : Nat) : Int)) rfl rfl (by omega) (remE (by omega) (by omega))) rfl rfl ?_
      refine sEv (v := (.int .u64 (((k % 32 : Nat) : Int)))) (evConv _ Try.underlying3 Try.underlying90 rfl (wU64 (by omega))) rfl rfl ?_
      refine sEv (v := (.int .u32 ((((da.getD (k / 32) 0) / 2 ^ (k % 32) : Nat) : Int)))) (evShr ((((da.getD (k / 32) 0) / 2 ^ (k % 32) : Nat) : Int)) rfl rfl (by omega) (shrE (x := da.getD (k / 32) 0) (s := k % 32) (by omega) (by omega) (by show _ ≤ 32; omega))) rfl rfl ?_
      refine sEv (v := (.int .u32 (((((da.getD (k / 32) 0) / 2 ^ (k % 32)) % 2 : Nat) : Int)))) (evRem (((((da.getD (k / 32) 0) / 2 ^ (k % 32)) % 2 : Nat) : Int)) rfl rfl (by omega) (remE (by omega) (by omega))) rfl rfl ?_
      refine sEv (v := (.int .i64 (((((da.getD (k / 32) 0) / 2 ^ (k % 32)) % 2 : Nat) : Int)))) (evConv _ Try.underlying62 Try.underlying3 rfl (wI64 (by omega))) rfl rfl ?_
      refine sOp rfl (oBuildSlice [(.int .i64 (((((da.getD (k / 32) 0) / 2 ^ (k % 32)) % 2 : Nat) : Int)))] [[(.int .i64 (((((da.getD (k / 32) 0) / 2 ^ (k % 32)) % 2 : Nat) : Int)))]] Try.underlying29 inf3 rfl rfl rfl rfl rfl ?_)
      intro g25 w26 hg27 hE28 hz29 hB30
      replace hB30 : Blk w26 g25 3 [(.int .i64 (((((da.getD (k / 32) 0) / 2 ^ (k % 32)) % 2 : Nat) : Int)))] := hB30
      have hO31 := (hO.ext hE28)
      refine sOp rfl (oApp (B := w.heap.size) (cs := (P).map i64n) Try.underlying29 inf3 rfl (by decide) rfl rfl hO31 hB30 rfl rfl (by omega) (by omega) (by omega) ?_)
      intro A32 c33 w34 hO35 hF36 _ _
      replace hO35 : Own w34 w.heap.size 3 1 A32 (k + 1) c33 ((P ++ [((da.getD (k / 32) 0) / 2 ^ (k % 32)) % 2]).map i64n) := by rw [List.map_append]; exact hO35
      refine sEv (v := (.slice A32 (k + 1) c33)) (rfl) rfl rfl ?_
      refine sDone ?_
      refine bN ?_
      refine xN (hK20 _ _ ?_)
      refine wp_region_lit ?_
      refine sEv (v := (.int .i64 ((k : Int)))) (rfl) rfl rfl ?_
      refine sEv (v := (.int .i64 (((k : Int)) + 1))) (evAdd (((k : Int)) + 1) rfl rfl (wI64 (by omega))) rfl rfl ?_
      refine sEv (v := (.int .i64 (((k : Int)) + 1))) (rfl) rfl rfl ?_
      refine sDone ?_
      refine again (32 * na - (k + 1)) (by omega) ⟨(k + 1), (P ++ [((da.getD (k / 32) 0) / 2 ^ (k % 32)) % 2]), (A32), (c33), rfl, rfl, rfl, (congrArg (Value.int .i64) (by omega)), ((hF10.trans (Frm.of_ext (G := fun b => (w.heap.size ≤ b)) hE28)).trans hF36), ?_, ?_, ?_, ?_, ?_⟩
      · omega
      · simp [hP]
      · exact vlt_snoc hlt (by omega)
      · exact bits_step hv hP (of_bit ha.2 k)
      · exact hO35
    · refine sEv (v := (.bool false)) (evLss false rfl rfl (dF hc19)) rfl rfl ?_
      refine sDone ?_
      refine xN (hK18 _ _ ?_)
      refine cF rfl ?_
      refine wp_exit (xE (xE (bE ?_)))
      refine xN (hK3 _ _ ?_)
      refine wp_seq_k fun K37 hK37 => ?_
      refine wp_region_lit ?_
      refine sEv (v := (.slice Ao k co)) (rfl) rfl rfl ?_
      refine sOp rfl (oCall rfl call74 (ref01_Trim (Own.digR hO hlt)) rfl ?_)
      rintro _ w39 ⟨Ar_38, nr_38, cr_38, dr_38, rfl, hE40, hr_38, e_38, le_38⟩
      have hz41 := hE40.size
      have lr_38 := hr_38.len; have kr_38 := hr_38.cap; have mr_38 := hr_38.max
      refine sEv (v := (.slice Ar_38 nr_38 cr_38)) (rfl) rfl rfl ?_
      refine sDone ?_
      refine xN (hK37 _ _ ?_)
      refine wp_ret ?_
      refine ret1 (.slice Ar_38 nr_38 cr_38) Try.results95 (resT rfl) ?_
      exact ⟨Ar_38, nr_38, cr_38, dr_38, rfl, (Frm.mono (hF10.trans (Frm.of_ext (G := fun b => (w.heap.size ≤ b)) hE40)) q4), (DigR.sub hr_38 q5), (by rw [e_38, vb_trim, hv, of_end ha.2 la (by omega)]), (by rw [e_38]; exact canon_trim _ _), (by omega)⟩

theorem ref01_Cmp {w : World} {Sa : Nat → Prop} {Aa : Option Addr} {na ca : Nat} {da : List Nat} {Sb : Nat → Prop} {Ab : Option Addr} {nb cb : Nat} {db : List Nat} (ha : DigR 2 w Sa Aa na ca da) (hb : DigR 2 w Sb Ab nb cb db) (hna : na ≤ 1099511627776) (hnb : nb ≤ 1099511627776) : Calls Try.prog 75 #[(.slice Aa na ca), (.slice Ab nb cb)] w (Ret fun v w' => ∃ (xr : Int), v = (.int .i64 (xr)) ∧ Ext w w' ∧ (xr = cmpN (vb 2 da) (vb 2 db))) := by
  have la := ha.len; have ka := ha.cap; have ma := ha.max
  replace ha := ha.low
  have lb := hb.len; have kb := hb.cap; have mb := hb.max
  replace hb := hb.low
  refine enter Try.func75 rfl Try.ntmps75 rfl ?_
  refine wp_seq_k fun K1 hK1 => ?_
  refine wp_region_lit ?_
  refine sEv (v := (.int .i64 (0))) (rfl) rfl rfl ?_
  refine sDone ?_
  refine xN (hK1 _ _ ?_)
  refine wp_seq_k fun K2 hK2 => ?_
  refine wp_seq_k fun K3 hK3 => ?_
  refine wp_region_lit ?_
  refine sEv (v := (.slice Aa na ca)) (rfl) rfl rfl ?_
  refine sEv (v := (.int .i64 ((na : Int)))) (evLen Try.underlying29 rfl) rfl rfl ?_
  refine sEv (v := (.slice Ab nb cb)) (rfl) rfl rfl ?_
  refine sEv (v := (.int .i64 ((nb : Int)))) (evLen Try.underlying29 rfl) rfl rfl ?_
  refine sEv (v := (.int .i64 (((max na nb : Nat) : Int)))) (evMax (((max na nb : Nat) : Int)) rfl rfl (maxN)) rfl rfl ?_
  refine sEv (v := (.int .i64 ((((max na nb : Nat) : Int)) - 1))) (evSub ((((max na nb : Nat) : Int)) - 1) rfl rfl (wI64 (by omega))) rfl rfl ?_
  refine sEv (v := (.int .i64 ((((max na nb : Nat) : Int)) - 1))) (rfl) rfl rfl ?_
  refine sDone ?_
  refine xN (hK3 _ _ ?_)
  refine wp_block ?_
  refine lLoop (fun m e w_ => ∃ (k : Nat), m = k ∧ e 0 = (.slice Aa na ca) ∧ e 1 = (.slice Ab nb cb) ∧ e 5 = (.int .i64 ((k : Int) - 1)) ∧ Frm (fun b => False) w w_ ∧ (k ≤ max na nb) ∧ (∀ j, k ≤ j → da.getD j 0 = db.getD j 0)) ((max na nb)) ?_ ?_
  · refine ⟨(max na nb), rfl, rfl, rfl, (congrArg (Value.int .i64) (by omega)), (Frm.refl _ _), ?_, ?_⟩
    · omega
    · exact eq_top (by omega) (by omega)
  · rintro m4 e11 w5 ⟨k, hm10, hs6, hs7, hs8, hF9, hk, heq⟩
    obtain ⟨r12, rfl⟩ := sq (e := e11) (t := 0) hs6
    obtain ⟨r13, rfl⟩ := sq (e := r12) (t := 1) hs7
    obtain ⟨r14, rfl⟩ := sq (e := r13) (t := 5) hs8
    have hz15 := hF9.size
    refine wp_seq_k fun K16 hK16 => ?_
    refine wp_seq_k fun K17 hK17 => ?_
    refine wp_region_lit ?_
    refine sEv (v := (.int .i64 ((k : Int) - 1))) (rfl) rfl rfl ?_
    by_cases hc18 : ((k : Int) - 1) ≥ 0
    · refine sEv (v := (.bool true)) (evGeq true rfl rfl (dT hc18)) rfl rfl ?_
      refine sDone ?_
      refine xN (hK17 _ _ ?_)
      refine cT rfl ?_
      refine wp_skip ?_
      refine xN (hK16 _ _ ?_)
      refine wp_seq_k fun K19 hK19 => ?_
      refine wp_block ?_
      refine wp_seq_k fun K20 hK20 => ?_
      refine wp_region_lit ?_
      refine sEv (v := (.slice Aa na ca)) (rfl) rfl rfl ?_
      refine sEv (v := (.int .i64 ((k : Int) - 1))) (rfl) rfl rfl ?_
      have h21 := (ha.ext hF9)
      refine sOp rfl (oCall rfl call98 (ref01_bit h21 (xi := k - 1) (by omega)) (by rw [show ((k : Int) - 1 : Int) = ((k - 1 : Nat) : Int) by omega]; rfl) ?_)
      rintro _ w23 ⟨xr_22, rfl, hE24, br_22, e_22, le_22⟩
      have hz25 := hE24.size
      refine sEv (v := (.slice Ab nb cb)) (rfl) rfl rfl ?_
      refine sEv (v := (.int .i64 ((k : Int) - 1))) (rfl) rfl rfl ?_
      have h26 := (hb.ext (hF9.trans hE24))
      refine sOp rfl (oCall rfl call98 (ref01_bit h26 (xi := k - 1) (by omega)) (by rw [show ((k : Int) - 1 : Int) = ((k - 1 : Nat) : Int) by omega]; rfl) ?_)
      rintro _ w28 ⟨xr_27, rfl, hE29, br_27, e_27, le_27⟩
      have hz30 := hE29.size
      by_cases hc31 : ((xr_22 : Int)) ≠ ((xr_27 : Int))
      · refine sEv (v := (.bool true)) (evNeq true rfl rfl (dT hc31)) rfl rfl ?_
        refine sDone ?_
        refine xN (hK20 _ _ ?_)
        refine cT rfl ?_
        refine wp_seq_k fun K32 hK32 => ?_
        refine wp_region_lit ?_
        refine sEv (v := (.slice Aa na ca)) (rfl) rfl rfl ?_
        refine sEv (v := (.int .i64 ((k : Int) - 1))) (rfl) rfl rfl ?_
        have h33 := (h21.ext (hE24.trans hE29))
        refine sOp rfl (oCall rfl call98 (ref01_bit h33 (xi := k - 1) (by omega)) (by rw [show ((k : Int) - 1 : Int) = ((k - 1 : Nat) : Int) by omega]; rfl) ?_)
        rintro _ w35 ⟨xr_34, rfl, hE36, br_34, e_34, le_34⟩
        have hz37 := hE36.size
        refine sEv (v := (.slice Ab nb cb)) (rfl) rfl rfl ?_
        refine sEv (v := (.int .i64 ((k : Int) - 1))) (rfl) rfl rfl ?_
        have h38 := (h26.ext (hE29.trans hE36))
        refine sOp rfl (oCall rfl call98 (ref01_bit h38 (xi := k - 1) (by omega)) (by rw [show ((k : Int) - 1 : Int) = ((k - 1 : Nat) : Int) by omega]; rfl) ?_)
        rintro _ w40 ⟨xr_39, rfl, hE41, br_39, e_39, le_39⟩
        have hz42 := hE41.size
        refine sEv (v := (.int .i64 (((xr_34 : Int)) - ((xr_39 : Int))))) (evSub (((xr_34 : Int)) - ((xr_39 : Int))) rfl rfl (wI64 (by omega))) rfl rfl ?_
        refine sEv (v := (.int .i64 (((xr_34 : Int)) - ((xr_39 : Int))))) (rfl) rfl rfl ?_
        refine sDone ?_
        refine xN (hK32 _ _ ?_)
        refine wp_ret (bR (xR (xR (bR (xR ?_)))))
        refine ret1 (.int .i64 (((xr_34 : Int)) - ((xr_39 : Int)))) Try.results75 (resT rfl) ?_
        exact ⟨(((xr_34 : Int)) - ((xr_39 : Int))), rfl, ((((hF9.trans hE24).trans hE29).trans hE36).trans hE41), (cmpv_lt ha.2 hb.2 heq (by omega) (by omega) _ (by omega))⟩
      · refine sEv (v := (.bool false)) (evNeq false rfl rfl (dF hc31)) rfl rfl ?_
        refine sDone ?_
        refine xN (hK20 _ _ ?_)
        refine cF rfl ?_
        refine wp_skip ?_
        refine bN ?_
        refine xN (hK19 _ _ ?_)
        refine wp_region_lit ?_
        refine sEv (v := (.int .i64 ((k : Int) - 1))) (rfl) rfl rfl ?_
        refine sEv (v := (.int .i64 (((k : Int) - 1) - 1))) (evSub (((k : Int) - 1) - 1) rfl rfl (wI64 (by omega))) rfl rfl ?_
        refine sEv (v := (.int .i64 (((k : Int) - 1) - 1))) (rfl) rfl rfl ?_
        refine sDone ?_
        refine again ((k - 1)) (by omega) ⟨(k - 1), rfl, rfl, rfl, (congrArg (Value.int .i64) (by omega)), ((hF9.trans hE24).trans hE29), ?_, ?_⟩
        · omega
        · exact eq_down heq (by omega)
    · refine sEv (v := (.bool false)) (evGeq false rfl rfl (dF hc18)) rfl rfl ?_
      refine sDone ?_
      refine xN (hK17 _ _ ?_)
      refine cF rfl ?_
      refine wp_exit (xE (xE (bE ?_)))
      refine xN (hK2 _ _ ?_)
      refine wp_seq_k fun K43 hK43 => ?_
      refine wp_region_lit ?_
      refine sEv (v := (.int .i64 (0))) (rfl) rfl rfl ?_
      refine sDone ?_
      refine xN (hK43 _ _ ?_)
      refine wp_ret ?_
      refine ret1 (.int .i64 (0)) Try.results75 (resT rfl) ?_
      exact ⟨(0), rfl, hF9, (vcmp_eq heq (by omega))⟩

theorem ref01_Add {w : World} {Sa : Nat → Prop} {Aa : Option Addr} {na ca : Nat} {da : List Nat} {Sb : Nat → Prop} {Ab : Option Addr} {nb cb : Nat} {db : List Nat} (ha : DigR 2 w Sa Aa na ca da) (hb : DigR 2 w Sb Ab nb cb db) (hna : na ≤ 1099511627776) (hnb : nb ≤ 1099511627776) : Calls Try.prog 100 #[(.slice Aa na ca), (.slice Ab nb cb)] w (Ret fun v w' => ∃ (Ar : Option Addr) (nr : Nat) (cr : Nat) (dr : List Nat), v = (.slice Ar nr cr) ∧ Ext w w' ∧ DigR 2 w' (fun b => w.heap.size ≤ b) Ar nr cr dr ∧ (vb 2 dr = vb 2 da + vb 2 db) ∧ (Canon isZ dr) ∧ (nr ≤ max na nb + 1)) := by
  have la := ha.len; have ka := ha.cap; have ma := ha.max
  replace ha := ha.low
  have lb := hb.len; have kb := hb.cap; have mb := hb.max
  replace hb := hb.low
  refine enter Try.func100 rfl Try.ntmps100 rfl ?_
  refine wp_seq_k fun K1 hK1 => ?_
  refine wp_region_lit ?_
  refine sEv (v := (.slice none 0 0)) (rfl) rfl rfl ?_
  refine sDone ?_
  refine xN (hK1 _ _ ?_)
  refine wp_seq_k fun K2 hK2 => ?_
  refine wp_region_lit ?_
  refine sEv (v := (.slice none 0 0)) (rfl) rfl rfl ?_
  refine sDone ?_
  refine xN (hK2 _ _ ?_)
  refine wp_seq_k fun K3 hK3 => ?_
  refine wp_region_lit ?_
  refine sEv (v := (.int .i64 (0))) (rfl) rfl rfl ?_
  refine sDone ?_
  refine xN (hK3 _ _ ?_)
  refine wp_seq_k fun K4 hK4 => ?_
  refine wp_seq_k fun K5 hK5 => ?_
  refine wp_region_lit ?_
  refine sEv (v := (.int .i64 (0))) (rfl) rfl rfl ?_
  refine sDone ?_
  refine xN (hK5 _ _ ?_)
  refine wp_block ?_
  refine lLoop (fun m e w_ => ∃ (k : Nat) (P : List Nat) (Ao : Option Addr) (co : Nat) (cy : Nat), m = max na nb + 1 - k ∧ e 0 = (.slice Aa na ca) ∧ e 1 = (.slice Ab nb cb) ∧ e 5 = (.slice Ao k co) ∧ e 6 = (.int .i64 ((cy : Int))) ∧ e 7 = (.int .i64 ((k : Int))) ∧ Frm (fun b => w.heap.size ≤ b) w w_ ∧ (k ≤ max na nb ∨ k = max na nb + 1 ∧ cy = 0) ∧ (P.length = k) ∧ (cy ≤ 1) ∧ (∀ d ∈ P, d < 2) ∧ (vb 2 P + 2 ^ k * cy = vb 2 (da.take k) + vb 2 (db.take k)) ∧ (Own w_ w.heap.size 3 1 Ao k co (P.map i64n))) (max na nb + 1 - (0)) ?_ ?_
  · refine ⟨(0), ([]), (none), (0), (0), rfl, rfl, rfl, rfl, (congrArg (Value.int .i64) (by omega)), (congrArg (Value.int .i64) (by omega)), (Frm.refl _ _), ?_, ?_, ?_, ?_, ?_, ?_⟩
    · omega
    · rfl
    · omega
    · simp
    · simp [vb]
    · exact Own.nil
  · rintro m6 e15 w7 ⟨k, P, Ao, co, cy, hm14, hs8, hs9, hs10, hs11, hs12, hF13, hk, hP, hcy, hlt, hv, hO⟩
    obtain ⟨r16, rfl⟩ := sq (e := e15) (t := 0) hs8
    obtain ⟨r17, rfl⟩ := sq (e := r16) (t := 1) hs9
    obtain ⟨r18, rfl⟩ := sq (e := r17) (t := 5) hs10
    obtain ⟨r19, rfl⟩ := sq (e := r18) (t := 6) hs11
    obtain ⟨r20, rfl⟩ := sq (e := r19) (t := 7) hs12
    have hz21 := hF13.size
    have hga := getD_ge (ds := da) (n := na) (by omega) k; have hgb := getD_ge (ds := db) (n := nb) (by omega) k
    refine wp_seq_k fun K22 hK22 => ?_
    refine wp_seq_k fun K23 hK23 => ?_
    refine wp_region_lit ?_
    refine sEv (v := (.int .i64 ((k : Int)))) (rfl) rfl rfl ?_
    refine sEv (v := (.slice Aa na ca)) (rfl) rfl rfl ?_
    refine sEv (v := (.int .i64 ((na : Int)))) (evLen Try.underlying29 rfl) rfl rfl ?_
    by_cases hc24 : ((k : Int)) < ((na : Int))
    · refine sEv (v := (.bool true)) (evLss true rfl rfl (dT hc24)) rfl rfl ?_
      refine sEv (v := (.bool true)) (rfl) rfl rfl ?_
      refine sSkip rfl rfl ?_
      refine sSkip rfl rfl ?_
      refine sSkip rfl rfl ?_
      refine sSkip rfl rfl ?_
      refine sEv (v := (.bool true)) (rfl) rfl rfl ?_
      refine sEv (v := (.bool true)) (rfl) rfl rfl ?_
      refine sSkip rfl rfl ?_
      refine sSkip rfl rfl ?_
      refine sEv (v := (.bool true)) (rfl) rfl rfl ?_
      refine sDone ?_
      refine xN (hK23 _ _ ?_)
      refine cT rfl ?_
      refine wp_skip ?_
      refine xN (hK22 _ _ ?_)
      refine wp_seq_k fun K25 hK25 => ?_
      refine wp_block ?_
      refine wp_seq_k fun K26 hK26 => ?_
      refine wp_region_lit ?_
      refine sEv (v := (.slice Aa na ca)) (rfl) rfl rfl ?_
      refine sEv (v := (.int .i64 ((k : Int)))) (rfl) rfl rfl ?_
      have h27 := (ha.frmB hF13 q3)
      refine sOp rfl (oCall rfl call98 (ref01_bit h27 (xi := k) (by omega)) rfl ?_)
      rintro _ w29 ⟨xr_28, rfl, hE30, br_28, e_28, le_28⟩
      have hz31 := hE30.size
      refine sEv (v := (.slice Ab nb cb)) (rfl) rfl rfl ?_
      refine sEv (v := (.int .i64 ((k : Int)))) (rfl) rfl rfl ?_
      have h32 := (hb.frmB (hF13.trans (Frm.of_ext (G := fun b => (w.heap.size ≤ b)) hE30)) q3)
      refine sOp rfl (oCall rfl call98 (ref01_bit h32 (xi := k) (by omega)) rfl ?_)
      rintro _ w34 ⟨xr_33, rfl, hE35, br_33, e_33, le_33⟩
      have hz36 := hE35.size
      refine sEv (v := (.int .i64 (((xr_28 : Int)) + ((xr_33 : Int))))) (evAdd (((xr_28 : Int)) + ((xr_33 : Int))) rfl rfl (wI64 (by omega))) rfl rfl ?_
      refine sEv (v := (.int .i64 ((cy : Int)))) (rfl) rfl rfl ?_
      refine sEv (v := (.int .i64 ((((xr_28 : Int)) + ((xr_33 : Int))) + ((cy : Int))))) (evAdd ((((xr_28 : Int)) + ((xr_33 : Int))) + ((cy : Int))) rfl rfl (wI64 (by omega))) rfl rfl ?_
      refine sEv (v := (.int .i64 ((((xr_28 : Int)) + ((xr_33 : Int))) + ((cy : Int))))) (rfl) rfl rfl ?_
      refine sDone ?_
      refine xN (hK26 _ _ ?_)
      refine wp_seq_k fun K37 hK37 => ?_
      refine wp_region_lit ?_
      refine sEv (v := (.slice Ao k co)) (rfl) rfl rfl ?_
      refine sEv (v := (.int .i64 ((((xr_28 : Int)) + ((xr_33 : Int))) + ((cy : Int))))) (rfl) rfl rfl ?_
      refine sEv (v := (.int .i64 (((((xr_28 + xr_33) + cy) % 2 : Nat) : Int)))) (evRem (((((xr_28 + xr_33) + cy) % 2 : Nat) : Int)) rfl rfl (by omega) (remE (by omega) (by omega))) rfl rfl ?_
      refine sOp rfl (oBuildSlice [(.int .i64 (((((xr_28 + xr_33) + cy) % 2 : Nat) : Int)))] [[(.int .i64 (((((xr_28 + xr_33) + cy) % 2 : Nat) : Int)))]] Try.underlying29 inf3 rfl rfl rfl rfl rfl ?_)
      intro g38 w39 hg40 hE41 hz42 hB43
      replace hB43 : Blk w39 g38 3 [(.int .i64 (((((xr_28 + xr_33) + cy) % 2 : Nat) : Int)))] := hB43
      have hO44 := (hO.ext ((hE30.trans hE35).trans hE41))
      refine sOp rfl (oApp (B := w.heap.size) (cs := (P).map i64n) Try.underlying29 inf3 rfl (by decide) rfl rfl hO44 hB43 rfl rfl (by omega) (by omega) (by omega) ?_)
      intro A45 c46 w47 hO48 hF49 _ _
      replace hO48 : Own w47 w.heap.size 3 1 A45 (k + 1) c46 ((P ++ [((xr_28 + xr_33) + cy) % 2]).map i64n) := by rw [List.map_append]; exact hO48
      refine sEv (v := (.slice A45 (k + 1) c46)) (rfl) rfl rfl ?_
      refine sDone ?_
      refine xN (hK37 _ _ ?_)
      refine wp_region_lit ?_
      refine sEv (v := (.int .i64 ((((xr_28 : Int)) + ((xr_33 : Int))) + ((cy : Int))))) (rfl) rfl rfl ?_
      refine sEv (v := (.int .i64 (((((xr_28 + xr_33) + cy) / 2 : Nat) : Int)))) (evQuo (((((xr_28 + xr_33) + cy) / 2 : Nat) : Int)) rfl rfl (by omega) (quoEi64 (by omega) (by omega) (by omega))) rfl rfl ?_
      refine sEv (v := (.int .i64 (((((xr_28 + xr_33) + cy) / 2 : Nat) : Int)))) (rfl) rfl rfl ?_
      refine sDone ?_
      refine bN ?_
      refine xN (hK25 _ _ ?_)
      refine wp_region_lit ?_
      refine sEv (v := (.int .i64 ((k : Int)))) (rfl) rfl rfl ?_
      refine sEv (v := (.int .i64 (((k : Int)) + 1))) (evAdd (((k : Int)) + 1) rfl rfl (wI64 (by omega))) rfl rfl ?_
      refine sEv (v := (.int .i64 (((k : Int)) + 1))) (rfl) rfl rfl ?_
      refine sDone ?_
      refine again (max na nb + 1 - (k + 1)) (by omega) ⟨(k + 1), (P ++ [((xr_28 + xr_33) + cy) % 2]), (A45), (c46), (((xr_28 + xr_33) + cy) / 2), rfl, rfl, rfl, rfl, (congrArg (Value.int .i64) (by omega)), (congrArg (Value.int .i64) (by omega)), ((((hF13.trans (Frm.of_ext (G := fun b => (w.heap.size ≤ b)) hE30)).trans (Frm.of_ext (G := fun b => (w.heap.size ≤ b)) hE35)).trans (Frm.of_ext (G := fun b => (w.heap.size ≤ b)) hE41)).trans hF49), ?_, ?_, ?_, ?_, ?_, ?_⟩
      · omega
      · simp [hP]
      · omega
      · exact vlt_snoc hlt (by omega)
      · exact vadd_step hv hP (by omega)
      · exact hO48
    · refine sEv (v := (.bool false)) (evLss false rfl rfl (dF hc24)) rfl rfl ?_
      refine sEv (v := (.bool false)) (rfl) rfl rfl ?_
      refine sEv (v := (.int .i64 ((k : Int)))) (rfl) rfl rfl ?_
      refine sEv (v := (.slice Ab nb cb)) (rfl) rfl rfl ?_
      refine sEv (v := (.int .i64 ((nb : Int)))) (evLen Try.underlying29 rfl) rfl rfl ?_
      by_cases hc50 : ((k : Int)) < ((nb : Int))
      · refine sEv (v := (.bool true)) (evLss true rfl rfl (dT hc50)) rfl rfl ?_
        refine sEv (v := (.bool true)) (rfl) rfl rfl ?_
        refine sEv (v := (.bool true)) (rfl) rfl rfl ?_
        refine sSkip rfl rfl ?_
        refine sSkip rfl rfl ?_
        refine sEv (v := (.bool true)) (rfl) rfl rfl ?_
        refine sDone ?_
        refine xN (hK23 _ _ ?_)
        refine cT rfl ?_
        refine wp_skip ?_
        refine xN (hK22 _ _ ?_)
        refine wp_seq_k fun K51 hK51 => ?_
        refine wp_block ?_
        refine wp_seq_k fun K52 hK52 => ?_
        refine wp_region_lit ?_
        refine sEv (v := (.slice Aa na ca)) (rfl) rfl rfl ?_
        refine sEv (v := (.int .i64 ((k : Int)))) (rfl) rfl rfl ?_
        have h53 := (ha.frmB hF13 q3)
        refine sOp rfl (oCall rfl call98 (ref01_bit h53 (xi := k) (by omega)) rfl ?_)
        rintro _ w55 ⟨xr_54, rfl, hE56, br_54, e_54, le_54⟩
        have hz57 := hE56.size
        refine sEv (v := (.slice Ab nb cb)) (rfl) rfl rfl ?_
        refine sEv (v := (.int .i64 ((k : Int)))) (rfl) rfl rfl ?_
        have h58 := (hb.frmB (hF13.trans (Frm.of_ext (G := fun b => (w.heap.size ≤ b)) hE56)) q3)
        refine sOp rfl (oCall rfl call98 (ref01_bit h58 (xi := k) (by omega)) rfl ?_)
        rintro _ w60 ⟨xr_59, rfl, hE61, br_59, e_59, le_59⟩
        have hz62 := hE61.size
        refine sEv (v := (.int .i64 (((xr_54 : Int)) + ((xr_59 : Int))))) (evAdd (((xr_54 : Int)) + ((xr_59 : Int))) rfl rfl (wI64 (by omega))) rfl rfl ?_
        refine sEv (v := (.int .i64 ((cy : Int)))) (rfl) rfl rfl ?_
        refine sEv (v := (.int .i64 ((((xr_54 : Int)) + ((xr_59 : Int))) + ((cy : Int))))) (evAdd ((((xr_54 : Int)) + ((xr_59 : Int))) + ((cy : Int))) rfl rfl (wI64 (by omega))) rfl rfl ?_
        refine sEv (v := (.int .i64 ((((xr_54 : Int)) + ((xr_59 : Int))) + ((cy : Int))))) (rfl) rfl rfl ?_
        refine sDone ?_
        refine xN (hK52 _ _ ?_)
        refine wp_seq_k fun K63 hK63 => ?_
        refine wp_region_lit ?_
        refine sEv (v := (.slice Ao k co)) (rfl) rfl rfl ?_
        refine sEv (v := (.int .i64 ((((xr_54 : Int)) + ((xr_59 : Int))) + ((cy : Int))))) (rfl) rfl rfl ?_
        refine sEv (v := (.int .i64 (((((xr_54 + xr_59) + cy) % 2 : Nat) : Int)))) (evRem (((((xr_54 + xr_59) + cy) % 2 : Nat) : Int)) rfl rfl (by omega) (remE (by omega) (by omega))) rfl rfl ?_
        refine sOp rfl (oBuildSlice [(.int .i64 (((((xr_54 + xr_59) + cy) % 2 : Nat) : Int)))] [[(.int .i64 (((((xr_54 + xr_59) + cy) % 2 : Nat) : Int)))]] Try.underlying29 inf3 rfl rfl rfl rfl rfl ?_)
        intro g64 w65 hg66 hE67 hz68 hB69
        replace hB69 : Blk w65 g64 3 [(.int .i64 (((((xr_54 + xr_59) + cy) % 2 : Nat) : Int)))] := hB69
        have hO70 := (hO.ext ((hE56.trans hE61).trans hE67))
        refine sOp rfl (oApp (B := w.heap.size) (cs := (P).map i64n) Try.underlying29 inf3 rfl (by decide) rfl rfl hO70 hB69 rfl rfl (by omega) (by omega) (by omega) ?_)
        intro A71 c72 w73 hO74 hF75 _ _
        replace hO74 : Own w73 w.heap.size 3 1 A71 (k + 1) c72 ((P ++ [((xr_54 + xr_59) + cy) % 2]).map i64n) := by rw [List.map_append]; exact hO74
        refine sEv (v := (.slice A71 (k + 1) c72)) (rfl) rfl rfl ?_
        refine sDone ?_
        refine xN (hK63 _ _ ?_)
        refine wp_region_lit ?_
        refine sEv (v := (.int .i64 ((((xr_54 : Int)) + ((xr_59 : Int))) + ((cy : Int))))) (rfl) rfl rfl ?_
        refine sEv (v := (.int .i64 (((((xr_54 + xr_59) + cy) / 2 : Nat) : Int)))) (evQuo (((((xr_54 + xr_59) + cy) / 2 : Nat) : Int)) rfl rfl (by omega) (quoEi64 (by omega) (by omega) (by omega))) rfl rfl ?_
        refine sEv (v := (.int .i64 (((((xr_54 + xr_59) + cy) / 2 : Nat) : Int)))) (rfl) rfl rfl ?_
        refine sDone ?_
        refine bN ?_
        refine xN (hK51 _ _ ?_)
        refine wp_region_lit ?_
        refine sEv (v := (.int .i64 ((k : Int)))) (rfl) rfl rfl ?_
        refine sEv (v := (.int .i64 (((k : Int)) + 1))) (evAdd (((k : Int)) + 1) rfl rfl (wI64 (by omega))) rfl rfl ?_
        refine sEv (v := (.int .i64 (((k : Int)) + 1))) (rfl) rfl rfl ?_
        refine sDone ?_
        refine again (max na nb + 1 - (k + 1)) (by omega) ⟨(k + 1), (P ++ [((xr_54 + xr_59) + cy) % 2]), (A71), (c72), (((xr_54 + xr_59) + cy) / 2), rfl, rfl, rfl, rfl, (congrArg (Value.int .i64) (by omega)), (congrArg (Value.int .i64) (by omega)), ((((hF13.trans (Frm.of_ext (G := fun b => (w.heap.size ≤ b)) hE56)).trans (Frm.of_ext (G := fun b => (w.heap.size ≤ b)) hE61)).trans (Frm.of_ext (G := fun b => (w.heap.size ≤ b)) hE67)).trans hF75), ?_, ?_, ?_, ?_, ?_, ?_⟩
        · omega
        · simp [hP]
        · omega
        · exact vlt_snoc hlt (by omega)
        · exact vadd_step hv hP (by omega)
        · exact hO74
      · refine sEv (v := (.bool false)) (evLss false rfl rfl (dF hc50)) rfl rfl ?_
        refine sEv (v := (.bool false)) (rfl) rfl rfl ?_
        refine sEv (v := (.bool false)) (rfl) rfl rfl ?_
        refine sEv (v := (.int .i64 ((cy : Int)))) (rfl) rfl rfl ?_
        by_cases hc76 : ((cy : Int)) > 0
        · refine sEv (v := (.bool true)) (evGtr true rfl rfl (dT hc76)) rfl rfl ?_
          refine sEv (v := (.bool true)) (rfl) rfl rfl ?_
          refine sDone ?_
          refine xN (hK23 _ _ ?_)
          refine cT rfl ?_
          refine wp_skip ?_
          refine xN (hK22 _ _ ?_)
          refine wp_seq_k fun K77 hK77 => ?_
          refine wp_block ?_
          refine wp_seq_k fun K78 hK78 => ?_
          refine wp_region_lit ?_
          refine sEv (v := (.slice Aa na ca)) (rfl) rfl rfl ?_
          refine sEv (v := (.int .i64 ((k : Int)))) (rfl) rfl rfl ?_
          have h79 := (ha.frmB hF13 q3)
          refine sOp rfl (oCall rfl call98 (ref01_bit h79 (xi := k) (by omega)) rfl ?_)
          rintro _ w81 ⟨xr_80, rfl, hE82, br_80, e_80, le_80⟩
          have hz83 := hE82.size
          refine sEv (v := (.slice Ab nb cb)) (rfl) rfl rfl ?_
          refine sEv (v := (.int .i64 ((k : Int)))) (rfl) rfl rfl ?_
          have h84 := (hb.frmB (hF13.trans (Frm.of_ext (G := fun b => (w.heap.size ≤ b)) hE82)) q3)
          refine sOp rfl (oCall rfl call98 (ref01_bit h84 (xi := k) (by omega)) rfl ?_)
          rintro _ w86 ⟨xr_85, rfl, hE87, br_85, e_85, le_85⟩
          have hz88 := hE87.size
          refine sEv (v := (.int .i64 (((xr_80 : Int)) + ((xr_85 : Int))))) (evAdd (((xr_80 : Int)) + ((xr_85 : Int))) rfl rfl (wI64 (by omega))) rfl rfl ?_
          refine sEv (v := (.int .i64 ((cy : Int)))) (rfl) rfl rfl ?_
          refine sEv (v := (.int .i64 ((((xr_80 : Int)) + ((xr_85 : Int))) + ((cy : Int))))) (evAdd ((((xr_80 : Int)) + ((xr_85 : Int))) + ((cy : Int))) rfl rfl (wI64 (by omega))) rfl rfl ?_
          refine sEv (v := (.int .i64 ((((xr_80 : Int)) + ((xr_85 : Int))) + ((cy : Int))))) (rfl) rfl rfl ?_
          refine sDone ?_
          refine xN (hK78 _ _ ?_)
          refine wp_seq_k fun K89 hK89 => ?_
          refine wp_region_lit ?_
          refine sEv (v := (.slice Ao k co)) (rfl) rfl rfl ?_
          refine sEv (v := (.int .i64 ((((xr_80 : Int)) + ((xr_85 : Int))) + ((cy : Int))))) (rfl) rfl rfl ?_
          refine sEv (v := (.int .i64 (((((xr_80 + xr_85) + cy) % 2 : Nat) : Int)))) (evRem (((((xr_80 + xr_85) + cy) % 2 : Nat) : Int)) rfl rfl (by omega) (remE (by omega) (by omega))) rfl rfl ?_
          refine sOp rfl (oBuildSlice [(.int .i64 (((((xr_80 + xr_85) + cy) % 2 : Nat) : Int)))] [[(.int .i64 (((((xr_80 + xr_85) + cy) % 2 : Nat) : Int)))]] Try.underlying29 inf3 rfl rfl rfl rfl rfl ?_)
          intro g90 w91 hg92 hE93 hz94 hB95
          replace hB95 : Blk w91 g90 3 [(.int .i64 (((((xr_80 + xr_85) + cy) % 2 : Nat) : Int)))] := hB95
          have hO96 := (hO.ext ((hE82.trans hE87).trans hE93))
          refine sOp rfl (oApp (B := w.heap.size) (cs := (P).map i64n) Try.underlying29 inf3 rfl (by decide) rfl rfl hO96 hB95 rfl rfl (by omega) (by omega) (by omega) ?_)
          intro A97 c98 w99 hO100 hF101 _ _
          replace hO100 : Own w99 w.heap.size 3 1 A97 (k + 1) c98 ((P ++ [((xr_80 + xr_85) + cy) % 2]).map i64n) := by rw [List.map_append]; exact hO100
          refine sEv (v := (.slice A97 (k + 1) c98)) (rfl) rfl rfl ?_
          refine sDone ?_
          refine xN (hK89 _ _ ?_)
          refine wp_region_lit ?_
          refine sEv (v := (.int .i64 ((((xr_80 : Int)) + ((xr_85 : Int))) + ((cy : Int))))) (rfl) rfl rfl ?_
          refine sEv (v := (.int .i64 (((((xr_80 + xr_85) + cy) / 2 : Nat) : Int)))) (evQuo (((((xr_80 + xr_85) + cy) / 2 : Nat) : Int)) rfl rfl (by omega) (quoEi64 (by omega) (by omega) (by omega))) rfl rfl ?_
          refine sEv (v := (.int .i64 (((((xr_80 + xr_85) + cy) / 2 : Nat) : Int)))) (rfl) rfl rfl ?_
          refine sDone ?_
          refine bN ?_
          refine xN (hK77 _ _ ?_)
          refine wp_region_lit ?_
          refine sEv (v := (.int .i64 ((k : Int)))) (rfl) rfl rfl ?_
          refine sEv (v := (.int .i64 (((k : Int)) + 1))) (evAdd (((k : Int)) + 1) rfl rfl (wI64 (by omega))) rfl rfl ?_
          refine sEv (v := (.int .i64 (((k : Int)) + 1))) (rfl) rfl rfl ?_
          refine sDone ?_
          refine again (max na nb + 1 - (k + 1)) (by omega) ⟨(k + 1), (P ++ [((xr_80 + xr_85) + cy) % 2]), (A97), (c98), (((xr_80 + xr_85) + cy) / 2), rfl, rfl, rfl, rfl, (congrArg (Value.int .i64) (by omega)), (congrArg (Value.int .i64) (by omega)), ((((hF13.trans (Frm.of_ext (G := fun b => (w.heap.size ≤ b)) hE82)).trans (Frm.of_ext (G := fun b => (w.heap.size ≤ b)) hE87)).trans (Frm.of_ext (G := fun b => (w.heap.size ≤ b)) hE93)).trans hF101), ?_, ?_, ?_, ?_, ?_, ?_⟩
          · omega
          · simp [hP]
          · omega
          · exact vlt_snoc hlt (by omega)
          · exact vadd_step hv hP (by omega)
          · exact hO100
        · refine sEv (v := (.bool false)) (evGtr false rfl rfl (dF hc76)) rfl rfl ?_
          refine sEv (v := (.bool false)) (rfl) rfl rfl ?_
          refine sDone ?_
          refine xN (hK23 _ _ ?_)
          refine cF rfl ?_
          refine wp_exit (xE (xE (bE ?_)))
          refine xN (hK4 _ _ ?_)
          refine wp_seq_k fun K102 hK102 => ?_
          refine wp_region_lit ?_
          refine sEv (v := (.slice Ao k co)) (rfl) rfl rfl ?_
          refine sOp rfl (oCall rfl call74 (ref01_Trim (Own.digR hO hlt)) rfl ?_)
          rintro _ w104 ⟨Ar_103, nr_103, cr_103, dr_103, rfl, hE105, hr_103, e_103, le_103⟩
          have hz106 := hE105.size
          have lr_103 := hr_103.len; have kr_103 := hr_103.cap; have mr_103 := hr_103.max
          refine sEv (v := (.slice Ar_103 nr_103 cr_103)) (rfl) rfl rfl ?_
          refine sDone ?_
          refine xN (hK102 _ _ ?_)
          refine wp_ret ?_
          refine ret1 (.slice Ar_103 nr_103 cr_103) Try.results100 (resT rfl) ?_
          exact ⟨Ar_103, nr_103, cr_103, dr_103, rfl, (Frm.mono (hF13.trans (Frm.of_ext (G := fun b => (w.heap.size ≤ b)) hE105)) q4), (DigR.sub hr_103 q5), (by rw [e_103, vb_trim]; exact vadd_end hv (by omega) (by omega) (by omega)), (by rw [e_103]; exact canon_trim _ _), (by omega)⟩

theorem ref01_Sub {w : World} {Sa : Nat → Prop} {Aa : Option Addr} {na ca : Nat} {da : List Nat} {Sb : Nat → Prop} {Ab : Option Addr} {nb cb : Nat} {db : List Nat} (ha : DigR 2 w Sa Aa na ca da) (hb : DigR 2 w Sb Ab nb cb db) (hna : na ≤ 1099511627776) (hle : vb 2 db ≤ vb 2 da) : Calls Try.prog 101 #[(.slice Aa na ca), (.slice Ab nb cb)] w (Ret fun v w' => ∃ (Ar : Option Addr) (nr : Nat) (cr : Nat) (dr : List Nat), v = (.slice Ar nr cr) ∧ Ext w w' ∧ DigR 2 w' (fun b => w.heap.size ≤ b) Ar nr cr dr ∧ (vb 2 dr = vb 2 da - vb 2 db) ∧ (Canon isZ dr) ∧ (nr ≤ na)) := by
  have la := ha.len; have ka := ha.cap; have ma := ha.max
  replace ha := ha.low
  have lb := hb.len; have kb := hb.cap; have mb := hb.max
  replace hb := hb.low
  refine enter Try.func101 rfl Try.ntmps101 rfl ?_
  refine wp_seq_k fun K1 hK1 => ?_
  refine wp_region_lit ?_
  refine sEv (v := (.slice none 0 0)) (rfl) rfl rfl ?_
  refine sDone ?_
  refine xN (hK1 _ _ ?_)
  refine wp_seq_k fun K2 hK2 => ?_
  refine wp_region_lit ?_
  refine sEv (v := (.slice none 0 0)) (rfl) rfl rfl ?_
  refine sDone ?_
  refine xN (hK2 _ _ ?_)
  refine wp_seq_k fun K3 hK3 => ?_
  refine wp_region_lit ?_
  refine sEv (v := (.int .i64 (0))) (rfl) rfl rfl ?_
  refine sDone ?_
  refine xN (hK3 _ _ ?_)
  refine wp_seq_k fun K4 hK4 => ?_
  refine wp_seq_k fun K5 hK5 => ?_
  refine wp_region_lit ?_
  refine sEv (v := (.int .i64 (0))) (rfl) rfl rfl ?_
  refine sDone ?_
  refine xN (hK5 _ _ ?_)
  refine wp_block ?_
  refine lLoop (fun m e w_ => ∃ (k : Nat) (P : List Nat) (Ao : Option Addr) (co : Nat) (bo : Nat), m = na - k ∧ e 0 = (.slice Aa na ca) ∧ e 1 = (.slice Ab nb cb) ∧ e 5 = (.slice Ao k co) ∧ e 6 = (.int .i64 ((bo : Int))) ∧ e 7 = (.int .i64 ((k : Int))) ∧ Frm (fun b => w.heap.size ≤ b) w w_ ∧ (k ≤ na) ∧ (P.length = k) ∧ (bo ≤ 1) ∧ (∀ d ∈ P, d < 2) ∧ (vb 2 P + vb 2 (db.take k) = vb 2 (da.take k) + 2 ^ k * bo) ∧ (Own w_ w.heap.size 3 1 Ao k co (P.map i64n))) (na - (0)) ?_ ?_
  · refine ⟨(0), ([]), (none), (0), (0), rfl, rfl, rfl, rfl, (congrArg (Value.int .i64) (by omega)), (congrArg (Value.int .i64) (by omega)), (Frm.refl _ _), ?_, ?_, ?_, ?_, ?_, ?_⟩
    · omega
    · rfl
    · omega
    · simp
    · simp [vb]
    · exact Own.nil
  · rintro m6 e15 w7 ⟨k, P, Ao, co, bo, hm14, hs8, hs9, hs10, hs11, hs12, hF13, hk, hP, hbo, hlt, hv, hO⟩
    obtain ⟨r16, rfl⟩ := sq (e := e15) (t := 0) hs8
    obtain ⟨r17, rfl⟩ := sq (e := r16) (t := 1) hs9
    obtain ⟨r18, rfl⟩ := sq (e := r17) (t := 5) hs10
    obtain ⟨r19, rfl⟩ := sq (e := r18) (t := 6) hs11
    obtain ⟨r20, rfl⟩ := sq (e := r19) (t := 7) hs12
    have hz21 := hF13.size
    refine wp_seq_k fun K22 hK22 => ?_
    refine wp_seq_k fun K23 hK23 => ?_
    refine wp_region_lit ?_
    refine sEv (v := (.int .i64 ((k : Int)))) (rfl) rfl rfl ?_
    refine sEv (v := (.slice Aa na ca)) (rfl) rfl rfl ?_
    refine sEv (v := (.int .i64 ((na : Int)))) (evLen Try.underlying29 rfl) rfl rfl ?_
    by_cases hc24 : ((k : Int)) < ((na : Int))
    · refine sEv (v := (.bool true)) (evLss true rfl rfl (dT hc24)) rfl rfl ?_
      refine sDone ?_
      refine xN (hK23 _ _ ?_)
      refine cT rfl ?_
      refine wp_skip ?_
      refine xN (hK22 _ _ ?_)
      refine wp_seq_k fun K25 hK25 => ?_
      refine wp_block ?_
      refine wp_seq_k fun K26 hK26 => ?_
      refine wp_region_lit ?_
      refine sEv (v := (.slice Aa na ca)) (rfl) rfl rfl ?_
      refine sEv (v := (.int .i64 ((k : Int)))) (rfl) rfl rfl ?_
      have h27 := (ha.frmB hF13 q3)
      refine sOp rfl (oCall rfl call98 (ref01_bit h27 (xi := k) (by omega)) rfl ?_)
      rintro _ w29 ⟨xr_28, rfl, hE30, br_28, e_28, le_28⟩
      have hz31 := hE30.size
      refine sEv (v := (.slice Ab nb cb)) (rfl) rfl rfl ?_
      refine sEv (v := (.int .i64 ((k : Int)))) (rfl) rfl rfl ?_
      have h32 := (hb.frmB (hF13.trans (Frm.of_ext (G := fun b => (w.heap.size ≤ b)) hE30)) q3)
      refine sOp rfl (oCall rfl call98 (ref01_bit h32 (xi := k) (by omega)) rfl ?_)
      rintro _ w34 ⟨xr_33, rfl, hE35, br_33, e_33, le_33⟩
      have hz36 := hE35.size
      refine sEv (v := (.int .i64 (((xr_28 : Int)) - ((xr_33 : Int))))) (evSub (((xr_28 : Int)) - ((xr_33 : Int))) rfl rfl (wI64 (by omega))) rfl rfl ?_
      refine sEv (v := (.int .i64 ((bo : Int)))) (rfl) rfl rfl ?_
      refine sEv (v := (.int .i64 ((((xr_28 : Int)) - ((xr_33 : Int))) - ((bo : Int))))) (evSub ((((xr_28 : Int)) - ((xr_33 : Int))) - ((bo : Int))) rfl rfl (wI64 (by omega))) rfl rfl ?_
      refine sEv (v := (.int .i64 ((((xr_28 : Int)) - ((xr_33 : Int))) - ((bo : Int))))) (rfl) rfl rfl ?_
      refine sDone ?_
      refine xN (hK26 _ _ ?_)
      refine wp_seq_k fun K37 hK37 => ?_
      refine wp_region_lit ?_
      refine sEv (v := (.int .i64 (0))) (rfl) rfl rfl ?_
      refine sDone ?_
      refine xN (hK37 _ _ ?_)
      refine wp_seq_k fun K38 hK38 => ?_
      refine wp_seq_k fun K39 hK39 => ?_
      refine wp_region_lit ?_
      refine sEv (v := (.int .i64 ((((xr_28 : Int)) - ((xr_33 : Int))) - ((bo : Int))))) (rfl) rfl rfl ?_
      by_cases hc40 : ((((xr_28 : Int)) - ((xr_33 : Int))) - ((bo : Int))) < 0
      · refine sEv (v := (.bool true)) (evLss true rfl rfl (dT hc40)) rfl rfl ?_
        refine sDone ?_
        refine xN (hK39 _ _ ?_)
        refine cT rfl ?_
        refine wp_seq_k fun K41 hK41 => ?_
        refine wp_region_lit ?_
        refine sEv (v := (.int .i64 ((((xr_28 : Int)) - ((xr_33 : Int))) - ((bo : Int))))) (rfl) rfl rfl ?_
        refine sEv (v := (.int .i64 (((((xr_28 : Int)) - ((xr_33 : Int))) - ((bo : Int))) + 2))) (evAdd (((((xr_28 : Int)) - ((xr_33 : Int))) - ((bo : Int))) + 2) rfl rfl (wI64 (by omega))) rfl rfl ?_
        refine sEv (v := (.int .i64 (((((xr_28 : Int)) - ((xr_33 : Int))) - ((bo : Int))) + 2))) (rfl) rfl rfl ?_
        refine sDone ?_
        refine xN (hK41 _ _ ?_)
        refine wp_region_lit ?_
        refine sEv (v := (.int .i64 (1))) (rfl) rfl rfl ?_
        refine sDone ?_
        refine xN (hK38 _ _ ?_)
        refine wp_region_lit ?_
        refine sEv (v := (.slice Ao k co)) (rfl) rfl rfl ?_
        refine sEv (v := (.int .i64 (((da.getD k 0 + 2 - db.getD k 0 - bo : Nat) : Int)))) (by rw [show ((da.getD k 0 + 2 - db.getD k 0 - bo : Nat) : Int) = ((((xr_28 : Int)) - ((xr_33 : Int))) - ((bo : Int))) + 2 by omega]; rfl) rfl rfl ?_
        refine sOp rfl (oBuildSlice [(.int .i64 (((da.getD k 0 + 2 - db.getD k 0 - bo : Nat) : Int)))] [[(.int .i64 (((da.getD k 0 + 2 - db.getD k 0 - bo : Nat) : Int)))]] Try.underlying29 inf3 rfl rfl rfl rfl rfl ?_)
        intro g42 w43 hg44 hE45 hz46 hB47
        replace hB47 : Blk w43 g42 3 [(.int .i64 (((da.getD k 0 + 2 - db.getD k 0 - bo : Nat) : Int)))] := hB47
        have hO48 := (hO.ext ((hE30.trans hE35).trans hE45))
        refine sOp rfl (oApp (B := w.heap.size) (cs := (P).map i64n) Try.underlying29 inf3 rfl (by decide) rfl rfl hO48 hB47 rfl rfl (by omega) (by omega) (by omega) ?_)
        intro A49 c50 w51 hO52 hF53 _ _
        replace hO52 : Own w51 w.heap.size 3 1 A49 (k + 1) c50 ((P ++ [da.getD k 0 + 2 - db.getD k 0 - bo]).map i64n) := by rw [List.map_append]; exact hO52
        refine sEv (v := (.slice A49 (k + 1) c50)) (rfl) rfl rfl ?_
        refine sDone ?_
        refine bN ?_
        refine xN (hK25 _ _ ?_)
        refine wp_region_lit ?_
        refine sEv (v := (.int .i64 ((k : Int)))) (rfl) rfl rfl ?_
        refine sEv (v := (.int .i64 (((k : Int)) + 1))) (evAdd (((k : Int)) + 1) rfl rfl (wI64 (by omega))) rfl rfl ?_
        refine sEv (v := (.int .i64 (((k : Int)) + 1))) (rfl) rfl rfl ?_
        refine sDone ?_
        refine again (na - (k + 1)) (by omega) ⟨(k + 1), (P ++ [da.getD k 0 + 2 - db.getD k 0 - bo]), (A49), (c50), (1), rfl, rfl, rfl, rfl, (congrArg (Value.int .i64) (by omega)), (congrArg (Value.int .i64) (by omega)), ((((hF13.trans (Frm.of_ext (G := fun b => (w.heap.size ≤ b)) hE30)).trans (Frm.of_ext (G := fun b => (w.heap.size ≤ b)) hE35)).trans (Frm.of_ext (G := fun b => (w.heap.size ≤ b)) hE45)).trans hF53), ?_, ?_, ?_, ?_, ?_, ?_⟩
        · omega
        · simp [hP]
        · omega
        · exact vlt_snoc hlt (by omega)
        · exact vsub_step hv hP (by omega)
        · exact hO52
      · refine sEv (v := (.bool false)) (evLss false rfl rfl (dF hc40)) rfl rfl ?_
        refine sDone ?_
        refine xN (hK39 _ _ ?_)
        refine cF rfl ?_
        refine wp_skip ?_
        refine xN (hK38 _ _ ?_)
        refine wp_region_lit ?_
        refine sEv (v := (.slice Ao k co)) (rfl) rfl rfl ?_
        refine sEv (v := (.int .i64 (((da.getD k 0 + 0 - db.getD k 0 - bo : Nat) : Int)))) (by rw [show ((da.getD k 0 + 0 - db.getD k 0 - bo : Nat) : Int) = (((xr_28 : Int)) - ((xr_33 : Int))) - ((bo : Int)) by omega]; rfl) rfl rfl ?_
        refine sOp rfl (oBuildSlice [(.int .i64 (((da.getD k 0 + 0 - db.getD k 0 - bo : Nat) : Int)))] [[(.int .i64 (((da.getD k 0 + 0 - db.getD k 0 - bo : Nat) : Int)))]] Try.underlying29 inf3 rfl rfl rfl rfl rfl ?_)
        intro g54 w55 hg56 hE57 hz58 hB59
        replace hB59 : Blk w55 g54 3 [(.int .i64 (((da.getD k 0 + 0 - db.getD k 0 - bo : Nat) : Int)))] := hB59
        have hO60 := (hO.ext ((hE30.trans hE35).trans hE57))
        refine sOp rfl (oApp (B := w.heap.size) (cs := (P).map i64n) Try.underlying29 inf3 rfl (by decide) rfl rfl hO60 hB59 rfl rfl (by omega) (by omega) (by omega) ?_)
        intro A61 c62 w63 hO64 hF65 _ _
        replace hO64 : Own w63 w.heap.size 3 1 A61 (k + 1) c62 ((P ++ [da.getD k 0 + 0 - db.getD k 0 - bo]).map i64n) := by rw [List.map_append]; exact hO64
        refine sEv (v := (.slice A61 (k + 1) c62)) (rfl) rfl rfl ?_
        refine sDone ?_
        refine bN ?_
        refine xN (hK25 _ _ ?_)
        refine wp_region_lit ?_
        refine sEv (v := (.int .i64 ((k : Int)))) (rfl) rfl rfl ?_
        refine sEv (v := (.int .i64 (((k : Int)) + 1))) (evAdd (((k : Int)) + 1) rfl rfl (wI64 (by omega))) rfl rfl ?_
        refine sEv (v := (.int .i64 (((k : Int)) + 1))) (rfl) rfl rfl ?_
        refine sDone ?_
        refine again (na - (k + 1)) (by omega) ⟨(k + 1), (P ++ [da.getD k 0 + 0 - db.getD k 0 - bo]), (A61), (c62), (0), rfl, rfl, rfl, rfl, (congrArg (Value.int .i64) (by omega)), (congrArg (Value.int .i64) (by omega)), ((((hF13.trans (Frm.of_ext (G := fun b => (w.heap.size ≤ b)) hE30)).trans (Frm.of_ext (G := fun b => (w.heap.size ≤ b)) hE35)).trans (Frm.of_ext (G := fun b => (w.heap.size ≤ b)) hE57)).trans hF65), ?_, ?_, ?_, ?_, ?_, ?_⟩
        · omega
        · simp [hP]
        · omega
        · exact vlt_snoc hlt (by omega)
        · exact vsub_step hv hP (by omega)
        · exact hO64
    · refine sEv (v := (.bool false)) (evLss false rfl rfl (dF hc24)) rfl rfl ?_
      refine sDone ?_
      refine xN (hK23 _ _ ?_)
      refine cF rfl ?_
      refine wp_exit (xE (xE (bE ?_)))
      refine xN (hK4 _ _ ?_)
      refine wp_seq_k fun K66 hK66 => ?_
      refine wp_region_lit ?_
      refine sEv (v := (.slice Ao k co)) (rfl) rfl rfl ?_
      refine sOp rfl (oCall rfl call74 (ref01_Trim (Own.digR hO hlt)) rfl ?_)
      rintro _ w68 ⟨Ar_67, nr_67, cr_67, dr_67, rfl, hE69, hr_67, e_67, le_67⟩
      have hz70 := hE69.size
      have lr_67 := hr_67.len; have kr_67 := hr_67.cap; have mr_67 := hr_67.max
      refine sEv (v := (.slice Ar_67 nr_67 cr_67)) (rfl) rfl rfl ?_
      refine sDone ?_
      refine xN (hK66 _ _ ?_)
      refine wp_ret ?_
      refine ret1 (.slice Ar_67 nr_67 cr_67) Try.results101 (resT rfl) ?_
      exact ⟨Ar_67, nr_67, cr_67, dr_67, rfl, (Frm.mono (hF13.trans (Frm.of_ext (G := fun b => (w.heap.size ≤ b)) hE69)) q4), (DigR.sub hr_67 q5), (by rw [e_67, vb_trim]; exact vsub_end hv hP hlt (by omega) hle (vb_take_lt (by decide) (Nat.lt_of_le_of_lt hle (by have h := vb_lt da ha.2; rwa [show da.length = k by omega] at h)))), (by rw [e_67]; exact canon_trim _ _), (by omega)⟩

end Go.Proofs.Ytppegjbdencefaa
