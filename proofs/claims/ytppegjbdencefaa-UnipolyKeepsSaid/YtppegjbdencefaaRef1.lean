/-
  Walks of package cylinderref01: bits.
-/
import Derived.Test.YtppegjbdencefaaFacts
import Derived.Test.YtppegjbdencefaaRefPreds
namespace Go.Proofs.Ytppegjbdencefaa
open Go.RowKit Go.Gx
theorem ref01_Trim {w : World} {Sa : Nat → Prop} {Aa : Option Addr} {na ca : Nat} {da : List Nat} (ha : DigR 2 w Sa Aa na ca da)  : Calls Try.prog 74 #[(.slice Aa na ca)] w (Ret fun v w' => ∃ (Ar : Option Addr) (nr : Nat) (cr : Nat) (dr : List Nat), v = (.slice Ar nr cr) ∧ Ext w w' ∧ DigR 2 w' (Sa) Ar nr cr dr ∧ (dr = trimN da) ∧ (nr ≤ na)) := by
  have ⟨la, ka, ma⟩ := ha.lkm
  replace ha := ha.sub (S' := fun b => Sa b ∧ b < w.heap.size) fun _ hb hs => ⟨hs, hb⟩
  refine enter Try.func74 rfl Try.ntmps74 rfl (rS fun K1 hK1 => sAs rfl (sK hK1 (rS fun K2 hK2 => sMs rfl (sV (evLen Try.underlying29 rfl) (sAi rfl (sK hK2 (wp_seq_k fun K3 hK3 => wp_block ?_)))))))
  refine lLoop (fun m e w_ => ∃ (k : Nat), m = k ∧ e 0 = (.slice Aa na ca) ∧ e 3 = (.int .i64 ((k : Int))) ∧ Frm (fun b => False) w w_ ∧ (k ≤ na) ∧ (∀ j, k ≤ j → da.getD j 0 = 0)) ((na)) ?_ ?_
  · refine ⟨(na), rfl, rfl, cI, (Frm.refl _ _), ?_, ?_⟩
    · omega
    · exact getD_ge (by omega)
  · rintro m4 e10 w5 ⟨k, hm9, hs6, hs7, hF8, hk, hz⟩
    obtain ⟨r11, rfl⟩ := sq (e := e10) (t := 0) hs6
    obtain ⟨r12, rfl⟩ := sq (e := r11) (t := 3) hs7
    have hz13 := hF8.size
    refine wp_seq_k fun K14 hK14 => rS fun K15 hK15 => sMi rfl ?_
    by_cases hc16 : ((k : Int)) > 0
    · refine sV (evGtr true rfl rfl (dT hc16)) (sMb rfl (sEv (v := (.slice Aa na ca)) (rfl) rfl rfl (sEv (v := (.int .i64 ((k : Int)))) (rfl) rfl rfl (sEv (v := (.int .i64 (((k : Int)) - 1))) (evSub (((k : Int)) - 1) rfl rfl wI) rfl rfl ?_))))
      have h17 := (ha.ext hF8)
      obtain ⟨b18, o19, rfl⟩ := h17.base (by omega)
      refine sEv (v := (.pointer (some ⟨b18, o19 + (k - 1), none⟩))) (evIx (k - 1) Try.underlying29 sz3 rfl rfl (o19 + (k - 1))) rfl rfl ?_
      have hd20 := h17.lt (k - 1)
      refine sEv (v := (.int .i64 (((da.getD (k - 1) 0 : Nat) : Int)))) (evLoad one3 rfl (h17.cell (by omega))) rfl rfl ?_
      by_cases hc21 : (((da.getD (k - 1) 0 : Nat) : Int)) = 0
      · refine sEv (v := (.bool true)) (evEql true rfl rfl (dT hc21)) rfl rfl (sV (v := (.bool true)) (rfl) (sK hK15 (cT rfl (wp_skip (xN (hK14 _ _ (wp_block (wp_region_lit (sMi rfl (sV (evSub (((k : Int)) - 1) rfl rfl wI) (sAi rfl (sDone (bN (again ((k - 1)) (by omega) ⟨(k - 1), rfl, rfl, cI, hF8, ?_, ?_⟩))))))))))))))
        · omega
        · exact zeros_down hz (by omega)
      · refine sEv (v := (.bool false)) (evEql false rfl rfl (dF hc21)) rfl rfl (sV (v := (.bool false)) (rfl) (sK hK15 (cF rfl (wp_exit (xE (xE (bE (xN (hK3 _ _ (rS fun K22 hK22 => sMs rfl (sMi rfl ?_)))))))))))
        have h23 := h17.take (m := k) (by omega)
        refine sV (evSliceHi k Try.underlying29 sz3 rfl rfl (by omega) (by omega)) (sAs rfl (sK hK22 (wp_ret (ret1 (.slice (some ⟨b18, o19, none⟩) k ca) Try.results74 (resT rfl) ?_))))
        exact ⟨(some ⟨b18, o19, none⟩), k, ca, ((da).take k), rfl, hF8, (DigR.sub h23 fun _ _ h => h.1), (trimN_of (by omega) hz (by omega)), (by omega)⟩
    · refine sV (evGtr false rfl rfl (dF hc16)) (sMb rfl (sSkip rfl rfl (sSkip rfl rfl (sSkip rfl rfl (sSkip rfl rfl (sSkip rfl rfl (sSkip rfl rfl (sV (v := (.bool false)) (rfl) (sK hK15 (cF rfl (wp_exit (xE (xE (bE (xN (hK3 _ _ (rS fun K25 hK25 => sMs rfl (sMi rfl ?_))))))))))))))))))
      have h26 := (ha.ext hF8)
      have h27 := h26.take (m := k) (by omega)
      refine sV (evSliceHi k Try.underlying29 sz3 rfl rfl (by omega) (by omega)) (sAs rfl (sK hK25 (wp_ret (ret1 (.slice Aa k ca) Try.results74 (resT rfl) ?_))))
      exact ⟨Aa, k, ca, ((da).take k), rfl, hF8, (DigR.sub h27 fun _ _ h => h.1), (trimN_of (by omega) hz (by omega)), (by omega)⟩

theorem ref01_bit {w : World} {Sa : Nat → Prop} {Aa : Option Addr} {na ca : Nat} {da : List Nat} {xi : Nat} (ha : DigR 2 w Sa Aa na ca da) (bi : xi ≤ 9223372036854775807)  : Calls Try.prog 98 #[(.slice Aa na ca), (.int .i64 ((xi : Int)))] w (Ret fun v w' => ∃ (xr : Nat), v = (.int .i64 ((xr : Int))) ∧ Ext w w' ∧ xr ≤ 9223372036854775807 ∧ (xr = da.getD xi 0) ∧ (xr ≤ 1)) := by
  have ⟨la, ka, ma⟩ := ha.lkm
  replace ha := ha.low
  refine enter Try.func98 rfl Try.ntmps98 rfl (rS fun K1 hK1 => sAi rfl (sK hK1 (wp_seq_k fun K2 hK2 => rS fun K3 hK3 => sMi rfl (sMs rfl (sV (evLen Try.underlying29 rfl) ?_)))))
  by_cases hc4 : ((xi : Int)) < ((na : Int))
  · refine sV (evLss true rfl rfl (dT hc4)) (sK hK3 (cT rfl (rS fun K5 hK5 => sMs rfl (sMi rfl ?_))))
    obtain ⟨b6, o7, rfl⟩ := ha.base (by omega)
    refine sV (evIx xi Try.underlying29 sz3 rfl rfl (o7 + xi)) ?_
    have hd8 := ha.lt xi
    refine sV (evLoad one3 rfl (ha.cell (by omega))) (sAi rfl (sK hK5 (wp_ret (xR (ret1 (.int .i64 (((da.getD xi 0 : Nat) : Int))) Try.results98 (resT rfl) ?_)))))
    exact ⟨(da.getD xi 0), rfl, (Frm.refl _ _), (by omega), rfl, (by omega)⟩
  · refine sV (evLss false rfl rfl (dF hc4)) (sK hK3 (cF rfl (wp_skip (xN (hK2 _ _ (rS fun K9 hK9 => sAi rfl (sK hK9 (wp_ret (ret1 (.int .i64 (0)) Try.results98 (resT rfl) ?_)))))))))
    exact ⟨(0), rfl, (Frm.refl _ _), (by omega), (getD_ge (n := na) (by omega) _ (by omega)).symm, (by omega)⟩

theorem ref01_Of {w : World} {Sa : Nat → Prop} {Aa : Option Addr} {na ca : Nat} {da : List Nat} (ha : NatR w Sa Aa na ca da) (hna : na ≤ 17179869184) : Calls Try.prog 95 #[(.slice Aa na ca)] w (Ret fun v w' => ∃ (Ar : Option Addr) (nr : Nat) (cr : Nat) (dr : List Nat), v = (.slice Ar nr cr) ∧ Ext w w' ∧ DigR 2 w' (fun b => w.heap.size ≤ b) Ar nr cr dr ∧ (vb 2 dr = val da) ∧ (Canon isZ dr) ∧ (nr ≤ 32 * na)) := by
  have ⟨la, ka, ma⟩ := ha.lkm
  replace ha := ha.low
  refine enter Try.func95 rfl Try.ntmps95 rfl (rS fun K1 hK1 => sAs rfl (sK hK1 (rS fun K2 hK2 => sAs rfl (sK hK2 (wp_seq_k fun K3 hK3 => rS fun K4 hK4 => sAi rfl (sK hK4 (wp_block ?_)))))))
  refine lLoop (fun m e w_ => ∃ (k : Nat) (P : List Nat) (Ao : Option Addr) (co : Nat), m = 32 * na - k ∧ e 0 = (.slice Aa na ca) ∧ e 3 = (.slice Ao k co) ∧ e 4 = (.int .i64 ((k : Int))) ∧ Frm (fun b => w.heap.size ≤ b) w w_ ∧ (k ≤ 32 * na) ∧ (P.length = k) ∧ (∀ d ∈ P, d < 2) ∧ (vb 2 P = val da % 2 ^ k) ∧ (Own w_ w.heap.size 3 1 Ao k co (P.map i64n))) (32 * na - (0)) ?_ ?_
  · refine ⟨(0), ([]), (none), (0), rfl, rfl, rfl, cI, (Frm.refl _ _), ?_, ?_, ?_, ?_, ?_⟩
    · omega
    · rfl
    · simp
    · simp [vb, Nat.mod_one]
    · exact Own.nil
  · rintro m5 e12 w6 ⟨k, P, Ao, co, hm11, hs7, hs8, hs9, hF10, hk, hP, hlt, hv, hO⟩
    obtain ⟨r13, rfl⟩ := sq (e := e12) (t := 0) hs7
    obtain ⟨r14, rfl⟩ := sq (e := r13) (t := 3) hs8
    obtain ⟨r15, rfl⟩ := sq (e := r14) (t := 4) hs9
    have hz16 := hF10.size
    refine wp_seq_k fun K17 hK17 => rS fun K18 hK18 => sMi rfl (sMs rfl (sV (evLen Try.underlying43 rfl) (sV (evMul (32 * ((na : Int))) rfl rfl wI) ?_)))
    by_cases hc19 : ((k : Int)) < (32 * ((na : Int)))
    · refine sV (evLss true rfl rfl (dT hc19)) (sK hK18 (cT rfl (wp_skip (xN (hK17 _ _ (wp_seq_k fun K20 hK20 => wp_block (wp_region_lit (sMs rfl (sMs rfl (sMi rfl (sV (evQuo (((k / 32 : Nat) : Int)) rfl rfl (by omega) (quoEi64 (by omega) (by omega) (by omega))) ?_)))))))))))
      have h21 := (ha.frmB hF10 q3)
      obtain ⟨b22, o23, rfl⟩ := h21.base (by omega)
      refine sV (evIx (k / 32) Try.underlying43 sz62 rfl rfl (o23 + (k / 32))) ?_
      have hd24 := h21.lt (k / 32)
      refine sV (evLoad one62 rfl (h21.cell (by omega))) (sMi rfl (sV (evRem (((k % 32 : Nat) : Int)) rfl rfl (by omega) (remE (by omega) (by omega))) (sV (evConv (((k % 32 : Nat) : Int)) Try.underlying3 Try.underlying90 rfl (wU64 (by omega))) (sV (evShr ((((da.getD (k / 32) 0) / 2 ^ (k % 32) : Nat) : Int)) rfl rfl (by omega) (shrE (x := da.getD (k / 32) 0) (s := k % 32) (by omega) (by omega) (by show _ ≤ 32; omega))) (sV (evRem (((((da.getD (k / 32) 0) / 2 ^ (k % 32)) % 2 : Nat) : Int)) rfl rfl (by omega) (remE (by omega) (by omega))) (sV (evConv (((((da.getD (k / 32) 0) / 2 ^ (k % 32)) % 2 : Nat) : Int)) Try.underlying62 Try.underlying3 rfl (wI64 (by omega))) (sO (oBuildSlice [(.int .i64 (((((da.getD (k / 32) 0) / 2 ^ (k % 32)) % 2 : Nat) : Int)))] [[(.int .i64 (((((da.getD (k / 32) 0) / 2 ^ (k % 32)) % 2 : Nat) : Int)))]] Try.underlying29 inf3 rfl rfl rfl rfl rfl ?_))))))))
      intro g25 w26 hg27 hE28 hz29 hB30
      replace hB30 : Blk w26 g25 3 [(.int .i64 (((((da.getD (k / 32) 0) / 2 ^ (k % 32)) % 2 : Nat) : Int)))] := hB30
      have hO31 := (hO.ext hE28)
      refine sO (oApp (B := w.heap.size) (cs := (P).map i64n) Try.underlying29 inf3 rfl (by decide) rfl rfl hO31 hB30 rfl rfl (by omega) (by omega) (by omega) (fun A32 c33 w34 hO35 hF36 _ _ => ?_))
      replace hO35 : Own w34 w.heap.size 3 1 A32 (k + 1) c33 ((P ++ [((da.getD (k / 32) 0) / 2 ^ (k % 32)) % 2]).map i64n) := by rw [List.map_append]; exact hO35
      refine sAs rfl (sDone (bN (xN (hK20 _ _ (wp_region_lit (sMi rfl (sV (evAdd (((k : Int)) + 1) rfl rfl wI) (sAi rfl (sDone ?_)))))))))
      have hR37 := hE28.rx hF36
      refine again (32 * na - (k + 1)) (by omega) ⟨(k + 1), (P ++ [((da.getD (k / 32) 0) / 2 ^ (k % 32)) % 2]), (A32), (c33), rfl, rfl, rfl, cI, (hF10.trans hR37), ?_, ?_, ?_, ?_, ?_⟩
      · omega
      · simp [hP]
      · exact vlt_snoc hlt (by omega)
      · exact bits_step hv hP (of_bit ha.2 k)
      · exact hO35
    · refine sV (evLss false rfl rfl (dF hc19)) (sK hK18 (cF rfl (wp_exit (xE (xE (bE (xN (hK3 _ _ (rS fun K38 hK38 => sMs rfl (sO (oCall rfl call74 (ref01_Trim (Own.digR hO hlt)) rfl ?_)))))))))))
      rintro _ w40 ⟨Ar_39, nr_39, cr_39, dr_39, rfl, hE41, hr_39, e_39, le_39⟩
      have hz42 := hE41.size
      have ⟨lr_39, kr_39, mr_39⟩ := hr_39.lkm
      refine sAs rfl (sK hK38 (wp_ret (ret1 (.slice Ar_39 nr_39 cr_39) Try.results95 (resT rfl) ?_)))
      have hR44 := hF10.xr hE41
      exact ⟨Ar_39, nr_39, cr_39, dr_39, rfl, (Frm.mono hR44 q4), (DigR.sub hr_39 q5), (by rw [e_39, vb_trim, hv, of_end ha.2 la (by omega)]), (by rw [e_39]; exact canon_trim _ _), (by omega)⟩

theorem ref01_Cmp {w : World} {Sa : Nat → Prop} {Aa : Option Addr} {na ca : Nat} {da : List Nat} {Sb : Nat → Prop} {Ab : Option Addr} {nb cb : Nat} {db : List Nat} (ha : DigR 2 w Sa Aa na ca da) (hb : DigR 2 w Sb Ab nb cb db) (hna : na ≤ 1099511627776) (hnb : nb ≤ 1099511627776) : Calls Try.prog 75 #[(.slice Aa na ca), (.slice Ab nb cb)] w (Ret fun v w' => ∃ (xr : Int), v = (.int .i64 (xr)) ∧ Ext w w' ∧ (xr = cmpN (vb 2 da) (vb 2 db))) := by
  have ⟨la, ka, ma⟩ := ha.lkm
  replace ha := ha.low
  have ⟨lb, kb, mb⟩ := hb.lkm
  replace hb := hb.low
  refine enter Try.func75 rfl Try.ntmps75 rfl (rS fun K1 hK1 => sAi rfl (sK hK1 (wp_seq_k fun K2 hK2 => rS fun K3 hK3 => sMs rfl (sV (evLen Try.underlying29 rfl) (sMs rfl (sV (evLen Try.underlying29 rfl) (sV (evMax (((max na nb : Nat) : Int)) rfl rfl (maxN)) (sV (evSub ((((max na nb : Nat) : Int)) - 1) rfl rfl wI) (sAi rfl (sK hK3 (wp_block ?_)))))))))))
  refine lLoop (fun m e w_ => ∃ (k : Nat), m = k ∧ e 0 = (.slice Aa na ca) ∧ e 1 = (.slice Ab nb cb) ∧ e 5 = (.int .i64 ((k : Int) - 1)) ∧ Frm (fun b => False) w w_ ∧ (k ≤ max na nb) ∧ (∀ j, k ≤ j → da.getD j 0 = db.getD j 0)) ((max na nb)) ?_ ?_
  · refine ⟨(max na nb), rfl, rfl, rfl, cI, (Frm.refl _ _), ?_, ?_⟩
    · omega
    · exact eq_top (by omega) (by omega)
  · rintro m4 e11 w5 ⟨k, hm10, hs6, hs7, hs8, hF9, hk, heq⟩
    obtain ⟨r12, rfl⟩ := sq (e := e11) (t := 0) hs6
    obtain ⟨r13, rfl⟩ := sq (e := r12) (t := 1) hs7
    obtain ⟨r14, rfl⟩ := sq (e := r13) (t := 5) hs8
    have hz15 := hF9.size
    refine wp_seq_k fun K16 hK16 => rS fun K17 hK17 => sMi rfl ?_
    by_cases hc18 : ((k : Int) - 1) ≥ 0
    · refine sV (evGeq true rfl rfl (dT hc18)) (sK hK17 (cT rfl (wp_skip (xN (hK16 _ _ (wp_seq_k fun K19 hK19 => wp_block (rS fun K20 hK20 => sMs rfl (sMi rfl ?_))))))))
      have h21 := (ha.ext hF9)
      refine sO (oCall rfl call98 (ref01_bit h21 (xi := k - 1) (by omega)) (by rw [show ((k : Int) - 1 : Int) = ((k - 1 : Nat) : Int) by omega]; rfl) ?_)
      rintro _ w23 ⟨xr_22, rfl, hE24, br_22, e_22, le_22⟩
      have hz25 := hE24.size
      refine sMs rfl (sMi rfl ?_)
      have hR26 := hF9.trans hE24
      have h27 := (hb.ext hR26)
      refine sO (oCall rfl call98 (ref01_bit h27 (xi := k - 1) (by omega)) (by rw [show ((k : Int) - 1 : Int) = ((k - 1 : Nat) : Int) by omega]; rfl) ?_)
      rintro _ w29 ⟨xr_28, rfl, hE30, br_28, e_28, le_28⟩
      have hz31 := hE30.size
      by_cases hc32 : ((xr_22 : Int)) ≠ ((xr_28 : Int))
      · refine sV (evNeq true rfl rfl (dT hc32)) (sK hK20 (cT rfl (rS fun K33 hK33 => sMs rfl (sMi rfl ?_))))
        have hR34 := hE24.trans hE30
        have h35 := (h21.ext hR34)
        refine sO (oCall rfl call98 (ref01_bit h35 (xi := k - 1) (by omega)) (by rw [show ((k : Int) - 1 : Int) = ((k - 1 : Nat) : Int) by omega]; rfl) ?_)
        rintro _ w37 ⟨xr_36, rfl, hE38, br_36, e_36, le_36⟩
        have hz39 := hE38.size
        refine sMs rfl (sMi rfl ?_)
        have hR40 := hE30.trans hE38
        have h41 := (h27.ext hR40)
        refine sO (oCall rfl call98 (ref01_bit h41 (xi := k - 1) (by omega)) (by rw [show ((k : Int) - 1 : Int) = ((k - 1 : Nat) : Int) by omega]; rfl) ?_)
        rintro _ w43 ⟨xr_42, rfl, hE44, br_42, e_42, le_42⟩
        have hz45 := hE44.size
        refine sV (evSub (((xr_36 : Int)) - ((xr_42 : Int))) rfl rfl wI) (sAi rfl (sK hK33 (wp_ret (bR (xR (xR (bR (xR (ret1 (.int .i64 (((xr_36 : Int)) - ((xr_42 : Int)))) Try.results75 (resT rfl) ?_)))))))))
        have hR46 := ((hR26.trans hE30).trans hE38).trans hE44
        exact ⟨(((xr_36 : Int)) - ((xr_42 : Int))), rfl, hR46, (cmpv_lt ha.2 hb.2 heq (by omega) (by omega) _ (by omega))⟩
      · refine sV (evNeq false rfl rfl (dF hc32)) (sK hK20 (cF rfl (wp_skip (bN (xN (hK19 _ _ (wp_region_lit (sMi rfl (sV (evSub (((k : Int) - 1) - 1) rfl rfl wI) (sAi rfl (sDone ?_)))))))))))
        have hR47 := hE24.trans hE30
        refine again ((k - 1)) (by omega) ⟨(k - 1), rfl, rfl, rfl, cI, (hF9.trans hR47), ?_, ?_⟩
        · omega
        · exact eq_down heq (by omega)
    · refine sV (evGeq false rfl rfl (dF hc18)) (sK hK17 (cF rfl (wp_exit (xE (xE (bE (xN (hK2 _ _ (rS fun K48 hK48 => sAi rfl (sK hK48 (wp_ret (ret1 (.int .i64 (0)) Try.results75 (resT rfl) ?_))))))))))))
      exact ⟨(0), rfl, hF9, (vcmp_eq heq (by omega))⟩

theorem ref01_Add {w : World} {Sa : Nat → Prop} {Aa : Option Addr} {na ca : Nat} {da : List Nat} {Sb : Nat → Prop} {Ab : Option Addr} {nb cb : Nat} {db : List Nat} (ha : DigR 2 w Sa Aa na ca da) (hb : DigR 2 w Sb Ab nb cb db) (hna : na ≤ 1099511627776) (hnb : nb ≤ 1099511627776) : Calls Try.prog 100 #[(.slice Aa na ca), (.slice Ab nb cb)] w (Ret fun v w' => ∃ (Ar : Option Addr) (nr : Nat) (cr : Nat) (dr : List Nat), v = (.slice Ar nr cr) ∧ Ext w w' ∧ DigR 2 w' (fun b => w.heap.size ≤ b) Ar nr cr dr ∧ (vb 2 dr = vb 2 da + vb 2 db) ∧ (Canon isZ dr) ∧ (nr ≤ max na nb + 1)) := by
  have ⟨la, ka, ma⟩ := ha.lkm
  replace ha := ha.low
  have ⟨lb, kb, mb⟩ := hb.lkm
  replace hb := hb.low
  refine enter Try.func100 rfl Try.ntmps100 rfl (rS fun K1 hK1 => sAs rfl (sK hK1 (rS fun K2 hK2 => sAs rfl (sK hK2 (rS fun K3 hK3 => sAi rfl (sK hK3 (wp_seq_k fun K4 hK4 => rS fun K5 hK5 => sAi rfl (sK hK5 (wp_block ?_)))))))))
  refine lLoop (fun m e w_ => ∃ (k : Nat) (P : List Nat) (Ao : Option Addr) (co : Nat) (cy : Nat), m = max na nb + 1 - k ∧ e 0 = (.slice Aa na ca) ∧ e 1 = (.slice Ab nb cb) ∧ e 5 = (.slice Ao k co) ∧ e 6 = (.int .i64 ((cy : Int))) ∧ e 7 = (.int .i64 ((k : Int))) ∧ Frm (fun b => w.heap.size ≤ b) w w_ ∧ (k ≤ max na nb ∨ k = max na nb + 1 ∧ cy = 0) ∧ (P.length = k) ∧ (cy ≤ 1) ∧ (∀ d ∈ P, d < 2) ∧ (vb 2 P + 2 ^ k * cy = vb 2 (da.take k) + vb 2 (db.take k)) ∧ (Own w_ w.heap.size 3 1 Ao k co (P.map i64n))) (max na nb + 1 - (0)) ?_ ?_
  · refine ⟨(0), ([]), (none), (0), (0), rfl, rfl, rfl, rfl, cI, cI, (Frm.refl _ _), ?_, ?_, ?_, ?_, ?_, ?_⟩
    · omega
    · rfl
    · omega
    · simp
    · simp [vb]
    · exact Own.nil
  · rintro m6 e15 w7 ⟨k, P, Ao, co, cy, hm14, hs8, hs9, hs10, hs11, hs12, hF13, hk, hP, hcy, hlt, hv, hO⟩
    obtain ⟨r16, rfl⟩ := sq (e := e15) (t := 0) hs8
    obtain ⟨r17, rfl⟩ := sq (e := r16) (t := 1) hs9
    obtain ⟨r18, rfl⟩ := sq (e := r17) (t := 5) hs10
    obtain ⟨r19, rfl⟩ := sq (e := r18) (t := 6) hs11
    obtain ⟨r20, rfl⟩ := sq (e := r19) (t := 7) hs12
    have hz21 := hF13.size
    have hga := getD_ge (ds := da) (n := na) (by omega) k; have hgb := getD_ge (ds := db) (n := nb) (by omega) k
    refine wp_seq_k fun K22 hK22 => rS fun K23 hK23 => sMi rfl (sMs rfl (sV (evLen Try.underlying29 rfl) ?_))
    by_cases hc24 : ((k : Int)) < ((na : Int))
    · refine sV (evLss true rfl rfl (dT hc24)) (sMb rfl (sSkip rfl rfl (sSkip rfl rfl (sSkip rfl rfl (sSkip rfl rfl (sV (v := (.bool true)) (rfl) (sMb rfl (sSkip rfl rfl (sSkip rfl rfl (sV (v := (.bool true)) (rfl) (sK hK23 (cT rfl (wp_skip (xN (hK22 _ _ (wp_seq_k fun K25 hK25 => wp_block (rS fun K26 hK26 => sMs rfl (sMi rfl ?_))))))))))))))))))
      have h27 := (ha.frmB hF13 q3)
      refine sO (oCall rfl call98 (ref01_bit h27 (xi := k) (by omega)) rfl ?_)
      rintro _ w29 ⟨xr_28, rfl, hE30, br_28, e_28, le_28⟩
      have hz31 := hE30.size
      refine sMs rfl (sMi rfl ?_)
      have hR32 := hF13.xr hE30
      have h33 := (hb.frmB hR32 q3)
      refine sO (oCall rfl call98 (ref01_bit h33 (xi := k) (by omega)) rfl ?_)
      rintro _ w35 ⟨xr_34, rfl, hE36, br_34, e_34, le_34⟩
      have hz37 := hE36.size
      refine sV (evAdd (((xr_28 : Int)) + ((xr_34 : Int))) rfl rfl wI) (sMi rfl (sV (evAdd ((((xr_28 : Int)) + ((xr_34 : Int))) + ((cy : Int))) rfl rfl wI) (sAi rfl (sK hK26 (rS fun K38 hK38 => sMs rfl (sMi rfl (sV (evRem (((((xr_28 + xr_34) + cy) % 2 : Nat) : Int)) rfl rfl (by omega) (remE (by omega) (by omega))) (sO (oBuildSlice [(.int .i64 (((((xr_28 + xr_34) + cy) % 2 : Nat) : Int)))] [[(.int .i64 (((((xr_28 + xr_34) + cy) % 2 : Nat) : Int)))]] Try.underlying29 inf3 rfl rfl rfl rfl rfl (fun g39 w40 hg41 hE42 hz43 hB44 => ?_))))))))))
      replace hB44 : Blk w40 g39 3 [(.int .i64 (((((xr_28 + xr_34) + cy) % 2 : Nat) : Int)))] := hB44
      have hR45 := (hE30.trans hE36).trans hE42
      have hO46 := (hO.ext hR45)
      refine sO (oApp (B := w.heap.size) (cs := (P).map i64n) Try.underlying29 inf3 rfl (by decide) rfl rfl hO46 hB44 rfl rfl (by omega) (by omega) (by omega) (fun A47 c48 w49 hO50 hF51 _ _ => ?_))
      replace hO50 : Own w49 w.heap.size 3 1 A47 (k + 1) c48 ((P ++ [((xr_28 + xr_34) + cy) % 2]).map i64n) := by rw [List.map_append]; exact hO50
      refine sAs rfl (sK hK38 (wp_region_lit (sMi rfl (sV (evQuo (((((xr_28 + xr_34) + cy) / 2 : Nat) : Int)) rfl rfl (by omega) (quoEi64 (by omega) (by omega) (by omega))) (sAi rfl (sDone (bN (xN (hK25 _ _ (wp_region_lit (sMi rfl (sV (evAdd (((k : Int)) + 1) rfl rfl wI) (sAi rfl (sDone ?_))))))))))))))
      have hR52 := hR45.rx hF51
      refine again (max na nb + 1 - (k + 1)) (by omega) ⟨(k + 1), (P ++ [((xr_28 + xr_34) + cy) % 2]), (A47), (c48), (((xr_28 + xr_34) + cy) / 2), rfl, rfl, rfl, rfl, cI, cI, (hF13.trans hR52), ?_, ?_, ?_, ?_, ?_, ?_⟩
      · omega
      · simp [hP]
      · omega
      · exact vlt_snoc hlt (by omega)
      · exact vadd_step hv hP (by omega)
      · exact hO50
    · refine sV (evLss false rfl rfl (dF hc24)) (sMb rfl (sEv (v := (.int .i64 ((k : Int)))) (rfl) rfl rfl (sEv (v := (.slice Ab nb cb)) (rfl) rfl rfl (sEv (v := (.int .i64 ((nb : Int)))) (evLen Try.underlying29 rfl) rfl rfl ?_))))
      by_cases hc53 : ((k : Int)) < ((nb : Int))
      · refine sEv (v := (.bool true)) (evLss true rfl rfl (dT hc53)) rfl rfl (sV (v := (.bool true)) (rfl) (sMb rfl (sSkip rfl rfl (sSkip rfl rfl (sV (v := (.bool true)) (rfl) (sK hK23 (cT rfl (wp_skip (xN (hK22 _ _ (wp_seq_k fun K54 hK54 => wp_block (rS fun K55 hK55 => sMs rfl (sMi rfl ?_)))))))))))))
        have h56 := (ha.frmB hF13 q3)
        refine sO (oCall rfl call98 (ref01_bit h56 (xi := k) (by omega)) rfl ?_)
        rintro _ w58 ⟨xr_57, rfl, hE59, br_57, e_57, le_57⟩
        have hz60 := hE59.size
        refine sMs rfl (sMi rfl ?_)
        have hR61 := hF13.xr hE59
        have h62 := (hb.frmB hR61 q3)
        refine sO (oCall rfl call98 (ref01_bit h62 (xi := k) (by omega)) rfl ?_)
        rintro _ w64 ⟨xr_63, rfl, hE65, br_63, e_63, le_63⟩
        have hz66 := hE65.size
        refine sV (evAdd (((xr_57 : Int)) + ((xr_63 : Int))) rfl rfl wI) (sMi rfl (sV (evAdd ((((xr_57 : Int)) + ((xr_63 : Int))) + ((cy : Int))) rfl rfl wI) (sAi rfl (sK hK55 (rS fun K67 hK67 => sMs rfl (sMi rfl (sV (evRem (((((xr_57 + xr_63) + cy) % 2 : Nat) : Int)) rfl rfl (by omega) (remE (by omega) (by omega))) (sO (oBuildSlice [(.int .i64 (((((xr_57 + xr_63) + cy) % 2 : Nat) : Int)))] [[(.int .i64 (((((xr_57 + xr_63) + cy) % 2 : Nat) : Int)))]] Try.underlying29 inf3 rfl rfl rfl rfl rfl (fun g68 w69 hg70 hE71 hz72 hB73 => ?_))))))))))
        replace hB73 : Blk w69 g68 3 [(.int .i64 (((((xr_57 + xr_63) + cy) % 2 : Nat) : Int)))] := hB73
        have hR74 := (hE59.trans hE65).trans hE71
        have hO75 := (hO.ext hR74)
        refine sO (oApp (B := w.heap.size) (cs := (P).map i64n) Try.underlying29 inf3 rfl (by decide) rfl rfl hO75 hB73 rfl rfl (by omega) (by omega) (by omega) (fun A76 c77 w78 hO79 hF80 _ _ => ?_))
        replace hO79 : Own w78 w.heap.size 3 1 A76 (k + 1) c77 ((P ++ [((xr_57 + xr_63) + cy) % 2]).map i64n) := by rw [List.map_append]; exact hO79
        refine sAs rfl (sK hK67 (wp_region_lit (sMi rfl (sV (evQuo (((((xr_57 + xr_63) + cy) / 2 : Nat) : Int)) rfl rfl (by omega) (quoEi64 (by omega) (by omega) (by omega))) (sAi rfl (sDone (bN (xN (hK54 _ _ (wp_region_lit (sMi rfl (sV (evAdd (((k : Int)) + 1) rfl rfl wI) (sAi rfl (sDone ?_))))))))))))))
        have hR81 := hR74.rx hF80
        refine again (max na nb + 1 - (k + 1)) (by omega) ⟨(k + 1), (P ++ [((xr_57 + xr_63) + cy) % 2]), (A76), (c77), (((xr_57 + xr_63) + cy) / 2), rfl, rfl, rfl, rfl, cI, cI, (hF13.trans hR81), ?_, ?_, ?_, ?_, ?_, ?_⟩
        · omega
        · simp [hP]
        · omega
        · exact vlt_snoc hlt (by omega)
        · exact vadd_step hv hP (by omega)
        · exact hO79
      · refine sEv (v := (.bool false)) (evLss false rfl rfl (dF hc53)) rfl rfl (sV (v := (.bool false)) (rfl) (sMb rfl (sEv (v := (.int .i64 ((cy : Int)))) (rfl) rfl rfl ?_)))
        by_cases hc82 : ((cy : Int)) > 0
        · refine sEv (v := (.bool true)) (evGtr true rfl rfl (dT hc82)) rfl rfl (sV (v := (.bool true)) (rfl) (sK hK23 (cT rfl (wp_skip (xN (hK22 _ _ (wp_seq_k fun K83 hK83 => wp_block (rS fun K84 hK84 => sMs rfl (sMi rfl ?_)))))))))
          have h85 := (ha.frmB hF13 q3)
          refine sO (oCall rfl call98 (ref01_bit h85 (xi := k) (by omega)) rfl ?_)
          rintro _ w87 ⟨xr_86, rfl, hE88, br_86, e_86, le_86⟩
          have hz89 := hE88.size
          refine sMs rfl (sMi rfl ?_)
          have hR90 := hF13.xr hE88
          have h91 := (hb.frmB hR90 q3)
          refine sO (oCall rfl call98 (ref01_bit h91 (xi := k) (by omega)) rfl ?_)
          rintro _ w93 ⟨xr_92, rfl, hE94, br_92, e_92, le_92⟩
          have hz95 := hE94.size
          refine sV (evAdd (((xr_86 : Int)) + ((xr_92 : Int))) rfl rfl wI) (sMi rfl (sV (evAdd ((((xr_86 : Int)) + ((xr_92 : Int))) + ((cy : Int))) rfl rfl wI) (sAi rfl (sK hK84 (rS fun K96 hK96 => sMs rfl (sMi rfl (sV (evRem (((((xr_86 + xr_92) + cy) % 2 : Nat) : Int)) rfl rfl (by omega) (remE (by omega) (by omega))) (sO (oBuildSlice [(.int .i64 (((((xr_86 + xr_92) + cy) % 2 : Nat) : Int)))] [[(.int .i64 (((((xr_86 + xr_92) + cy) % 2 : Nat) : Int)))]] Try.underlying29 inf3 rfl rfl rfl rfl rfl (fun g97 w98 hg99 hE100 hz101 hB102 => ?_))))))))))
          replace hB102 : Blk w98 g97 3 [(.int .i64 (((((xr_86 + xr_92) + cy) % 2 : Nat) : Int)))] := hB102
          have hR103 := (hE88.trans hE94).trans hE100
          have hO104 := (hO.ext hR103)
          refine sO (oApp (B := w.heap.size) (cs := (P).map i64n) Try.underlying29 inf3 rfl (by decide) rfl rfl hO104 hB102 rfl rfl (by omega) (by omega) (by omega) (fun A105 c106 w107 hO108 hF109 _ _ => ?_))
          replace hO108 : Own w107 w.heap.size 3 1 A105 (k + 1) c106 ((P ++ [((xr_86 + xr_92) + cy) % 2]).map i64n) := by rw [List.map_append]; exact hO108
          refine sAs rfl (sK hK96 (wp_region_lit (sMi rfl (sV (evQuo (((((xr_86 + xr_92) + cy) / 2 : Nat) : Int)) rfl rfl (by omega) (quoEi64 (by omega) (by omega) (by omega))) (sAi rfl (sDone (bN (xN (hK83 _ _ (wp_region_lit (sMi rfl (sV (evAdd (((k : Int)) + 1) rfl rfl wI) (sAi rfl (sDone ?_))))))))))))))
          have hR110 := hR103.rx hF109
          refine again (max na nb + 1 - (k + 1)) (by omega) ⟨(k + 1), (P ++ [((xr_86 + xr_92) + cy) % 2]), (A105), (c106), (((xr_86 + xr_92) + cy) / 2), rfl, rfl, rfl, rfl, cI, cI, (hF13.trans hR110), ?_, ?_, ?_, ?_, ?_, ?_⟩
          · omega
          · simp [hP]
          · omega
          · exact vlt_snoc hlt (by omega)
          · exact vadd_step hv hP (by omega)
          · exact hO108
        · refine sEv (v := (.bool false)) (evGtr false rfl rfl (dF hc82)) rfl rfl (sV (v := (.bool false)) (rfl) (sK hK23 (cF rfl (wp_exit (xE (xE (bE (xN (hK4 _ _ (rS fun K111 hK111 => sMs rfl (sO (oCall rfl call74 (ref01_Trim (Own.digR hO hlt)) rfl ?_))))))))))))
          rintro _ w113 ⟨Ar_112, nr_112, cr_112, dr_112, rfl, hE114, hr_112, e_112, le_112⟩
          have hz115 := hE114.size
          have ⟨lr_112, kr_112, mr_112⟩ := hr_112.lkm
          refine sAs rfl (sK hK111 (wp_ret (ret1 (.slice Ar_112 nr_112 cr_112) Try.results100 (resT rfl) ?_)))
          have hR117 := hF13.xr hE114
          exact ⟨Ar_112, nr_112, cr_112, dr_112, rfl, (Frm.mono hR117 q4), (DigR.sub hr_112 q5), (by rw [e_112, vb_trim]; exact vadd_end hv (by omega) (by omega) (by omega)), (by rw [e_112]; exact canon_trim _ _), (by omega)⟩

theorem ref01_Sub {w : World} {Sa : Nat → Prop} {Aa : Option Addr} {na ca : Nat} {da : List Nat} {Sb : Nat → Prop} {Ab : Option Addr} {nb cb : Nat} {db : List Nat} (ha : DigR 2 w Sa Aa na ca da) (hb : DigR 2 w Sb Ab nb cb db) (hna : na ≤ 1099511627776) (hle : vb 2 db ≤ vb 2 da) : Calls Try.prog 101 #[(.slice Aa na ca), (.slice Ab nb cb)] w (Ret fun v w' => ∃ (Ar : Option Addr) (nr : Nat) (cr : Nat) (dr : List Nat), v = (.slice Ar nr cr) ∧ Ext w w' ∧ DigR 2 w' (fun b => w.heap.size ≤ b) Ar nr cr dr ∧ (vb 2 dr = vb 2 da - vb 2 db) ∧ (Canon isZ dr) ∧ (nr ≤ na)) := by
  have ⟨la, ka, ma⟩ := ha.lkm
  replace ha := ha.low
  have ⟨lb, kb, mb⟩ := hb.lkm
  replace hb := hb.low
  refine enter Try.func101 rfl Try.ntmps101 rfl (rS fun K1 hK1 => sAs rfl (sK hK1 (rS fun K2 hK2 => sAs rfl (sK hK2 (rS fun K3 hK3 => sAi rfl (sK hK3 (wp_seq_k fun K4 hK4 => rS fun K5 hK5 => sAi rfl (sK hK5 (wp_block ?_)))))))))
  refine lLoop (fun m e w_ => ∃ (k : Nat) (P : List Nat) (Ao : Option Addr) (co : Nat) (bo : Nat), m = na - k ∧ e 0 = (.slice Aa na ca) ∧ e 1 = (.slice Ab nb cb) ∧ e 5 = (.slice Ao k co) ∧ e 6 = (.int .i64 ((bo : Int))) ∧ e 7 = (.int .i64 ((k : Int))) ∧ Frm (fun b => w.heap.size ≤ b) w w_ ∧ (k ≤ na) ∧ (P.length = k) ∧ (bo ≤ 1) ∧ (∀ d ∈ P, d < 2) ∧ (vb 2 P + vb 2 (db.take k) = vb 2 (da.take k) + 2 ^ k * bo) ∧ (Own w_ w.heap.size 3 1 Ao k co (P.map i64n))) (na - (0)) ?_ ?_
  · refine ⟨(0), ([]), (none), (0), (0), rfl, rfl, rfl, rfl, cI, cI, (Frm.refl _ _), ?_, ?_, ?_, ?_, ?_, ?_⟩
    · omega
    · rfl
    · omega
    · simp
    · simp [vb]
    · exact Own.nil
  · rintro m6 e15 w7 ⟨k, P, Ao, co, bo, hm14, hs8, hs9, hs10, hs11, hs12, hF13, hk, hP, hbo, hlt, hv, hO⟩
    obtain ⟨r16, rfl⟩ := sq (e := e15) (t := 0) hs8
    obtain ⟨r17, rfl⟩ := sq (e := r16) (t := 1) hs9
    obtain ⟨r18, rfl⟩ := sq (e := r17) (t := 5) hs10
    obtain ⟨r19, rfl⟩ := sq (e := r18) (t := 6) hs11
    obtain ⟨r20, rfl⟩ := sq (e := r19) (t := 7) hs12
    have hz21 := hF13.size
    refine wp_seq_k fun K22 hK22 => rS fun K23 hK23 => sMi rfl (sMs rfl (sV (evLen Try.underlying29 rfl) ?_))
    by_cases hc24 : ((k : Int)) < ((na : Int))
    · refine sV (evLss true rfl rfl (dT hc24)) (sK hK23 (cT rfl (wp_skip (xN (hK22 _ _ (wp_seq_k fun K25 hK25 => wp_block (rS fun K26 hK26 => sMs rfl (sMi rfl ?_))))))))
      have h27 := (ha.frmB hF13 q3)
      refine sO (oCall rfl call98 (ref01_bit h27 (xi := k) (by omega)) rfl ?_)
      rintro _ w29 ⟨xr_28, rfl, hE30, br_28, e_28, le_28⟩
      have hz31 := hE30.size
      refine sMs rfl (sMi rfl ?_)
      have hR32 := hF13.xr hE30
      have h33 := (hb.frmB hR32 q3)
      refine sO (oCall rfl call98 (ref01_bit h33 (xi := k) (by omega)) rfl ?_)
      rintro _ w35 ⟨xr_34, rfl, hE36, br_34, e_34, le_34⟩
      have hz37 := hE36.size
      refine sV (evSub (((xr_28 : Int)) - ((xr_34 : Int))) rfl rfl wI) (sMi rfl (sV (evSub ((((xr_28 : Int)) - ((xr_34 : Int))) - ((bo : Int))) rfl rfl wI) (sAi rfl (sK hK26 (rS fun K38 hK38 => sAi rfl (sK hK38 (wp_seq_k fun K39 hK39 => rS fun K40 hK40 => sMi rfl ?_)))))))
      by_cases hc41 : ((((xr_28 : Int)) - ((xr_34 : Int))) - ((bo : Int))) < 0
      · refine sV (evLss true rfl rfl (dT hc41)) (sK hK40 (cT rfl (rS fun K42 hK42 => sMi rfl (sV (evAdd (((((xr_28 : Int)) - ((xr_34 : Int))) - ((bo : Int))) + 2) rfl rfl wI) (sAi rfl (sK hK42 (wp_region_lit (sAi rfl (sK hK39 (wp_region_lit (sMs rfl (sV (v := (.int .i64 (((da.getD k 0 + 2 - db.getD k 0 - bo : Nat) : Int)))) (by rw [show ((da.getD k 0 + 2 - db.getD k 0 - bo : Nat) : Int) = ((((xr_28 : Int)) - ((xr_34 : Int))) - ((bo : Int))) + 2 by omega]; rfl) (sO (oBuildSlice [(.int .i64 (((da.getD k 0 + 2 - db.getD k 0 - bo : Nat) : Int)))] [[(.int .i64 (((da.getD k 0 + 2 - db.getD k 0 - bo : Nat) : Int)))]] Try.underlying29 inf3 rfl rfl rfl rfl rfl (fun g43 w44 hg45 hE46 hz47 hB48 => ?_)))))))))))))))
        replace hB48 : Blk w44 g43 3 [(.int .i64 (((da.getD k 0 + 2 - db.getD k 0 - bo : Nat) : Int)))] := hB48
        have hR49 := (hE30.trans hE36).trans hE46
        have hO50 := (hO.ext hR49)
        refine sO (oApp (B := w.heap.size) (cs := (P).map i64n) Try.underlying29 inf3 rfl (by decide) rfl rfl hO50 hB48 rfl rfl (by omega) (by omega) (by omega) (fun A51 c52 w53 hO54 hF55 _ _ => ?_))
        replace hO54 : Own w53 w.heap.size 3 1 A51 (k + 1) c52 ((P ++ [da.getD k 0 + 2 - db.getD k 0 - bo]).map i64n) := by rw [List.map_append]; exact hO54
        refine sAs rfl (sDone (bN (xN (hK25 _ _ (wp_region_lit (sMi rfl (sV (evAdd (((k : Int)) + 1) rfl rfl wI) (sAi rfl (sDone ?_)))))))))
        have hR56 := hR49.rx hF55
        refine again (na - (k + 1)) (by omega) ⟨(k + 1), (P ++ [da.getD k 0 + 2 - db.getD k 0 - bo]), (A51), (c52), (1), rfl, rfl, rfl, rfl, cI, cI, (hF13.trans hR56), ?_, ?_, ?_, ?_, ?_, ?_⟩
        · omega
        · simp [hP]
        · omega
        · exact vlt_snoc hlt (by omega)
        · exact vsub_step hv hP (by omega)
        · exact hO54
      · refine sV (evLss false rfl rfl (dF hc41)) (sK hK40 (cF rfl (wp_skip (xN (hK39 _ _ (wp_region_lit (sMs rfl (sV (v := (.int .i64 (((da.getD k 0 + 0 - db.getD k 0 - bo : Nat) : Int)))) (by rw [show ((da.getD k 0 + 0 - db.getD k 0 - bo : Nat) : Int) = (((xr_28 : Int)) - ((xr_34 : Int))) - ((bo : Int)) by omega]; rfl) (sO (oBuildSlice [(.int .i64 (((da.getD k 0 + 0 - db.getD k 0 - bo : Nat) : Int)))] [[(.int .i64 (((da.getD k 0 + 0 - db.getD k 0 - bo : Nat) : Int)))]] Try.underlying29 inf3 rfl rfl rfl rfl rfl (fun g57 w58 hg59 hE60 hz61 hB62 => ?_)))))))))))
        replace hB62 : Blk w58 g57 3 [(.int .i64 (((da.getD k 0 + 0 - db.getD k 0 - bo : Nat) : Int)))] := hB62
        have hR63 := (hE30.trans hE36).trans hE60
        have hO64 := (hO.ext hR63)
        refine sO (oApp (B := w.heap.size) (cs := (P).map i64n) Try.underlying29 inf3 rfl (by decide) rfl rfl hO64 hB62 rfl rfl (by omega) (by omega) (by omega) (fun A65 c66 w67 hO68 hF69 _ _ => ?_))
        replace hO68 : Own w67 w.heap.size 3 1 A65 (k + 1) c66 ((P ++ [da.getD k 0 + 0 - db.getD k 0 - bo]).map i64n) := by rw [List.map_append]; exact hO68
        refine sAs rfl (sDone (bN (xN (hK25 _ _ (wp_region_lit (sMi rfl (sV (evAdd (((k : Int)) + 1) rfl rfl wI) (sAi rfl (sDone ?_)))))))))
        have hR70 := hR63.rx hF69
        refine again (na - (k + 1)) (by omega) ⟨(k + 1), (P ++ [da.getD k 0 + 0 - db.getD k 0 - bo]), (A65), (c66), (0), rfl, rfl, rfl, rfl, cI, cI, (hF13.trans hR70), ?_, ?_, ?_, ?_, ?_, ?_⟩
        · omega
        · simp [hP]
        · omega
        · exact vlt_snoc hlt (by omega)
        · exact vsub_step hv hP (by omega)
        · exact hO68
    · refine sV (evLss false rfl rfl (dF hc24)) (sK hK23 (cF rfl (wp_exit (xE (xE (bE (xN (hK4 _ _ (rS fun K71 hK71 => sMs rfl (sO (oCall rfl call74 (ref01_Trim (Own.digR hO hlt)) rfl ?_)))))))))))
      rintro _ w73 ⟨Ar_72, nr_72, cr_72, dr_72, rfl, hE74, hr_72, e_72, le_72⟩
      have hz75 := hE74.size
      have ⟨lr_72, kr_72, mr_72⟩ := hr_72.lkm
      refine sAs rfl (sK hK71 (wp_ret (ret1 (.slice Ar_72 nr_72 cr_72) Try.results101 (resT rfl) ?_)))
      have hR77 := hF13.xr hE74
      exact ⟨Ar_72, nr_72, cr_72, dr_72, rfl, (Frm.mono hR77 q4), (DigR.sub hr_72 q5), (by rw [e_72, vb_trim]; exact vsub_end hv hP hlt (by omega) hle (vb_take_lt (by decide) (Nat.lt_of_le_of_lt hle (by have h := vb_lt da ha.2; rwa [show da.length = k by omega] at h)))), (by rw [e_72]; exact canon_trim _ _), (by omega)⟩

end Go.Proofs.Ytppegjbdencefaa
