/-
  Walks of package unipoly: shift, stretch, reversal, composition.
-/
import Derived.Test.YtppegjbdencefaaUni4
namespace Go.Proofs.Ytppegjbdencefaa
open Go.RowKit Go.Gx
set_option maxHeartbeats 1000000 in
theorem unipoly_Compose {w : World} {Sf : Nat → Prop} {Af : Option Addr} {nf cf Mf : Nat} {lf : List RI} {Sg : Nat → Prop} {Ag : Option Addr} {ng cg Mg : Nat} {lg : List RI} (hf : PolyR w Sf Af nf cf lf Mf) (hg : PolyR w Sg Ag ng cg lg Mg) (hnf : nf ≤ 64) (hMf : Mf ≤ 1024) (hng : ng ≤ 64) (hMg : Mg ≤ 1024) : Calls Try.prog 32 #[(.slice Af nf cf), (.slice Ag ng cg)] w (Ret fun v w' => ∃ (Ar : Option Addr) (nr : Nat) (cr : Nat) (lr : List RI), v = (.slice Ar nr cr) ∧ Ext w w' ∧ PolyR w' (fun b => w.heap.size ≤ b) Ar nr cr lr (8192 * nf) ∧ (zs lr = trimZ (phorn (zs lg) (zs lf))) ∧ (nr ≤ 64 * nf + 1) ∧ (AllC lr)) := by
  have kf := hf.len; have jf := hf.cap; have mf := hf.max
  replace hf := hf.low
  have kg := hg.len; have jg := hg.cap; have mg := hg.max
  replace hg := hg.low
  refine enter Try.func32 rfl Try.ntmps32 rfl ?_
  refine wp_seq_k fun K1 hK1 => ?_
  refine wp_region_lit ?_
  refine sEv (v := (.slice none 0 0)) (rfl) rfl rfl ?_
  refine sDone ?_
  refine xN (hK1 _ _ ?_)
  refine wp_seq_k fun K2 hK2 => ?_
  refine wp_region_lit ?_
  refine sEv (v := (.slice none 0 0)) (rfl) rfl rfl ?_
  refine sDone ?_
  refine xN (hK2 _ _ ?_)
  refine wp_seq_k fun K3 hK3 => ?_
  refine wp_seq_k fun K4 hK4 => ?_
  refine wp_region_lit ?_
  refine sEv (v := (.slice Af nf cf)) (rfl) rfl rfl ?_
  refine sEv (v := (.int .i64 ((nf : Int)))) (evLen Try.underlying23 rfl) rfl rfl ?_
  refine sEv (v := (.int .i64 (((nf : Int)) - 1))) (evSub (((nf : Int)) - 1) rfl rfl (wI64 (by omega))) rfl rfl ?_
  refine sEv (v := (.int .i64 (((nf : Int)) - 1))) (rfl) rfl rfl ?_
  refine sDone ?_
  refine xN (hK4 _ _ ?_)
  refine wp_block ?_
  refine lLoop (fun m e w_ => ∃ (k : Nat) (Av : Option Addr) (nv : Nat) (cv : Nat) (lv : List RI), m = k ∧ e 0 = (.slice Af nf cf) ∧ e 1 = (.slice Ag ng cg) ∧ e 5 = (.slice Av nv cv) ∧ e 6 = (.int .i64 ((k : Int) - 1)) ∧ Frm (fun b => False) w w_ ∧ (k ≤ nf) ∧ (nv ≤ 64 * (nf - k) + 1) ∧ (AllC lv) ∧ (zs lv = trimZ (phorn (zs lg) ((zs lf).drop k))) ∧ (PolyR w_ (fun b => w.heap.size ≤ b) Av nv cv lv (8192 * (nf - k)))) ((nf)) ?_ ?_
  · refine ⟨(nf), (none), (0), (0), ([]), rfl, rfl, rfl, rfl, (congrArg (Value.int .i64) (by omega)), (Frm.refl _ _), ?_, ?_, ?_, ?_, ?_⟩
    · omega
    · omega
    · exact AllC.nil
    · rw [List.drop_of_length_le (by rw [zlen]; omega)]; rfl
    · exact PolyR.nil
  · rintro m5 e13 w6 ⟨k, Av, nv, cv, lv, hm12, hs7, hs8, hs9, hs10, hF11, hk, hnv, hC, hz, hV⟩
    obtain ⟨r14, rfl⟩ := sq (e := e13) (t := 0) hs7
    obtain ⟨r15, rfl⟩ := sq (e := r14) (t := 1) hs8
    obtain ⟨r16, rfl⟩ := sq (e := r15) (t := 5) hs9
    obtain ⟨r17, rfl⟩ := sq (e := r16) (t := 6) hs10
    have hz18 := hF11.size
    have qV := hV.len; have jV := hV.cap; have mV := hV.max
    refine wp_seq_k fun K19 hK19 => ?_
    refine wp_seq_k fun K20 hK20 => ?_
    refine wp_region_lit ?_
    refine sEv (v := (.int .i64 ((k : Int) - 1))) (rfl) rfl rfl ?_
    by_cases hc21 : ((k : Int) - 1) ≥ 0
    · refine sEv (v := (.bool true)) (evGeq true rfl rfl (dT hc21)) rfl rfl ?_
      refine sDone ?_
      refine xN (hK20 _ _ ?_)
      refine cT rfl ?_
      refine wp_skip ?_
      refine xN (hK19 _ _ ?_)
      refine wp_seq_k fun K22 hK22 => ?_
      refine wp_block ?_
      refine dBegin (fun _ => False) mixed ?_
      intro w23 hE24 hz25
      refine dEv 0 rfl (v := (.slice Av nv cv)) (fun _ _ => rfl) rfl rfl (by kernel_rfl) ?_
      refine dEv 1 rfl (v := (.slice Ag ng cg)) (fun _ _ => rfl) rfl rfl (by kernel_rfl) ?_
      refine dEv 3 rfl (v := (.slice Af nf cf)) (fun _ _ => rfl) rfl rfl (by kernel_rfl) ?_
      refine dEv 4 rfl (v := (.int .i64 ((k : Int) - 1))) (fun _ _ => rfl) rfl rfl (by kernel_rfl) ?_
      have h26 := (hf.ext (hF11.trans hE24))
      obtain ⟨b27, o28, rfl⟩ := h26.base (by omega)
      refine dEv 5 rfl (v := (.pointer (some ⟨b27, o28 + ((k - 1) * 2), none⟩))) (fun _ _ => evIndex (k - 1) Try.underlying23 sz46 rfl rfl (by omega) (by omega) (o28 + ((k - 1) * 2)) (by omega)) rfl rfl (by kernel_rfl) ?_
      obtain ⟨g_29, A_29, n_29, c_29, d_29, he_29, hp_29, hq_29, h_29, hM_29, hS_29, hb_29, z_29⟩ := h26.at_ (i := k - 1) (by omega)
      have l_29 := h_29.len; have k_29 := h_29.cap; have m_29 := h_29.max
      refine dEv 6 rfl (v := (.agg #[(.bool g_29), (.slice A_29 n_29 c_29)])) (fun _ hf => evLoadA [(.bool g_29), (.slice A_29 n_29 c_29)] agg46 sz46 rfl (cell2F hp_29 hq_29 hf hb_29 (fun h => h))) rfl rfl (by kernel_rfl) ?_
      refine dTwo 2 7 (by kernel_rfl) ?_ ?_
      · have h31 := (hV.ext hE24)
        have h32 := (hg.ext (hF11.trans hE24))
        refine dWp (i := 2) rfl rfl (oCall rfl call18 (unipoly_Mul h31 h32 (by omega) (by omega) (by omega) (by omega)) rfl ?_)
        rintro _ w34 ⟨Ar_33, nr_33, cr_33, lr_33, rfl, hE35, hr_33, e_33, ln_33, cn_33⟩
        refine ⟨(Frm.of_ext hE35), ?_⟩
        have hz36 := hE35.size
        have kr_33 := hr_33.len; have jr_33 := hr_33.cap; have mr_33 := hr_33.max
        refine dOp 7 rfl rfl (by kernel_rfl) (oBuildSlice [(.agg #[(.bool g_29), (.slice A_29 n_29 c_29)])] [[(.bool g_29), (.slice A_29 n_29 c_29)]] Try.underlying23 inf46 rfl rfl rfl rfl rfl ?_)
        intro g38 w39 hg40 hE41 hz42 hB43
        refine ⟨(Frm.of_ext hE41), ?_⟩
        replace hB43 : Blk w39 g38 46 [(.bool g_29), (.slice A_29 n_29 c_29)] := hB43
        have h44 := (h_29.ext (hE35.trans hE41))
        have h45 : PolyR w39 (fun _ => True) (some ⟨g38, 0, none⟩) 1 1 [⟨g_29, A_29, n_29, c_29, d_29⟩] Mf := PolyR.of_blk (l := [⟨g_29, A_29, n_29, c_29, d_29⟩]) (M := Mf) hB43 (fun r hr => by simp at hr; subst hr; exact ⟨h44.sub fun _ _ _ => trivial, by (try dsimp only); omega⟩) trivial rfl (Nat.le_refl _) (by decide)
        have h47 := (hr_33.ext hE41)
        refine dOp 8 rfl rfl (by kernel_rfl) (oCall rfl call22 (unipoly_Add h47 h45 (by omega) (by omega) (by omega) (by omega)) rfl ?_)
        rintro _ w49 ⟨Ar_48, nr_48, cr_48, lr_48, rfl, hE50, hr_48, e_48, ln_48, cn_48⟩
        refine ⟨(Frm.of_ext hE50), ?_⟩
        have hz51 := hE50.size
        have kr_48 := hr_48.len; have jr_48 := hr_48.cap; have mr_48 := hr_48.max
        refine dEv 9 rfl (v := (.slice Ar_48 nr_48 cr_48)) (fun _ _ => rfl) rfl rfl (by kernel_rfl) ?_
        refine dDone (by kernel_rfl) ?_
        refine bN ?_
        refine xN (hK22 _ _ ?_)
        refine wp_region_lit ?_
        refine sEv (v := (.int .i64 ((k : Int) - 1))) (rfl) rfl rfl ?_
        refine sEv (v := (.int .i64 (((k : Int) - 1) - 1))) (evSub (((k : Int) - 1) - 1) rfl rfl (wI64 (by omega))) rfl rfl ?_
        refine sEv (v := (.int .i64 (((k : Int) - 1) - 1))) (rfl) rfl rfl ?_
        refine sDone ?_
        refine again ((k - 1)) (by omega) ⟨(k - 1), (Ar_48), (nr_48), (cr_48), (lr_48), rfl, rfl, rfl, rfl, (congrArg (Value.int .i64) (by omega)), ((((hF11.trans hE24).trans hE35).trans hE41).trans hE50), ?_, ?_, ?_, ?_, ?_⟩
        · omega
        · omega
        · exact cn_48
        · rw [e_48, e_33, show zs [⟨g_29, A_29, n_29, c_29, d_29⟩] = [co (zs lf) (k - 1)] from congrArg (fun x => [x]) z_29]; exact horn_step _ (by rw [zlen]; omega) (by rw [show k - 1 + 1 = k by omega]; exact hz)
        · exact PolyR.le (PolyR.sub hr_48 q5) (by omega)
      · refine dWp (i := 7) rfl rfl (oBuildSlice [(.agg #[(.bool g_29), (.slice A_29 n_29 c_29)])] [[(.bool g_29), (.slice A_29 n_29 c_29)]] Try.underlying23 inf46 rfl rfl rfl rfl rfl ?_)
        intro g53 w54 hg55 hE56 hz57 hB58
        refine ⟨(Frm.of_ext hE56), ?_⟩
        replace hB58 : Blk w54 g53 46 [(.bool g_29), (.slice A_29 n_29 c_29)] := hB58
        have h59 := (h_29.ext hE56)
        have h60 : PolyR w54 (fun _ => True) (some ⟨g53, 0, none⟩) 1 1 [⟨g_29, A_29, n_29, c_29, d_29⟩] Mf := PolyR.of_blk (l := [⟨g_29, A_29, n_29, c_29, d_29⟩]) (M := Mf) hB58 (fun r hr => by simp at hr; subst hr; exact ⟨h59.sub fun _ _ _ => trivial, by (try dsimp only); omega⟩) trivial rfl (Nat.le_refl _) (by decide)
        have h62 := (hV.ext (hE24.trans hE56))
        have h63 := (hg.ext ((hF11.trans hE24).trans hE56))
        refine dOp 2 rfl rfl (by kernel_rfl) (oCall rfl call18 (unipoly_Mul h62 h63 (by omega) (by omega) (by omega) (by omega)) rfl ?_)
        rintro _ w65 ⟨Ar_64, nr_64, cr_64, lr_64, rfl, hE66, hr_64, e_64, ln_64, cn_64⟩
        refine ⟨(Frm.of_ext hE66), ?_⟩
        have hz67 := hE66.size
        have kr_64 := hr_64.len; have jr_64 := hr_64.cap; have mr_64 := hr_64.max
        have h69 := (h60.ext hE66)
        refine dOp 8 rfl rfl (by kernel_rfl) (oCall rfl call22 (unipoly_Add hr_64 h69 (by omega) (by omega) (by omega) (by omega)) rfl ?_)
        rintro _ w71 ⟨Ar_70, nr_70, cr_70, lr_70, rfl, hE72, hr_70, e_70, ln_70, cn_70⟩
        refine ⟨(Frm.of_ext hE72), ?_⟩
        have hz73 := hE72.size
        have kr_70 := hr_70.len; have jr_70 := hr_70.cap; have mr_70 := hr_70.max
        refine dEv 9 rfl (v := (.slice Ar_70 nr_70 cr_70)) (fun _ _ => rfl) rfl rfl (by kernel_rfl) ?_
        refine dDone (by kernel_rfl) ?_
        refine bN ?_
        refine xN (hK22 _ _ ?_)
        refine wp_region_lit ?_
        refine sEv (v := (.int .i64 ((k : Int) - 1))) (rfl) rfl rfl ?_
        refine sEv (v := (.int .i64 (((k : Int) - 1) - 1))) (evSub (((k : Int) - 1) - 1) rfl rfl (wI64 (by omega))) rfl rfl ?_
        refine sEv (v := (.int .i64 (((k : Int) - 1) - 1))) (rfl) rfl rfl ?_
        refine sDone ?_
        refine again ((k - 1)) (by omega) ⟨(k - 1), (Ar_70), (nr_70), (cr_70), (lr_70), rfl, rfl, rfl, rfl, (congrArg (Value.int .i64) (by omega)), ((((hF11.trans hE24).trans hE56).trans hE66).trans hE72), ?_, ?_, ?_, ?_, ?_⟩
        · omega
        · omega
        · exact cn_70
        · rw [e_70, e_64, show zs [⟨g_29, A_29, n_29, c_29, d_29⟩] = [co (zs lf) (k - 1)] from congrArg (fun x => [x]) z_29]; exact horn_step _ (by rw [zlen]; omega) (by rw [show k - 1 + 1 = k by omega]; exact hz)
        · exact PolyR.le (PolyR.sub hr_70 q5) (by omega)
    · refine sEv (v := (.bool false)) (evGeq false rfl rfl (dF hc21)) rfl rfl ?_
      refine sDone ?_
      refine xN (hK20 _ _ ?_)
      refine cF rfl ?_
      refine wp_exit (xE (xE (bE ?_)))
      refine xN (hK3 _ _ ?_)
      refine wp_seq_k fun K75 hK75 => ?_
      refine wp_region_lit ?_
      refine sEv (v := (.slice Av nv cv)) (rfl) rfl rfl ?_
      refine sEv (v := (.slice Av nv cv)) (rfl) rfl rfl ?_
      refine sDone ?_
      refine xN (hK75 _ _ ?_)
      refine wp_ret ?_
      refine ret1 (.slice Av nv cv) Try.results32 (resT rfl) ?_
      exact ⟨Av, nv, cv, lv, rfl, hF11, (PolyR.le (PolyR.sub hV q5) (by omega)), (by rw [hz, show k = 0 by omega, List.drop_zero]), (by omega), hC⟩

theorem unipoly_Reverse {w : World} {Sf : Nat → Prop} {Af : Option Addr} {nf cf Mf : Nat} {lf : List RI} (hf : PolyR w Sf Af nf cf lf Mf) (hnf : nf ≤ 1048576) (hMf : Mf ≤ 1073741824) : Calls Try.prog 31 #[(.slice Af nf cf)] w (Ret fun v w' => ∃ (Ar : Option Addr) (nr : Nat) (cr : Nat) (lr : List RI), v = (.slice Ar nr cr) ∧ Ext w w' ∧ PolyR w' (fun b => w.heap.size ≤ b) Ar nr cr lr (Mf) ∧ (zs lr = trimZ (trimZ (zs lf)).reverse) ∧ (nr ≤ nf) ∧ (AllC lr)) := by
  have kf := hf.len; have jf := hf.cap; have mf := hf.max
  replace hf := hf.low
  refine enter Try.func31 rfl Try.ntmps31 rfl ?_
  refine wp_seq_k fun K1 hK1 => ?_
  refine wp_region_lit ?_
  refine sEv (v := (.slice none 0 0)) (rfl) rfl rfl ?_
  refine sDone ?_
  refine xN (hK1 _ _ ?_)
  refine wp_seq_k fun K2 hK2 => ?_
  refine wp_region_lit ?_
  refine sEv (v := (.slice Af nf cf)) (rfl) rfl rfl ?_
  refine sOp rfl (oCall rfl call68 (unipoly_trim hf) rfl ?_)
  rintro _ w4 ⟨Ar_3, nr_3, cr_3, lr_3, rfl, hE5, hr_3, e_3, le_3⟩
  have hz6 := hE5.size
  have kr_3 := hr_3.len; have jr_3 := hr_3.cap; have mr_3 := hr_3.max
  refine sEv (v := (.slice Ar_3 nr_3 cr_3)) (rfl) rfl rfl ?_
  refine sDone ?_
  refine xN (hK2 _ _ ?_)
  refine wp_seq_k fun K8 hK8 => ?_
  refine wp_region_lit ?_
  refine sEv (v := (.slice Ar_3 nr_3 cr_3)) (rfl) rfl rfl ?_
  refine sEv (v := (.int .i64 ((nr_3 : Int)))) (evLen Try.underlying23 rfl) rfl rfl ?_
  refine sOp rfl (oMake2 nr_3 Try.underlying23 inf46 (congrArg (Value.int .i64) (by omega)) (congrArg (Value.int .i64) (by omega)) (by omega) (by omega) ?_)
  intro g9 w10 hg11 hE12 hz13 hB14
  have hB15 : Blk w10 g9 46 (cellsI (List.replicate nr_3 RI.zero)) := hB14
  refine sEv (v := (.slice (some ⟨g9, 0, none⟩) nr_3 nr_3)) (rfl) rfl rfl ?_
  refine sDone ?_
  refine xN (hK8 _ _ ?_)
  refine wp_seq_k fun K16 hK16 => ?_
  refine wp_seq_k fun K17 hK17 => ?_
  refine wp_region_lit ?_
  refine sEv (v := (.slice Ar_3 nr_3 cr_3)) (rfl) rfl rfl ?_
  refine sEv (v := (.int .i64 ((nr_3 : Int)))) (evLen Try.underlying23 rfl) rfl rfl ?_
  refine sEv (v := (.int .i64 (0))) (rfl) rfl rfl ?_
  refine sDone ?_
  refine xN (hK17 _ _ ?_)
  refine wp_block ?_
  refine lLoop (fun m e w_ => ∃ (k : Nat) (L : List RI), m = nr_3 - k ∧ e 0 = (.slice Ar_3 nr_3 cr_3) ∧ e 3 = (.slice (some ⟨g9, 0, none⟩) nr_3 nr_3) ∧ e 11 = (.slice Ar_3 nr_3 cr_3) ∧ e 12 = (.int .i64 ((nr_3 : Int))) ∧ e 13 = (.int .i64 ((k : Int))) ∧ Frm (fun b => b = g9) w10 w_ ∧ Blk w_ g9 46 (cellsI (List.replicate (nr_3 - k) RI.zero ++ L)) ∧ (k ≤ nr_3) ∧ (L.length = k) ∧ (AllN w_ (fun b => g9 < b) Mf L) ∧ (zs L = ((zs lr_3).take k).reverse) ∧ (AllC L)) (nr_3 - (0)) ?_ ?_
  · refine ⟨(0), ([]), rfl, rfl, rfl, rfl, rfl, (congrArg (Value.int .i64) (by omega)), (Frm.refl _ _), ?_, ?_, ?_, ?_, ?_, ?_⟩
    · simpa using hB15
    · omega
    · rfl
    · exact AllN.nil
    · simp
    · exact AllC.nil
  · rintro m18 e28 w19 ⟨k, L, hm27, hs20, hs21, hs22, hs23, hs24, hF25, hB26, hk, hL, hA, hz, hC⟩
    obtain ⟨r29, rfl⟩ := sq (e := e28) (t := 0) hs20
    obtain ⟨r30, rfl⟩ := sq (e := r29) (t := 3) hs21
    obtain ⟨r31, rfl⟩ := sq (e := r30) (t := 11) hs22
    obtain ⟨r32, rfl⟩ := sq (e := r31) (t := 12) hs23
    obtain ⟨r33, rfl⟩ := sq (e := r32) (t := 13) hs24
    have hz34 := hF25.size
    refine wp_seq_k fun K35 hK35 => ?_
    refine wp_region_lit ?_
    by_cases hc36 : ((k : Int)) < ((nr_3 : Int))
    · refine sEv (v := (.bool true)) (evLss true rfl rfl (dT hc36)) rfl rfl ?_
      refine sDone ?_
      refine xN (hK35 _ _ ?_)
      refine wp_seq_k fun K37 hK37 => ?_
      refine cT rfl ?_
      refine wp_skip ?_
      refine xN (hK37 _ _ ?_)
      refine wp_seq_k fun K38 hK38 => ?_
      refine wp_block ?_
      refine wp_seq_k fun K39 hK39 => ?_
      refine wp_region_lit ?_
      refine sEv (v := (.int .i64 ((k : Int)))) (rfl) rfl rfl ?_
      have h40 := (hr_3.frmB ((Frm.of_ext (G := fun b => (b = g9)) hE12).trans hF25) q3)
      obtain ⟨b41, o42, rfl⟩ := h40.base (by omega)
      refine sEv (v := (.pointer (some ⟨b41, o42 + (k * 2), none⟩))) (evIndex k Try.underlying23 sz46 rfl rfl (by omega) (by omega) (o42 + (k * 2)) (by omega)) rfl rfl ?_
      obtain ⟨g_43, A_43, n_43, c_43, d_43, he_43, hp_43, hq_43, h_43, hM_43, hS_43, hb_43, z_43⟩ := h40.at_ (i := k) (by omega)
      have l_43 := h_43.len; have k_43 := h_43.cap; have m_43 := h_43.max
      refine sEv (v := (.agg #[(.bool g_43), (.slice A_43 n_43 c_43)])) (evLoadA [(.bool g_43), (.slice A_43 n_43 c_43)] agg46 sz46 rfl (cell2 hp_43 hq_43)) rfl rfl ?_
      refine sOp rfl (oAlloc [(.bool false), (.slice none 0 0)] zero46 rfl ?_)
      intro g45 w46 hg47 hE48 hz49 hB50
      refine sEv (v := (.int .i64 ((k : Int)))) (rfl) rfl rfl ?_
      refine sOp rfl (oStore [(.bool g_43), (.slice A_43 n_43 c_43)] rfl rfl rfl sz46 rfl hB50 (Nat.le_of_ble_eq_true rfl) ?_)
      intro w51 hU52 hz53 hB54
      replace hB54 : Blk w51 g45 46 [(.bool g_43), (.slice A_43 n_43 c_43)] := hB54
      refine sDone ?_
      refine xN (hK39 _ _ ?_)
      refine wp_region_lit ?_
      refine sEv (v := (.slice (some ⟨g9, 0, none⟩) nr_3 nr_3)) (rfl) rfl rfl ?_
      refine sEv (v := (.slice (some ⟨b41, o42, none⟩) nr_3 cr_3)) (rfl) rfl rfl ?_
      refine sEv (v := (.int .i64 ((nr_3 : Int)))) (evLen Try.underlying23 rfl) rfl rfl ?_
      refine sEv (v := (.int .i64 (((nr_3 : Int)) - 1))) (evSub (((nr_3 : Int)) - 1) rfl rfl (wI64 (by omega))) rfl rfl ?_
      refine sEv (v := (.int .i64 ((k : Int)))) (rfl) rfl rfl ?_
      refine sEv (v := (.int .i64 ((((nr_3 : Int)) - 1) - ((k : Int))))) (evSub ((((nr_3 : Int)) - 1) - ((k : Int))) rfl rfl (wI64 (by omega))) rfl rfl ?_
      refine sEv (v := (.agg #[(.bool g_43), (.slice A_43 n_43 c_43)])) (evLoadAB [(.bool g_43), (.slice A_43 n_43 c_43)] agg46 sz46 rfl hB54 rfl) rfl rfl ?_
      have h55 := (h_43.frmB ((Frm.of_ext (G := fun b => (b = g45)) hE48).trans hU52) q3)
      refine sOp rfl (oCall rfl call73 (integer_Normal h55 (by omega)) rfl ?_)
      rintro _ w57 ⟨gr_56, Ar_56, nr_56, cr_56, dr_56, rfl, hE58, hr_56, v_56, cn_56, le_56⟩
      have hz59 := hE58.size
      have lr_56 := hr_56.len; have kr_56 := hr_56.cap; have mr_56 := hr_56.max
      refine sEv (v := (.pointer (some ⟨g9, (nr_3 - 1 - k) * 2, none⟩))) (evIndex (nr_3 - 1 - k) Try.underlying23 sz46 rfl rfl (by omega) (by omega) ((nr_3 - 1 - k) * 2) (by omega)) rfl rfl ?_
      have hB61 := (hB26.frm (((Frm.of_ext (G := fun b => (b = g45)) hE48).trans hU52).trans (Frm.of_ext (G := fun b => (b = g45)) hE58)) q1)
      refine sOp rfl (oStore [(.bool gr_56), (.slice Ar_56 nr_56 cr_56)] rfl rfl rfl sz46 rfl hB61 (by rw [cellsI_len]; simp only [List.length_cons, List.length_nil]; exact lq) ?_)
      intro w62 hU63 hz64 hB65
      replace hB65 := (cellsI_set (l := List.replicate (nr_3 - k) RI.zero ++ L) (i := nr_3 - 1 - k) ⟨gr_56, Ar_56, nr_56, cr_56, dr_56⟩ (by exact lq)) ▸ hB65
      replace hB65 : Blk w62 g9 46 (cellsI (List.replicate (nr_3 - (k + 1)) RI.zero ++ (⟨gr_56, Ar_56, nr_56, cr_56, dr_56⟩ :: L))) := (rev_set (Z := []) (by omega) (by omega) : (List.replicate (nr_3 - k) RI.zero ++ L).set (nr_3 - 1 - k) ⟨gr_56, Ar_56, nr_56, cr_56, dr_56⟩ = List.replicate (nr_3 - (k + 1)) RI.zero ++ (⟨gr_56, Ar_56, nr_56, cr_56, dr_56⟩ :: L)) ▸ hB65
      refine sDone ?_
      refine bN ?_
      refine xN (hK38 _ _ ?_)
      refine wp_region_lit ?_
      refine sEv (v := (.int .i64 (((k : Int)) + 1))) (evAdd (((k : Int)) + 1) rfl rfl (wI64 (by omega))) rfl rfl ?_
      refine sEv (v := (.int .i64 (((k : Int)) + 1))) (rfl) rfl rfl ?_
      refine sDone ?_
      have h66 := (hA.frmB ((((Frm.of_ext (G := fun b => (b = g45) ∨ (b = g9)) hE48).trans (hU52.mono (G' := fun b => (b = g45) ∨ (b = g9)) fun _ _ h => .inl h)).trans (Frm.of_ext (G := fun b => (b = g45) ∨ (b = g9)) hE58)).trans (hU63.mono (G' := fun b => (b = g45) ∨ (b = g9)) fun _ _ h => .inr h)) q3)
      have h67 := (hr_56.frmB hU63 q3)
      refine again (nr_3 - (k + 1)) (by omega) ⟨(k + 1), (⟨gr_56, Ar_56, nr_56, cr_56, dr_56⟩ :: L), rfl, rfl, rfl, rfl, rfl, (congrArg (Value.int .i64) (by omega)), (Frm.mono (((((hF25.mono (G' := fun b => (b = g9) ∨ (b = g45)) fun _ _ h => .inl h).trans (Frm.of_ext (G := fun b => (b = g9) ∨ (b = g45)) hE48)).trans (hU52.mono (G' := fun b => (b = g9) ∨ (b = g45)) fun _ _ h => .inr h)).trans (Frm.of_ext (G := fun b => (b = g9) ∨ (b = g45)) hE58)).trans (hU63.mono (G' := fun b => (b = g9) ∨ (b = g45)) fun _ _ h => .inl h)) q4), ?_, ?_, ?_, ?_, ?_, ?_⟩
      · exact hB65
      · omega
      · simp [hL]
      · exact AllN.cons h66 (NatR.sub h67 q5) (by (try dsimp only); omega)
      · exact rev_step hz (by omega) (by show zval _ _ = _; rw [v_56, z_43])
      · exact AllC.cons hC cn_56
    · refine sEv (v := (.bool false)) (evLss false rfl rfl (dF hc36)) rfl rfl ?_
      refine sDone ?_
      refine xN (hK35 _ _ ?_)
      refine wp_seq_k fun K68 hK68 => ?_
      refine cF rfl ?_
      refine wp_exit (xE (xE (bE ?_)))
      refine xN (hK16 _ _ ?_)
      refine wp_seq_k fun K69 hK69 => ?_
      refine wp_region_lit ?_
      refine sEv (v := (.slice (some ⟨g9, 0, none⟩) nr_3 nr_3)) (rfl) rfl rfl ?_
      have h70 : PolyR w19 (fun b => g9 ≤ b) (some ⟨g9, 0, none⟩) nr_3 nr_3 (List.replicate (nr_3 - k) RI.zero ++ L) (Mf) := PolyR.of_blk hB26 (AllN.app (AllN.zeros _) (AllN.sub hA q5)) (by (try dsimp only); omega) (by exact lq) (by omega) (by unfold CapMax; omega)
      refine sOp rfl (oCall rfl call68 (unipoly_trim h70) rfl ?_)
      rintro _ w72 ⟨Ar_71, nr_71, cr_71, lr_71, rfl, hE73, hr_71, e_71, le_71⟩
      have hz74 := hE73.size
      have kr_71 := hr_71.len; have jr_71 := hr_71.cap; have mr_71 := hr_71.max
      refine sEv (v := (.slice Ar_71 nr_71 cr_71)) (rfl) rfl rfl ?_
      refine sDone ?_
      refine xN (hK69 _ _ ?_)
      refine wp_ret ?_
      refine ret1 (.slice Ar_71 nr_71 cr_71) Try.results31 (resT rfl) ?_
      exact ⟨Ar_71, nr_71, cr_71, lr_71, rfl, (Frm.mono ((((Frm.of_ext (G := fun b => (b = g9)) hE5).trans (Frm.of_ext (G := fun b => (b = g9)) hE12)).trans hF25).trans (Frm.of_ext (G := fun b => (b = g9)) hE73)) q4), (PolyR.le (PolyR.sub hr_71 q5) (by omega)), (by rw [e_71, zs_trim, show nr_3 - k = 0 by omega, List.replicate_zero, List.nil_append, hz, List.take_of_length_le (by rw [zlen]; omega), e_3, zs_trim]), (by omega), (by rw [e_71]; exact (AllC.app (AllC.zeros _) hC).trim)⟩

set_option maxHeartbeats 1000000 in
theorem unipoly_Stretch {w : World} {Sf : Nat → Prop} {Af : Option Addr} {nf cf Mf : Nat} {lf : List RI} {gc : Bool} {Sc : Nat → Prop} {Ac : Option Addr} {nc cc : Nat} {dc : List Nat} (hf : PolyR w Sf Af nf cf lf Mf) (hc : NatR w Sc Ac nc cc dc) (hnf : nf ≤ 64) (hMf : Mf ≤ 16777216) (hnc : nc ≤ 1023) : Calls Try.prog 30 #[(.slice Af nf cf), (.agg #[(.bool gc), (.slice Ac nc cc)])] w (Ret fun v w' => ∃ (Ar : Option Addr) (nr : Nat) (cr : Nat) (lr : List RI), v = (.slice Ar nr cr) ∧ Ext w w' ∧ PolyR w' (fun b => w.heap.size ≤ b) Ar nr cr lr (Mf + 65540) ∧ (zs lr = trimZ (phorn [0, zval gc dc] (zs lf))) ∧ (nr ≤ nf) ∧ (AllC lr)) := by
  have kf := hf.len; have jf := hf.cap; have mf := hf.max
  replace hf := hf.low
  have lc := hc.len; have kc := hc.cap; have mc := hc.max
  replace hc := hc.low
  refine enter Try.func30 rfl Try.ntmps30 rfl ?_
  refine wp_seq_k fun K1 hK1 => ?_
  refine wp_region_lit ?_
  refine sOp rfl (oBox [(.bool gc), (.slice Ac nc cc)] rfl rfl ?_)
  intro g2 w3 hg4 hE5 hz6 hB7
  refine sEv (v := (.slice none 0 0)) (rfl) rfl rfl ?_
  refine sDone ?_
  refine xN (hK1 _ _ ?_)
  refine wp_seq_k fun K8 hK8 => ?_
  refine wp_region_lit ?_
  refine sEv (v := (.slice Af nf cf)) (rfl) rfl rfl ?_
  have h9 := (hf.ext hE5)
  refine sOp rfl (oCall rfl call37 (unipoly_Normal h9 (by omega) (by omega)) rfl ?_)
  rintro _ w11 ⟨qr_10, nr_10, lr_10, rfl, hE12, hgr_10, Br_10, hAr_10, kr_10, mr_10, e_10, ln_10, cn_10⟩
  have hz13 := hE12.size
  have hhr_10 : w3.heap.size ≤ qr_10 := hgr_10; have ltr_10 := Br_10.lt
  have h15 := hAr_10.sub (S' := fun b => (qr_10 < b) ∧ b < w11.heap.size) fun _ hb hs => ⟨hs, hb⟩
  refine sEv (v := (.slice (some ⟨qr_10, 0, none⟩) nr_10 nr_10)) (rfl) rfl rfl ?_
  refine sDone ?_
  refine xN (hK8 _ _ ?_)
  refine wp_seq_k fun K16 hK16 => ?_
  refine wp_region_lit ?_
  refine sOp rfl (oCall rfl call48 (integer_Of (by omega)) rfl ?_)
  rintro _ w18 ⟨gr_17, Ar_17, nr_17, cr_17, dr_17, rfl, hE19, hr_17, v_17, cn_17, le_17⟩
  have hz20 := hE19.size
  have lr_17 := hr_17.len; have kr_17 := hr_17.cap; have mr_17 := hr_17.max
  have h22 := hr_17.sub (S' := fun b => (w11.heap.size ≤ b) ∧ b < w18.heap.size) fun _ hb hs => ⟨hs, hb⟩
  refine sOp rfl (oAlloc [(.bool false), (.slice none 0 0)] zero46 rfl ?_)
  intro g23 w24 hg25 hE26 hz27 hB28
  refine sOp rfl (oStore [(.bool gr_17), (.slice Ar_17 nr_17 cr_17)] rfl rfl rfl sz46 rfl hB28 (Nat.le_of_ble_eq_true rfl) ?_)
  intro w29 hU30 hz31 hB32
  replace hB32 : Blk w29 g23 46 [(.bool gr_17), (.slice Ar_17 nr_17 cr_17)] := hB32
  refine sDone ?_
  refine xN (hK16 _ _ ?_)
  refine wp_seq_k fun K33 hK33 => ?_
  refine wp_seq_k fun K34 hK34 => ?_
  refine wp_region_lit ?_
  refine sEv (v := (.slice (some ⟨qr_10, 0, none⟩) nr_10 nr_10)) (rfl) rfl rfl ?_
  refine sEv (v := (.int .i64 ((nr_10 : Int)))) (evLen Try.underlying23 rfl) rfl rfl ?_
  refine sEv (v := (.int .i64 (0))) (rfl) rfl rfl ?_
  refine sDone ?_
  refine xN (hK34 _ _ ?_)
  refine wp_block ?_
  have hB36 := (Br_10.frm (((Frm.of_ext (G := fun b => (b = g23)) hE19).trans (Frm.of_ext (G := fun b => (b = g23)) hE26)).trans hU30) q1)
  have h37 := (h22.frmB ((Frm.of_ext (G := fun b => (b = g23)) hE26).trans hU30) q3)
  have h38 := (h15.frmB (((Frm.of_ext (G := fun b => (b = g23)) hE19).trans (Frm.of_ext (G := fun b => (b = g23)) hE26)).trans hU30) q3)
  refine lLoop (fun m e w_ => ∃ (k : Nat) (L : List RI) (gp : Bool) (Ap : Option Addr) (np : Nat) (cp : Nat) (dp : List Nat), m = nr_10 - k ∧ e 3 = (.pointer (some ⟨g2, 0, none⟩)) ∧ e 5 = (.slice (some ⟨qr_10, 0, none⟩) nr_10 nr_10) ∧ e 6 = (.pointer (some ⟨g23, 0, none⟩)) ∧ e 12 = (.int .i64 ((nr_10 : Int))) ∧ e 13 = (.int .i64 ((k : Int))) ∧ Frm (fun b => b = qr_10 ∨ b = g23) w29 w_ ∧ Blk w_ qr_10 46 (cellsI L) ∧ Blk w_ g23 46 ([.bool gp, .slice Ap np cp]) ∧ (k ≤ nr_10) ∧ (L.length = nr_10) ∧ (np ≤ 2 + 1024 * k) ∧ (NatR w_ (fun b => qr_10 < b ∧ b ≠ g23) Ap np cp dp) ∧ (AllN w_ (fun b => qr_10 < b ∧ b ≠ g23) (Mf + 65540) L) ∧ (∀ j r, k ≤ j → L[j]? = some r → r.n ≤ Mf) ∧ (zval gp dp = zval gc dc ^ k) ∧ (∀ j, co (zs L) j = if j < k then co (zs lr_10) j * zval gc dc ^ j else co (zs lr_10) j) ∧ (AllC L)) (nr_10 - (0)) ?_ ?_
  · refine ⟨(0), (lr_10), (gr_17), (Ar_17), (nr_17), (cr_17), (dr_17), rfl, rfl, rfl, rfl, rfl, (congrArg (Value.int .i64) (by omega)), (Frm.refl _ _), ?_, ?_, ?_, ?_, ?_, ?_, ?_, ?_, ?_, ?_, ?_⟩
    · exact hB36
    · exact hB32
    · omega
    · omega
    · omega
    · exact NatR.sub h37 q5
    · exact AllN.le (AllN.sub h38 q5) (by omega)
    · exact small_all h38
    · rw [v_17, Int.pow_zero]
    · intro j; rw [if_neg (by omega)]
    · exact cn_10
  · rintro m35 e49 w39 ⟨k, L, gp, Ap, np, cp, dp, hm48, hs40, hs41, hs42, hs43, hs44, hF45, hB46, hB47, hk, hL, hnp, hN, hA, hD, hp, hz, hC⟩
    obtain ⟨r50, rfl⟩ := sq (e := e49) (t := 3) hs40
    obtain ⟨r51, rfl⟩ := sq (e := r50) (t := 5) hs41
    obtain ⟨r52, rfl⟩ := sq (e := r51) (t := 6) hs42
    obtain ⟨r53, rfl⟩ := sq (e := r52) (t := 12) hs43
    obtain ⟨r54, rfl⟩ := sq (e := r53) (t := 13) hs44
    have hz55 := hF45.size
    have lsN := hN.len; have lsC := hN.cap; have lsM := hN.max
    refine wp_seq_k fun K56 hK56 => ?_
    refine wp_region_lit ?_
    by_cases hc57 : ((k : Int)) < ((nr_10 : Int))
    · refine sEv (v := (.bool true)) (evLss true rfl rfl (dT hc57)) rfl rfl ?_
      refine sDone ?_
      refine xN (hK56 _ _ ?_)
      refine wp_seq_k fun K58 hK58 => ?_
      refine cT rfl ?_
      refine wp_skip ?_
      refine xN (hK58 _ _ ?_)
      refine wp_seq_k fun K59 hK59 => ?_
      refine wp_block ?_
      refine wp_seq_k fun K60 hK60 => ?_
      refine wp_region_lit ?_
      refine sEv (v := (.int .i64 ((k : Int)))) (rfl) rfl rfl ?_
      refine sEv (v := (.int .i64 ((k : Int)))) (rfl) rfl rfl ?_
      refine sDone ?_
      refine xN (hK60 _ _ ?_)
      refine wp_seq_k fun K61 hK61 => ?_
      refine dBegin (fun b => b = qr_10) mixed ?_
      intro w62 hE63 hz64
      refine dEv 0 rfl (v := (.slice (some ⟨qr_10, 0, none⟩) nr_10 nr_10)) (fun _ _ => rfl) rfl rfl (by kernel_rfl) ?_
      refine dEv 1 rfl (v := (.int .i64 ((k : Int)))) (fun _ _ => rfl) rfl rfl (by kernel_rfl) ?_
      refine dEv 2 rfl (v := (.slice (some ⟨qr_10, 0, none⟩) nr_10 nr_10)) (fun _ _ => rfl) rfl rfl (by kernel_rfl) ?_
      refine dEv 3 rfl (v := (.int .i64 ((k : Int)))) (fun _ _ => rfl) rfl rfl (by kernel_rfl) ?_
      refine dEv 4 rfl (v := (.pointer (some ⟨qr_10, k * 2, none⟩))) (fun _ _ => evIndex k Try.underlying23 sz46 rfl rfl (by omega) (by omega) (k * 2) (by omega)) rfl rfl (by kernel_rfl) ?_
      have hB65 := (hB47.ext hE63)
      refine dEv 6 rfl (v := (.agg #[(.bool gp), (.slice Ap np cp)])) (fun _ hf => evLoadAB [(.bool gp), (.slice Ap np cp)] agg46 sz46 rfl (hB65.frm hf q1) rfl) rfl rfl (by kernel_rfl) ?_
      have hB66 := (hB46.ext hE63)
      have h68 := (hA.ext hE63)
      obtain ⟨g_67, A_67, n_67, c_67, d_67, he_67, hp_67, hq_67, z_67⟩ := hB66.int (i := k) (by exact lq)
      have hx_67 := h68 _ (List.mem_of_getElem? he_67)
      dsimp only at hx_67
      have h_67 := hx_67.1; have hM_67 := hx_67.2
      have l_67 := h_67.len; have k_67 := h_67.cap; have m_67 := h_67.max
      refine dOp 5 rfl rfl (by kernel_rfl) (oEv (v := (.agg #[(.bool g_67), (.slice A_67 n_67 c_67)])) (evLoadA [(.bool g_67), (.slice A_67 n_67 c_67)] agg46 sz46 rfl (cell2 hp_67 hq_67)) rfl ⟨Frm.refl _ _, ?_⟩)
      have hnn := hD k _ (Nat.le_refl _) he_67; dsimp only at hnn
      have h70 := (hN.ext hE63)
      refine dOp 7 rfl rfl (by kernel_rfl) (oCall rfl call69 (integer_Mul h_67 h70 (by omega)) rfl ?_)
      rintro _ w72 ⟨gr_71, Ar_71, nr_71, cr_71, dr_71, rfl, hE73, hr_71, v_71, cn_71, le_71⟩
      refine ⟨(Frm.of_ext hE73), ?_⟩
      have hz74 := hE73.size
      have lr_71 := hr_71.len; have kr_71 := hr_71.cap; have mr_71 := hr_71.max
      refine dEv 8 rfl (v := (.pointer (some ⟨qr_10, k * 2, none⟩))) (fun _ _ => evIndex k Try.underlying23 sz46 rfl rfl (by omega) (by omega) (k * 2) (by omega)) rfl rfl (by kernel_rfl) ?_
      have hB76 := (hB66.ext hE73)
      refine dOp 9 rfl rfl (by kernel_rfl) (oStore [(.bool gr_71), (.slice Ar_71 nr_71 cr_71)] rfl rfl rfl sz46 rfl hB76 (by rw [cellsI_len]; simp only [List.length_cons, List.length_nil]; exact lq) ?_)
      intro w77 hU78 hz79 hB80
      replace hB80 := (cellsI_set (l := L) (i := k) ⟨gr_71, Ar_71, nr_71, cr_71, dr_71⟩ (by exact lq)) ▸ hB80
      refine ⟨hU78, ?_⟩
      refine dDone (by kernel_rfl) ?_
      refine xN (hK61 _ _ ?_)
      refine wp_region_lit ?_
      have hB81 := (hB65.frm ((Frm.of_ext (G := fun b => (b = qr_10)) hE73).trans hU78) q1)
      refine sEv (v := (.agg #[(.bool gp), (.slice Ap np cp)])) (evLoadAB [(.bool gp), (.slice Ap np cp)] agg46 sz46 rfl hB81 rfl) rfl rfl ?_
      have hB82 := (hB7.frm ((((((((Frm.of_ext (G := fun b => (b = g23) ∨ (b = qr_10 ∨ b = g23) ∨ (b = qr_10)) hE12).trans (Frm.of_ext (G := fun b => (b = g23) ∨ (b = qr_10 ∨ b = g23) ∨ (b = qr_10)) hE19)).trans (Frm.of_ext (G := fun b => (b = g23) ∨ (b = qr_10 ∨ b = g23) ∨ (b = qr_10)) hE26)).trans (hU30.mono (G' := fun b => (b = g23) ∨ (b = qr_10 ∨ b = g23) ∨ (b = qr_10)) fun _ _ h => .inl h)).trans (hF45.mono (G' := fun b => (b = g23) ∨ (b = qr_10 ∨ b = g23) ∨ (b = qr_10)) fun _ _ h => .inr (.inl h))).trans (Frm.of_ext (G := fun b => (b = g23) ∨ (b = qr_10 ∨ b = g23) ∨ (b = qr_10)) hE63)).trans (Frm.of_ext (G := fun b => (b = g23) ∨ (b = qr_10 ∨ b = g23) ∨ (b = qr_10)) hE73)).trans (hU78.mono (G' := fun b => (b = g23) ∨ (b = qr_10 ∨ b = g23) ∨ (b = qr_10)) fun _ _ h => .inr (.inr h))) q1)
      refine sEv (v := (.agg #[(.bool gc), (.slice Ac nc cc)])) (evLoadAB [(.bool gc), (.slice Ac nc cc)] agg46 sz46 rfl hB82 rfl) rfl rfl ?_
      have h83 := (h70.frmB ((Frm.of_ext (G := fun b => (b = qr_10)) hE73).trans hU78) q3)
      have h84 := (hc.frmB (((((((((Frm.of_ext (G := fun b => (b = g23) ∨ (b = qr_10 ∨ b = g23) ∨ (b = qr_10)) hE5).trans (Frm.of_ext (G := fun b => (b = g23) ∨ (b = qr_10 ∨ b = g23) ∨ (b = qr_10)) hE12)).trans (Frm.of_ext (G := fun b => (b = g23) ∨ (b = qr_10 ∨ b = g23) ∨ (b = qr_10)) hE19)).trans (Frm.of_ext (G := fun b => (b = g23) ∨ (b = qr_10 ∨ b = g23) ∨ (b = qr_10)) hE26)).trans (hU30.mono (G' := fun b => (b = g23) ∨ (b = qr_10 ∨ b = g23) ∨ (b = qr_10)) fun _ _ h => .inl h)).trans (hF45.mono (G' := fun b => (b = g23) ∨ (b = qr_10 ∨ b = g23) ∨ (b = qr_10)) fun _ _ h => .inr (.inl h))).trans (Frm.of_ext (G := fun b => (b = g23) ∨ (b = qr_10 ∨ b = g23) ∨ (b = qr_10)) hE63)).trans (Frm.of_ext (G := fun b => (b = g23) ∨ (b = qr_10 ∨ b = g23) ∨ (b = qr_10)) hE73)).trans (hU78.mono (G' := fun b => (b = g23) ∨ (b = qr_10 ∨ b = g23) ∨ (b = qr_10)) fun _ _ h => .inr (.inr h))) q3)
      refine sOp rfl (oCall rfl call69 (integer_Mul h83 h84 (by omega)) rfl ?_)
      rintro _ w86 ⟨gr_85, Ar_85, nr_85, cr_85, dr_85, rfl, hE87, hr_85, v_85, cn_85, le_85⟩
      have hz88 := hE87.size
      have lr_85 := hr_85.len; have kr_85 := hr_85.cap; have mr_85 := hr_85.max
      have hB90 := (hB81.ext hE87)
      refine sOp rfl (oStore [(.bool gr_85), (.slice Ar_85 nr_85 cr_85)] rfl rfl rfl sz46 rfl hB90 (Nat.le_of_ble_eq_true rfl) ?_)
      intro w91 hU92 hz93 hB94
      replace hB94 : Blk w91 g23 46 [(.bool gr_85), (.slice Ar_85 nr_85 cr_85)] := hB94
      refine sDone ?_
      refine bN ?_
      refine xN (hK59 _ _ ?_)
      refine wp_region_lit ?_
      refine sEv (v := (.int .i64 (((k : Int)) + 1))) (evAdd (((k : Int)) + 1) rfl rfl (wI64 (by omega))) rfl rfl ?_
      refine sEv (v := (.int .i64 (((k : Int)) + 1))) (rfl) rfl rfl ?_
      refine sDone ?_
      have hB95 := (hB80.frm ((Frm.of_ext (G := fun b => (b = g23)) hE87).trans hU92) q1)
      have h96 := (hr_85.frmB hU92 q3)
      have h97 := (h68.frmB ((((Frm.of_ext (G := fun b => (b = qr_10) ∨ (b = g23)) hE73).trans (hU78.mono (G' := fun b => (b = qr_10) ∨ (b = g23)) fun _ _ h => .inl h)).trans (Frm.of_ext (G := fun b => (b = qr_10) ∨ (b = g23)) hE87)).trans (hU92.mono (G' := fun b => (b = qr_10) ∨ (b = g23)) fun _ _ h => .inr h)) q3)
      have h98 := (hr_71.frmB (((hU78.mono (G' := fun b => (b = qr_10) ∨ (b = g23)) fun _ _ h => .inl h).trans (Frm.of_ext (G := fun b => (b = qr_10) ∨ (b = g23)) hE87)).trans (hU92.mono (G' := fun b => (b = qr_10) ∨ (b = g23)) fun _ _ h => .inr h)) q3)
      refine again (nr_10 - (k + 1)) (by omega) ⟨(k + 1), ((L).set k ⟨gr_71, Ar_71, nr_71, cr_71, dr_71⟩), (gr_85), (Ar_85), (nr_85), (cr_85), (dr_85), rfl, rfl, rfl, rfl, rfl, (congrArg (Value.int .i64) (by omega)), (Frm.mono ((((((hF45.mono (G' := fun b => (b = qr_10 ∨ b = g23) ∨ (b = qr_10) ∨ (b = g23)) fun _ _ h => .inl h).trans (Frm.of_ext (G := fun b => (b = qr_10 ∨ b = g23) ∨ (b = qr_10) ∨ (b = g23)) hE63)).trans (Frm.of_ext (G := fun b => (b = qr_10 ∨ b = g23) ∨ (b = qr_10) ∨ (b = g23)) hE73)).trans (hU78.mono (G' := fun b => (b = qr_10 ∨ b = g23) ∨ (b = qr_10) ∨ (b = g23)) fun _ _ h => .inr (.inl h))).trans (Frm.of_ext (G := fun b => (b = qr_10 ∨ b = g23) ∨ (b = qr_10) ∨ (b = g23)) hE87)).trans (hU92.mono (G' := fun b => (b = qr_10 ∨ b = g23) ∨ (b = qr_10) ∨ (b = g23)) fun _ _ h => .inr (.inr h))) q4), ?_, ?_, ?_, ?_, ?_, ?_, ?_, ?_, ?_, ?_, ?_⟩
      · exact hB95
      · exact hB94
      · omega
      · rw [List.length_set]; exact hL
      · omega
      · exact NatR.sub h96 q5
      · exact AllN.set h97 (NatR.sub h98 q5) (by (try dsimp only); omega)
      · exact small_set hD
      · rw [v_85, hp]; exact (Int.pow_succ _ _).symm
      · rw [zs_set]; exact str_step hz (by rw [zlen]; omega) (by show zval _ _ = _; rw [v_71, z_67, hp])
      · exact AllC.set hC cn_71
    · refine sEv (v := (.bool false)) (evLss false rfl rfl (dF hc57)) rfl rfl ?_
      refine sDone ?_
      refine xN (hK56 _ _ ?_)
      refine wp_seq_k fun K99 hK99 => ?_
      refine cF rfl ?_
      refine wp_exit (xE (xE (bE ?_)))
      refine xN (hK33 _ _ ?_)
      refine wp_seq_k fun K100 hK100 => ?_
      refine wp_region_lit ?_
      refine sEv (v := (.slice (some ⟨qr_10, 0, none⟩) nr_10 nr_10)) (rfl) rfl rfl ?_
      have h101 : PolyR w39 (fun b => qr_10 ≤ b) (some ⟨qr_10, 0, none⟩) nr_10 nr_10 (L) (Mf + 65540) := PolyR.of_blk hB46 (AllN.sub hA q5) (by (try dsimp only); omega) (by exact lq) (by omega) (by unfold CapMax; omega)
      refine sOp rfl (oCall rfl call68 (unipoly_trim h101) rfl ?_)
      rintro _ w103 ⟨Ar_102, nr_102, cr_102, lr_102, rfl, hE104, hr_102, e_102, le_102⟩
      have hz105 := hE104.size
      have kr_102 := hr_102.len; have jr_102 := hr_102.cap; have mr_102 := hr_102.max
      refine sEv (v := (.slice Ar_102 nr_102 cr_102)) (rfl) rfl rfl ?_
      refine sDone ?_
      refine xN (hK100 _ _ ?_)
      refine wp_ret ?_
      refine ret1 (.slice Ar_102 nr_102 cr_102) Try.results30 (resT rfl) ?_
      exact ⟨Ar_102, nr_102, cr_102, lr_102, rfl, (Frm.mono (((((((Frm.of_ext (G := fun b => (b = g23) ∨ (b = qr_10 ∨ b = g23)) hE5).trans (Frm.of_ext (G := fun b => (b = g23) ∨ (b = qr_10 ∨ b = g23)) hE12)).trans (Frm.of_ext (G := fun b => (b = g23) ∨ (b = qr_10 ∨ b = g23)) hE19)).trans (Frm.of_ext (G := fun b => (b = g23) ∨ (b = qr_10 ∨ b = g23)) hE26)).trans (hU30.mono (G' := fun b => (b = g23) ∨ (b = qr_10 ∨ b = g23)) fun _ _ h => .inl h)).trans (hF45.mono (G' := fun b => (b = g23) ∨ (b = qr_10 ∨ b = g23)) fun _ _ h => .inr h)).trans (Frm.of_ext (G := fun b => (b = g23) ∨ (b = qr_10 ∨ b = g23)) hE104)) q4), (PolyR.le (PolyR.sub hr_102 q5) (by omega)), (by rw [e_102, zs_trim]; exact str_fin (fun j => by rw [hz j, e_10]) (by rw [zlen]; omega)), (by omega), (by rw [e_102]; exact hC.trim)⟩

set_option maxHeartbeats 1000000 in
theorem unipoly_Shift {w : World} {Sf : Nat → Prop} {Af : Option Addr} {nf cf Mf : Nat} {lf : List RI} {gc : Bool} {Sc : Nat → Prop} {Ac : Option Addr} {nc cc : Nat} {dc : List Nat} (hf : PolyR w Sf Af nf cf lf Mf) (hc : NatR w Sc Ac nc cc dc) (hnf : nf ≤ 64) (hMf : Mf ≤ 16777216) (hnc : nc ≤ 15) : Calls Try.prog 27 #[(.slice Af nf cf), (.agg #[(.bool gc), (.slice Ac nc cc)])] w (Ret fun v w' => ∃ (Ar : Option Addr) (nr : Nat) (cr : Nat) (lr : List RI), v = (.slice Ar nr cr) ∧ Ext w w' ∧ PolyR w' (fun b => w.heap.size ≤ b) Ar nr cr lr (Mf + 1024 * nf) ∧ (zs lr = trimZ (phorn [zval gc dc, 1] (zs lf))) ∧ (nr ≤ nf) ∧ (AllC lr)) := by
  have kf := hf.len; have jf := hf.cap; have mf := hf.max
  replace hf := hf.low
  have lc := hc.len; have kc := hc.cap; have mc := hc.max
  replace hc := hc.low
  refine enter Try.func27 rfl Try.ntmps27 rfl ?_
  refine wp_seq_k fun K1 hK1 => ?_
  refine wp_region_lit ?_
  refine sOp rfl (oBox [(.bool gc), (.slice Ac nc cc)] rfl rfl ?_)
  intro g2 w3 hg4 hE5 hz6 hB7
  refine sEv (v := (.slice none 0 0)) (rfl) rfl rfl ?_
  refine sDone ?_
  refine xN (hK1 _ _ ?_)
  refine wp_seq_k fun K8 hK8 => ?_
  refine wp_region_lit ?_
  refine sEv (v := (.slice Af nf cf)) (rfl) rfl rfl ?_
  have h9 := (hf.ext hE5)
  refine sOp rfl (oCall rfl call37 (unipoly_Normal h9 (by omega) (by omega)) rfl ?_)
  rintro _ w11 ⟨qr_10, nr_10, lr_10, rfl, hE12, hgr_10, Br_10, hAr_10, kr_10, mr_10, e_10, ln_10, cn_10⟩
  have hz13 := hE12.size
  have hhr_10 : w3.heap.size ≤ qr_10 := hgr_10; have ltr_10 := Br_10.lt
  refine sEv (v := (.slice (some ⟨qr_10, 0, none⟩) nr_10 nr_10)) (rfl) rfl rfl ?_
  refine sDone ?_
  refine xN (hK8 _ _ ?_)
  refine wp_seq_k fun K15 hK15 => ?_
  refine wp_seq_k fun K16 hK16 => ?_
  refine wp_region_lit ?_
  refine sEv (v := (.int .i64 (0))) (rfl) rfl rfl ?_
  refine sDone ?_
  refine xN (hK16 _ _ ?_)
  refine wp_block ?_
  refine lLoop (fun m e w_ => ∃ (low : Nat) (L : List RI), m = nr_10 - low ∧ e 3 = (.pointer (some ⟨g2, 0, none⟩)) ∧ e 5 = (.slice (some ⟨qr_10, 0, none⟩) nr_10 nr_10) ∧ e 6 = (.int .i64 ((low : Int))) ∧ Frm (fun b => b = qr_10) w11 w_ ∧ Blk w_ qr_10 46 (cellsI L) ∧ (low ≤ nr_10 - 1) ∧ (L.length = nr_10) ∧ (AllN w_ (fun b => qr_10 < b) (Mf + 1024 * low) L) ∧ (∀ j, tay (zval gc dc) (zs lr_10) j = if j < low then co (zs L) j else tay (zval gc dc) ((zs L).drop low) (j - low)) ∧ (co (zs L) (nr_10 - 1) = co (zs lr_10) (nr_10 - 1)) ∧ (AllC L)) (nr_10 - (0)) ?_ ?_
  · refine ⟨(0), (lr_10), rfl, rfl, rfl, (congrArg (Value.int .i64) (by omega)), (Frm.refl _ _), ?_, ?_, ?_, ?_, ?_, ?_, ?_⟩
    · exact Br_10
    · omega
    · omega
    · exact AllN.le (AllN.sub hAr_10 q5) (by omega)
    · exact shift_start rfl
    · rfl
    · exact cn_10
  · rintro m17 e25 w18 ⟨low, L, hm24, hs19, hs20, hs21, hF22, hB23, hlow, hL, hA, hs, hla, hC⟩
    obtain ⟨r26, rfl⟩ := sq (e := e25) (t := 3) hs19
    obtain ⟨r27, rfl⟩ := sq (e := r26) (t := 5) hs20
    obtain ⟨r28, rfl⟩ := sq (e := r27) (t := 6) hs21
    have hz29 := hF22.size
    refine wp_seq_k fun K30 hK30 => ?_
    refine wp_seq_k fun K31 hK31 => ?_
    refine wp_region_lit ?_
    refine sEv (v := (.int .i64 ((low : Int)))) (rfl) rfl rfl ?_
    refine sEv (v := (.slice (some ⟨qr_10, 0, none⟩) nr_10 nr_10)) (rfl) rfl rfl ?_
    refine sEv (v := (.int .i64 ((nr_10 : Int)))) (evLen Try.underlying23 rfl) rfl rfl ?_
    refine sEv (v := (.int .i64 (((nr_10 : Int)) - 1))) (evSub (((nr_10 : Int)) - 1) rfl rfl (wI64 (by omega))) rfl rfl ?_
    by_cases hc32 : ((low : Int)) < (((nr_10 : Int)) - 1)
    · refine sEv (v := (.bool true)) (evLss true rfl rfl (dT hc32)) rfl rfl ?_
      refine sDone ?_
      refine xN (hK31 _ _ ?_)
      refine cT rfl ?_
      refine wp_skip ?_
      refine xN (hK30 _ _ ?_)
      refine wp_seq_k fun K33 hK33 => ?_
      refine wp_block ?_
      refine wp_seq_k fun K34 hK34 => ?_
      refine wp_region_lit ?_
      refine sEv (v := (.slice (some ⟨qr_10, 0, none⟩) nr_10 nr_10)) (rfl) rfl rfl ?_
      refine sEv (v := (.int .i64 ((nr_10 : Int)))) (evLen Try.underlying23 rfl) rfl rfl ?_
      refine sEv (v := (.int .i64 (((nr_10 : Int)) - 2))) (evSub (((nr_10 : Int)) - 2) rfl rfl (wI64 (by omega))) rfl rfl ?_
      refine sEv (v := (.int .i64 (((nr_10 : Int)) - 2))) (rfl) rfl rfl ?_
      refine sDone ?_
      refine xN (hK34 _ _ ?_)
      refine wp_block ?_
      refine lLoop (fun m e w_ => ∃ (k : Nat) (L2 : List RI), m = k - low ∧ e 3 = (.pointer (some ⟨g2, 0, none⟩)) ∧ e 5 = (.slice (some ⟨qr_10, 0, none⟩) nr_10 nr_10) ∧ e 6 = (.int .i64 ((low : Int))) ∧ e 7 = (.int .i64 ((k : Int) - 1)) ∧ Frm (fun b => b = qr_10) w18 w_ ∧ Blk w_ qr_10 46 (cellsI L2) ∧ (low ≤ k ∧ k ≤ nr_10 - 1) ∧ (L2.length = nr_10) ∧ (AllN w_ (fun b => qr_10 < b) (Mf + 1024 * low + 16 * (nr_10 - 1 - k)) L2) ∧ ((zs L2).take k = (zs L).take k) ∧ ((zs L2).drop k = syn (zval gc dc) ((zs L).drop k)) ∧ (co (zs L2) (nr_10 - 1) = co (zs lr_10) (nr_10 - 1)) ∧ (AllC L2)) ((nr_10 - 1) - low) ?_ ?_
      · refine ⟨(nr_10 - 1), (L), rfl, rfl, rfl, rfl, (congrArg (Value.int .i64) (by omega)), (Frm.refl _ _), ?_, ?_, ?_, ?_, ?_, ?_, ?_, ?_⟩
        · exact hB23
        · omega
        · exact hL
        · exact AllN.le hA (by omega)
        · rfl
        · exact syn_one (by rw [zlen]; omega)
        · exact hla
        · exact hC
      · rintro m35 e44 w36 ⟨k, L2, hm43, hs37, hs38, hs39, hs40, hF41, hB42, hk, hL2, hA2, ht, hd, hla2, hC2⟩
        obtain ⟨r45, rfl⟩ := sq (e := e44) (t := 3) hs37
        obtain ⟨r46, rfl⟩ := sq (e := r45) (t := 5) hs38
        obtain ⟨r47, rfl⟩ := sq (e := r46) (t := 6) hs39
        obtain ⟨r48, rfl⟩ := sq (e := r47) (t := 7) hs40
        have hz49 := hF41.size
        refine wp_seq_k fun K50 hK50 => ?_
        refine wp_seq_k fun K51 hK51 => ?_
        refine wp_region_lit ?_
        refine sEv (v := (.int .i64 ((k : Int) - 1))) (rfl) rfl rfl ?_
        refine sEv (v := (.int .i64 ((low : Int)))) (rfl) rfl rfl ?_
        by_cases hc52 : ((k : Int) - 1) ≥ ((low : Int))
        · refine sEv (v := (.bool true)) (evGeq true rfl rfl (dT hc52)) rfl rfl ?_
          refine sDone ?_
          refine xN (hK51 _ _ ?_)
          refine cT rfl ?_
          refine wp_skip ?_
          refine xN (hK50 _ _ ?_)
          refine wp_seq_k fun K53 hK53 => ?_
          refine wp_block ?_
          refine dBegin (fun b => b = qr_10) mixed ?_
          intro w54 hE55 hz56
          refine dEv 0 rfl (v := (.slice (some ⟨qr_10, 0, none⟩) nr_10 nr_10)) (fun _ _ => rfl) rfl rfl (by kernel_rfl) ?_
          refine dEv 1 rfl (v := (.int .i64 ((k : Int) - 1))) (fun _ _ => rfl) rfl rfl (by kernel_rfl) ?_
          refine dEv 2 rfl (v := (.slice (some ⟨qr_10, 0, none⟩) nr_10 nr_10)) (fun _ _ => rfl) rfl rfl (by kernel_rfl) ?_
          refine dEv 3 rfl (v := (.int .i64 ((k : Int) - 1))) (fun _ _ => rfl) rfl rfl (by kernel_rfl) ?_
          refine dEv 4 rfl (v := (.pointer (some ⟨qr_10, (k - 1) * 2, none⟩))) (fun _ _ => evIndex (k - 1) Try.underlying23 sz46 rfl rfl (by omega) (by omega) ((k - 1) * 2) (by omega)) rfl rfl (by kernel_rfl) ?_
          have hB57 := (hB7.frm ((((Frm.of_ext (G := fun b => (b = qr_10)) hE12).trans hF22).trans hF41).trans (Frm.of_ext (G := fun b => (b = qr_10)) hE55)) q1)
          refine dEv 6 rfl (v := (.agg #[(.bool gc), (.slice Ac nc cc)])) (fun _ hf => evLoadAB [(.bool gc), (.slice Ac nc cc)] agg46 sz46 rfl (hB57.frm hf q1) rfl) rfl rfl (by kernel_rfl) ?_
          refine dEv 7 rfl (v := (.slice (some ⟨qr_10, 0, none⟩) nr_10 nr_10)) (fun _ _ => rfl) rfl rfl (by kernel_rfl) ?_
          refine dEv 8 rfl (v := (.int .i64 ((k : Int) - 1))) (fun _ _ => rfl) rfl rfl (by kernel_rfl) ?_
          refine dEv 9 rfl (v := (.int .i64 (((k : Int) - 1) + 1))) (fun _ _ => evAdd (((k : Int) - 1) + 1) rfl rfl (wI64 (by omega))) rfl rfl (by kernel_rfl) ?_
          refine dEv 10 rfl (v := (.pointer (some ⟨qr_10, (k - 1 + 1) * 2, none⟩))) (fun _ _ => evIndex (k - 1 + 1) Try.underlying23 sz46 rfl rfl (by omega) (by omega) ((k - 1 + 1) * 2) (by omega)) rfl rfl (by kernel_rfl) ?_
          refine dTwo 5 11 (by kernel_rfl) ?_ ?_
          · have hB58 := (hB42.ext hE55)
            have h60 := (hA2.ext hE55)
            obtain ⟨g_59, A_59, n_59, c_59, d_59, he_59, hp_59, hq_59, z_59⟩ := hB58.int (i := k - 1) (by exact lq)
            have hx_59 := h60 _ (List.mem_of_getElem? he_59)
            dsimp only at hx_59
            have h_59 := hx_59.1; have hM_59 := hx_59.2
            have l_59 := h_59.len; have k_59 := h_59.cap; have m_59 := h_59.max
            refine dWp (i := 5) rfl rfl (oEv (v := (.agg #[(.bool g_59), (.slice A_59 n_59 c_59)])) (evLoadA [(.bool g_59), (.slice A_59 n_59 c_59)] agg46 sz46 rfl (cell2 hp_59 hq_59)) rfl ⟨Frm.refl _ _, ?_⟩)
            obtain ⟨g_62, A_62, n_62, c_62, d_62, he_62, hp_62, hq_62, z_62⟩ := hB58.int (i := k - 1 + 1) (by exact lq)
            have hx_62 := h60 _ (List.mem_of_getElem? he_62)
            dsimp only at hx_62
            have h_62 := hx_62.1; have hM_62 := hx_62.2
            have l_62 := h_62.len; have k_62 := h_62.cap; have m_62 := h_62.max
            refine dOp 11 rfl rfl (by kernel_rfl) (oEv (v := (.agg #[(.bool g_62), (.slice A_62 n_62 c_62)])) (evLoadA [(.bool g_62), (.slice A_62 n_62 c_62)] agg46 sz46 rfl (cell2 hp_62 hq_62)) rfl ⟨Frm.refl _ _, ?_⟩)
            have h64 := (hc.frmB (((((Frm.of_ext (G := fun b => (b = qr_10)) hE5).trans (Frm.of_ext (G := fun b => (b = qr_10)) hE12)).trans hF22).trans hF41).trans (Frm.of_ext (G := fun b => (b = qr_10)) hE55)) q3)
            refine dOp 12 rfl rfl (by kernel_rfl) (oCall rfl call69 (integer_Mul h64 h_62 (by omega)) rfl ?_)
            rintro _ w66 ⟨gr_65, Ar_65, nr_65, cr_65, dr_65, rfl, hE67, hr_65, v_65, cn_65, le_65⟩
            refine ⟨(Frm.of_ext hE67), ?_⟩
            have hz68 := hE67.size
            have lr_65 := hr_65.len; have kr_65 := hr_65.cap; have mr_65 := hr_65.max
            have h70 := (h_59.ext hE67)
            refine dOp 13 rfl rfl (by kernel_rfl) (oCall rfl call56 (integer_Add h70 hr_65 (by omega) (by omega)) rfl ?_)
            rintro _ w72 ⟨gr_71, Ar_71, nr_71, cr_71, dr_71, rfl, hE73, hr_71, v_71, cn_71, le_71⟩
            refine ⟨(Frm.of_ext hE73), ?_⟩
            have hz74 := hE73.size
            have lr_71 := hr_71.len; have kr_71 := hr_71.cap; have mr_71 := hr_71.max
            refine dEv 14 rfl (v := (.pointer (some ⟨qr_10, (k - 1) * 2, none⟩))) (fun _ _ => evIndex (k - 1) Try.underlying23 sz46 rfl rfl (by omega) (by omega) ((k - 1) * 2) (by omega)) rfl rfl (by kernel_rfl) ?_
            have hB76 := (hB58.ext (hE67.trans hE73))
            refine dOp 15 rfl rfl (by kernel_rfl) (oStore [(.bool gr_71), (.slice Ar_71 nr_71 cr_71)] rfl rfl rfl sz46 rfl hB76 (by rw [cellsI_len]; simp only [List.length_cons, List.length_nil]; exact lq) ?_)
            intro w77 hU78 hz79 hB80
            replace hB80 := (cellsI_set (l := L2) (i := k - 1) ⟨gr_71, Ar_71, nr_71, cr_71, dr_71⟩ (by exact lq)) ▸ hB80
            refine ⟨hU78, ?_⟩
            refine dDone (by kernel_rfl) ?_
            refine bN ?_
            refine xN (hK53 _ _ ?_)
            refine wp_region_lit ?_
            refine sEv (v := (.int .i64 ((k : Int) - 1))) (rfl) rfl rfl ?_
            refine sEv (v := (.int .i64 (((k : Int) - 1) - 1))) (evSub (((k : Int) - 1) - 1) rfl rfl (wI64 (by omega))) rfl rfl ?_
            refine sEv (v := (.int .i64 (((k : Int) - 1) - 1))) (rfl) rfl rfl ?_
            refine sDone ?_
            have h81 := (h60.frmB (((Frm.of_ext (G := fun b => (b = qr_10)) hE67).trans (Frm.of_ext (G := fun b => (b = qr_10)) hE73)).trans hU78) q3)
            have h82 := (hr_71.frmB hU78 q3)
            refine again ((k - 1) - low) (by omega) ⟨(k - 1), ((L2).set (k - 1) ⟨gr_71, Ar_71, nr_71, cr_71, dr_71⟩), rfl, rfl, rfl, rfl, (congrArg (Value.int .i64) (by omega)), ((((hF41.trans (Frm.of_ext (G := fun b => (b = qr_10)) hE55)).trans (Frm.of_ext (G := fun b => (b = qr_10)) hE67)).trans (Frm.of_ext (G := fun b => (b = qr_10)) hE73)).trans hU78), ?_, ?_, ?_, ?_, ?_, ?_, ?_, ?_⟩
            · exact hB80
            · omega
            · rw [List.length_set]; exact hL2
            · exact AllN.set (AllN.le h81 (by omega)) (NatR.sub h82 q5) (by (try dsimp only); omega)
            · rw [zs_set]; exact (syn_step (by rw [zlen]; omega) (by rw [zlen, zlen]; omega) (by rw [show k - 1 + 1 = k by omega]; exact ht) (by rw [show k - 1 + 1 = k by omega]; exact hd) (by show zval _ _ = _; rw [v_71, z_59, v_65, z_62])).1
            · rw [zs_set]; exact (syn_step (by rw [zlen]; omega) (by rw [zlen, zlen]; omega) (by rw [show k - 1 + 1 = k by omega]; exact ht) (by rw [show k - 1 + 1 = k by omega]; exact hd) (by show zval _ _ = _; rw [v_71, z_59, v_65, z_62])).2
            · rw [zs_set, co_set_ne (by omega)]; exact hla2
            · exact AllC.set hC2 cn_71
          · have hB83 := (hB42.ext hE55)
            have h85 := (hA2.ext hE55)
            obtain ⟨g_84, A_84, n_84, c_84, d_84, he_84, hp_84, hq_84, z_84⟩ := hB83.int (i := k - 1 + 1) (by exact lq)
            have hx_84 := h85 _ (List.mem_of_getElem? he_84)
            dsimp only at hx_84
            have h_84 := hx_84.1; have hM_84 := hx_84.2
            have l_84 := h_84.len; have k_84 := h_84.cap; have m_84 := h_84.max
            refine dWp (i := 11) rfl rfl (oEv (v := (.agg #[(.bool g_84), (.slice A_84 n_84 c_84)])) (evLoadA [(.bool g_84), (.slice A_84 n_84 c_84)] agg46 sz46 rfl (cell2 hp_84 hq_84)) rfl ⟨Frm.refl _ _, ?_⟩)
            refine dTwo 5 12 (by kernel_rfl) ?_ ?_
            · obtain ⟨g_87, A_87, n_87, c_87, d_87, he_87, hp_87, hq_87, z_87⟩ := hB83.int (i := k - 1) (by exact lq)
              have hx_87 := h85 _ (List.mem_of_getElem? he_87)
              dsimp only at hx_87
              have h_87 := hx_87.1; have hM_87 := hx_87.2
              have l_87 := h_87.len; have k_87 := h_87.cap; have m_87 := h_87.max
              refine dWp (i := 5) rfl rfl (oEv (v := (.agg #[(.bool g_87), (.slice A_87 n_87 c_87)])) (evLoadA [(.bool g_87), (.slice A_87 n_87 c_87)] agg46 sz46 rfl (cell2 hp_87 hq_87)) rfl ⟨Frm.refl _ _, ?_⟩)
              have h89 := (hc.frmB (((((Frm.of_ext (G := fun b => (b = qr_10)) hE5).trans (Frm.of_ext (G := fun b => (b = qr_10)) hE12)).trans hF22).trans hF41).trans (Frm.of_ext (G := fun b => (b = qr_10)) hE55)) q3)
              refine dOp 12 rfl rfl (by kernel_rfl) (oCall rfl call69 (integer_Mul h89 h_84 (by omega)) rfl ?_)
              rintro _ w91 ⟨gr_90, Ar_90, nr_90, cr_90, dr_90, rfl, hE92, hr_90, v_90, cn_90, le_90⟩
              refine ⟨(Frm.of_ext hE92), ?_⟩
              have hz93 := hE92.size
              have lr_90 := hr_90.len; have kr_90 := hr_90.cap; have mr_90 := hr_90.max
              have h95 := (h_87.ext hE92)
              refine dOp 13 rfl rfl (by kernel_rfl) (oCall rfl call56 (integer_Add h95 hr_90 (by omega) (by omega)) rfl ?_)
              rintro _ w97 ⟨gr_96, Ar_96, nr_96, cr_96, dr_96, rfl, hE98, hr_96, v_96, cn_96, le_96⟩
              refine ⟨(Frm.of_ext hE98), ?_⟩
              have hz99 := hE98.size
              have lr_96 := hr_96.len; have kr_96 := hr_96.cap; have mr_96 := hr_96.max
              refine dEv 14 rfl (v := (.pointer (some ⟨qr_10, (k - 1) * 2, none⟩))) (fun _ _ => evIndex (k - 1) Try.underlying23 sz46 rfl rfl (by omega) (by omega) ((k - 1) * 2) (by omega)) rfl rfl (by kernel_rfl) ?_
              have hB101 := (hB83.ext (hE92.trans hE98))
              refine dOp 15 rfl rfl (by kernel_rfl) (oStore [(.bool gr_96), (.slice Ar_96 nr_96 cr_96)] rfl rfl rfl sz46 rfl hB101 (by rw [cellsI_len]; simp only [List.length_cons, List.length_nil]; exact lq) ?_)
              intro w102 hU103 hz104 hB105
              replace hB105 := (cellsI_set (l := L2) (i := k - 1) ⟨gr_96, Ar_96, nr_96, cr_96, dr_96⟩ (by exact lq)) ▸ hB105
              refine ⟨hU103, ?_⟩
              refine dDone (by kernel_rfl) ?_
              refine bN ?_
              refine xN (hK53 _ _ ?_)
              refine wp_region_lit ?_
              refine sEv (v := (.int .i64 ((k : Int) - 1))) (rfl) rfl rfl ?_
              refine sEv (v := (.int .i64 (((k : Int) - 1) - 1))) (evSub (((k : Int) - 1) - 1) rfl rfl (wI64 (by omega))) rfl rfl ?_
              refine sEv (v := (.int .i64 (((k : Int) - 1) - 1))) (rfl) rfl rfl ?_
              refine sDone ?_
              have h106 := (h85.frmB (((Frm.of_ext (G := fun b => (b = qr_10)) hE92).trans (Frm.of_ext (G := fun b => (b = qr_10)) hE98)).trans hU103) q3)
              have h107 := (hr_96.frmB hU103 q3)
              refine again ((k - 1) - low) (by omega) ⟨(k - 1), ((L2).set (k - 1) ⟨gr_96, Ar_96, nr_96, cr_96, dr_96⟩), rfl, rfl, rfl, rfl, (congrArg (Value.int .i64) (by omega)), ((((hF41.trans (Frm.of_ext (G := fun b => (b = qr_10)) hE55)).trans (Frm.of_ext (G := fun b => (b = qr_10)) hE92)).trans (Frm.of_ext (G := fun b => (b = qr_10)) hE98)).trans hU103), ?_, ?_, ?_, ?_, ?_, ?_, ?_, ?_⟩
              · exact hB105
              · omega
              · rw [List.length_set]; exact hL2
              · exact AllN.set (AllN.le h106 (by omega)) (NatR.sub h107 q5) (by (try dsimp only); omega)
              · rw [zs_set]; exact (syn_step (by rw [zlen]; omega) (by rw [zlen, zlen]; omega) (by rw [show k - 1 + 1 = k by omega]; exact ht) (by rw [show k - 1 + 1 = k by omega]; exact hd) (by show zval _ _ = _; rw [v_96, z_87, v_90, z_84])).1
              · rw [zs_set]; exact (syn_step (by rw [zlen]; omega) (by rw [zlen, zlen]; omega) (by rw [show k - 1 + 1 = k by omega]; exact ht) (by rw [show k - 1 + 1 = k by omega]; exact hd) (by show zval _ _ = _; rw [v_96, z_87, v_90, z_84])).2
              · rw [zs_set, co_set_ne (by omega)]; exact hla2
              · exact AllC.set hC2 cn_96
            · have h108 := (hc.frmB (((((Frm.of_ext (G := fun b => (b = qr_10)) hE5).trans (Frm.of_ext (G := fun b => (b = qr_10)) hE12)).trans hF22).trans hF41).trans (Frm.of_ext (G := fun b => (b = qr_10)) hE55)) q3)
              refine dWp (i := 12) rfl rfl (oCall rfl call69 (integer_Mul h108 h_84 (by omega)) rfl ?_)
              rintro _ w110 ⟨gr_109, Ar_109, nr_109, cr_109, dr_109, rfl, hE111, hr_109, v_109, cn_109, le_109⟩
              refine ⟨(Frm.of_ext hE111), ?_⟩
              have hz112 := hE111.size
              have lr_109 := hr_109.len; have kr_109 := hr_109.cap; have mr_109 := hr_109.max
              have hB114 := (hB83.ext hE111)
              have h116 := (h85.ext hE111)
              obtain ⟨g_115, A_115, n_115, c_115, d_115, he_115, hp_115, hq_115, z_115⟩ := hB114.int (i := k - 1) (by exact lq)
              have hx_115 := h116 _ (List.mem_of_getElem? he_115)
              dsimp only at hx_115
              have h_115 := hx_115.1; have hM_115 := hx_115.2
              have l_115 := h_115.len; have k_115 := h_115.cap; have m_115 := h_115.max
              refine dOp 5 rfl rfl (by kernel_rfl) (oEv (v := (.agg #[(.bool g_115), (.slice A_115 n_115 c_115)])) (evLoadA [(.bool g_115), (.slice A_115 n_115 c_115)] agg46 sz46 rfl (cell2 hp_115 hq_115)) rfl ⟨Frm.refl _ _, ?_⟩)
              refine dOp 13 rfl rfl (by kernel_rfl) (oCall rfl call56 (integer_Add h_115 hr_109 (by omega) (by omega)) rfl ?_)
              rintro _ w119 ⟨gr_118, Ar_118, nr_118, cr_118, dr_118, rfl, hE120, hr_118, v_118, cn_118, le_118⟩
              refine ⟨(Frm.of_ext hE120), ?_⟩
              have hz121 := hE120.size
              have lr_118 := hr_118.len; have kr_118 := hr_118.cap; have mr_118 := hr_118.max
              refine dEv 14 rfl (v := (.pointer (some ⟨qr_10, (k - 1) * 2, none⟩))) (fun _ _ => evIndex (k - 1) Try.underlying23 sz46 rfl rfl (by omega) (by omega) ((k - 1) * 2) (by omega)) rfl rfl (by kernel_rfl) ?_
              have hB123 := (hB114.ext hE120)
              refine dOp 15 rfl rfl (by kernel_rfl) (oStore [(.bool gr_118), (.slice Ar_118 nr_118 cr_118)] rfl rfl rfl sz46 rfl hB123 (by rw [cellsI_len]; simp only [List.length_cons, List.length_nil]; exact lq) ?_)
              intro w124 hU125 hz126 hB127
              replace hB127 := (cellsI_set (l := L2) (i := k - 1) ⟨gr_118, Ar_118, nr_118, cr_118, dr_118⟩ (by exact lq)) ▸ hB127
              refine ⟨hU125, ?_⟩
              refine dDone (by kernel_rfl) ?_
              refine bN ?_
              refine xN (hK53 _ _ ?_)
              refine wp_region_lit ?_
              refine sEv (v := (.int .i64 ((k : Int) - 1))) (rfl) rfl rfl ?_
              refine sEv (v := (.int .i64 (((k : Int) - 1) - 1))) (evSub (((k : Int) - 1) - 1) rfl rfl (wI64 (by omega))) rfl rfl ?_
              refine sEv (v := (.int .i64 (((k : Int) - 1) - 1))) (rfl) rfl rfl ?_
              refine sDone ?_
              have h128 := (h116.frmB ((Frm.of_ext (G := fun b => (b = qr_10)) hE120).trans hU125) q3)
              have h129 := (hr_118.frmB hU125 q3)
              refine again ((k - 1) - low) (by omega) ⟨(k - 1), ((L2).set (k - 1) ⟨gr_118, Ar_118, nr_118, cr_118, dr_118⟩), rfl, rfl, rfl, rfl, (congrArg (Value.int .i64) (by omega)), ((((hF41.trans (Frm.of_ext (G := fun b => (b = qr_10)) hE55)).trans (Frm.of_ext (G := fun b => (b = qr_10)) hE111)).trans (Frm.of_ext (G := fun b => (b = qr_10)) hE120)).trans hU125), ?_, ?_, ?_, ?_, ?_, ?_, ?_, ?_⟩
              · exact hB127
              · omega
              · rw [List.length_set]; exact hL2
              · exact AllN.set (AllN.le h128 (by omega)) (NatR.sub h129 q5) (by (try dsimp only); omega)
              · rw [zs_set]; exact (syn_step (by rw [zlen]; omega) (by rw [zlen, zlen]; omega) (by rw [show k - 1 + 1 = k by omega]; exact ht) (by rw [show k - 1 + 1 = k by omega]; exact hd) (by show zval _ _ = _; rw [v_118, z_115, v_109, z_84])).1
              · rw [zs_set]; exact (syn_step (by rw [zlen]; omega) (by rw [zlen, zlen]; omega) (by rw [show k - 1 + 1 = k by omega]; exact ht) (by rw [show k - 1 + 1 = k by omega]; exact hd) (by show zval _ _ = _; rw [v_118, z_115, v_109, z_84])).2
              · rw [zs_set, co_set_ne (by omega)]; exact hla2
              · exact AllC.set hC2 cn_118
        · refine sEv (v := (.bool false)) (evGeq false rfl rfl (dF hc52)) rfl rfl ?_
          refine sDone ?_
          refine xN (hK51 _ _ ?_)
          refine cF rfl ?_
          refine wp_exit (xE (xE (bE ?_)))
          refine bN ?_
          refine xN (hK33 _ _ ?_)
          refine wp_region_lit ?_
          refine sEv (v := (.int .i64 ((low : Int)))) (rfl) rfl rfl ?_
          refine sEv (v := (.int .i64 (((low : Int)) + 1))) (evAdd (((low : Int)) + 1) rfl rfl (wI64 (by omega))) rfl rfl ?_
          refine sEv (v := (.int .i64 (((low : Int)) + 1))) (rfl) rfl rfl ?_
          refine sDone ?_
          refine again (nr_10 - (low + 1)) (by omega) ⟨(low + 1), (L2), rfl, rfl, rfl, (congrArg (Value.int .i64) (by omega)), (hF22.trans hF41), ?_, ?_, ?_, ?_, ?_, ?_, ?_⟩
          · exact hB42
          · omega
          · exact hL2
          · exact AllN.le hA2 (by omega)
          · exact shift_round hs (by rw [show low = k by omega]; exact ht) (by rw [show low = k by omega]; exact hd)
          · exact hla2
          · exact hC2
    · refine sEv (v := (.bool false)) (evLss false rfl rfl (dF hc32)) rfl rfl ?_
      refine sDone ?_
      refine xN (hK31 _ _ ?_)
      refine cF rfl ?_
      refine wp_exit (xE (xE (bE ?_)))
      refine xN (hK15 _ _ ?_)
      refine wp_seq_k fun K130 hK130 => ?_
      refine wp_region_lit ?_
      refine sEv (v := (.slice (some ⟨qr_10, 0, none⟩) nr_10 nr_10)) (rfl) rfl rfl ?_
      refine sEv (v := (.slice (some ⟨qr_10, 0, none⟩) nr_10 nr_10)) (rfl) rfl rfl ?_
      refine sDone ?_
      refine xN (hK130 _ _ ?_)
      refine wp_ret ?_
      refine ret1 (.slice (some ⟨qr_10, 0, none⟩) nr_10 nr_10) Try.results27 (resT rfl) ?_
      have hcz : Canon isZI (zs L) := canon_of_last (by rw [zlen, hL]; by_cases h0 : nr_10 = 0; exact .inl h0; right; rw [hla, e_10, show nr_10 = (trimZ (zs lf)).length by rw [← e_10, zlen]; omega]; exact canon_last (canon_trim _ _) (by rw [← e_10, zlen]; omega))
      have h131 : PolyR w18 (fun b => qr_10 ≤ b) (some ⟨qr_10, 0, none⟩) nr_10 nr_10 (L) (Mf + 1024 * nf) := PolyR.of_blk hB23 (AllN.le (AllN.sub hA q5) (by omega)) (by (try dsimp only); omega) (by exact lq) (by omega) (by unfold CapMax; omega)
      exact ⟨(some ⟨qr_10, 0, none⟩), nr_10, nr_10, L, rfl, (Frm.mono (((Frm.of_ext (G := fun b => (b = qr_10)) hE5).trans (Frm.of_ext (G := fun b => (b = qr_10)) hE12)).trans hF22) q4), (PolyR.le (PolyR.sub h131 q5) (by omega)), (shift_fin (fun j => by rw [← e_10]; exact shift_end hs (by rw [zlen]; omega) j) hcz), (by omega), hC⟩

end Go.Proofs.Ytppegjbdencefaa
