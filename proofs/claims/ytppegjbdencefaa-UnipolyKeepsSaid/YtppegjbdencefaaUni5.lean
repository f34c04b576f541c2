/-
  Walks of package unipoly: shift, stretch, reversal, composition.
-/
import Derived.Test.YtppegjbdencefaaUni4
namespace Go.Proofs.Ytppegjbdencefaa
open Go.RowKit Go.Gx
set_option maxHeartbeats 1000000 in
theorem unipoly_Compose {w : World} {Sf : Nat → Prop} {Af : Option Addr} {nf cf Mf : Nat} {lf : List RI} {Sg : Nat → Prop} {Ag : Option Addr} {ng cg Mg : Nat} {lg : List RI} (hf : PolyR w Sf Af nf cf lf Mf) (hg : PolyR w Sg Ag ng cg lg Mg) (hnf : nf ≤ 64) (hMf : Mf ≤ 1024) (hng : ng ≤ 64) (hMg : Mg ≤ 1024) : Calls Try.prog 32 #[(.slice Af nf cf), (.slice Ag ng cg)] w (Ret fun v w' => ∃ (Ar : Option Addr) (nr : Nat) (cr : Nat) (lr : List RI), v = (.slice Ar nr cr) ∧ Ext w w' ∧ PolyR w' (fun b => w.heap.size ≤ b) Ar nr cr lr (8192 * nf) ∧ (zs lr = trimZ (phorn (zs lg) (zs lf))) ∧ (nr ≤ 64 * nf + 1) ∧ (AllC lr)) := by
  have ⟨kf, jf, mf⟩ := hf.lkm
  replace hf := hf.low
  have ⟨kg, jg, mg⟩ := hg.lkm
  replace hg := hg.low
  refine enter Try.func32 rfl Try.ntmps32 rfl (rS fun K1 hK1 => sAs rfl (sK hK1 (rS fun K2 hK2 => sAs rfl (sK hK2 (wp_seq_k fun K3 hK3 => rS fun K4 hK4 => sMs rfl (sV (evLen Try.underlying23 rfl) (sV (evSub (((nf : Int)) - 1) rfl rfl wI) (sAi rfl (sK hK4 (wp_block ?_))))))))))
  refine lLoop (fun m e w_ => ∃ (k : Nat) (Av : Option Addr) (nv : Nat) (cv : Nat) (lv : List RI), m = k ∧ e 0 = (.slice Af nf cf) ∧ e 1 = (.slice Ag ng cg) ∧ e 5 = (.slice Av nv cv) ∧ e 6 = (.int .i64 ((k : Int) - 1)) ∧ Frm (fun b => False) w w_ ∧ (k ≤ nf) ∧ (nv ≤ 64 * (nf - k) + 1) ∧ (AllC lv) ∧ (zs lv = trimZ (phorn (zs lg) ((zs lf).drop k))) ∧ (PolyR w_ (fun b => w.heap.size ≤ b) Av nv cv lv (8192 * (nf - k)))) ((nf)) ?_ ?_
  · refine ⟨(nf), (none), (0), (0), ([]), rfl, rfl, rfl, rfl, cI, (Frm.refl _ _), ?_, ?_, ?_, ?_, ?_⟩
    · omega
    · omega
    · exact AllC.nil
    · rw [List.drop_of_length_le (by rw [zlen]; omega)]; rfl
    · exact PolyR.nil
  · rintro m5 e13 w6 ⟨k, Av, nv, cv, lv, hm12, hs7, hs8, hs9, hs10, hF11, hk, hnv, hC, hz, hV⟩
    obtain ⟨r14, rfl⟩ := sq (e := e13) (t := 0) hs7
    obtain ⟨r15, rfl⟩ := sq (e := r14) (t := 1) hs8
    obtain ⟨r16, rfl⟩ := sq (e := r15) (t := 5) hs9
    obtain ⟨r17, rfl⟩ := sq (e := r16) (t := 6) hs10
    have hz18 := hF11.size
    have ⟨qV, jV, mV⟩ := hV.lkm
    refine wp_seq_k fun K19 hK19 => rS fun K20 hK20 => sMi rfl ?_
    by_cases hc21 : ((k : Int) - 1) ≥ 0
    · refine sV (evGeq true rfl rfl (dT hc21)) (sK hK20 (cT rfl (wp_skip (xN (hK19 _ _ (wp_seq_k fun K22 hK22 => wp_block (dBegin (fun _ => False) mixed (fun w23 hE24 hz25 => dMs 0 rfl rfl (dMs 1 rfl rfl (dMs 3 rfl rfl (dMi 4 rfl rfl ?_)))))))))))
      have hR26 := hF11.trans hE24
      have h27 := (hf.ext hR26)
      obtain ⟨b28, o29, rfl⟩ := h27.base (by omega)
      refine dV 5 rfl (fun _ _ => evIx (k - 1) Try.underlying23 sz46 rfl rfl (o29 + ((k - 1) * 2))) ?_
      obtain ⟨g_30, A_30, n_30, c_30, d_30, he_30, hp_30, hq_30, h_30, hM_30, hS_30, hb_30, z_30⟩ := h27.at_ (i := k - 1) (by omega)
      have ⟨l_30, k_30, m_30⟩ := h_30.lkm
      refine dV 6 rfl (fun _ hf => evLoadA [(.bool g_30), (.slice A_30 n_30 c_30)] agg46 sz46 rfl (cell2F hp_30 hq_30 hf hb_30 (fun h => h))) (dTwo 2 7 (by kernel_rfl) ?_ ?_)
      · have h32 := (hV.ext hE24)
        have h33 := (hg.ext hR26)
        refine dWp (i := 2) rfl rfl (oCall rfl call18 (unipoly_Mul h32 h33 (by omega) (by omega) (by omega) (by omega)) rfl ?_)
        rintro _ w35 ⟨Ar_34, nr_34, cr_34, lr_34, rfl, hE36, hr_34, e_34, ln_34, cn_34⟩
        refine ⟨(Frm.of_ext hE36), ?_⟩
        have hz37 := hE36.size
        have ⟨kr_34, jr_34, mr_34⟩ := hr_34.lkm
        refine dOp 7 rfl rfl (by kernel_rfl) (oBuildSlice [(.agg #[(.bool g_30), (.slice A_30 n_30 c_30)])] [[(.bool g_30), (.slice A_30 n_30 c_30)]] Try.underlying23 inf46 rfl rfl rfl rfl rfl (fun g39 w40 hg41 hE42 hz43 hB44 => ⟨(Frm.of_ext hE42), ?_⟩))
        replace hB44 : Blk w40 g39 46 [(.bool g_30), (.slice A_30 n_30 c_30)] := hB44
        have hR45 := hE36.trans hE42
        have h46 := (h_30.ext hR45)
        have h47 : PolyR w40 (fun _ => True) (some ⟨g39, 0, none⟩) 1 1 [⟨g_30, A_30, n_30, c_30, d_30⟩] Mf := PolyR.of_blk (l := [⟨g_30, A_30, n_30, c_30, d_30⟩]) (M := Mf) hB44 (fun r hr => by simp at hr; subst hr; exact ⟨h46.sub fun _ _ _ => trivial, by (try dsimp only); omega⟩) trivial rfl (Nat.le_refl _) (by decide)
        have h49 := (hr_34.ext hE42)
        refine dOp 8 rfl rfl (by kernel_rfl) (oCall rfl call22 (unipoly_Add h49 h47 (by omega) (by omega) (by omega) (by omega)) rfl ?_)
        rintro _ w51 ⟨Ar_50, nr_50, cr_50, lr_50, rfl, hE52, hr_50, e_50, ln_50, cn_50⟩
        refine ⟨(Frm.of_ext hE52), ?_⟩
        have hz53 := hE52.size
        have ⟨kr_50, jr_50, mr_50⟩ := hr_50.lkm
        refine dAs 9 rfl rfl (dDone (by kernel_rfl) (bN (xN (hK22 _ _ (wp_region_lit (sMi rfl (sV (evSub (((k : Int) - 1) - 1) rfl rfl wI) (sAi rfl (sDone ?_)))))))))
        have hR55 := ((hE24.trans hE36).trans hE42).trans hE52
        refine again ((k - 1)) (by omega) ⟨(k - 1), (Ar_50), (nr_50), (cr_50), (lr_50), rfl, rfl, rfl, rfl, cI, (hF11.trans hR55), ?_, ?_, ?_, ?_, ?_⟩
        · omega
        · omega
        · exact cn_50
        · rw [e_50, e_34, show zs [⟨g_30, A_30, n_30, c_30, d_30⟩] = [co (zs lf) (k - 1)] from congrArg (fun x => [x]) z_30]; exact horn_step _ (by rw [zlen]; omega) (by rw [show k - 1 + 1 = k by omega]; exact hz)
        · exact PolyR.le (PolyR.sub hr_50 q5) (by omega)
      · refine dWp (i := 7) rfl rfl (oBuildSlice [(.agg #[(.bool g_30), (.slice A_30 n_30 c_30)])] [[(.bool g_30), (.slice A_30 n_30 c_30)]] Try.underlying23 inf46 rfl rfl rfl rfl rfl (fun g56 w57 hg58 hE59 hz60 hB61 => ⟨(Frm.of_ext hE59), ?_⟩))
        replace hB61 : Blk w57 g56 46 [(.bool g_30), (.slice A_30 n_30 c_30)] := hB61
        have h62 := (h_30.ext hE59)
        have h63 : PolyR w57 (fun _ => True) (some ⟨g56, 0, none⟩) 1 1 [⟨g_30, A_30, n_30, c_30, d_30⟩] Mf := PolyR.of_blk (l := [⟨g_30, A_30, n_30, c_30, d_30⟩]) (M := Mf) hB61 (fun r hr => by simp at hr; subst hr; exact ⟨h62.sub fun _ _ _ => trivial, by (try dsimp only); omega⟩) trivial rfl (Nat.le_refl _) (by decide)
        have hR65 := hE24.trans hE59
        have h66 := (hV.ext hR65)
        have hR67 := hR26.trans hE59
        have h68 := (hg.ext hR67)
        refine dOp 2 rfl rfl (by kernel_rfl) (oCall rfl call18 (unipoly_Mul h66 h68 (by omega) (by omega) (by omega) (by omega)) rfl ?_)
        rintro _ w70 ⟨Ar_69, nr_69, cr_69, lr_69, rfl, hE71, hr_69, e_69, ln_69, cn_69⟩
        refine ⟨(Frm.of_ext hE71), ?_⟩
        have hz72 := hE71.size
        have ⟨kr_69, jr_69, mr_69⟩ := hr_69.lkm
        have h74 := (h63.ext hE71)
        refine dOp 8 rfl rfl (by kernel_rfl) (oCall rfl call22 (unipoly_Add hr_69 h74 (by omega) (by omega) (by omega) (by omega)) rfl ?_)
        rintro _ w76 ⟨Ar_75, nr_75, cr_75, lr_75, rfl, hE77, hr_75, e_75, ln_75, cn_75⟩
        refine ⟨(Frm.of_ext hE77), ?_⟩
        have hz78 := hE77.size
        have ⟨kr_75, jr_75, mr_75⟩ := hr_75.lkm
        refine dAs 9 rfl rfl (dDone (by kernel_rfl) (bN (xN (hK22 _ _ (wp_region_lit (sMi rfl (sV (evSub (((k : Int) - 1) - 1) rfl rfl wI) (sAi rfl (sDone ?_)))))))))
        have hR80 := (hR65.trans hE71).trans hE77
        refine again ((k - 1)) (by omega) ⟨(k - 1), (Ar_75), (nr_75), (cr_75), (lr_75), rfl, rfl, rfl, rfl, cI, (hF11.trans hR80), ?_, ?_, ?_, ?_, ?_⟩
        · omega
        · omega
        · exact cn_75
        · rw [e_75, e_69, show zs [⟨g_30, A_30, n_30, c_30, d_30⟩] = [co (zs lf) (k - 1)] from congrArg (fun x => [x]) z_30]; exact horn_step _ (by rw [zlen]; omega) (by rw [show k - 1 + 1 = k by omega]; exact hz)
        · exact PolyR.le (PolyR.sub hr_75 q5) (by omega)
    · refine sV (evGeq false rfl rfl (dF hc21)) (sK hK20 (cF rfl (wp_exit (xE (xE (bE (xN (hK3 _ _ (rS fun K81 hK81 => sMs rfl (sAs rfl (sK hK81 (wp_ret (ret1 (.slice Av nv cv) Try.results32 (resT rfl) ?_)))))))))))))
      exact ⟨Av, nv, cv, lv, rfl, hF11, (PolyR.le (PolyR.sub hV q5) (by omega)), (by rw [hz, show k = 0 by omega, List.drop_zero]), (by omega), hC⟩

theorem unipoly_Reverse {w : World} {Sf : Nat → Prop} {Af : Option Addr} {nf cf Mf : Nat} {lf : List RI} (hf : PolyR w Sf Af nf cf lf Mf) (hnf : nf ≤ 1048576) (hMf : Mf ≤ 1073741824) : Calls Try.prog 31 #[(.slice Af nf cf)] w (Ret fun v w' => ∃ (Ar : Option Addr) (nr : Nat) (cr : Nat) (lr : List RI), v = (.slice Ar nr cr) ∧ Ext w w' ∧ PolyR w' (fun b => w.heap.size ≤ b) Ar nr cr lr (Mf) ∧ (zs lr = trimZ (trimZ (zs lf)).reverse) ∧ (nr ≤ nf) ∧ (AllC lr)) := by
  have ⟨kf, jf, mf⟩ := hf.lkm
  replace hf := hf.low
  refine enter Try.func31 rfl Try.ntmps31 rfl (rS fun K1 hK1 => sAs rfl (sK hK1 (rS fun K2 hK2 => sMs rfl (sO (oCall rfl call68 (unipoly_trim hf) rfl ?_)))))
  rintro _ w4 ⟨Ar_3, nr_3, cr_3, lr_3, rfl, hE5, hr_3, e_3, le_3⟩
  have hz6 := hE5.size
  have ⟨kr_3, jr_3, mr_3⟩ := hr_3.lkm
  refine sAs rfl (sK hK2 (rS fun K8 hK8 => sMs rfl (sV (evLen Try.underlying23 rfl) (sO (oMake2 nr_3 Try.underlying23 inf46 cI cI (by omega) (by omega) (fun g9 w10 hg11 hE12 hz13 hB14 => ?_))))))
  have hB15 : Blk w10 g9 46 (cellsI (List.replicate nr_3 RI.zero)) := hB14
  refine sAs rfl (sK hK8 (wp_seq_k fun K16 hK16 => rS fun K17 hK17 => sMs rfl (sV (evLen Try.underlying23 rfl) (sMi rfl (sK hK17 (wp_block ?_))))))
  refine lLoop (fun m e w_ => ∃ (k : Nat) (L : List RI), m = nr_3 - k ∧ e 0 = (.slice Ar_3 nr_3 cr_3) ∧ e 3 = (.slice (some ⟨g9, 0, none⟩) nr_3 nr_3) ∧ e 11 = (.slice Ar_3 nr_3 cr_3) ∧ e 12 = (.int .i64 ((nr_3 : Int))) ∧ e 13 = (.int .i64 ((k : Int))) ∧ Frm (fun b => b = g9) w10 w_ ∧ Blk w_ g9 46 (cellsI (List.replicate (nr_3 - k) RI.zero ++ L)) ∧ (k ≤ nr_3) ∧ (L.length = k) ∧ (AllN w_ (fun b => g9 < b) Mf L) ∧ (zs L = ((zs lr_3).take k).reverse) ∧ (AllC L)) (nr_3 - (0)) ?_ ?_
  · refine ⟨(0), ([]), rfl, rfl, rfl, rfl, rfl, cI, (Frm.refl _ _), ?_, ?_, ?_, ?_, ?_, ?_⟩
    · simpa using hB15
    · omega
    · rfl
    · exact AllN.nil
    · simp
    · exact AllC.nil
  · rintro m18 e28 w19 ⟨k, L, hm27, hs20, hs21, hs22, hs23, hs24, hF25, hB26, hk, hL, hA, hz, hC⟩
    obtain ⟨r29, rfl⟩ := sq (e := e28) (t := 0) hs20
    obtain ⟨r30, rfl⟩ := sq (e := r29) (t := 3) hs21
    obtain ⟨r31, rfl⟩ := sq (e := r30) (t := 11) hs22
    obtain ⟨r32, rfl⟩ := sq (e := r31) (t := 12) hs23
    obtain ⟨r33, rfl⟩ := sq (e := r32) (t := 13) hs24
    have hz34 := hF25.size
    refine rS fun K35 hK35 => ?_
    by_cases hc36 : ((k : Int)) < ((nr_3 : Int))
    · refine sV (evLss true rfl rfl (dT hc36)) (sK hK35 (wp_seq_k fun K37 hK37 => cT rfl (wp_skip (xN (hK37 _ _ (wp_seq_k fun K38 hK38 => wp_block (rS fun K39 hK39 => sMi rfl ?_)))))))
      have hR40 := hE12.rx hF25
      have h41 := (hr_3.frmB hR40 q3)
      obtain ⟨b42, o43, rfl⟩ := h41.base (by omega)
      refine sV (evIx k Try.underlying23 sz46 rfl rfl (o43 + (k * 2))) ?_
      obtain ⟨g_44, A_44, n_44, c_44, d_44, he_44, hp_44, hq_44, h_44, hM_44, hS_44, hb_44, z_44⟩ := h41.at_ (i := k) (by omega)
      have ⟨l_44, k_44, m_44⟩ := h_44.lkm
      refine sV (evLoadA [(.bool g_44), (.slice A_44 n_44 c_44)] agg46 sz46 rfl (cell2 hp_44 hq_44)) (sO (oAlloc [(.bool false), (.slice none 0 0)] zero46 rfl (fun g46 w47 hg48 hE49 hz50 hB51 => sAi rfl (sO (oStore [(.bool g_44), (.slice A_44 n_44 c_44)] rfl rfl rfl sz46 rfl hB51 (Nat.le_of_ble_eq_true rfl) (fun w52 hU53 hz54 hB55 => ?_))))))
      replace hB55 : Blk w52 g46 46 [(.bool g_44), (.slice A_44 n_44 c_44)] := hB55
      refine sK hK39 (wp_region_lit (sMs rfl (sMs rfl (sV (evLen Try.underlying23 rfl) (sV (evSub (((nr_3 : Int)) - 1) rfl rfl wI) (sMi rfl (sV (evSub ((((nr_3 : Int)) - 1) - ((k : Int))) rfl rfl wI) (sV (evLoadAB [(.bool g_44), (.slice A_44 n_44 c_44)] agg46 sz46 rfl hB55 rfl) ?_))))))))
      have hR56 := hE49.rx hU53
      have h57 := (h_44.frmB hR56 q3)
      refine sO (oCall rfl call73 (integer_Normal h57 (by omega)) rfl ?_)
      rintro _ w59 ⟨gr_58, Ar_58, nr_58, cr_58, dr_58, rfl, hE60, hr_58, v_58, cn_58, le_58⟩
      have hz61 := hE60.size
      have ⟨lr_58, kr_58, mr_58⟩ := hr_58.lkm
      refine sV (evIx (nr_3 - 1 - k) Try.underlying23 sz46 rfl rfl ((nr_3 - 1 - k) * 2)) ?_
      have hR63 := hR56.xr hE60
      have hB64 := (hB26.frm hR63 q1)
      refine sO (oStore [(.bool gr_58), (.slice Ar_58 nr_58 cr_58)] rfl rfl rfl sz46 rfl hB64 (by rw [cellsI_len]; simp only [List.length_cons, List.length_nil]; exact lq) (fun w65 hU66 hz67 hB68 => ?_))
      replace hB68 := (cellsI_set (l := List.replicate (nr_3 - k) RI.zero ++ L) (i := nr_3 - 1 - k) ⟨gr_58, Ar_58, nr_58, cr_58, dr_58⟩ (by exact lq)) ▸ hB68
      replace hB68 : Blk w65 g9 46 (cellsI (List.replicate (nr_3 - (k + 1)) RI.zero ++ (⟨gr_58, Ar_58, nr_58, cr_58, dr_58⟩ :: L))) := (rev_set (Z := []) (by omega) (by omega) : (List.replicate (nr_3 - k) RI.zero ++ L).set (nr_3 - 1 - k) ⟨gr_58, Ar_58, nr_58, cr_58, dr_58⟩ = List.replicate (nr_3 - (k + 1)) RI.zero ++ (⟨gr_58, Ar_58, nr_58, cr_58, dr_58⟩ :: L)) ▸ hB68
      refine sDone (bN (xN (hK38 _ _ (wp_region_lit (sV (evAdd (((k : Int)) + 1) rfl rfl wI) (sMi rfl (sDone ?_)))))))
      have hR69 := hR63.tr hU66
      have h70 := (hA.frmB hR69 q3)
      have h71 := (hr_58.frmB hU66 q3)
      refine again (nr_3 - (k + 1)) (by omega) ⟨(k + 1), (⟨gr_58, Ar_58, nr_58, cr_58, dr_58⟩ :: L), rfl, rfl, rfl, rfl, rfl, cI, (Frm.mono (hF25.tr hR69) q4), ?_, ?_, ?_, ?_, ?_, ?_⟩
      · exact hB68
      · omega
      · simp [hL]
      · exact AllN.cons h70 (NatR.sub h71 q5) (by (try dsimp only); omega)
      · exact rev_step hz (by omega) (by show zval _ _ = _; rw [v_58, z_44])
      · exact AllC.cons hC cn_58
    · refine sV (evLss false rfl rfl (dF hc36)) (sK hK35 (wp_seq_k fun K72 hK72 => cF rfl (wp_exit (xE (xE (bE (xN (hK16 _ _ (rS fun K73 hK73 => sMs rfl ?_)))))))))
      have h74 : PolyR w19 (fun b => g9 ≤ b) (some ⟨g9, 0, none⟩) nr_3 nr_3 (List.replicate (nr_3 - k) RI.zero ++ L) (Mf) := PolyR.of_blk hB26 (AllN.app (AllN.zeros _) (AllN.sub hA q5)) (by (try dsimp only); omega) (by exact lq) (by omega) (by unfold CapMax; omega)
      refine sO (oCall rfl call68 (unipoly_trim h74) rfl ?_)
      rintro _ w76 ⟨Ar_75, nr_75, cr_75, lr_75, rfl, hE77, hr_75, e_75, le_75⟩
      have hz78 := hE77.size
      have ⟨kr_75, jr_75, mr_75⟩ := hr_75.lkm
      refine sAs rfl (sK hK73 (wp_ret (ret1 (.slice Ar_75 nr_75 cr_75) Try.results31 (resT rfl) ?_)))
      have hR80 := ((hE5.trans hE12).rx hF25).xr hE77
      exact ⟨Ar_75, nr_75, cr_75, lr_75, rfl, (Frm.mono hR80 q4), (PolyR.le (PolyR.sub hr_75 q5) (by omega)), (by rw [e_75, zs_trim, show nr_3 - k = 0 by omega, List.replicate_zero, List.nil_append, hz, List.take_of_length_le (by rw [zlen]; omega), e_3, zs_trim]), (by omega), (by rw [e_75]; exact (AllC.app (AllC.zeros _) hC).trim)⟩

set_option maxHeartbeats 1000000 in
theorem unipoly_Stretch {w : World} {Sf : Nat → Prop} {Af : Option Addr} {nf cf Mf : Nat} {lf : List RI} {gc : Bool} {Sc : Nat → Prop} {Ac : Option Addr} {nc cc : Nat} {dc : List Nat} (hf : PolyR w Sf Af nf cf lf Mf) (hc : NatR w Sc Ac nc cc dc) (hnf : nf ≤ 64) (hMf : Mf ≤ 16777216) (hnc : nc ≤ 1023) : Calls Try.prog 30 #[(.slice Af nf cf), (.agg #[(.bool gc), (.slice Ac nc cc)])] w (Ret fun v w' => ∃ (Ar : Option Addr) (nr : Nat) (cr : Nat) (lr : List RI), v = (.slice Ar nr cr) ∧ Ext w w' ∧ PolyR w' (fun b => w.heap.size ≤ b) Ar nr cr lr (Mf + 65540) ∧ (zs lr = trimZ (phorn [0, zval gc dc] (zs lf))) ∧ (nr ≤ nf) ∧ (AllC lr)) := by
  have ⟨kf, jf, mf⟩ := hf.lkm
  replace hf := hf.low
  have ⟨lc, kc, mc⟩ := hc.lkm
  replace hc := hc.low
  refine enter Try.func30 rfl Try.ntmps30 rfl (rS fun K1 hK1 => sO (oBox [(.bool gc), (.slice Ac nc cc)] rfl rfl (fun g2 w3 hg4 hE5 hz6 hB7 => sAs rfl (sK hK1 (rS fun K8 hK8 => sMs rfl ?_)))))
  have h9 := (hf.ext hE5)
  refine sO (oCall rfl call37 (unipoly_Normal h9 (by omega) (by omega)) rfl ?_)
  rintro _ w11 ⟨qr_10, nr_10, lr_10, rfl, hE12, hgr_10, Br_10, hAr_10, kr_10, mr_10, e_10, ln_10, cn_10⟩
  have hz13 := hE12.size
  have hhr_10 : w3.heap.size ≤ qr_10 := hgr_10; have ltr_10 := Br_10.lt
  have h15 := hAr_10.sub (S' := fun b => (qr_10 < b) ∧ b < w11.heap.size) fun _ hb hs => ⟨hs, hb⟩
  refine sAs rfl (sK hK8 (rS fun K16 hK16 => sO (oCall rfl call48 (integer_Of (by omega)) rfl ?_)))
  rintro _ w18 ⟨gr_17, Ar_17, nr_17, cr_17, dr_17, rfl, hE19, hr_17, v_17, cn_17, le_17⟩
  have hz20 := hE19.size
  have ⟨lr_17, kr_17, mr_17⟩ := hr_17.lkm
  have h22 := hr_17.sub (S' := fun b => (w11.heap.size ≤ b) ∧ b < w18.heap.size) fun _ hb hs => ⟨hs, hb⟩
  refine sO (oAlloc [(.bool false), (.slice none 0 0)] zero46 rfl (fun g23 w24 hg25 hE26 hz27 hB28 => sO (oStore [(.bool gr_17), (.slice Ar_17 nr_17 cr_17)] rfl rfl rfl sz46 rfl hB28 (Nat.le_of_ble_eq_true rfl) (fun w29 hU30 hz31 hB32 => ?_))))
  replace hB32 : Blk w29 g23 46 [(.bool gr_17), (.slice Ar_17 nr_17 cr_17)] := hB32
  refine sK hK16 (wp_seq_k fun K33 hK33 => rS fun K34 hK34 => sMs rfl (sV (evLen Try.underlying23 rfl) (sMi rfl (sK hK34 (wp_block ?_)))))
  have hR36 := (hE19.trans hE26).rx hU30
  have hB37 := (Br_10.frm hR36 q1)
  have hR38 := hE26.rx hU30
  have h39 := (h22.frmB hR38 q3)
  have h40 := (h15.frmB hR36 q3)
  refine lLoop (fun m e w_ => ∃ (k : Nat) (L : List RI) (gp : Bool) (Ap : Option Addr) (np : Nat) (cp : Nat) (dp : List Nat), m = nr_10 - k ∧ e 3 = (.pointer (some ⟨g2, 0, none⟩)) ∧ e 5 = (.slice (some ⟨qr_10, 0, none⟩) nr_10 nr_10) ∧ e 6 = (.pointer (some ⟨g23, 0, none⟩)) ∧ e 12 = (.int .i64 ((nr_10 : Int))) ∧ e 13 = (.int .i64 ((k : Int))) ∧ Frm (fun b => b = qr_10 ∨ b = g23) w29 w_ ∧ Blk w_ qr_10 46 (cellsI L) ∧ Blk w_ g23 46 ([.bool gp, .slice Ap np cp]) ∧ (k ≤ nr_10) ∧ (L.length = nr_10) ∧ (np ≤ 2 + 1024 * k) ∧ (NatR w_ (fun b => qr_10 < b ∧ b ≠ g23) Ap np cp dp) ∧ (AllN w_ (fun b => qr_10 < b ∧ b ≠ g23) (Mf + 65540) L) ∧ (∀ j r, k ≤ j → L[j]? = some r → r.n ≤ Mf) ∧ (zval gp dp = zval gc dc ^ k) ∧ (∀ j, co (zs L) j = if j < k then co (zs lr_10) j * zval gc dc ^ j else co (zs lr_10) j) ∧ (AllC L)) (nr_10 - (0)) ?_ ?_
  · refine ⟨(0), (lr_10), (gr_17), (Ar_17), (nr_17), (cr_17), (dr_17), rfl, rfl, rfl, rfl, rfl, cI, (Frm.refl _ _), ?_, ?_, ?_, ?_, ?_, ?_, ?_, ?_, ?_, ?_, ?_⟩
    · exact hB37
    · exact hB32
    · omega
    · omega
    · omega
    · exact NatR.sub h39 q5
    · exact AllN.le (AllN.sub h40 q5) (by omega)
    · exact small_all h40
    · rw [v_17, Int.pow_zero]
    · intro j; rw [if_neg (by omega)]
    · exact cn_10
  · rintro m35 e51 w41 ⟨k, L, gp, Ap, np, cp, dp, hm50, hs42, hs43, hs44, hs45, hs46, hF47, hB48, hB49, hk, hL, hnp, hN, hA, hD, hp, hz, hC⟩
    obtain ⟨r52, rfl⟩ := sq (e := e51) (t := 3) hs42
    obtain ⟨r53, rfl⟩ := sq (e := r52) (t := 5) hs43
    obtain ⟨r54, rfl⟩ := sq (e := r53) (t := 6) hs44
    obtain ⟨r55, rfl⟩ := sq (e := r54) (t := 12) hs45
    obtain ⟨r56, rfl⟩ := sq (e := r55) (t := 13) hs46
    have hz57 := hF47.size
    have ⟨lsN, lsC, lsM⟩ := hN.lkm
    refine rS fun K58 hK58 => ?_
    by_cases hc59 : ((k : Int)) < ((nr_10 : Int))
    · refine sV (evLss true rfl rfl (dT hc59)) (sK hK58 (wp_seq_k fun K60 hK60 => cT rfl (wp_skip (xN (hK60 _ _ (wp_seq_k fun K61 hK61 => wp_block (rS fun K62 hK62 => sMi rfl (sAi rfl (sK hK62 (wp_seq_k fun K63 hK63 => dBegin (fun b => b = qr_10) mixed (fun w64 hE65 hz66 => dMs 0 rfl rfl (dMi 1 rfl rfl (dMs 2 rfl rfl (dMi 3 rfl rfl (dV 4 rfl (fun _ _ => evIx k Try.underlying23 sz46 rfl rfl (k * 2)) ?_)))))))))))))))
      have hB67 := (hB49.ext hE65)
      refine dV 6 rfl (fun _ hf => evLoadAB [(.bool gp), (.slice Ap np cp)] agg46 sz46 rfl (hB67.frm hf q1) rfl) ?_
      have hB68 := (hB48.ext hE65)
      have h70 := (hA.ext hE65)
      obtain ⟨g_69, A_69, n_69, c_69, d_69, he_69, hp_69, hq_69, z_69⟩ := hB68.int (i := k) (by exact lq)
      have hx_69 := h70 _ (List.mem_of_getElem? he_69)
      dsimp only at hx_69
      have h_69 := hx_69.1; have hM_69 := hx_69.2
      have ⟨l_69, k_69, m_69⟩ := h_69.lkm
      refine dOp 5 rfl rfl (by kernel_rfl) (oEv (v := (.agg #[(.bool g_69), (.slice A_69 n_69 c_69)])) (evLoadA [(.bool g_69), (.slice A_69 n_69 c_69)] agg46 sz46 rfl (cell2 hp_69 hq_69)) rfl ⟨Frm.refl _ _, ?_⟩)
      have hnn := hD k _ (Nat.le_refl _) he_69; dsimp only at hnn
      have h72 := (hN.ext hE65)
      refine dOp 7 rfl rfl (by kernel_rfl) (oCall rfl call69 (integer_Mul h_69 h72 (by omega)) rfl ?_)
      rintro _ w74 ⟨gr_73, Ar_73, nr_73, cr_73, dr_73, rfl, hE75, hr_73, v_73, cn_73, le_73⟩
      refine ⟨(Frm.of_ext hE75), ?_⟩
      have hz76 := hE75.size
      have ⟨lr_73, kr_73, mr_73⟩ := hr_73.lkm
      refine dV 8 rfl (fun _ _ => evIx k Try.underlying23 sz46 rfl rfl (k * 2)) ?_
      have hB78 := (hB68.ext hE75)
      refine dOp 9 rfl rfl (by kernel_rfl) (oStore [(.bool gr_73), (.slice Ar_73 nr_73 cr_73)] rfl rfl rfl sz46 rfl hB78 (by rw [cellsI_len]; simp only [List.length_cons, List.length_nil]; exact lq) (fun w79 hU80 hz81 hB82 => ?_))
      replace hB82 := (cellsI_set (l := L) (i := k) ⟨gr_73, Ar_73, nr_73, cr_73, dr_73⟩ (by exact lq)) ▸ hB82
      refine ⟨hU80, dDone (by kernel_rfl) (xN (hK63 _ _ (wp_region_lit ?_)))⟩
      have hR83 := hE75.rx hU80
      have hB84 := (hB67.frm hR83 q1)
      refine sV (evLoadAB [(.bool gp), (.slice Ap np cp)] agg46 sz46 rfl hB84 rfl) ?_
      have hR85 := ((((((hE12.trans hE19).trans hE26).rx hU30).tr hF47).xr hE65).xr hE75).tr hU80
      have hB86 := (hB7.frm hR85 q1)
      refine sV (evLoadAB [(.bool gc), (.slice Ac nc cc)] agg46 sz46 rfl hB86 rfl) ?_
      have h87 := (h72.frmB hR83 q3)
      have hR88 := (((((((hE5.trans hE12).trans hE19).trans hE26).rx hU30).tr hF47).xr hE65).xr hE75).tr hU80
      have h89 := (hc.frmB hR88 q3)
      refine sO (oCall rfl call69 (integer_Mul h87 h89 (by omega)) rfl ?_)
      rintro _ w91 ⟨gr_90, Ar_90, nr_90, cr_90, dr_90, rfl, hE92, hr_90, v_90, cn_90, le_90⟩
      have hz93 := hE92.size
      have ⟨lr_90, kr_90, mr_90⟩ := hr_90.lkm
      have hB95 := (hB84.ext hE92)
      refine sO (oStore [(.bool gr_90), (.slice Ar_90 nr_90 cr_90)] rfl rfl rfl sz46 rfl hB95 (Nat.le_of_ble_eq_true rfl) (fun w96 hU97 hz98 hB99 => ?_))
      replace hB99 : Blk w96 g23 46 [(.bool gr_90), (.slice Ar_90 nr_90 cr_90)] := hB99
      refine sDone (bN (xN (hK61 _ _ (wp_region_lit (sV (evAdd (((k : Int)) + 1) rfl rfl wI) (sMi rfl (sDone ?_)))))))
      have hR100 := (((hE65.trans hE75).rx hU80).xr hE92).tr hU97
      have hR101 := hE92.rx hU97
      have hB102 := (hB82.frm hR101 q1)
      have h103 := (hr_90.frmB hU97 q3)
      have hR104 := (hR83.xr hE92).tr hU97
      have h105 := (h70.frmB hR104 q3)
      have hR106 := (hU80.xr hE92).tr hU97
      have h107 := (hr_73.frmB hR106 q3)
      refine again (nr_10 - (k + 1)) (by omega) ⟨(k + 1), ((L).set k ⟨gr_73, Ar_73, nr_73, cr_73, dr_73⟩), (gr_90), (Ar_90), (nr_90), (cr_90), (dr_90), rfl, rfl, rfl, rfl, rfl, cI, (Frm.mono (hF47.tr hR100) q4), ?_, ?_, ?_, ?_, ?_, ?_, ?_, ?_, ?_, ?_, ?_⟩
      · exact hB102
      · exact hB99
      · omega
      · rw [List.length_set]; exact hL
      · omega
      · exact NatR.sub h103 q5
      · exact AllN.set h105 (NatR.sub h107 q5) (by (try dsimp only); omega)
      · exact small_set hD
      · rw [v_90, hp]; exact (Int.pow_succ _ _).symm
      · rw [zs_set]; exact str_step hz (by rw [zlen]; omega) (by show zval _ _ = _; rw [v_73, z_69, hp])
      · exact AllC.set hC cn_73
    · refine sV (evLss false rfl rfl (dF hc59)) (sK hK58 (wp_seq_k fun K108 hK108 => cF rfl (wp_exit (xE (xE (bE (xN (hK33 _ _ (rS fun K109 hK109 => sMs rfl ?_)))))))))
      have h110 : PolyR w41 (fun b => qr_10 ≤ b) (some ⟨qr_10, 0, none⟩) nr_10 nr_10 (L) (Mf + 65540) := PolyR.of_blk hB48 (AllN.sub hA q5) (by (try dsimp only); omega) (by exact lq) (by omega) (by unfold CapMax; omega)
      refine sO (oCall rfl call68 (unipoly_trim h110) rfl ?_)
      rintro _ w112 ⟨Ar_111, nr_111, cr_111, lr_111, rfl, hE113, hr_111, e_111, le_111⟩
      have hz114 := hE113.size
      have ⟨kr_111, jr_111, mr_111⟩ := hr_111.lkm
      refine sAs rfl (sK hK109 (wp_ret (ret1 (.slice Ar_111 nr_111 cr_111) Try.results30 (resT rfl) ?_)))
      have hR116 := (((((hE5.trans hE12).trans hE19).trans hE26).rx hU30).tr hF47).xr hE113
      exact ⟨Ar_111, nr_111, cr_111, lr_111, rfl, (Frm.mono hR116 q4), (PolyR.le (PolyR.sub hr_111 q5) (by omega)), (by rw [e_111, zs_trim]; exact str_fin (fun j => by rw [hz j, e_10]) (by rw [zlen]; omega)), (by omega), (by rw [e_111]; exact hC.trim)⟩

set_option maxHeartbeats 1000000 in
theorem unipoly_Shift {w : World} {Sf : Nat → Prop} {Af : Option Addr} {nf cf Mf : Nat} {lf : List RI} {gc : Bool} {Sc : Nat → Prop} {Ac : Option Addr} {nc cc : Nat} {dc : List Nat} (hf : PolyR w Sf Af nf cf lf Mf) (hc : NatR w Sc Ac nc cc dc) (hnf : nf ≤ 64) (hMf : Mf ≤ 16777216) (hnc : nc ≤ 15) : Calls Try.prog 27 #[(.slice Af nf cf), (.agg #[(.bool gc), (.slice Ac nc cc)])] w (Ret fun v w' => ∃ (Ar : Option Addr) (nr : Nat) (cr : Nat) (lr : List RI), v = (.slice Ar nr cr) ∧ Ext w w' ∧ PolyR w' (fun b => w.heap.size ≤ b) Ar nr cr lr (Mf + 1024 * nf) ∧ (zs lr = trimZ (phorn [zval gc dc, 1] (zs lf))) ∧ (nr ≤ nf) ∧ (AllC lr)) := by
  have ⟨kf, jf, mf⟩ := hf.lkm
  replace hf := hf.low
  have ⟨lc, kc, mc⟩ := hc.lkm
  replace hc := hc.low
  refine enter Try.func27 rfl Try.ntmps27 rfl (rS fun K1 hK1 => sO (oBox [(.bool gc), (.slice Ac nc cc)] rfl rfl (fun g2 w3 hg4 hE5 hz6 hB7 => sAs rfl (sK hK1 (rS fun K8 hK8 => sMs rfl ?_)))))
  have h9 := (hf.ext hE5)
  refine sO (oCall rfl call37 (unipoly_Normal h9 (by omega) (by omega)) rfl ?_)
  rintro _ w11 ⟨qr_10, nr_10, lr_10, rfl, hE12, hgr_10, Br_10, hAr_10, kr_10, mr_10, e_10, ln_10, cn_10⟩
  have hz13 := hE12.size
  have hhr_10 : w3.heap.size ≤ qr_10 := hgr_10; have ltr_10 := Br_10.lt
  refine sAs rfl (sK hK8 (wp_seq_k fun K15 hK15 => rS fun K16 hK16 => sAi rfl (sK hK16 (wp_block ?_))))
  refine lLoop (fun m e w_ => ∃ (low : Nat) (L : List RI), m = nr_10 - low ∧ e 3 = (.pointer (some ⟨g2, 0, none⟩)) ∧ e 5 = (.slice (some ⟨qr_10, 0, none⟩) nr_10 nr_10) ∧ e 6 = (.int .i64 ((low : Int))) ∧ Frm (fun b => b = qr_10) w11 w_ ∧ Blk w_ qr_10 46 (cellsI L) ∧ (low ≤ nr_10 - 1) ∧ (L.length = nr_10) ∧ (AllN w_ (fun b => qr_10 < b) (Mf + 1024 * low) L) ∧ (∀ j, tay (zval gc dc) (zs lr_10) j = if j < low then co (zs L) j else tay (zval gc dc) ((zs L).drop low) (j - low)) ∧ (co (zs L) (nr_10 - 1) = co (zs lr_10) (nr_10 - 1)) ∧ (AllC L)) (nr_10 - (0)) ?_ ?_
  · refine ⟨(0), (lr_10), rfl, rfl, rfl, cI, (Frm.refl _ _), ?_, ?_, ?_, ?_, ?_, ?_, ?_⟩
    · exact Br_10
    · omega
    · omega
    · exact AllN.le (AllN.sub hAr_10 q5) (by omega)
    · exact shift_start rfl
    · rfl
    · exact cn_10
  · rintro m17 e25 w18 ⟨low, L, hm24, hs19, hs20, hs21, hF22, hB23, hlow, hL, hA, hs, hla, hC⟩
    obtain ⟨r26, rfl⟩ := sq (e := e25) (t := 3) hs19
    obtain ⟨r27, rfl⟩ := sq (e := r26) (t := 5) hs20
    obtain ⟨r28, rfl⟩ := sq (e := r27) (t := 6) hs21
    have hz29 := hF22.size
    refine wp_seq_k fun K30 hK30 => rS fun K31 hK31 => sMi rfl (sMs rfl (sV (evLen Try.underlying23 rfl) (sV (evSub (((nr_10 : Int)) - 1) rfl rfl wI) ?_)))
    by_cases hc32 : ((low : Int)) < (((nr_10 : Int)) - 1)
    · refine sV (evLss true rfl rfl (dT hc32)) (sK hK31 (cT rfl (wp_skip (xN (hK30 _ _ (wp_seq_k fun K33 hK33 => wp_block (rS fun K34 hK34 => sMs rfl (sV (evLen Try.underlying23 rfl) (sV (evSub (((nr_10 : Int)) - 2) rfl rfl wI) (sAi rfl (sK hK34 (wp_block ?_))))))))))))
      refine lLoop (fun m e w_ => ∃ (k : Nat) (L2 : List RI), m = k - low ∧ e 3 = (.pointer (some ⟨g2, 0, none⟩)) ∧ e 5 = (.slice (some ⟨qr_10, 0, none⟩) nr_10 nr_10) ∧ e 6 = (.int .i64 ((low : Int))) ∧ e 7 = (.int .i64 ((k : Int) - 1)) ∧ Frm (fun b => b = qr_10) w18 w_ ∧ Blk w_ qr_10 46 (cellsI L2) ∧ (low ≤ k ∧ k ≤ nr_10 - 1) ∧ (L2.length = nr_10) ∧ (AllN w_ (fun b => qr_10 < b) (Mf + 1024 * low + 16 * (nr_10 - 1 - k)) L2) ∧ ((zs L2).take k = (zs L).take k) ∧ ((zs L2).drop k = syn (zval gc dc) ((zs L).drop k)) ∧ (co (zs L2) (nr_10 - 1) = co (zs lr_10) (nr_10 - 1)) ∧ (AllC L2)) ((nr_10 - 1) - low) ?_ ?_
      · refine ⟨(nr_10 - 1), (L), rfl, rfl, rfl, rfl, cI, (Frm.refl _ _), ?_, ?_, ?_, ?_, ?_, ?_, ?_, ?_⟩
        · exact hB23
        · omega
        · exact hL
        · exact AllN.le hA (by omega)
        · rfl
        · exact syn_one (by rw [zlen]; omega)
        · exact hla
        · exact hC
      · rintro m35 e44 w36 ⟨k, L2, hm43, hs37, hs38, hs39, hs40, hF41, hB42, hk, hL2, hA2, ht, hd, hla2, hC2⟩
        obtain ⟨r45, rfl⟩ := sq (e := e44) (t := 3) hs37
        obtain ⟨r46, rfl⟩ := sq (e := r45) (t := 5) hs38
        obtain ⟨r47, rfl⟩ := sq (e := r46) (t := 6) hs39
        obtain ⟨r48, rfl⟩ := sq (e := r47) (t := 7) hs40
        have hz49 := hF41.size
        refine wp_seq_k fun K50 hK50 => rS fun K51 hK51 => sMi rfl (sMi rfl ?_)
        by_cases hc52 : ((k : Int) - 1) ≥ ((low : Int))
        · refine sV (evGeq true rfl rfl (dT hc52)) (sK hK51 (cT rfl (wp_skip (xN (hK50 _ _ (wp_seq_k fun K53 hK53 => wp_block (dBegin (fun b => b = qr_10) mixed (fun w54 hE55 hz56 => dMs 0 rfl rfl (dMi 1 rfl rfl (dMs 2 rfl rfl (dMi 3 rfl rfl (dV 4 rfl (fun _ _ => evIx (k - 1) Try.underlying23 sz46 rfl rfl ((k - 1) * 2)) ?_))))))))))))
          have hR57 := ((hE12.rx hF22).trans hF41).xr hE55
          have hB58 := (hB7.frm hR57 q1)
          refine dV 6 rfl (fun _ hf => evLoadAB [(.bool gc), (.slice Ac nc cc)] agg46 sz46 rfl (hB58.frm hf q1) rfl) (dMs 7 rfl rfl (dMi 8 rfl rfl (dV 9 rfl (fun _ _ => evAdd (((k : Int) - 1) + 1) rfl rfl wI) (dV 10 rfl (fun _ _ => evIx (k - 1 + 1) Try.underlying23 sz46 rfl rfl ((k - 1 + 1) * 2)) (dTwo 5 11 (by kernel_rfl) ?_ ?_)))))
          · have hB59 := (hB42.ext hE55)
            have h61 := (hA2.ext hE55)
            obtain ⟨g_60, A_60, n_60, c_60, d_60, he_60, hp_60, hq_60, z_60⟩ := hB59.int (i := k - 1) (by exact lq)
            have hx_60 := h61 _ (List.mem_of_getElem? he_60)
            dsimp only at hx_60
            have h_60 := hx_60.1; have hM_60 := hx_60.2
            have ⟨l_60, k_60, m_60⟩ := h_60.lkm
            refine dWp (i := 5) rfl rfl (oEv (v := (.agg #[(.bool g_60), (.slice A_60 n_60 c_60)])) (evLoadA [(.bool g_60), (.slice A_60 n_60 c_60)] agg46 sz46 rfl (cell2 hp_60 hq_60)) rfl ⟨Frm.refl _ _, ?_⟩)
            obtain ⟨g_63, A_63, n_63, c_63, d_63, he_63, hp_63, hq_63, z_63⟩ := hB59.int (i := k - 1 + 1) (by exact lq)
            have hx_63 := h61 _ (List.mem_of_getElem? he_63)
            dsimp only at hx_63
            have h_63 := hx_63.1; have hM_63 := hx_63.2
            have ⟨l_63, k_63, m_63⟩ := h_63.lkm
            refine dOp 11 rfl rfl (by kernel_rfl) (oEv (v := (.agg #[(.bool g_63), (.slice A_63 n_63 c_63)])) (evLoadA [(.bool g_63), (.slice A_63 n_63 c_63)] agg46 sz46 rfl (cell2 hp_63 hq_63)) rfl ⟨Frm.refl _ _, ?_⟩)
            have hR65 := (((hE5.trans hE12).rx hF22).trans hF41).xr hE55
            have h66 := (hc.frmB hR65 q3)
            refine dOp 12 rfl rfl (by kernel_rfl) (oCall rfl call69 (integer_Mul h66 h_63 (by omega)) rfl ?_)
            rintro _ w68 ⟨gr_67, Ar_67, nr_67, cr_67, dr_67, rfl, hE69, hr_67, v_67, cn_67, le_67⟩
            refine ⟨(Frm.of_ext hE69), ?_⟩
            have hz70 := hE69.size
            have ⟨lr_67, kr_67, mr_67⟩ := hr_67.lkm
            have h72 := (h_60.ext hE69)
            refine dOp 13 rfl rfl (by kernel_rfl) (oCall rfl call56 (integer_Add h72 hr_67 (by omega) (by omega)) rfl ?_)
            rintro _ w74 ⟨gr_73, Ar_73, nr_73, cr_73, dr_73, rfl, hE75, hr_73, v_73, cn_73, le_73⟩
            refine ⟨(Frm.of_ext hE75), ?_⟩
            have hz76 := hE75.size
            have ⟨lr_73, kr_73, mr_73⟩ := hr_73.lkm
            refine dV 14 rfl (fun _ _ => evIx (k - 1) Try.underlying23 sz46 rfl rfl ((k - 1) * 2)) ?_
            have hR78 := hE69.trans hE75
            have hB79 := (hB59.ext hR78)
            refine dOp 15 rfl rfl (by kernel_rfl) (oStore [(.bool gr_73), (.slice Ar_73 nr_73 cr_73)] rfl rfl rfl sz46 rfl hB79 (by rw [cellsI_len]; simp only [List.length_cons, List.length_nil]; exact lq) (fun w80 hU81 hz82 hB83 => ?_))
            replace hB83 := (cellsI_set (l := L2) (i := k - 1) ⟨gr_73, Ar_73, nr_73, cr_73, dr_73⟩ (by exact lq)) ▸ hB83
            refine ⟨hU81, dDone (by kernel_rfl) (bN (xN (hK53 _ _ (wp_region_lit (sMi rfl (sV (evSub (((k : Int) - 1) - 1) rfl rfl wI) (sAi rfl (sDone ?_))))))))⟩
            have hR84 := ((hE55.trans hE69).trans hE75).rx hU81
            have hR85 := hR78.rx hU81
            have h86 := (h61.frmB hR85 q3)
            have h87 := (hr_73.frmB hU81 q3)
            refine again ((k - 1) - low) (by omega) ⟨(k - 1), ((L2).set (k - 1) ⟨gr_73, Ar_73, nr_73, cr_73, dr_73⟩), rfl, rfl, rfl, rfl, cI, (hF41.trans hR84), ?_, ?_, ?_, ?_, ?_, ?_, ?_, ?_⟩
            · exact hB83
            · omega
            · rw [List.length_set]; exact hL2
            · exact AllN.set (AllN.le h86 (by omega)) (NatR.sub h87 q5) (by (try dsimp only); omega)
            · rw [zs_set]; exact (syn_step (by rw [zlen]; omega) (by rw [zlen, zlen]; omega) (by rw [show k - 1 + 1 = k by omega]; exact ht) (by rw [show k - 1 + 1 = k by omega]; exact hd) (by show zval _ _ = _; rw [v_73, z_60, v_67, z_63])).1
            · rw [zs_set]; exact (syn_step (by rw [zlen]; omega) (by rw [zlen, zlen]; omega) (by rw [show k - 1 + 1 = k by omega]; exact ht) (by rw [show k - 1 + 1 = k by omega]; exact hd) (by show zval _ _ = _; rw [v_73, z_60, v_67, z_63])).2
            · rw [zs_set, co_set_ne (by omega)]; exact hla2
            · exact AllC.set hC2 cn_73
          · have hB88 := (hB42.ext hE55)
            have h90 := (hA2.ext hE55)
            obtain ⟨g_89, A_89, n_89, c_89, d_89, he_89, hp_89, hq_89, z_89⟩ := hB88.int (i := k - 1 + 1) (by exact lq)
            have hx_89 := h90 _ (List.mem_of_getElem? he_89)
            dsimp only at hx_89
            have h_89 := hx_89.1; have hM_89 := hx_89.2
            have ⟨l_89, k_89, m_89⟩ := h_89.lkm
            refine dWp (i := 11) rfl rfl (oEv (v := (.agg #[(.bool g_89), (.slice A_89 n_89 c_89)])) (evLoadA [(.bool g_89), (.slice A_89 n_89 c_89)] agg46 sz46 rfl (cell2 hp_89 hq_89)) rfl ⟨Frm.refl _ _, dTwo 5 12 (by kernel_rfl) ?_ ?_⟩)
            · obtain ⟨g_92, A_92, n_92, c_92, d_92, he_92, hp_92, hq_92, z_92⟩ := hB88.int (i := k - 1) (by exact lq)
              have hx_92 := h90 _ (List.mem_of_getElem? he_92)
              dsimp only at hx_92
              have h_92 := hx_92.1; have hM_92 := hx_92.2
              have ⟨l_92, k_92, m_92⟩ := h_92.lkm
              refine dWp (i := 5) rfl rfl (oEv (v := (.agg #[(.bool g_92), (.slice A_92 n_92 c_92)])) (evLoadA [(.bool g_92), (.slice A_92 n_92 c_92)] agg46 sz46 rfl (cell2 hp_92 hq_92)) rfl ⟨Frm.refl _ _, ?_⟩)
              have hR94 := (((hE5.trans hE12).rx hF22).trans hF41).xr hE55
              have h95 := (hc.frmB hR94 q3)
              refine dOp 12 rfl rfl (by kernel_rfl) (oCall rfl call69 (integer_Mul h95 h_89 (by omega)) rfl ?_)
              rintro _ w97 ⟨gr_96, Ar_96, nr_96, cr_96, dr_96, rfl, hE98, hr_96, v_96, cn_96, le_96⟩
              refine ⟨(Frm.of_ext hE98), ?_⟩
              have hz99 := hE98.size
              have ⟨lr_96, kr_96, mr_96⟩ := hr_96.lkm
              have h101 := (h_92.ext hE98)
              refine dOp 13 rfl rfl (by kernel_rfl) (oCall rfl call56 (integer_Add h101 hr_96 (by omega) (by omega)) rfl ?_)
              rintro _ w103 ⟨gr_102, Ar_102, nr_102, cr_102, dr_102, rfl, hE104, hr_102, v_102, cn_102, le_102⟩
              refine ⟨(Frm.of_ext hE104), ?_⟩
              have hz105 := hE104.size
              have ⟨lr_102, kr_102, mr_102⟩ := hr_102.lkm
              refine dV 14 rfl (fun _ _ => evIx (k - 1) Try.underlying23 sz46 rfl rfl ((k - 1) * 2)) ?_
              have hR107 := hE98.trans hE104
              have hB108 := (hB88.ext hR107)
              refine dOp 15 rfl rfl (by kernel_rfl) (oStore [(.bool gr_102), (.slice Ar_102 nr_102 cr_102)] rfl rfl rfl sz46 rfl hB108 (by rw [cellsI_len]; simp only [List.length_cons, List.length_nil]; exact lq) (fun w109 hU110 hz111 hB112 => ?_))
              replace hB112 := (cellsI_set (l := L2) (i := k - 1) ⟨gr_102, Ar_102, nr_102, cr_102, dr_102⟩ (by exact lq)) ▸ hB112
              refine ⟨hU110, dDone (by kernel_rfl) (bN (xN (hK53 _ _ (wp_region_lit (sMi rfl (sV (evSub (((k : Int) - 1) - 1) rfl rfl wI) (sAi rfl (sDone ?_))))))))⟩
              have hR113 := ((hE55.trans hE98).trans hE104).rx hU110
              have hR114 := hR107.rx hU110
              have h115 := (h90.frmB hR114 q3)
              have h116 := (hr_102.frmB hU110 q3)
              refine again ((k - 1) - low) (by omega) ⟨(k - 1), ((L2).set (k - 1) ⟨gr_102, Ar_102, nr_102, cr_102, dr_102⟩), rfl, rfl, rfl, rfl, cI, (hF41.trans hR113), ?_, ?_, ?_, ?_, ?_, ?_, ?_, ?_⟩
              · exact hB112
              · omega
              · rw [List.length_set]; exact hL2
              · exact AllN.set (AllN.le h115 (by omega)) (NatR.sub h116 q5) (by (try dsimp only); omega)
              · rw [zs_set]; exact (syn_step (by rw [zlen]; omega) (by rw [zlen, zlen]; omega) (by rw [show k - 1 + 1 = k by omega]; exact ht) (by rw [show k - 1 + 1 = k by omega]; exact hd) (by show zval _ _ = _; rw [v_102, z_92, v_96, z_89])).1
              · rw [zs_set]; exact (syn_step (by rw [zlen]; omega) (by rw [zlen, zlen]; omega) (by rw [show k - 1 + 1 = k by omega]; exact ht) (by rw [show k - 1 + 1 = k by omega]; exact hd) (by show zval _ _ = _; rw [v_102, z_92, v_96, z_89])).2
              · rw [zs_set, co_set_ne (by omega)]; exact hla2
              · exact AllC.set hC2 cn_102
            · have hR117 := (((hE5.trans hE12).rx hF22).trans hF41).xr hE55
              have h118 := (hc.frmB hR117 q3)
              refine dWp (i := 12) rfl rfl (oCall rfl call69 (integer_Mul h118 h_89 (by omega)) rfl ?_)
              rintro _ w120 ⟨gr_119, Ar_119, nr_119, cr_119, dr_119, rfl, hE121, hr_119, v_119, cn_119, le_119⟩
              refine ⟨(Frm.of_ext hE121), ?_⟩
              have hz122 := hE121.size
              have ⟨lr_119, kr_119, mr_119⟩ := hr_119.lkm
              have hB124 := (hB88.ext hE121)
              have h126 := (h90.ext hE121)
              obtain ⟨g_125, A_125, n_125, c_125, d_125, he_125, hp_125, hq_125, z_125⟩ := hB124.int (i := k - 1) (by exact lq)
              have hx_125 := h126 _ (List.mem_of_getElem? he_125)
              dsimp only at hx_125
              have h_125 := hx_125.1; have hM_125 := hx_125.2
              have ⟨l_125, k_125, m_125⟩ := h_125.lkm
              refine dOp 5 rfl rfl (by kernel_rfl) (oEv (v := (.agg #[(.bool g_125), (.slice A_125 n_125 c_125)])) (evLoadA [(.bool g_125), (.slice A_125 n_125 c_125)] agg46 sz46 rfl (cell2 hp_125 hq_125)) rfl ⟨Frm.refl _ _, dOp 13 rfl rfl (by kernel_rfl) (oCall rfl call56 (integer_Add h_125 hr_119 (by omega) (by omega)) rfl ?_)⟩)
              rintro _ w129 ⟨gr_128, Ar_128, nr_128, cr_128, dr_128, rfl, hE130, hr_128, v_128, cn_128, le_128⟩
              refine ⟨(Frm.of_ext hE130), ?_⟩
              have hz131 := hE130.size
              have ⟨lr_128, kr_128, mr_128⟩ := hr_128.lkm
              refine dV 14 rfl (fun _ _ => evIx (k - 1) Try.underlying23 sz46 rfl rfl ((k - 1) * 2)) ?_
              have hB133 := (hB124.ext hE130)
              refine dOp 15 rfl rfl (by kernel_rfl) (oStore [(.bool gr_128), (.slice Ar_128 nr_128 cr_128)] rfl rfl rfl sz46 rfl hB133 (by rw [cellsI_len]; simp only [List.length_cons, List.length_nil]; exact lq) (fun w134 hU135 hz136 hB137 => ?_))
              replace hB137 := (cellsI_set (l := L2) (i := k - 1) ⟨gr_128, Ar_128, nr_128, cr_128, dr_128⟩ (by exact lq)) ▸ hB137
              refine ⟨hU135, dDone (by kernel_rfl) (bN (xN (hK53 _ _ (wp_region_lit (sMi rfl (sV (evSub (((k : Int) - 1) - 1) rfl rfl wI) (sAi rfl (sDone ?_))))))))⟩
              have hR138 := ((hE55.trans hE121).trans hE130).rx hU135
              have hR139 := hE130.rx hU135
              have h140 := (h126.frmB hR139 q3)
              have h141 := (hr_128.frmB hU135 q3)
              refine again ((k - 1) - low) (by omega) ⟨(k - 1), ((L2).set (k - 1) ⟨gr_128, Ar_128, nr_128, cr_128, dr_128⟩), rfl, rfl, rfl, rfl, cI, (hF41.trans hR138), ?_, ?_, ?_, ?_, ?_, ?_, ?_, ?_⟩
              · exact hB137
              · omega
              · rw [List.length_set]; exact hL2
              · exact AllN.set (AllN.le h140 (by omega)) (NatR.sub h141 q5) (by (try dsimp only); omega)
              · rw [zs_set]; exact (syn_step (by rw [zlen]; omega) (by rw [zlen, zlen]; omega) (by rw [show k - 1 + 1 = k by omega]; exact ht) (by rw [show k - 1 + 1 = k by omega]; exact hd) (by show zval _ _ = _; rw [v_128, z_125, v_119, z_89])).1
              · rw [zs_set]; exact (syn_step (by rw [zlen]; omega) (by rw [zlen, zlen]; omega) (by rw [show k - 1 + 1 = k by omega]; exact ht) (by rw [show k - 1 + 1 = k by omega]; exact hd) (by show zval _ _ = _; rw [v_128, z_125, v_119, z_89])).2
              · rw [zs_set, co_set_ne (by omega)]; exact hla2
              · exact AllC.set hC2 cn_128
        · refine sV (evGeq false rfl rfl (dF hc52)) (sK hK51 (cF rfl (wp_exit (xE (xE (bE (bN (xN (hK33 _ _ (wp_region_lit (sMi rfl (sV (evAdd (((low : Int)) + 1) rfl rfl wI) (sAi rfl (sDone (again (nr_10 - (low + 1)) (by omega) ⟨(low + 1), (L2), rfl, rfl, rfl, cI, (hF22.trans hF41), ?_, ?_, ?_, ?_, ?_, ?_, ?_⟩)))))))))))))))
          · exact hB42
          · omega
          · exact hL2
          · exact AllN.le hA2 (by omega)
          · exact shift_round hs (by rw [show low = k by omega]; exact ht) (by rw [show low = k by omega]; exact hd)
          · exact hla2
          · exact hC2
    · refine sV (evLss false rfl rfl (dF hc32)) (sK hK31 (cF rfl (wp_exit (xE (xE (bE (xN (hK15 _ _ (rS fun K142 hK142 => sMs rfl (sAs rfl (sK hK142 (wp_ret (ret1 (.slice (some ⟨qr_10, 0, none⟩) nr_10 nr_10) Try.results27 (resT rfl) ?_)))))))))))))
      have hcz : Canon isZI (zs L) := canon_of_last (by rw [zlen, hL]; by_cases h0 : nr_10 = 0; exact .inl h0; right; rw [hla, e_10, show nr_10 = (trimZ (zs lf)).length by rw [← e_10, zlen]; omega]; exact canon_last (canon_trim _ _) (by rw [← e_10, zlen]; omega))
      have h143 : PolyR w18 (fun b => qr_10 ≤ b) (some ⟨qr_10, 0, none⟩) nr_10 nr_10 (L) (Mf + 1024 * nf) := PolyR.of_blk hB23 (AllN.le (AllN.sub hA q5) (by omega)) (by (try dsimp only); omega) (by exact lq) (by omega) (by unfold CapMax; omega)
      have hR144 := (hE5.trans hE12).rx hF22
      exact ⟨(some ⟨qr_10, 0, none⟩), nr_10, nr_10, L, rfl, (Frm.mono hR144 q4), (PolyR.le (PolyR.sub h143 q5) (by omega)), (shift_fin (fun j => by rw [← e_10]; exact shift_end hs (by rw [zlen]; omega) j) hcz), (by omega), hC⟩

end Go.Proofs.Ytppegjbdencefaa
