/-
  Walk of package unipoly: values at integers.
-/
import Derived.Test.YtppegjbdencefaaUni4
import Derived.Test.YtppegjbdencefaaQPreds
namespace Go.Proofs.Ytppegjbdencefaa
open Go.RowKit Go.Gx
theorem unipoly_Eval {w : World} {Sf : Nat → Prop} {Af : Option Addr} {nf cf Mf : Nat} {lf : List RI} {ga : Bool} {Sa : Nat → Prop} {Aa : Option Addr} {na ca : Nat} {da : List Nat} (hf : PolyR w Sf Af nf cf lf Mf) (ha : NatR w Sa Aa na ca da) (hnf : nf ≤ 64) (hMf : Mf ≤ 64) (hna : na ≤ 64) : Calls Try.prog 53 #[(.slice Af nf cf), (.agg #[(.bool ga), (.slice Aa na ca)])] w (Ret fun v w' => ∃ (gr : Bool) (Ar : Option Addr) (nr : Nat) (cr : Nat) (dr : List Nat), v = (.agg #[(.bool gr), (.slice Ar nr cr)]) ∧ Ext w w' ∧ NatR w' (fun b => w.heap.size ≤ b) Ar nr cr dr ∧ (((zval gr dr : Int) : Rat) = evQ (zs lf) ((zval ga da : Int) : Rat)) ∧ (ICan gr dr) ∧ (nr ≤ 8192)) := by
  have ⟨kf, jf, mf⟩ := hf.lkm
  replace hf := hf.low
  have ⟨la, ka, ma⟩ := ha.lkm
  replace ha := ha.low
  refine enter Try.func53 rfl Try.ntmps53 rfl (rS fun K1 hK1 => sO (oBox [(.bool ga), (.slice Aa na ca)] rfl rfl (fun g2 w3 hg4 hE5 hz6 hB7 => sO (oAlloc [(.bool false), (.slice none 0 0)] zero46 rfl (fun g8 w9 hg10 hE11 hz12 hB13 => sK hK1 (rS fun K14 hK14 => sV (v := (.agg #[(.bool false), (.slice none 0 0)])) (evK (by kernel_rfl)) (sO (oAlloc [(.bool false), (.slice none 0 0)] zero46 rfl (fun g15 w16 hg17 hE18 hz19 hB20 => sO (oStore [(.bool false), (.slice none 0 0)] rfl rfl rfl sz46 rfl hB20 (Nat.le_of_ble_eq_true rfl) (fun w21 hU22 hz23 hB24 => ?_)))))))))))
  replace hB24 : Blk w21 g15 46 [(.bool false), (.slice none 0 0)] := hB24
  refine sK hK14 (wp_seq_k fun K25 hK25 => rS fun K26 hK26 => sMs rfl (sV (evLen Try.underlying23 rfl) (sV (evSub (((nf : Int)) - 1) rfl rfl wI) (sAi rfl (sK hK26 (wp_block ?_))))))
  refine lLoop (fun m e w_ => ∃ (k : Nat) (gv_ : Bool) (Av : Option Addr) (nv_ : Nat) (cv_ : Nat) (dv_ : List Nat), m = k ∧ e 0 = (.slice Af nf cf) ∧ e 3 = (.pointer (some ⟨g2, 0, none⟩)) ∧ e 4 = (.pointer (some ⟨g8, 0, none⟩)) ∧ e 5 = (.pointer (some ⟨g15, 0, none⟩)) ∧ e 6 = (.int .i64 ((k : Int) - 1)) ∧ Frm (fun b => b = g15) w21 w_ ∧ Blk w_ g15 46 ([.bool gv_, .slice Av nv_ cv_]) ∧ (k ≤ nf) ∧ (nv_ ≤ 128 * (nf - k)) ∧ (ICan gv_ dv_) ∧ (NatR w_ (fun b => w.heap.size ≤ b ∧ b ≠ g15 ∧ b ≠ g8) Av nv_ cv_ dv_) ∧ (((zval gv_ dv_ : Int) : Rat) = evQ ((zs lf).drop k) ((zval ga da : Int) : Rat))) ((nf)) ?_ ?_
  · refine ⟨(nf), (false), (none), (0), (0), ([]), rfl, rfl, rfl, rfl, rfl, cI, (Frm.refl _ _), ?_, ?_, ?_, ?_, ?_, ?_⟩
    · exact hB24
    · omega
    · omega
    · exact ⟨canon_nil _, fun h => by cases h⟩
    · exact NatR.nil
    · rw [List.drop_of_length_le (by rw [zlen]; omega)]; rfl
  · rintro m27 e37 w28 ⟨k, gv_, Av, nv_, cv_, dv_, hm36, hs29, hs30, hs31, hs32, hs33, hF34, hB35, hk, bnv, hcn, hVf, hv⟩
    obtain ⟨r38, rfl⟩ := sq (e := e37) (t := 0) hs29
    obtain ⟨r39, rfl⟩ := sq (e := r38) (t := 3) hs30
    obtain ⟨r40, rfl⟩ := sq (e := r39) (t := 4) hs31
    obtain ⟨r41, rfl⟩ := sq (e := r40) (t := 5) hs32
    obtain ⟨r42, rfl⟩ := sq (e := r41) (t := 6) hs33
    have hz43 := hF34.size
    have ⟨lV, kV, mV⟩ := hVf.lkm
    refine wp_seq_k fun K44 hK44 => rS fun K45 hK45 => sMi rfl ?_
    by_cases hc46 : ((k : Int) - 1) ≥ 0
    · refine sV (evGeq true rfl rfl (dT hc46)) (sK hK45 (cT rfl (wp_skip (xN (hK44 _ _ (wp_seq_k fun K47 hK47 => wp_block (dBegin (fun b => b = g15) mixed (fun w48 hE49 hz50 => ?_))))))))
      have hR51 := (((hE11.trans hE18).rx hU22).trans hF34).xr hE49
      have hB52 := (hB7.frm hR51 q1)
      refine dV 1 rfl (fun _ hf => evLoadAB [(.bool ga), (.slice Aa na ca)] agg46 sz46 rfl (hB52.frm hf q1) rfl) (dMs 3 rfl rfl (dMi 4 rfl rfl ?_))
      have hR53 := ((((hE5.trans hE11).trans hE18).rx hU22).trans hF34).xr hE49
      have h54 := (hf.frmB hR53 q3)
      obtain ⟨b55, o56, rfl⟩ := h54.base (by omega)
      refine dV 5 rfl (fun _ _ => evIx (k - 1) Try.underlying23 sz46 rfl rfl (o56 + ((k - 1) * 2))) ?_
      obtain ⟨g_57, A_57, n_57, c_57, d_57, he_57, hp_57, hq_57, h_57, hM_57, hS_57, hb_57, z_57⟩ := h54.at_ (i := k - 1) (by omega)
      have ⟨l_57, k_57, m_57⟩ := h_57.lkm
      refine dV 6 rfl (fun _ hf => evLoadA [(.bool g_57), (.slice A_57 n_57 c_57)] agg46 sz46 rfl (cell2F hp_57 hq_57 hf hb_57 (by (try dsimp only at hS_57 ⊢); omega))) ?_
      have hB59 := (hB35.ext hE49)
      refine dOp 0 rfl rfl (by kernel_rfl) (oEv (v := (.agg #[(.bool gv_), (.slice Av nv_ cv_)])) (evLoadAB [(.bool gv_), (.slice Av nv_ cv_)] agg46 sz46 rfl hB59 rfl) rfl ⟨Frm.refl _ _, ?_⟩)
      have h60 := (hVf.ext hE49)
      have h61 := (ha.frmB hR53 q3)
      refine dOp 2 rfl rfl (by kernel_rfl) (oCall rfl call69 (integer_Mul h60 h61 (by omega)) rfl ?_)
      rintro _ w63 ⟨gr_62, Ar_62, nr_62, cr_62, dr_62, rfl, hE64, hr_62, v_62, cn_62, le_62⟩
      refine ⟨(Frm.of_ext hE64), ?_⟩
      have hz65 := hE64.size
      have ⟨lr_62, kr_62, mr_62⟩ := hr_62.lkm
      have h67 := (h_57.ext hE64)
      refine dOp 7 rfl rfl (by kernel_rfl) (oCall rfl call56 (integer_Add hr_62 h67 (by omega) (by omega)) rfl ?_)
      rintro _ w69 ⟨gr_68, Ar_68, nr_68, cr_68, dr_68, rfl, hE70, hr_68, v_68, cn_68, le_68⟩
      refine ⟨(Frm.of_ext hE70), ?_⟩
      have hz71 := hE70.size
      have ⟨lr_68, kr_68, mr_68⟩ := hr_68.lkm
      have hR73 := hE64.trans hE70
      have hB74 := (hB59.ext hR73)
      refine dOp 8 rfl rfl (by kernel_rfl) (oStore [(.bool gr_68), (.slice Ar_68 nr_68 cr_68)] rfl rfl rfl sz46 rfl hB74 (Nat.le_of_ble_eq_true rfl) (fun w75 hU76 hz77 hB78 => ?_))
      replace hB78 : Blk w75 g15 46 [(.bool gr_68), (.slice Ar_68 nr_68 cr_68)] := hB78
      refine ⟨hU76, dDone (by kernel_rfl) (bN (xN (hK47 _ _ (wp_region_lit (sMi rfl (sV (evSub (((k : Int) - 1) - 1) rfl rfl wI) (sAi rfl (sDone ?_))))))))⟩
      have hR79 := ((hE49.trans hE64).trans hE70).rx hU76
      have h80 := (hr_68.frmB hU76 q3)
      refine again ((k - 1)) (by omega) ⟨(k - 1), (gr_68), (Ar_68), (nr_68), (cr_68), (dr_68), rfl, rfl, rfl, rfl, rfl, cI, (hF34.trans hR79), ?_, ?_, ?_, ?_, ?_, ?_⟩
      · exact hB78
      · omega
      · omega
      · exact cn_68
      · exact NatR.sub h80 q5
      · rw [v_68, v_62]; exact iv_step (by omega) (by rw [zlen]; omega) hv z_57
    · refine sV (evGeq false rfl rfl (dF hc46)) (sK hK45 (cF rfl (wp_exit (xE (xE (bE (xN (hK25 _ _ (rS fun K81 hK81 => sV (evLoadAB [(.bool gv_), (.slice Av nv_ cv_)] agg46 sz46 rfl hB35 rfl) ?_)))))))))
      have hR82 := (hE18.rx hU22).trans hF34
      have hB83 := (hB13.frm hR82 q1)
      refine sO (oStore [(.bool gv_), (.slice Av nv_ cv_)] rfl rfl rfl sz46 rfl hB83 (Nat.le_of_ble_eq_true rfl) (fun w84 hU85 hz86 hB87 => ?_))
      replace hB87 : Blk w84 g8 46 [(.bool gv_), (.slice Av nv_ cv_)] := hB87
      refine sK hK81 (wp_ret (ret1 (.agg #[(.bool gv_), (.slice Av nv_ cv_)]) Try.results53 (resB [(.bool gv_), (.slice Av nv_ cv_)] agg46 sz46 rfl hB87) ?_))
      have h88 := (hVf.frmB hU85 q3)
      have hR89 := ((((hE5.trans hE11).trans hE18).rx hU22).trans hF34).tr hU85
      exact ⟨gv_, Av, nv_, cv_, dv_, rfl, (Frm.mono hR89 q4), (NatR.sub h88 q5), (by rw [hv, show k = 0 by omega]; rfl), hcn, (by omega)⟩

end Go.Proofs.Ytppegjbdencefaa
