/-
  Walks of packages cylinderref06, cylinderref08: values of polynomials of the reference at fractions.
-/
import Derived.Test.YtppegjbdencefaaRef7
import Derived.Test.YtppegjbdencefaaRef4
namespace Go.Proofs.Ytppegjbdencefaa
open Go.RowKit Go.Gx
theorem ref06_Number {w : World} {xn : Int}  (hx : -1099511627776 ≤ xn ∧ xn ≤ 1099511627776) : Calls Try.prog 104 #[(.int .i64 (xn))] w (Ret fun v w' => ∃ (sr : Int) (Ar : Option Addr) (nr : Nat) (cr : Nat) (zr : Int) (srv : Int) (Arv : Option Addr) (nrv : Nat) (crv : Nat) (zrv : Int), v = (.agg #[(.int .i64 (sr)), (.slice Ar nr cr), (.int .i64 (srv)), (.slice Arv nrv crv)]) ∧ Ext w w' ∧ ZR w' (fun b => w.heap.size ≤ b) sr Ar nr cr zr ∧ ZR w' (fun b => w.heap.size ≤ b) srv Arv nrv crv zrv ∧ (zr = xn) ∧ (zrv = 1) ∧ (nr ≤ 41) ∧ (nrv ≤ 41)) := by
  refine enter Try.func104 rfl Try.ntmps104 rfl (rS fun K1 hK1 => sO (oAlloc [(.int .i64 (0)), (.slice none 0 0), (.int .i64 (0)), (.slice none 0 0)] zero67 rfl (fun g2 w3 hg4 hE5 hz6 hB7 => sK hK1 (rS fun K8 hK8 => sMi rfl (sO (oCall rfl call15 (ref02_Small (by omega)) rfl ?_))))))
  rintro _ w10 ⟨sr_9, Ar_9, nr_9, cr_9, zr_9, rfl, hE11, hr_9, v_9, le_9⟩
  have hz12 := hE11.size
  have ⟨sgr_9, kr_9, mr_9⟩ := hr_9.lkm
  refine sO (oCall rfl call15 (ref02_Small (by omega)) rfl ?_)
  rintro _ w15 ⟨sr_14, Ar_14, nr_14, cr_14, zr_14, rfl, hE16, hr_14, v_14, le_14⟩
  have hz17 := hE16.size
  have ⟨sgr_14, kr_14, mr_14⟩ := hr_14.lkm
  refine sV (v := (.agg #[(.int .i64 (sr_9)), (.slice Ar_9 nr_9 cr_9), (.int .i64 (sr_14)), (.slice Ar_14 nr_14 cr_14)])) (evK (by kernel_rfl)) ?_
  have hR19 := hE11.trans hE16
  have hB20 := (hB7.ext hR19)
  refine sO (oStore [(.int .i64 (sr_9)), (.slice Ar_9 nr_9 cr_9), (.int .i64 (sr_14)), (.slice Ar_14 nr_14 cr_14)] rfl rfl rfl sz67 rfl hB20 (Nat.le_of_ble_eq_true rfl) (fun w21 hU22 hz23 hB24 => ?_))
  replace hB24 : Blk w21 g2 67 [(.int .i64 (sr_9)), (.slice Ar_9 nr_9 cr_9), (.int .i64 (sr_14)), (.slice Ar_14 nr_14 cr_14)] := hB24
  refine sK hK8 (wp_ret (ret1 (.agg #[(.int .i64 (sr_9)), (.slice Ar_9 nr_9 cr_9), (.int .i64 (sr_14)), (.slice Ar_14 nr_14 cr_14)]) Try.results104 (resB [(.int .i64 (sr_9)), (.slice Ar_9 nr_9 cr_9), (.int .i64 (sr_14)), (.slice Ar_14 nr_14 cr_14)] agg67 sz67 rfl hB24) ?_))
  have hR25 := hE16.rx hU22
  have h26 := (hr_9.frmB hR25 q3)
  have h27 := (hr_14.frmB hU22 q3)
  have hR28 := ((hE5.trans hE11).trans hE16).rx hU22
  exact ⟨(sr_9), Ar_9, nr_9, cr_9, (zr_9), (sr_14), Ar_14, nr_14, cr_14, (zr_14), rfl, (Frm.mono hR28 q4), (ZR.sub h26 q5), (ZR.sub h27 q5), v_9, v_14, (by omega), (by omega)⟩

theorem ref06_Value {w : World} {Sf : Nat → Prop} {Af : Option Addr} {nf cf Mf : Nat} {ff : List Int} {Sa : Nat → Prop} {sa : Int} {Aa : Option Addr} {na ca : Nat} {za : Int} {Sav : Nat → Prop} {sav : Int} {Aav : Option Addr} {nav cav : Nat} {zav : Int} (hf : PQR w Sf Af nf cf ff Mf) (ha : ZR w Sa sa Aa na ca za) (hav : ZR w Sav sav Aav nav cav zav) (hnf : nf ≤ 64) (hMf : Mf ≤ 32768) (hna : na ≤ 32768) (hnav : nav ≤ 32768) (hd0 : 0 < zav) : Calls Try.prog 84 #[(.slice Af nf cf), (.agg #[(.int .i64 (sa)), (.slice Aa na ca), (.int .i64 (sav)), (.slice Aav nav cav)])] w (Ret fun v w' => ∃ (sr : Int) (Ar : Option Addr) (nr : Nat) (cr : Nat) (zr : Int) (srv : Int) (Arv : Option Addr) (nrv : Nat) (crv : Nat) (zrv : Int), v = (.agg #[(.int .i64 (sr)), (.slice Ar nr cr), (.int .i64 (srv)), (.slice Arv nrv crv)]) ∧ Ext w w' ∧ ZR w' (fun b => w.heap.size ≤ b) sr Ar nr cr zr ∧ ZR w' (fun b => w.heap.size ≤ b) srv Arv nrv crv zrv ∧ (((zr : Int) : Rat) = evQ ff ((za : Rat) / (zav : Rat)) * ((zrv : Int) : Rat)) ∧ (zrv = zav ^ nf) ∧ (nr ≤ 8388608) ∧ (nrv ≤ 8388608)) := by
  have ⟨lf, kf, mf⟩ := hf.lkm
  replace hf := hf.low
  have ⟨sga, ka, ma⟩ := ha.lkm
  replace ha := ha.low
  have ⟨sgav, kav, mav⟩ := hav.lkm
  replace hav := hav.low
  refine enter Try.func84 rfl Try.ntmps84 rfl (rS fun K1 hK1 => sO (oBox [(.int .i64 (sa)), (.slice Aa na ca), (.int .i64 (sav)), (.slice Aav nav cav)] rfl rfl (fun g2 w3 hg4 hE5 hz6 hB7 => sO (oAlloc [(.int .i64 (0)), (.slice none 0 0), (.int .i64 (0)), (.slice none 0 0)] zero67 rfl (fun g8 w9 hg10 hE11 hz12 hB13 => sK hK1 (rS fun K14 hK14 => sO (oCall rfl call104 (ref06_Number (by omega)) rfl ?_)))))))
  rintro _ w16 ⟨sr_15, Ar_15, nr_15, cr_15, zr_15, srv_15, Arv_15, nrv_15, crv_15, zrv_15, rfl, hE17, hr_15, hrv_15, v_15, d_15, le_15, lv_15⟩
  have hz18 := hE17.size
  have ⟨sgr_15, kr_15, mr_15⟩ := hr_15.lkm
  have ⟨sgrv_15, krv_15, mrv_15⟩ := hrv_15.lkm
  have h21 := hr_15.sub (S' := fun b => (w9.heap.size ≤ b) ∧ b < w16.heap.size) fun _ hb hs => ⟨hs, hb⟩
  have h22 := hrv_15.sub (S' := fun b => (w9.heap.size ≤ b) ∧ b < w16.heap.size) fun _ hb hs => ⟨hs, hb⟩
  refine sO (oAlloc [(.int .i64 (0)), (.slice none 0 0), (.int .i64 (0)), (.slice none 0 0)] zero67 rfl (fun g23 w24 hg25 hE26 hz27 hB28 => sO (oStore [(.int .i64 (sr_15)), (.slice Ar_15 nr_15 cr_15), (.int .i64 (srv_15)), (.slice Arv_15 nrv_15 crv_15)] rfl rfl rfl sz67 rfl hB28 (Nat.le_of_ble_eq_true rfl) (fun w29 hU30 hz31 hB32 => ?_))))
  replace hB32 : Blk w29 g23 67 [(.int .i64 (sr_15)), (.slice Ar_15 nr_15 cr_15), (.int .i64 (srv_15)), (.slice Arv_15 nrv_15 crv_15)] := hB32
  refine sK hK14 (wp_seq_k fun K33 hK33 => rS fun K34 hK34 => sMs rfl (sV (evLen Try.underlying103 rfl) (sV (evSub (((nf : Int)) - 1) rfl rfl wI) (sAi rfl (sK hK34 (wp_block ?_))))))
  have hR36 := hE26.rx hU30
  have h37 := (h21.frmB hR36 q3)
  have h38 := (h22.frmB hR36 q3)
  refine lLoop (fun m e w_ => ∃ (k : Nat) (sx : Int) (Ax : Option Addr) (nx : Nat) (cx : Nat) (zx : Int) (sy : Int) (Ay : Option Addr) (ny : Nat) (cy : Nat) (zy : Int), m = k ∧ e 0 = (.slice Af nf cf) ∧ e 3 = (.pointer (some ⟨g2, 0, none⟩)) ∧ e 4 = (.pointer (some ⟨g8, 0, none⟩)) ∧ e 5 = (.pointer (some ⟨g23, 0, none⟩)) ∧ e 6 = (.int .i64 ((k : Int) - 1)) ∧ Frm (fun b => b = g23) w29 w_ ∧ Blk w_ g23 67 ([.int .i64 sx, .slice Ax nx cx, .int .i64 sy, .slice Ay ny cy]) ∧ (k ≤ nf) ∧ (nx ≤ 41 + 120000 * (nf - k)) ∧ (ny ≤ 41 + 40000 * (nf - k)) ∧ (zy = zav ^ (nf - k)) ∧ (((zx : Int) : Rat) = evQ (ff.drop k) ((za : Rat) / (zav : Rat)) * ((zy : Int) : Rat)) ∧ (ZR w_ (fun b => w.heap.size ≤ b ∧ b ≠ g23 ∧ b ≠ g8) sx Ax nx cx zx) ∧ (ZR w_ (fun b => w.heap.size ≤ b ∧ b ≠ g23 ∧ b ≠ g8) sy Ay ny cy zy)) ((nf)) ?_ ?_
  · refine ⟨(nf), (sr_15), (Ar_15), (nr_15), (cr_15), (zr_15), (srv_15), (Arv_15), (nrv_15), (crv_15), (zrv_15), rfl, rfl, rfl, rfl, rfl, cI, (Frm.refl _ _), ?_, ?_, ?_, ?_, ?_, ?_, ?_, ?_⟩
    · exact hB32
    · omega
    · omega
    · omega
    · rw [d_15, Nat.sub_self, Int.pow_zero]
    · rw [List.drop_of_length_le (by omega), v_15]; simp [evQ]
    · exact ZR.sub h37 q5
    · exact ZR.sub h38 q5
  · rintro m35 e48 w39 ⟨k, sx, Ax, nx, cx, zx, sy, Ay, ny, cy, zy, hm47, hs40, hs41, hs42, hs43, hs44, hF45, hB46, hk, bnx, bny, hD, hv, hX, hY⟩
    obtain ⟨r49, rfl⟩ := sq (e := e48) (t := 0) hs40
    obtain ⟨r50, rfl⟩ := sq (e := r49) (t := 3) hs41
    obtain ⟨r51, rfl⟩ := sq (e := r50) (t := 4) hs42
    obtain ⟨r52, rfl⟩ := sq (e := r51) (t := 5) hs43
    obtain ⟨r53, rfl⟩ := sq (e := r52) (t := 6) hs44
    have hz54 := hF45.size
    have ⟨sgx, kx, mx⟩ := hX.lkm; have ⟨sgy, ky, my⟩ := hY.lkm
    refine wp_seq_k fun K55 hK55 => rS fun K56 hK56 => sMi rfl ?_
    by_cases hc57 : ((k : Int) - 1) ≥ 0
    · refine sV (evGeq true rfl rfl (dT hc57)) (sK hK56 (cT rfl (wp_skip (xN (hK55 _ _ (wp_seq_k fun K58 hK58 => wp_block (dBegin (fun b => b = g23) mixed (fun w59 hE60 hz61 => ?_))))))))
      have hR62 := ((((hE11.trans hE17).trans hE26).rx hU30).trans hF45).xr hE60
      have hB63 := (hB7.frm hR62 q1)
      refine dV 1 rfl (fun _ hf => evLoadAB [(.int .i64 (sa)), (.slice Aa na ca), (.int .i64 (sav)), (.slice Aav nav cav)] agg67 sz67 rfl (hB63.frm hf q1) rfl) (dMs 3 rfl rfl (dMi 4 rfl rfl ?_))
      have hR64 := (((((hE5.trans hE11).trans hE17).trans hE26).rx hU30).trans hF45).xr hE60
      have h65 := (hf.frmB hR64 q3)
      obtain ⟨b66, o67, rfl⟩ := h65.base (by omega)
      refine dV 5 rfl (fun _ _ => evIx (k - 1) Try.underlying103 sz67 rfl rfl (o67 + ((k - 1) * 4))) ?_
      obtain ⟨s_68, A_68, n_68, c_68, z_68, sv_68, Av_68, nv_68, cv_68, hp_68, h_68, hM_68, hv_68, hN_68, hS_68, hb_68, hz_68⟩ := h65.at_ (i := k - 1) (by omega)
      have ⟨sg_68, k_68, m_68⟩ := h_68.lkm; have ⟨sgv_68, kv_68, mv_68⟩ := hv_68.lkm
      refine dV 6 rfl (fun _ hf => evLoadA [(.int .i64 (s_68)), (.slice A_68 n_68 c_68), (.int .i64 (sv_68)), (.slice Av_68 nv_68 cv_68)] agg67 sz67 rfl (cell4F hp_68 hf hb_68 (by (try dsimp only at hS_68 ⊢); omega))) ?_
      have hB71 := (hB46.ext hE60)
      refine dOp 0 rfl rfl (by kernel_rfl) (oEv (v := (.agg #[(.int .i64 (sx)), (.slice Ax nx cx), (.int .i64 (sy)), (.slice Ay ny cy)])) (evLoadAB [(.int .i64 (sx)), (.slice Ax nx cx), (.int .i64 (sy)), (.slice Ay ny cy)] agg67 sz67 rfl hB71 rfl) rfl ⟨Frm.refl _ _, ?_⟩)
      have h72 := (hX.ext hE60)
      have h73 := (hY.ext hE60)
      have h74 := (ha.frmB hR64 q3)
      have h75 := (hav.frmB hR64 q3)
      refine dOp 2 rfl rfl (by kernel_rfl) (oCall rfl call106 (ref05_Mul h72 h73 h74 h75 (by omega) (by omega) (by omega) (by omega)) rfl ?_)
      rintro _ w77 ⟨sr_76, Ar_76, nr_76, cr_76, zr_76, srv_76, Arv_76, nrv_76, crv_76, zrv_76, rfl, hE78, hr_76, hrv_76, v_76, d_76, le_76, lv_76⟩
      refine ⟨(Frm.of_ext hE78), ?_⟩
      have hz79 := hE78.size
      have ⟨sgr_76, kr_76, mr_76⟩ := hr_76.lkm
      have ⟨sgrv_76, krv_76, mrv_76⟩ := hrv_76.lkm
      have h82 := (h_68.ext hE78)
      have h83 := (hv_68.ext hE78)
      refine dOp 7 rfl rfl (by kernel_rfl) (oCall rfl call105 (ref05_Add hr_76 hrv_76 h82 h83 (by omega) (by omega) (by omega) (by omega)) rfl ?_)
      rintro _ w85 ⟨sr_84, Ar_84, nr_84, cr_84, zr_84, srv_84, Arv_84, nrv_84, crv_84, zrv_84, rfl, hE86, hr_84, hrv_84, v_84, d_84, le_84, lv_84⟩
      refine ⟨(Frm.of_ext hE86), ?_⟩
      have hz87 := hE86.size
      have ⟨sgr_84, kr_84, mr_84⟩ := hr_84.lkm
      have ⟨sgrv_84, krv_84, mrv_84⟩ := hrv_84.lkm
      have hR90 := hE78.trans hE86
      have hB91 := (hB71.ext hR90)
      refine dOp 8 rfl rfl (by kernel_rfl) (oStore [(.int .i64 (sr_84)), (.slice Ar_84 nr_84 cr_84), (.int .i64 (srv_84)), (.slice Arv_84 nrv_84 crv_84)] rfl rfl rfl sz67 rfl hB91 (Nat.le_of_ble_eq_true rfl) (fun w92 hU93 hz94 hB95 => ?_))
      replace hB95 : Blk w92 g23 67 [(.int .i64 (sr_84)), (.slice Ar_84 nr_84 cr_84), (.int .i64 (srv_84)), (.slice Arv_84 nrv_84 crv_84)] := hB95
      refine ⟨hU93, dDone (by kernel_rfl) (bN (xN (hK58 _ _ (wp_region_lit (sMi rfl (sV (evSub (((k : Int) - 1) - 1) rfl rfl wI) (sAi rfl (sDone ?_))))))))⟩
      have hR96 := ((hE60.trans hE78).trans hE86).rx hU93
      have h97 := (hr_84.frmB hU93 q3)
      have h98 := (hrv_84.frmB hU93 q3)
      refine again ((k - 1)) (by omega) ⟨(k - 1), (sr_84), (Ar_84), (nr_84), (cr_84), (zr_84), (srv_84), (Arv_84), (nrv_84), (crv_84), (zrv_84), rfl, rfl, rfl, rfl, rfl, cI, (hF45.trans hR96), ?_, ?_, ?_, ?_, ?_, ?_, ?_, ?_⟩
      · exact hB95
      · omega
      · omega
      · omega
      · rw [d_84, d_76, hD, Int.mul_one, ← Int.pow_succ]; congr 1; omega
      · rw [v_84, d_84, v_76, d_76]; exact qv_step (frac_mul hd0) (by omega) (by omega) hv hz_68
      · exact ZR.sub h97 q5
      · exact ZR.sub h98 q5
    · refine sV (evGeq false rfl rfl (dF hc57)) (sK hK56 (cF rfl (wp_exit (xE (xE (bE (xN (hK33 _ _ (rS fun K99 hK99 => sV (evLoadAB [(.int .i64 (sx)), (.slice Ax nx cx), (.int .i64 (sy)), (.slice Ay ny cy)] agg67 sz67 rfl hB46 rfl) ?_)))))))))
      have hR100 := ((hE17.trans hE26).rx hU30).trans hF45
      have hB101 := (hB13.frm hR100 q1)
      refine sO (oStore [(.int .i64 (sx)), (.slice Ax nx cx), (.int .i64 (sy)), (.slice Ay ny cy)] rfl rfl rfl sz67 rfl hB101 (Nat.le_of_ble_eq_true rfl) (fun w102 hU103 hz104 hB105 => ?_))
      replace hB105 : Blk w102 g8 67 [(.int .i64 (sx)), (.slice Ax nx cx), (.int .i64 (sy)), (.slice Ay ny cy)] := hB105
      refine sK hK99 (wp_ret (ret1 (.agg #[(.int .i64 (sx)), (.slice Ax nx cx), (.int .i64 (sy)), (.slice Ay ny cy)]) Try.results84 (resB [(.int .i64 (sx)), (.slice Ax nx cx), (.int .i64 (sy)), (.slice Ay ny cy)] agg67 sz67 rfl hB105) ?_))
      have h106 := (hX.frmB hU103 q3)
      have h107 := (hY.frmB hU103 q3)
      have hR108 := (((((hE5.trans hE11).trans hE17).trans hE26).rx hU30).trans hF45).tr hU103
      exact ⟨(sx), Ax, nx, cx, (zx), (sy), Ay, ny, cy, (zy), rfl, (Frm.mono hR108 q4), (ZR.sub h106 q5), (ZR.sub h107 q5), (by rw [hv, show k = 0 by omega]; rfl), (by rw [hD, show k = 0 by omega]; rfl), (by omega), (by omega)⟩

theorem ref08_Value {w : World} {Sf : Nat → Prop} {Af : Option Addr} {nf cf Mf : Nat} {ff : List Int} {Sa : Nat → Prop} {sa : Int} {Aa : Option Addr} {na ca : Nat} {za : Int} {Sav : Nat → Prop} {sav : Int} {Aav : Option Addr} {nav cav : Nat} {zav : Int} (hf : PZR w Sf Af nf cf ff Mf) (ha : ZR w Sa sa Aa na ca za) (hav : ZR w Sav sav Aav nav cav zav) (hnf : nf ≤ 64) (hMf : Mf ≤ 32768) (hna : na ≤ 32768) (hnav : nav ≤ 32768) (hd0 : 0 < zav) : Calls Try.prog 50 #[(.slice Af nf cf), (.agg #[(.int .i64 (sa)), (.slice Aa na ca), (.int .i64 (sav)), (.slice Aav nav cav)])] w (Ret fun v w' => ∃ (sr : Int) (Ar : Option Addr) (nr : Nat) (cr : Nat) (zr : Int) (srv : Int) (Arv : Option Addr) (nrv : Nat) (crv : Nat) (zrv : Int), v = (.agg #[(.int .i64 (sr)), (.slice Ar nr cr), (.int .i64 (srv)), (.slice Arv nrv crv)]) ∧ Ext w w' ∧ ZR w' (fun b => w.heap.size ≤ b) sr Ar nr cr zr ∧ ZR w' (fun b => w.heap.size ≤ b) srv Arv nrv crv zrv ∧ (((zr : Int) : Rat) = evQ ff ((za : Rat) / (zav : Rat)) * ((zrv : Int) : Rat)) ∧ (zrv = zav ^ nf) ∧ (nr ≤ 8388608) ∧ (nrv ≤ 8388608)) := by
  have ⟨lf, kf, mf⟩ := hf.lkm
  replace hf := hf.low
  have ⟨sga, ka, ma⟩ := ha.lkm
  replace ha := ha.low
  have ⟨sgav, kav, mav⟩ := hav.lkm
  replace hav := hav.low
  refine enter Try.func50 rfl Try.ntmps50 rfl (rS fun K1 hK1 => sO (oBox [(.int .i64 (sa)), (.slice Aa na ca), (.int .i64 (sav)), (.slice Aav nav cav)] rfl rfl (fun g2 w3 hg4 hE5 hz6 hB7 => sO (oAlloc [(.int .i64 (0)), (.slice none 0 0), (.int .i64 (0)), (.slice none 0 0)] zero67 rfl (fun g8 w9 hg10 hE11 hz12 hB13 => sK hK1 (rS fun K14 hK14 => sAs rfl (sK hK14 (wp_seq_k fun K15 hK15 => rS fun K16 hK16 => sAi rfl (sK hK16 (wp_block ?_))))))))))
  refine lLoop (fun m e w_ => ∃ (k : Nat) (O : List Int) (Ao : Option Addr) (cp : Nat), m = nf - k ∧ e 0 = (.slice Af nf cf) ∧ e 3 = (.pointer (some ⟨g2, 0, none⟩)) ∧ e 4 = (.pointer (some ⟨g8, 0, none⟩)) ∧ e 5 = (.slice Ao k cp) ∧ e 6 = (.int .i64 ((k : Int))) ∧ Frm (fun b => w9.heap.size ≤ b) w9 w_ ∧ (k ≤ nf) ∧ (O = ff.take k) ∧ (OwnQ w_ w9.heap.size 67 Ao k cp O Mf)) (nf - (0)) ?_ ?_
  · refine ⟨(0), ([]), (none), (0), rfl, rfl, rfl, rfl, rfl, cI, (Frm.refl _ _), ?_, ?_, ?_⟩
    · omega
    · rfl
    · exact OwnQ.nil
  · rintro m17 e26 w18 ⟨k, O, Ao, cp, hm25, hs19, hs20, hs21, hs22, hs23, hF24, hk, hF, hO⟩
    obtain ⟨r27, rfl⟩ := sq (e := e26) (t := 0) hs19
    obtain ⟨r28, rfl⟩ := sq (e := r27) (t := 3) hs20
    obtain ⟨r29, rfl⟩ := sq (e := r28) (t := 4) hs21
    obtain ⟨r30, rfl⟩ := sq (e := r29) (t := 5) hs22
    obtain ⟨r31, rfl⟩ := sq (e := r30) (t := 6) hs23
    have hz32 := hF24.size
    have ⟨lO, kO, mO⟩ := hO.lkm
    refine wp_seq_k fun K33 hK33 => rS fun K34 hK34 => sMi rfl (sMs rfl (sV (evLen Try.underlying27 rfl) ?_))
    by_cases hc35 : ((k : Int)) < ((nf : Int))
    · refine sV (evLss true rfl rfl (dT hc35)) (sK hK34 (cT rfl (wp_skip (xN (hK33 _ _ (wp_seq_k fun K36 hK36 => wp_block (dBegin (fun b => w9.heap.size ≤ b) mixed (fun w37 hE38 hz39 => dMs 0 rfl rfl (dMs 1 rfl rfl (dMi 2 rfl rfl ?_))))))))))
      have hR40 := ((hE5.trans hE11).rx hF24).xr hE38
      have h41 := (hf.frmB hR40 q3)
      obtain ⟨b42, o43, rfl⟩ := h41.base (by omega)
      refine dV 3 rfl (fun _ _ => evIx k Try.underlying27 sz31 rfl rfl (o43 + (k * 2))) ?_
      obtain ⟨s_44, A_44, n_44, c_44, z_44, hp_44, hq_44, h_44, hM_44, hS_44, hb_44, hz_44⟩ := h41.at_ (i := k) (by omega)
      have ⟨sg_44, k_44, m_44⟩ := h_44.lkm
      refine dV 4 rfl (fun _ hf => evLoadA [(.int .i64 (s_44)), (.slice A_44 n_44 c_44)] agg31 sz31 rfl (cell2F hp_44 hq_44 hf hb_44 (by (try dsimp only at hS_44 ⊢); omega))) (dOp 5 rfl rfl (by kernel_rfl) (oCall rfl call15 (ref02_Small (by omega)) rfl ?_))
      rintro _ w47 ⟨sr_46, Ar_46, nr_46, cr_46, zr_46, rfl, hE48, hr_46, v_46, le_46⟩
      refine ⟨(Frm.of_ext hE48), ?_⟩
      have hz49 := hE48.size
      have ⟨sgr_46, kr_46, mr_46⟩ := hr_46.lkm
      refine dV 6 rfl (v := (.agg #[(.int .i64 (s_44)), (.slice A_44 n_44 c_44), (.int .i64 (sr_46)), (.slice Ar_46 nr_46 cr_46)])) (fun _ _ => evK (by kernel_rfl)) (dOp 7 rfl rfl (by kernel_rfl) (oBuildSlice [(.agg #[(.int .i64 (s_44)), (.slice A_44 n_44 c_44), (.int .i64 (sr_46)), (.slice Ar_46 nr_46 cr_46)])] [[(.int .i64 (s_44)), (.slice A_44 n_44 c_44), (.int .i64 (sr_46)), (.slice Ar_46 nr_46 cr_46)]] Try.underlying103 inf67 rfl rfl rfl rfl rfl (fun g51 w52 hg53 hE54 hz55 hB56 => ⟨(Frm.of_ext hE54), ?_⟩)))
      replace hB56 : Blk w52 g51 67 [(.int .i64 (s_44)), (.slice A_44 n_44 c_44), (.int .i64 (sr_46)), (.slice Ar_46 nr_46 cr_46)] := hB56
      have hR57 := (hE38.trans hE48).trans hE54
      have hO58 := (hO.ext hR57)
      have hR64 := hE48.trans hE54
      have h65 := (h_44.ext hR64)
      have h66 := (hr_46.ext hE54)
      refine dOp 8 rfl rfl (by kernel_rfl) (oAppQ (B := w9.heap.size) Try.underlying103 inf67 rfl rfl rfl hO58 hB56 h65 (by omega) (v_46 ▸ h66) (by omega) (by intro b hlt hb a ha; have h1 := hO.lt a ha; (try dsimp only at hb); omega) (by intro b hlt hb a ha; have h1 := hO.lt a ha; (try dsimp only at hb); omega) (by omega) (by omega) (by omega) (fun A59 c60 w61 hO62 hF63 => ⟨hF63, dAs 9 rfl rfl (dDone (by kernel_rfl) (bN (xN (hK36 _ _ (wp_region_lit (sMi rfl (sV (evAdd (((k : Int)) + 1) rfl rfl wI) (sAi rfl (sDone ?_)))))))))⟩))
      have hR67 := hR57.rx hF63
      refine again (nf - (k + 1)) (by omega) ⟨(k + 1), (O ++ [z_44]), (A59), (c60), rfl, rfl, rfl, rfl, rfl, cI, (hF24.trans hR67), ?_, ?_, ?_⟩
      · omega
      · exact take_snocZ hF (by omega) hz_44
      · exact hO62
    · refine sV (evLss false rfl rfl (dF hc35)) (sK hK34 (cF rfl (wp_exit (xE (xE (bE (xN (hK15 _ _ (rS fun K68 hK68 => sMs rfl ?_)))))))))
      have hR69 := hE11.rx hF24
      have hB70 := (hB7.frm hR69 q1)
      refine sV (evLoadAB [(.int .i64 (sa)), (.slice Aa na ca), (.int .i64 (sav)), (.slice Aav nav cav)] agg67 sz67 rfl hB70 rfl) ?_
      have hR71 := (hE5.trans hE11).rx hF24
      have h72 := (ha.frmB hR71 q3)
      have h73 := (hav.frmB hR71 q3)
      refine sO (oCall rfl call84 (ref06_Value (OwnQ.pqr hO) h72 h73 (by omega) (by omega) (by omega) (by omega) (by omega)) rfl ?_)
      rintro _ w75 ⟨sr_74, Ar_74, nr_74, cr_74, zr_74, srv_74, Arv_74, nrv_74, crv_74, zrv_74, rfl, hE76, hr_74, hrv_74, e_74, d_74, le_74, lv_74⟩
      have hz77 := hE76.size
      have ⟨sgr_74, kr_74, mr_74⟩ := hr_74.lkm
      have ⟨sgrv_74, krv_74, mrv_74⟩ := hrv_74.lkm
      have hR80 := hF24.xr hE76
      have hB81 := (hB13.frm hR80 q1)
      refine sO (oStore [(.int .i64 (sr_74)), (.slice Ar_74 nr_74 cr_74), (.int .i64 (srv_74)), (.slice Arv_74 nrv_74 crv_74)] rfl rfl rfl sz67 rfl hB81 (Nat.le_of_ble_eq_true rfl) (fun w82 hU83 hz84 hB85 => ?_))
      replace hB85 : Blk w82 g8 67 [(.int .i64 (sr_74)), (.slice Ar_74 nr_74 cr_74), (.int .i64 (srv_74)), (.slice Arv_74 nrv_74 crv_74)] := hB85
      refine sK hK68 (wp_ret (ret1 (.agg #[(.int .i64 (sr_74)), (.slice Ar_74 nr_74 cr_74), (.int .i64 (srv_74)), (.slice Arv_74 nrv_74 crv_74)]) Try.results50 (resB [(.int .i64 (sr_74)), (.slice Ar_74 nr_74 cr_74), (.int .i64 (srv_74)), (.slice Arv_74 nrv_74 crv_74)] agg67 sz67 rfl hB85) ?_))
      have hFF : O = ff := by rw [hF, List.take_of_length_le (by omega)]
      have h86 := (hr_74.frmB hU83 q3)
      have h87 := (hrv_74.frmB hU83 q3)
      have hR88 := (hR71.xr hE76).tr hU83
      exact ⟨(sr_74), Ar_74, nr_74, cr_74, (zr_74), (srv_74), Arv_74, nrv_74, crv_74, (zrv_74), rfl, (Frm.mono hR88 q4), (ZR.sub h86 q5), (ZR.sub h87 q5), (by rw [e_74, hFF]), (by rw [d_74, show k = nf by omega]), (by omega), (by omega)⟩

end Go.Proofs.Ytppegjbdencefaa
