/-
  Walks of packages division, unidiv: exact quotients, contents, primitive parts, powers.
-/
import Derived.Test.YtbniolgfaeiedaaGreatUni4
import Derived.Test.YtbniolgfaeiedaaGreatDiv3
import Derived.Test.YtbniolgfaeiedaaGreatLibA
namespace Go.Proofs.YtbniolgfaeiedaaGreat
open Go.RowKit Go.Gx
theorem division_Exact {w : World} {ga : Bool} {Sa : Nat → Prop} {Aa : Option Addr} {na ca : Nat} {da : List Nat} {gb : Bool} {Sb : Nat → Prop} {Ab : Option Addr} {nb cb : Nat} {db : List Nat} (ha : NatR w Sa Aa na ca da) (hb : NatR w Sb Ab nb cb db) (hna : na ≤ 68719476736) (hnb : nb ≤ 68719476736) (hb0 : zval gb db ≠ 0) : Calls Tryz.prog 100 #[(.agg #[(.bool ga), (.slice Aa na ca)]), (.agg #[(.bool gb), (.slice Ab nb cb)])] w (Ret fun v w' => ∃ (gr : Bool) (Ar : Option Addr) (nr : Nat) (cr : Nat) (dr : List Nat) (xe : Int), v = (.tuple #[(.agg #[(.bool gr), (.slice Ar nr cr)]), (.int .i64 (xe))]) ∧ Ext w w' ∧ NatR w' (fun b => w.heap.size ≤ b) Ar nr cr dr ∧ ((xe = 0 ∧ zval ga da = zval gb db * zval gr dr) ∨ (xe = 3 ∧ ¬ zval gb db ∣ zval ga da)) ∧ (ICan gr dr) ∧ (nr ≤ na + 1)) := by
  have ⟨la, ka, ma⟩ := ha.lkm
  replace ha := ha.low
  have ⟨lb, kb, mb⟩ := hb.lkm
  replace hb := hb.low
  refine enter Tryz.func100 rfl Tryz.ntmps100 rfl (rS fun K1 hK1 => sO (oBox [(.bool ga), (.slice Aa na ca)] rfl rfl (fun g2 w3 hg4 hE5 hz6 hB7 => sO (oBox [(.bool gb), (.slice Ab nb cb)] rfl rfl (fun g8 w9 hg10 hE11 hz12 hB13 => sO (oAlloc [(.bool false), (.slice none 0 0)] zero68 rfl (fun g14 w15 hg16 hE17 hz18 hB19 => sAi rfl (sK hK1 (rS fun K20 hK20 => ?_)))))))))
  have hR21 := hE11.trans hE17
  have hB22 := (hB7.ext hR21)
  refine sV (evLoadAB [(.bool ga), (.slice Aa na ca)] agg68 sz68 rfl hB22 rfl) ?_
  have hB23 := (hB13.ext hE17)
  refine sV (evLoadAB [(.bool gb), (.slice Ab nb cb)] agg68 sz68 rfl hB23 rfl) ?_
  have hR24 := (hE5.trans hE11).trans hE17
  have h25 := (ha.ext hR24)
  have h26 := (hb.ext hR24)
  refine sO (oCall rfl call88 (division_Quo h25 h26 (by omega) (by omega) (by omega)) rfl ?_)
  rintro _ w28 ⟨gq_27, Aq_27, nq_27, cq_27, dq_27, gr_27, Ar_27, nr_27, cr_27, dr_27, xe_27, rfl, hE29, hq_27, hr_27, v_27, m_27, cnq_27, cnr_27, ok_27, leq_27, ler_27⟩
  have hz30 := hE29.size
  have ⟨lq_27, kq_27, mq_27⟩ := hq_27.lkm
  have ⟨lr_27, kr_27, mr_27⟩ := hr_27.lkm
  refine sV (v := (.tuple #[(.agg #[(.bool gq_27), (.slice Aq_27 nq_27 cq_27)]), (.agg #[(.bool gr_27), (.slice Ar_27 nr_27 cr_27)]), (.int .i64 (xe_27))])) (rfl) (sV (v := (.agg #[(.bool gq_27), (.slice Aq_27 nq_27 cq_27)])) (rfl) (sV (v := (.agg #[(.bool gr_27), (.slice Ar_27 nr_27 cr_27)])) (rfl) (sV (v := (.int .i64 (xe_27))) (rfl) (sO (oAlloc [(.bool false), (.slice none 0 0)] zero68 rfl (fun g33 w34 hg35 hE36 hz37 hB38 => sO (oAlloc [(.bool false), (.slice none 0 0)] zero68 rfl (fun g39 w40 hg41 hE42 hz43 hB44 => ?_))))))))
  have hB45 := (hB38.ext hE42)
  refine sO (oStore [(.bool gq_27), (.slice Aq_27 nq_27 cq_27)] rfl rfl rfl sz68 rfl hB45 (Nat.le_of_ble_eq_true rfl) (fun w46 hU47 hz48 hB49 => ?_))
  replace hB49 : Blk w46 g33 68 [(.bool gq_27), (.slice Aq_27 nq_27 cq_27)] := hB49
  have hB50 := (hB44.frm hU47 q1)
  refine sO (oStore [(.bool gr_27), (.slice Ar_27 nr_27 cr_27)] rfl rfl rfl sz68 rfl hB50 (Nat.le_of_ble_eq_true rfl) (fun w51 hU52 hz53 hB54 => ?_))
  replace hB54 : Blk w51 g39 68 [(.bool gr_27), (.slice Ar_27 nr_27 cr_27)] := hB54
  refine sAi rfl (sK hK20 (wp_seq_k fun K55 hK55 => wp_block (rS fun K56 hK56 => sMi rfl (sV (evNeq false rfl rfl (dF (by have h := ok_27; omega))) (sAb rfl (sK hK56 (cF rfl (rS fun K57 hK57 => sV (evLoadAB [(.bool gr_27), (.slice Ar_27 nr_27 cr_27)] agg68 sz68 rfl hB54 rfl) ?_))))))))
  have hR58 := ((hE36.trans hE42).rx hU47).tr hU52
  have h59 := (hr_27.frmB hR58 q3)
  refine sO (oCall rfl call109 (division_isZero h59) rfl ?_)
  rintro _ w61 ⟨gr_60, rfl, hE62, e_60⟩
  have hz63 := hE62.size
  refine sV (evNot _ rfl rfl) (sAb rfl (sK hK57 ?_))
  cases gr_60
  · refine cT rfl (rS fun K64 hK64 => sV (v := (.agg #[(.bool false), (.slice none 0 0)])) (evK (by kernel_rfl)) ?_)
    have hR65 := ((((hE29.trans hE36).trans hE42).rx hU47).tr hU52).xr hE62
    have hB66 := (hB19.frm hR65 q1)
    refine sO (oStore [(.bool false), (.slice none 0 0)] rfl rfl rfl sz68 rfl hB66 (Nat.le_of_ble_eq_true rfl) (fun w67 hU68 hz69 hB70 => ?_))
    replace hB70 : Blk w67 g14 68 [(.bool false), (.slice none 0 0)] := hB70
    refine sAi rfl (sK hK64 (wp_ret (bR (xR (ret2 (.agg #[(.bool false), (.slice none 0 0)]) (.int .i64 (3)) Tryz.results100 (resB [(.bool false), (.slice none 0 0)] agg68 sz68 rfl hB70) (resT rfl) ?_)))))
    have hR71 := ((((((hR24.trans hE29).trans hE36).trans hE42).rx hU47).tr hU52).xr hE62).tr hU68
    exact ⟨false, none, 0, 0, ([]), (3), rfl, (Frm.mono hR71 q4), NatR.nil, (.inr ⟨rfl, fun hd => (of_decide_eq_false (e_60.symm.trans (by rfl))) (by rw [m_27]; exact Int.tmod_eq_zero_of_dvd hd)⟩), ICan.zero, (by omega)⟩
  · refine cF rfl (wp_skip (bN (xN (hK55 _ _ (rS fun K72 hK72 => ?_)))))
    have hR73 := hU52.xr hE62
    have hB74 := (hB49.frm hR73 q1)
    refine sV (evLoadAB [(.bool gq_27), (.slice Aq_27 nq_27 cq_27)] agg68 sz68 rfl hB74 rfl) ?_
    have hR75 := ((((hE29.trans hE36).trans hE42).rx hU47).tr hU52).xr hE62
    have hB76 := (hB19.frm hR75 q1)
    refine sO (oStore [(.bool gq_27), (.slice Aq_27 nq_27 cq_27)] rfl rfl rfl sz68 rfl hB76 (Nat.le_of_ble_eq_true rfl) (fun w77 hU78 hz79 hB80 => ?_))
    replace hB80 : Blk w77 g14 68 [(.bool gq_27), (.slice Aq_27 nq_27 cq_27)] := hB80
    refine sAi rfl (sK hK72 (wp_ret (ret2 (.agg #[(.bool gq_27), (.slice Aq_27 nq_27 cq_27)]) (.int .i64 (0)) Tryz.results100 (resB [(.bool gq_27), (.slice Aq_27 nq_27 cq_27)] agg68 sz68 rfl hB80) (resT rfl) ?_)))
    have hR81 := (hR58.xr hE62).tr hU78
    have h82 := (hq_27.frmB hR81 q3)
    have hR83 := ((((((hR24.trans hE29).trans hE36).trans hE42).rx hU47).tr hU52).xr hE62).tr hU78
    exact ⟨gq_27, Aq_27, nq_27, cq_27, dq_27, (0), rfl, (Frm.mono hR83 q4), (NatR.sub h82 q5), (.inl ⟨rfl, by have h1 := Int.mul_tdiv_add_tmod (zval ga da) (zval gb db); have h2 := (of_decide_eq_true (e_60.symm.trans (by rfl))); rw [v_27]; rw [m_27] at h2; rw [h2] at h1; omega⟩), cnq_27, (by omega)⟩
set_option maxHeartbeats 1000000 in
theorem unidiv_contents1 {w : World} {pl : Nat} {Sf : Nat → Prop} {Af : Option Addr} {nf cf Mf : Nat} {lf : List RI} (Bl : Blk w pl 32 [.slice Af nf cf]) (hf : PolyR w Sf Af nf cf lf Mf) (hnf : nf ≤ 64) (hMf : Mf ≤ 65536) : Calls Tryz.prog 63 #[(.slice (some ⟨pl, 0, none⟩) 1 1)] w (Ret fun v w' => ∃ (gr : Bool) (Ar : Option Addr) (nr : Nat) (cr : Nat) (dr : List Nat), v = (.agg #[(.bool gr), (.slice Ar nr cr)]) ∧ Ext w w' ∧ NatR w' (fun b => w.heap.size ≤ b) Ar nr cr dr ∧ (zval gr dr = (contP (zs lf) : Int)) ∧ (ICan gr dr) ∧ (nr ≤ 4194624)) := by
  have ltl := Bl.lt
  have ⟨kf, jf, mf⟩ := hf.lkm
  replace hf := hf.low
  refine enter Tryz.func63 rfl Tryz.ntmps63 rfl (rS fun K1 hK1 => sO (oAlloc [(.bool false), (.slice none 0 0)] zero68 rfl (fun g2 w3 hg4 hE5 hz6 hB7 => sK hK1 (rS fun K8 hK8 => sO (oCall rfl call44 (integer_Of (by omega)) rfl ?_)))))
  rintro _ w10 ⟨gr_9, Ar_9, nr_9, cr_9, dr_9, rfl, hE11, hr_9, v_9, cn_9, le_9⟩
  have hz12 := hE11.size
  have ⟨lr_9, kr_9, mr_9⟩ := hr_9.lkm
  refine sO (oAlloc [(.bool false), (.slice none 0 0)] zero68 rfl (fun g14 w15 hg16 hE17 hz18 hB19 => sO (oStore [(.bool gr_9), (.slice Ar_9 nr_9 cr_9)] rfl rfl rfl sz68 rfl hB19 (Nat.le_of_ble_eq_true rfl) (fun w20 hU21 hz22 hB23 => ?_))))
  replace hB23 : Blk w20 g14 68 [(.bool gr_9), (.slice Ar_9 nr_9 cr_9)] := hB23
  refine sK hK8 (rS fun K24 hK24 => sV (v := (.agg #[(.bool false), (.slice none 0 0)])) (evK (by kernel_rfl)) (sO (oAlloc [(.bool false), (.slice none 0 0)] zero68 rfl (fun g25 w26 hg27 hE28 hz29 hB30 => sO (oStore [(.bool false), (.slice none 0 0)] rfl rfl rfl sz68 rfl hB30 (Nat.le_of_ble_eq_true rfl) (fun w31 hU32 hz33 hB34 => ?_))))))
  replace hB34 : Blk w31 g25 68 [(.bool false), (.slice none 0 0)] := hB34
  refine sK hK24 (wp_seq_k fun K35 hK35 => rS fun K36 hK36 => sMs rfl (sV (evLen Tryz.underlying25 rfl) (sMi rfl (sK hK36 (wp_block ?_)))))
  refine lLoop (fun m e w_ => ∃ (i : Nat) (gv : Bool) (Av : Option Addr) (nv : Nat) (cv : Nat) (dv : List Nat), m = 1 - i ∧ e 2 = (.pointer (some ⟨g2, 0, none⟩)) ∧ e 3 = (.pointer (some ⟨g14, 0, none⟩)) ∧ e 4 = (.pointer (some ⟨g25, 0, none⟩)) ∧ e 10 = (.slice (some ⟨pl, 0, none⟩) 1 1) ∧ e 11 = (.int .i64 (1)) ∧ e 12 = (.int .i64 ((i : Int))) ∧ Frm (fun b => b = g25) w31 w_ ∧ Blk w_ g25 68 ([.bool gv, .slice Av nv cv]) ∧ (i ≤ 1) ∧ (nv ≤ 4194624 * i) ∧ (NatR w_ (fun b => w.heap.size ≤ b ∧ b ≠ g25 ∧ b ≠ g2 ∧ b ≠ g14) Av nv cv dv) ∧ (ICan gv dv) ∧ (zval gv dv = (cc2 (zs lf) [] i : Int))) (1 - (0)) ?_ ?_
  · refine ⟨(0), (false), (none), (0), (0), ([]), rfl, rfl, rfl, rfl, rfl, rfl, cI, (Frm.refl _ _), ?_, ?_, ?_, ?_, ?_, ?_⟩
    · exact hB34
    · omega
    · omega
    · exact NatR.nil
    · exact ICan.zero
    · rfl
  · rintro m37 e48 w38 ⟨i, gv, Av, nv, cv, dv, hm47, hs39, hs40, hs41, hs42, hs43, hs44, hF45, hB46, hi, hnv, hN, hcn, hv⟩
    obtain ⟨r49, rfl⟩ := sq (e := e48) (t := 2) hs39
    obtain ⟨r50, rfl⟩ := sq (e := r49) (t := 3) hs40
    obtain ⟨r51, rfl⟩ := sq (e := r50) (t := 4) hs41
    obtain ⟨r52, rfl⟩ := sq (e := r51) (t := 10) hs42
    obtain ⟨r53, rfl⟩ := sq (e := r52) (t := 11) hs43
    obtain ⟨r54, rfl⟩ := sq (e := r53) (t := 12) hs44
    have hz55 := hF45.size
    have ⟨lV, kV, mV⟩ := hN.lkm; have hvn := natAbs_val gv dv
    refine rS fun K56 hK56 => ?_
    by_cases hc57 : ((i : Int)) < 1
    · refine sV (evLss true rfl rfl (dT hc57)) (sK hK56 (wp_seq_k fun K58 hK58 => cT rfl (wp_skip (xN (hK58 _ _ (wp_seq_k fun K59 hK59 => wp_block (rS fun K60 hK60 => sV (evIx i Tryz.underlying25 sz32 rfl rfl i) ?_)))))))
      have hR61 := (((((hE5.trans hE11).trans hE17).rx hU21).xr hE28).tr hU32).tr hF45
      have hB62 := (Bl.frm hR61 q1)
      have h63 := (hf.frmB hR61 q3)
      obtain ⟨Ai, ni, ci, li, hci, hPi, hzi, hni⟩ := one_poly hB62 h63 (k := i) (by omega)
      have ⟨lli, kli, mli⟩ := hPi.lkm
      refine sV (evLoad one32 rfl hci) (sAs rfl (sK hK60 (rS fun K65 hK65 => sMs rfl (sV (evLen Tryz.underlying32 rfl) (sV (evSub (((ni : Int)) - 1) rfl rfl wI) (sAi rfl (sK hK65 (wp_block ?_))))))))
      refine lLoop (fun m e w_ => ∃ (k : Nat) (gw : Bool) (Aw : Option Addr) (nw : Nat) (cw : Nat) (dw : List Nat), m = k ∧ e 2 = (.pointer (some ⟨g2, 0, none⟩)) ∧ e 3 = (.pointer (some ⟨g14, 0, none⟩)) ∧ e 4 = (.pointer (some ⟨g25, 0, none⟩)) ∧ e 6 = (.slice Ai ni ci) ∧ e 7 = (.int .i64 ((k : Int) - 1)) ∧ e 10 = (.slice (some ⟨pl, 0, none⟩) 1 1) ∧ e 11 = (.int .i64 (1)) ∧ e 12 = (.int .i64 ((i : Int))) ∧ Frm (fun b => b = g25) w38 w_ ∧ Blk w_ g25 68 ([.bool gw, .slice Aw nw cw]) ∧ (k ≤ ni) ∧ (nw ≤ 4194624 * i + 65541 * (ni - k)) ∧ (NatR w_ (fun b => w.heap.size ≤ b ∧ b ≠ g25 ∧ b ≠ g2 ∧ b ≠ g14) Aw nw cw dw) ∧ (ICan gw dw) ∧ (zval gw dw = (Nat.gcd (cc2 (zs lf) [] i) (contP ((zs li).drop k)) : Int))) ((ni)) ?_ ?_
      · refine ⟨(ni), (gv), (Av), (nv), (cv), (dv), rfl, rfl, rfl, rfl, rfl, cI, rfl, rfl, rfl, (Frm.refl _ _), ?_, ?_, ?_, ?_, ?_, ?_⟩
        · exact hB46
        · omega
        · omega
        · exact NatR.sub hN q5
        · exact hcn
        · rw [hv]; exact congrArg Int.ofNat (cont_start (by rw [zlen]; omega))
      · rintro m66 e79 w67 ⟨k, gw, Aw, nw, cw, dw, hm78, hs68, hs69, hs70, hs71, hs72, hs73, hs74, hs75, hF76, hB77, hk, hnw, hW, hcn2, hv2⟩
        obtain ⟨r80, rfl⟩ := sq (e := e79) (t := 2) hs68
        obtain ⟨r81, rfl⟩ := sq (e := r80) (t := 3) hs69
        obtain ⟨r82, rfl⟩ := sq (e := r81) (t := 4) hs70
        obtain ⟨r83, rfl⟩ := sq (e := r82) (t := 6) hs71
        obtain ⟨r84, rfl⟩ := sq (e := r83) (t := 7) hs72
        obtain ⟨r85, rfl⟩ := sq (e := r84) (t := 10) hs73
        obtain ⟨r86, rfl⟩ := sq (e := r85) (t := 11) hs74
        obtain ⟨r87, rfl⟩ := sq (e := r86) (t := 12) hs75
        have hz88 := hF76.size
        have ⟨lW, kW, mW⟩ := hW.lkm
        refine wp_seq_k fun K89 hK89 => rS fun K90 hK90 => sMi rfl ?_
        by_cases hc91 : ((k : Int) - 1) ≥ 0
        · refine sV (evGeq true rfl rfl (dT hc91)) (sK hK90 (cT rfl (wp_skip (xN (hK89 _ _ (wp_seq_k fun K92 hK92 => wp_block (wp_seq_k fun K93 hK93 => dBegin (fun b => b = g25) mixed (fun w94 hE95 hz96 => dMs 1 rfl rfl (dMi 2 rfl rfl ?_)))))))))
          have hR97 := hF76.xr hE95
          have h98 := (hPi.frmB hR97 q3)
          obtain ⟨b99, o100, rfl⟩ := h98.base (by omega)
          refine dV 3 rfl (fun _ _ => evIx (k - 1) Tryz.underlying32 sz68 rfl rfl (o100 + ((k - 1) * 2))) ?_
          obtain ⟨g_101, A_101, n_101, c_101, d_101, he_101, hp_101, hq_101, h_101, hM_101, hS_101, hb_101, z_101⟩ := h98.at_ (i := k - 1) (by omega)
          have ⟨l_101, k_101, m_101⟩ := h_101.lkm
          refine dV 4 rfl (fun _ hf => evLoadA [(.bool g_101), (.slice A_101 n_101 c_101)] agg68 sz68 rfl (cell2F hp_101 hq_101 hf hb_101 (by (try dsimp only at hS_101 ⊢); omega))) ?_
          have hB103 := (hB77.ext hE95)
          refine dOp 0 rfl rfl (by kernel_rfl) (oEv (v := (.agg #[(.bool gw), (.slice Aw nw cw)])) (evLoadAB [(.bool gw), (.slice Aw nw cw)] agg68 sz68 rfl hB103 rfl) rfl ⟨Frm.refl _ _, ?_⟩)
          have h104 := (hW.ext hE95)
          refine dOp 5 rfl rfl (by kernel_rfl) (oCall rfl call93 (division_Gcd h104 h_101 (by omega) (by omega)) rfl ?_)
          rintro _ w106 ⟨gr_105, Ar_105, nr_105, cr_105, dr_105, rfl, hE107, hr_105, v_105, cn_105, le_105⟩
          refine ⟨(Frm.of_ext hE107), ?_⟩
          have hz108 := hE107.size
          have ⟨lr_105, kr_105, mr_105⟩ := hr_105.lkm
          have hv3 : zval gr_105 dr_105 = (Nat.gcd (cc2 (zs lf) [] i) (contP ((zs li).drop (k - 1))) : Int) := by rw [v_105]; exact congrArg Int.ofNat (cont_step (by have h := natAbs_val gw dw; omega) (by omega) (by rw [zlen]; omega) z_101 (natAbs_val _ _))
          have hB110 := (hB103.ext hE107)
          refine dOp 6 rfl rfl (by kernel_rfl) (oStore [(.bool gr_105), (.slice Ar_105 nr_105 cr_105)] rfl rfl rfl sz68 rfl hB110 (Nat.le_of_ble_eq_true rfl) (fun w111 hU112 hz113 hB114 => ?_))
          replace hB114 : Blk w111 g25 68 [(.bool gr_105), (.slice Ar_105 nr_105 cr_105)] := hB114
          refine ⟨hU112, dDone (by kernel_rfl) (xN (hK93 _ _ (rS fun K115 hK115 => sV (evLoadAB [(.bool gr_105), (.slice Ar_105 nr_105 cr_105)] agg68 sz68 rfl hB114 rfl) ?_)))⟩
          have hR116 := (((((hE28.rx hU32).trans hF45).trans hF76).xr hE95).xr hE107).trans hU112
          have hB117 := (hB23.frm hR116 q1)
          refine sV (evLoadAB [(.bool gr_9), (.slice Ar_9 nr_9 cr_9)] agg68 sz68 rfl hB117 rfl) ?_
          have h118 := (hr_105.frmB hU112 q3)
          have hR119 := (((((((hE17.rx hU21).xr hE28).tr hU32).tr hF45).tr hF76).xr hE95).xr hE107).tr hU112
          have h120 := (hr_9.frmB hR119 q3)
          refine sO (oCall rfl call94 (integer_Same h118 h120) rfl ?_)
          rintro _ w122 ⟨gr_121, rfl, hE123, e_121⟩
          have hz124 := hE123.size
          refine sK hK115 (cB gr_121 rfl ?_ ?_)
          · intro hc125
            subst hc125
            refine rS fun K126 hK126 => ?_
            have hB127 := (hB114.ext hE123)
            refine sV (evLoadAB [(.bool gr_105), (.slice Ar_105 nr_105 cr_105)] agg68 sz68 rfl hB127 rfl) ?_
            have hR128 := (((((((((hE11.trans hE17).rx hU21).xr hE28).tr hU32).tr hF45).tr hF76).xr hE95).xr hE107).tr hU112).xr hE123
            have hB129 := (hB7.frm hR128 q1)
            refine sO (oStore [(.bool gr_105), (.slice Ar_105 nr_105 cr_105)] rfl rfl rfl sz68 rfl hB129 (Nat.le_of_ble_eq_true rfl) (fun w130 hU131 hz132 hB133 => ?_))
            replace hB133 : Blk w130 g2 68 [(.bool gr_105), (.slice Ar_105 nr_105 cr_105)] := hB133
            refine sK hK126 (wp_ret (bR (xR (xR (bR (bR (xR (xR (bR (xR (ret1 (.agg #[(.bool gr_105), (.slice Ar_105 nr_105 cr_105)]) Tryz.results63 (resB [(.bool gr_105), (.slice Ar_105 nr_105 cr_105)] agg68 sz68 rfl hB133) ?_)))))))))))
            have ht1 : Nat.gcd (cc2 (zs lf) [] i) (contP (zs li)) = 1 := cont_one (k - 1) (by have h1 := of_decide_eq_true e_121.symm; rw [hv3, v_9] at h1; omega)
            rw [cc2_step (by omega) (fun _ => hzi) (fun h => by omega)] at ht1
            have hR134 := hE123.rx hU131
            have h135 := (h118.frmB hR134 q3)
            have hR136 := (((((hR61.tr hF76).xr hE95).xr hE107).tr hU112).xr hE123).tr hU131
            exact ⟨gr_105, Ar_105, nr_105, cr_105, dr_105, rfl, (Frm.mono hR136 q4), (NatR.sub h135 q5), (by rw [of_decide_eq_true e_121.symm, v_9]; have h1 := cc2_one (by omega) ht1; have h2 : contP (zs lf) = 1 := (by rw [show i = 0 by omega] at ht1; exact ht1); omega), cn_105, (by omega)⟩
          · intro hc125
            subst hc125
            refine wp_skip (bN (xN (hK92 _ _ (wp_region_lit (sMi rfl (sV (evSub (((k : Int) - 1) - 1) rfl rfl wI) (sAi rfl (sDone ?_))))))))
            have hR137 := ((hE95.trans hE107).rx hU112).xr hE123
            have hB138 := (hB114.ext hE123)
            have h139 := (h118.ext hE123)
            refine again ((k - 1)) (by omega) ⟨(k - 1), (gr_105), (Ar_105), (nr_105), (cr_105), (dr_105), rfl, rfl, rfl, rfl, rfl, cI, rfl, rfl, rfl, (hF76.trans hR137), ?_, ?_, ?_, ?_, ?_, ?_⟩
            · exact hB138
            · omega
            · omega
            · exact NatR.sub h139 q5
            · exact cn_105
            · exact hv3
        · refine sV (evGeq false rfl rfl (dF hc91)) (sK hK90 (cF rfl (wp_exit (xE (xE (bE (bN (xN (hK59 _ _ (wp_region_lit (sV (evAdd (((i : Int)) + 1) rfl rfl wI) (sMi rfl (sDone (again (1 - (i + 1)) (by omega) ⟨(i + 1), (gw), (Aw), (nw), (cw), (dw), rfl, rfl, rfl, rfl, rfl, rfl, cI, (hF45.trans hF76), ?_, ?_, ?_, ?_, ?_, ?_⟩))))))))))))))
          · exact hB77
          · omega
          · omega
          · exact NatR.sub hW q5
          · exact hcn2
          · rw [hv2, show k = 0 by omega, List.drop_zero, cc2_step (by omega) (fun _ => hzi) (fun h => by omega)]
    · refine sV (evLss false rfl rfl (dF hc57)) (sK hK56 (wp_seq_k fun K140 hK140 => cF rfl (wp_exit (xE (xE (bE (xN (hK35 _ _ (rS fun K141 hK141 => sV (evLoadAB [(.bool gv), (.slice Av nv cv)] agg68 sz68 rfl hB46 rfl) ?_)))))))))
      have hR142 := ((((hE11.trans hE17).rx hU21).xr hE28).tr hU32).tr hF45
      have hB143 := (hB7.frm hR142 q1)
      refine sO (oStore [(.bool gv), (.slice Av nv cv)] rfl rfl rfl sz68 rfl hB143 (Nat.le_of_ble_eq_true rfl) (fun w144 hU145 hz146 hB147 => ?_))
      replace hB147 : Blk w144 g2 68 [(.bool gv), (.slice Av nv cv)] := hB147
      refine sK hK141 (wp_ret (ret1 (.agg #[(.bool gv), (.slice Av nv cv)]) Tryz.results63 (resB [(.bool gv), (.slice Av nv cv)] agg68 sz68 rfl hB147) ?_))
      have h148 := (hN.frmB hU145 q3)
      have hR149 := ((((((hE5.trans hE11).trans hE17).rx hU21).xr hE28).tr hU32).tr hF45).tr hU145
      exact ⟨gv, Av, nv, cv, dv, rfl, (Frm.mono hR149 q4), (NatR.sub h148 q5), (by rw [hv, show i = 1 by omega]; rfl), hcn, (by omega)⟩
set_option maxHeartbeats 1000000 in
theorem unidiv_contents2 {w : World} {pl : Nat} {Sf : Nat → Prop} {Af : Option Addr} {nf cf Mf : Nat} {lf : List RI} {Sg : Nat → Prop} {Ag : Option Addr} {ng cg Mg : Nat} {lg : List RI} (Bl : Blk w pl 32 [.slice Af nf cf, .slice Ag ng cg]) (hf : PolyR w Sf Af nf cf lf Mf) (hg : PolyR w Sg Ag ng cg lg Mg) (hnf : nf ≤ 64) (hMf : Mf ≤ 65536) (hng : ng ≤ 64) (hMg : Mg ≤ 65536) : Calls Tryz.prog 63 #[(.slice (some ⟨pl, 0, none⟩) 2 2)] w (Ret fun v w' => ∃ (gr : Bool) (Ar : Option Addr) (nr : Nat) (cr : Nat) (dr : List Nat), v = (.agg #[(.bool gr), (.slice Ar nr cr)]) ∧ Ext w w' ∧ NatR w' (fun b => w.heap.size ≤ b) Ar nr cr dr ∧ (zval gr dr = (Nat.gcd (contP (zs lf)) (contP (zs lg)) : Int)) ∧ (ICan gr dr) ∧ (nr ≤ 8389248)) := by
  have ltl := Bl.lt
  have ⟨kf, jf, mf⟩ := hf.lkm
  replace hf := hf.low
  have ⟨kg, jg, mg⟩ := hg.lkm
  replace hg := hg.low
  refine enter Tryz.func63 rfl Tryz.ntmps63 rfl (rS fun K1 hK1 => sO (oAlloc [(.bool false), (.slice none 0 0)] zero68 rfl (fun g2 w3 hg4 hE5 hz6 hB7 => sK hK1 (rS fun K8 hK8 => sO (oCall rfl call44 (integer_Of (by omega)) rfl ?_)))))
  rintro _ w10 ⟨gr_9, Ar_9, nr_9, cr_9, dr_9, rfl, hE11, hr_9, v_9, cn_9, le_9⟩
  have hz12 := hE11.size
  have ⟨lr_9, kr_9, mr_9⟩ := hr_9.lkm
  refine sO (oAlloc [(.bool false), (.slice none 0 0)] zero68 rfl (fun g14 w15 hg16 hE17 hz18 hB19 => sO (oStore [(.bool gr_9), (.slice Ar_9 nr_9 cr_9)] rfl rfl rfl sz68 rfl hB19 (Nat.le_of_ble_eq_true rfl) (fun w20 hU21 hz22 hB23 => ?_))))
  replace hB23 : Blk w20 g14 68 [(.bool gr_9), (.slice Ar_9 nr_9 cr_9)] := hB23
  refine sK hK8 (rS fun K24 hK24 => sV (v := (.agg #[(.bool false), (.slice none 0 0)])) (evK (by kernel_rfl)) (sO (oAlloc [(.bool false), (.slice none 0 0)] zero68 rfl (fun g25 w26 hg27 hE28 hz29 hB30 => sO (oStore [(.bool false), (.slice none 0 0)] rfl rfl rfl sz68 rfl hB30 (Nat.le_of_ble_eq_true rfl) (fun w31 hU32 hz33 hB34 => ?_))))))
  replace hB34 : Blk w31 g25 68 [(.bool false), (.slice none 0 0)] := hB34
  refine sK hK24 (wp_seq_k fun K35 hK35 => rS fun K36 hK36 => sMs rfl (sV (evLen Tryz.underlying25 rfl) (sMi rfl (sK hK36 (wp_block ?_)))))
  refine lLoop (fun m e w_ => ∃ (i : Nat) (gv : Bool) (Av : Option Addr) (nv : Nat) (cv : Nat) (dv : List Nat), m = 2 - i ∧ e 2 = (.pointer (some ⟨g2, 0, none⟩)) ∧ e 3 = (.pointer (some ⟨g14, 0, none⟩)) ∧ e 4 = (.pointer (some ⟨g25, 0, none⟩)) ∧ e 10 = (.slice (some ⟨pl, 0, none⟩) 2 2) ∧ e 11 = (.int .i64 (2)) ∧ e 12 = (.int .i64 ((i : Int))) ∧ Frm (fun b => b = g25) w31 w_ ∧ Blk w_ g25 68 ([.bool gv, .slice Av nv cv]) ∧ (i ≤ 2) ∧ (nv ≤ 4194624 * i) ∧ (NatR w_ (fun b => w.heap.size ≤ b ∧ b ≠ g25 ∧ b ≠ g2 ∧ b ≠ g14) Av nv cv dv) ∧ (ICan gv dv) ∧ (zval gv dv = (cc2 (zs lf) (zs lg) i : Int))) (2 - (0)) ?_ ?_
  · refine ⟨(0), (false), (none), (0), (0), ([]), rfl, rfl, rfl, rfl, rfl, rfl, cI, (Frm.refl _ _), ?_, ?_, ?_, ?_, ?_, ?_⟩
    · exact hB34
    · omega
    · omega
    · exact NatR.nil
    · exact ICan.zero
    · rfl
  · rintro m37 e48 w38 ⟨i, gv, Av, nv, cv, dv, hm47, hs39, hs40, hs41, hs42, hs43, hs44, hF45, hB46, hi, hnv, hN, hcn, hv⟩
    obtain ⟨r49, rfl⟩ := sq (e := e48) (t := 2) hs39
    obtain ⟨r50, rfl⟩ := sq (e := r49) (t := 3) hs40
    obtain ⟨r51, rfl⟩ := sq (e := r50) (t := 4) hs41
    obtain ⟨r52, rfl⟩ := sq (e := r51) (t := 10) hs42
    obtain ⟨r53, rfl⟩ := sq (e := r52) (t := 11) hs43
    obtain ⟨r54, rfl⟩ := sq (e := r53) (t := 12) hs44
    have hz55 := hF45.size
    have ⟨lV, kV, mV⟩ := hN.lkm; have hvn := natAbs_val gv dv
    refine rS fun K56 hK56 => ?_
    by_cases hc57 : ((i : Int)) < 2
    · refine sV (evLss true rfl rfl (dT hc57)) (sK hK56 (wp_seq_k fun K58 hK58 => cT rfl (wp_skip (xN (hK58 _ _ (wp_seq_k fun K59 hK59 => wp_block (rS fun K60 hK60 => sV (evIx i Tryz.underlying25 sz32 rfl rfl i) ?_)))))))
      have hR61 := (((((hE5.trans hE11).trans hE17).rx hU21).xr hE28).tr hU32).tr hF45
      have hB62 := (Bl.frm hR61 q1)
      have h63 := (hf.frmB hR61 q3)
      have h64 := (hg.frmB hR61 q3)
      obtain ⟨Ai, ni, ci, li, hci, hPi, hi0, hi1⟩ := two_polys hB62 h63 h64 (k := i) (by omega)
      have ⟨lli, kli, mli⟩ := hPi.lkm
      have hni : ni ≤ 64 := by rcases (show i = 0 ∨ i = 1 by omega) with h | h; exact (hi0 h).2 ▸ hnf; exact (hi1 h).2 ▸ hng
      refine sV (evLoad one32 rfl hci) (sAs rfl (sK hK60 (rS fun K66 hK66 => sMs rfl (sV (evLen Tryz.underlying32 rfl) (sV (evSub (((ni : Int)) - 1) rfl rfl wI) (sAi rfl (sK hK66 (wp_block ?_))))))))
      refine lLoop (fun m e w_ => ∃ (k : Nat) (gw : Bool) (Aw : Option Addr) (nw : Nat) (cw : Nat) (dw : List Nat), m = k ∧ e 2 = (.pointer (some ⟨g2, 0, none⟩)) ∧ e 3 = (.pointer (some ⟨g14, 0, none⟩)) ∧ e 4 = (.pointer (some ⟨g25, 0, none⟩)) ∧ e 6 = (.slice Ai ni ci) ∧ e 7 = (.int .i64 ((k : Int) - 1)) ∧ e 10 = (.slice (some ⟨pl, 0, none⟩) 2 2) ∧ e 11 = (.int .i64 (2)) ∧ e 12 = (.int .i64 ((i : Int))) ∧ Frm (fun b => b = g25) w38 w_ ∧ Blk w_ g25 68 ([.bool gw, .slice Aw nw cw]) ∧ (k ≤ ni) ∧ (nw ≤ 4194624 * i + 65541 * (ni - k)) ∧ (NatR w_ (fun b => w.heap.size ≤ b ∧ b ≠ g25 ∧ b ≠ g2 ∧ b ≠ g14) Aw nw cw dw) ∧ (ICan gw dw) ∧ (zval gw dw = (Nat.gcd (cc2 (zs lf) (zs lg) i) (contP ((zs li).drop k)) : Int))) ((ni)) ?_ ?_
      · refine ⟨(ni), (gv), (Av), (nv), (cv), (dv), rfl, rfl, rfl, rfl, rfl, cI, rfl, rfl, rfl, (Frm.refl _ _), ?_, ?_, ?_, ?_, ?_, ?_⟩
        · exact hB46
        · omega
        · omega
        · exact NatR.sub hN q5
        · exact hcn
        · rw [hv]; exact congrArg Int.ofNat (cont_start (by rw [zlen]; omega))
      · rintro m67 e80 w68 ⟨k, gw, Aw, nw, cw, dw, hm79, hs69, hs70, hs71, hs72, hs73, hs74, hs75, hs76, hF77, hB78, hk, hnw, hW, hcn2, hv2⟩
        obtain ⟨r81, rfl⟩ := sq (e := e80) (t := 2) hs69
        obtain ⟨r82, rfl⟩ := sq (e := r81) (t := 3) hs70
        obtain ⟨r83, rfl⟩ := sq (e := r82) (t := 4) hs71
        obtain ⟨r84, rfl⟩ := sq (e := r83) (t := 6) hs72
        obtain ⟨r85, rfl⟩ := sq (e := r84) (t := 7) hs73
        obtain ⟨r86, rfl⟩ := sq (e := r85) (t := 10) hs74
        obtain ⟨r87, rfl⟩ := sq (e := r86) (t := 11) hs75
        obtain ⟨r88, rfl⟩ := sq (e := r87) (t := 12) hs76
        have hz89 := hF77.size
        have ⟨lW, kW, mW⟩ := hW.lkm
        refine wp_seq_k fun K90 hK90 => rS fun K91 hK91 => sMi rfl ?_
        by_cases hc92 : ((k : Int) - 1) ≥ 0
        · refine sV (evGeq true rfl rfl (dT hc92)) (sK hK91 (cT rfl (wp_skip (xN (hK90 _ _ (wp_seq_k fun K93 hK93 => wp_block (wp_seq_k fun K94 hK94 => dBegin (fun b => b = g25) mixed (fun w95 hE96 hz97 => dMs 1 rfl rfl (dMi 2 rfl rfl ?_)))))))))
          have hR98 := hF77.xr hE96
          have h99 := (hPi.frmB hR98 q3)
          obtain ⟨b100, o101, rfl⟩ := h99.base (by omega)
          refine dV 3 rfl (fun _ _ => evIx (k - 1) Tryz.underlying32 sz68 rfl rfl (o101 + ((k - 1) * 2))) ?_
          obtain ⟨g_102, A_102, n_102, c_102, d_102, he_102, hp_102, hq_102, h_102, hM_102, hS_102, hb_102, z_102⟩ := h99.at_ (i := k - 1) (by omega)
          have ⟨l_102, k_102, m_102⟩ := h_102.lkm
          refine dV 4 rfl (fun _ hf => evLoadA [(.bool g_102), (.slice A_102 n_102 c_102)] agg68 sz68 rfl (cell2F hp_102 hq_102 hf hb_102 (by (try dsimp only at hS_102 ⊢); omega))) ?_
          have hB104 := (hB78.ext hE96)
          refine dOp 0 rfl rfl (by kernel_rfl) (oEv (v := (.agg #[(.bool gw), (.slice Aw nw cw)])) (evLoadAB [(.bool gw), (.slice Aw nw cw)] agg68 sz68 rfl hB104 rfl) rfl ⟨Frm.refl _ _, ?_⟩)
          have h105 := (hW.ext hE96)
          refine dOp 5 rfl rfl (by kernel_rfl) (oCall rfl call93 (division_Gcd h105 h_102 (by omega) (by omega)) rfl ?_)
          rintro _ w107 ⟨gr_106, Ar_106, nr_106, cr_106, dr_106, rfl, hE108, hr_106, v_106, cn_106, le_106⟩
          refine ⟨(Frm.of_ext hE108), ?_⟩
          have hz109 := hE108.size
          have ⟨lr_106, kr_106, mr_106⟩ := hr_106.lkm
          have hv3 : zval gr_106 dr_106 = (Nat.gcd (cc2 (zs lf) (zs lg) i) (contP ((zs li).drop (k - 1))) : Int) := by rw [v_106]; exact congrArg Int.ofNat (cont_step (by have h := natAbs_val gw dw; omega) (by omega) (by rw [zlen]; omega) z_102 (natAbs_val _ _))
          have hB111 := (hB104.ext hE108)
          refine dOp 6 rfl rfl (by kernel_rfl) (oStore [(.bool gr_106), (.slice Ar_106 nr_106 cr_106)] rfl rfl rfl sz68 rfl hB111 (Nat.le_of_ble_eq_true rfl) (fun w112 hU113 hz114 hB115 => ?_))
          replace hB115 : Blk w112 g25 68 [(.bool gr_106), (.slice Ar_106 nr_106 cr_106)] := hB115
          refine ⟨hU113, dDone (by kernel_rfl) (xN (hK94 _ _ (rS fun K116 hK116 => sV (evLoadAB [(.bool gr_106), (.slice Ar_106 nr_106 cr_106)] agg68 sz68 rfl hB115 rfl) ?_)))⟩
          have hR117 := (((((hE28.rx hU32).trans hF45).trans hF77).xr hE96).xr hE108).trans hU113
          have hB118 := (hB23.frm hR117 q1)
          refine sV (evLoadAB [(.bool gr_9), (.slice Ar_9 nr_9 cr_9)] agg68 sz68 rfl hB118 rfl) ?_
          have h119 := (hr_106.frmB hU113 q3)
          have hR120 := (((((((hE17.rx hU21).xr hE28).tr hU32).tr hF45).tr hF77).xr hE96).xr hE108).tr hU113
          have h121 := (hr_9.frmB hR120 q3)
          refine sO (oCall rfl call94 (integer_Same h119 h121) rfl ?_)
          rintro _ w123 ⟨gr_122, rfl, hE124, e_122⟩
          have hz125 := hE124.size
          refine sK hK116 (cB gr_122 rfl ?_ ?_)
          · intro hc126
            subst hc126
            refine rS fun K127 hK127 => ?_
            have hB128 := (hB115.ext hE124)
            refine sV (evLoadAB [(.bool gr_106), (.slice Ar_106 nr_106 cr_106)] agg68 sz68 rfl hB128 rfl) ?_
            have hR129 := (((((((((hE11.trans hE17).rx hU21).xr hE28).tr hU32).tr hF45).tr hF77).xr hE96).xr hE108).tr hU113).xr hE124
            have hB130 := (hB7.frm hR129 q1)
            refine sO (oStore [(.bool gr_106), (.slice Ar_106 nr_106 cr_106)] rfl rfl rfl sz68 rfl hB130 (Nat.le_of_ble_eq_true rfl) (fun w131 hU132 hz133 hB134 => ?_))
            replace hB134 : Blk w131 g2 68 [(.bool gr_106), (.slice Ar_106 nr_106 cr_106)] := hB134
            refine sK hK127 (wp_ret (bR (xR (xR (bR (bR (xR (xR (bR (xR (ret1 (.agg #[(.bool gr_106), (.slice Ar_106 nr_106 cr_106)]) Tryz.results63 (resB [(.bool gr_106), (.slice Ar_106 nr_106 cr_106)] agg68 sz68 rfl hB134) ?_)))))))))))
            have ht1 : Nat.gcd (cc2 (zs lf) (zs lg) i) (contP (zs li)) = 1 := cont_one (k - 1) (by have h1 := of_decide_eq_true e_122.symm; rw [hv3, v_9] at h1; omega)
            rw [cc2_step (by omega) (fun h => (hi0 h).1) (fun h => (hi1 h).1)] at ht1
            have hR135 := hE124.rx hU132
            have h136 := (h119.frmB hR135 q3)
            have hR137 := (((((hR61.tr hF77).xr hE96).xr hE108).tr hU113).xr hE124).tr hU132
            exact ⟨gr_106, Ar_106, nr_106, cr_106, dr_106, rfl, (Frm.mono hR137 q4), (NatR.sub h136 q5), (by rw [of_decide_eq_true e_122.symm, v_9]; have h1 := cc2_one (by omega) ht1; have h2 : Nat.gcd (contP (zs lf)) (contP (zs lg)) = 1 := h1; omega), cn_106, (by omega)⟩
          · intro hc126
            subst hc126
            refine wp_skip (bN (xN (hK93 _ _ (wp_region_lit (sMi rfl (sV (evSub (((k : Int) - 1) - 1) rfl rfl wI) (sAi rfl (sDone ?_))))))))
            have hR138 := ((hE96.trans hE108).rx hU113).xr hE124
            have hB139 := (hB115.ext hE124)
            have h140 := (h119.ext hE124)
            refine again ((k - 1)) (by omega) ⟨(k - 1), (gr_106), (Ar_106), (nr_106), (cr_106), (dr_106), rfl, rfl, rfl, rfl, rfl, cI, rfl, rfl, rfl, (hF77.trans hR138), ?_, ?_, ?_, ?_, ?_, ?_⟩
            · exact hB139
            · omega
            · omega
            · exact NatR.sub h140 q5
            · exact cn_106
            · exact hv3
        · refine sV (evGeq false rfl rfl (dF hc92)) (sK hK91 (cF rfl (wp_exit (xE (xE (bE (bN (xN (hK59 _ _ (wp_region_lit (sV (evAdd (((i : Int)) + 1) rfl rfl wI) (sMi rfl (sDone (again (2 - (i + 1)) (by omega) ⟨(i + 1), (gw), (Aw), (nw), (cw), (dw), rfl, rfl, rfl, rfl, rfl, rfl, cI, (hF45.trans hF77), ?_, ?_, ?_, ?_, ?_, ?_⟩))))))))))))))
          · exact hB78
          · omega
          · omega
          · exact NatR.sub hW q5
          · exact hcn2
          · rw [hv2, show k = 0 by omega, List.drop_zero, cc2_step (by omega) (fun h => (hi0 h).1) (fun h => (hi1 h).1)]
    · refine sV (evLss false rfl rfl (dF hc57)) (sK hK56 (wp_seq_k fun K141 hK141 => cF rfl (wp_exit (xE (xE (bE (xN (hK35 _ _ (rS fun K142 hK142 => sV (evLoadAB [(.bool gv), (.slice Av nv cv)] agg68 sz68 rfl hB46 rfl) ?_)))))))))
      have hR143 := ((((hE11.trans hE17).rx hU21).xr hE28).tr hU32).tr hF45
      have hB144 := (hB7.frm hR143 q1)
      refine sO (oStore [(.bool gv), (.slice Av nv cv)] rfl rfl rfl sz68 rfl hB144 (Nat.le_of_ble_eq_true rfl) (fun w145 hU146 hz147 hB148 => ?_))
      replace hB148 : Blk w145 g2 68 [(.bool gv), (.slice Av nv cv)] := hB148
      refine sK hK142 (wp_ret (ret1 (.agg #[(.bool gv), (.slice Av nv cv)]) Tryz.results63 (resB [(.bool gv), (.slice Av nv cv)] agg68 sz68 rfl hB148) ?_))
      have h149 := (hN.frmB hU146 q3)
      have hR150 := ((((((hE5.trans hE11).trans hE17).rx hU21).xr hE28).tr hU32).tr hF45).tr hU146
      exact ⟨gv, Av, nv, cv, dv, rfl, (Frm.mono hR150 q4), (NatR.sub h149 q5), (by rw [hv, show i = 2 by omega]; rfl), hcn, (by omega)⟩
theorem unidiv_Content {w : World} {Sf : Nat → Prop} {Af : Option Addr} {nf cf Mf : Nat} {lf : List RI} (hf : PolyR w Sf Af nf cf lf Mf) (hnf : nf ≤ 64) (hMf : Mf ≤ 65536) : Calls Tryz.prog 51 #[(.slice Af nf cf)] w (Ret fun v w' => ∃ (gr : Bool) (Ar : Option Addr) (nr : Nat) (cr : Nat) (dr : List Nat), v = (.agg #[(.bool gr), (.slice Ar nr cr)]) ∧ Ext w w' ∧ NatR w' (fun b => w.heap.size ≤ b) Ar nr cr dr ∧ (zval gr dr = (contP (zs lf) : Int)) ∧ (ICan gr dr) ∧ (nr ≤ 4194624)) := by
  have ⟨kf, jf, mf⟩ := hf.lkm
  replace hf := hf.low
  refine enter Tryz.func51 rfl Tryz.ntmps51 rfl (rS fun K1 hK1 => sO (oAlloc [(.bool false), (.slice none 0 0)] zero68 rfl (fun g2 w3 hg4 hE5 hz6 hB7 => sK hK1 (rS fun K8 hK8 => sMs rfl (sO (oBuildSlice [(.slice Af nf cf)] [[(.slice Af nf cf)]] Tryz.underlying25 inf32 rfl rfl rfl rfl rfl (fun g9 w10 hg11 hE12 hz13 hB14 => ?_)))))))
  replace hB14 : Blk w10 g9 32 [(.slice Af nf cf)] := hB14
  have hR15 := hE5.trans hE12
  have h16 := (hf.ext hR15)
  refine sO (oCall rfl call63 (unidiv_contents1 hB14 h16 (by omega) (by omega)) rfl ?_)
  rintro _ w18 ⟨gr_17, Ar_17, nr_17, cr_17, dr_17, rfl, hE19, hr_17, v_17, cn_17, le_17⟩
  have hz20 := hE19.size
  have ⟨lr_17, kr_17, mr_17⟩ := hr_17.lkm
  have hR22 := hE12.trans hE19
  have hB23 := (hB7.ext hR22)
  refine sO (oStore [(.bool gr_17), (.slice Ar_17 nr_17 cr_17)] rfl rfl rfl sz68 rfl hB23 (Nat.le_of_ble_eq_true rfl) (fun w24 hU25 hz26 hB27 => ?_))
  replace hB27 : Blk w24 g2 68 [(.bool gr_17), (.slice Ar_17 nr_17 cr_17)] := hB27
  refine sK hK8 (wp_ret (ret1 (.agg #[(.bool gr_17), (.slice Ar_17 nr_17 cr_17)]) Tryz.results51 (resB [(.bool gr_17), (.slice Ar_17 nr_17 cr_17)] agg68 sz68 rfl hB27) ?_))
  have h28 := (hr_17.frmB hU25 q3)
  have hR29 := (hR15.trans hE19).rx hU25
  exact ⟨gr_17, Ar_17, nr_17, cr_17, dr_17, rfl, (Frm.mono hR29 q4), (NatR.sub h28 q5), v_17, cn_17, (by omega)⟩
end Go.Proofs.YtbniolgfaeiedaaGreat
