/-
  Walks of package modpoly: cofactors, coefficients around 0.
-/
import Derived.Test.YtneolcopompkaaaGreatDoorMod3
namespace Go.Proofs.YtneolcopompkaaaGreatDoor
open Go.RowKit Go.Gx
set_option maxHeartbeats 1000000 in
theorem modpoly_cofactor {w : World} {Sf : Nat → Prop} {Af : Option Addr} {nf cf : Nat} {df : List Nat} {Sg : Nat → Prop} {Ag : Option Addr} {ng cg : Nat} {dg : List Nat} {xp : Nat} (hf : NatR w Sf Af nf cf df) (hg : NatR w Sg Ag ng cg dg) (bp : xp < 4294967296) (hnf : nf ≤ 262144) (hng : ng ≤ 262144) (hp : xp = 2 ∨ xp = 3 ∨ xp = 5 ∨ xp = 7) (hcf : CanP xp df) (hcg : CanP xp dg) (hnz : 0 < nf + ng) : Calls Tryz.prog 122 #[(.slice Af nf cf), (.slice Ag ng cg), (.int .u32 ((xp : Int)))] w (Ret fun v w' => ∃ (Ar : Option Addr) (nr : Nat) (cr : Nat) (dr : List Nat), v = (.slice Ar nr cr) ∧ Ext w w' ∧ NatR w' (fun b => w.heap.size ≤ b) Ar nr cr dr ∧ (dr = cofP xp df dg) ∧ (nr ≤ nf + ng + 1) ∧ (CanP xp dr)) := by
  have ⟨lf, kf, mf⟩ := hf.lkm
  replace hf := hf.low
  have ⟨lg, kg, mg⟩ := hg.lkm
  replace hg := hg.low
  refine enter Tryz.func122 rfl Tryz.ntmps122 rfl ?_
  have hpr := prime4N hp
  refine rS fun K1 hK1 => sAs rfl (sK hK1 (rS fun K2 hK2 => sO (oBuildSlice [(.int .u32 (1))] [[(.int .u32 (1))]] Tryz.underlying46 inf26 rfl rfl rfl rfl rfl (fun g3 w4 hg5 hE6 hz7 hB8 => ?_))))
  replace hB8 : Blk w4 g3 26 [(.int .u32 (1))] := hB8
  refine sAs rfl (sAs rfl (sK hK2 (wp_seq_k fun K9 hK9 => wp_block ?_)))
  have h11 := (hf.ext hE6)
  have h12 := (hg.ext hE6)
  have h13 : NatR w4 (fun b => b = g3) (some ⟨g3, 0, none⟩) 1 1 ([1]) := NatR.of_blk hB8 rfl (by decide) (by exact lq) (by omega) (by unfold CapMax; omega)
  refine lLoop (fun m e w_ => ∃ (Aa : Option Addr) (na : Nat) (ca : Nat) (da : List Nat) (Ab : Option Addr) (nb : Nat) (cb : Nat) (db : List Nat) (Au : Option Addr) (nu : Nat) (cu : Nat) (du : List Nat) (Av : Option Addr) (nv : Nat) (cv : Nat) (dv : List Nat), m = nb ∧ e 0 = (.slice Aa na ca) ∧ e 1 = (.slice Ab nb cb) ∧ e 2 = (.int .u32 ((xp : Int))) ∧ e 7 = (.slice Au nu cu) ∧ e 8 = (.slice Av nv cv) ∧ Frm (fun b => False) w4 w_ ∧ (NatR w_ (fun b => b < w_.heap.size) Aa na ca da) ∧ (NatR w_ (fun b => b < w_.heap.size) Ab nb cb db) ∧ (NatR w_ (fun b => b < w_.heap.size) Au nu cu du) ∧ (NatR w_ (fun b => b < w_.heap.size) Av nv cv dv) ∧ (CanP xp da) ∧ (CanP xp db) ∧ (na ≤ 262144 ∧ nb ≤ 262144 ∧ 0 < na + nb) ∧ (nu + nb ≤ nf + ng + 1 ∧ nv + na ≤ nf + ng + 1 ∧ (nb ≤ na ∨ nv = 0)) ∧ (cofGo xp nb da db du dv = cofP xp df dg)) ((ng)) ?_ ?_
  · refine ⟨(Af), (nf), (cf), (df), (Ag), (ng), (cg), (dg), ((some ⟨g3, 0, none⟩)), (1), (1), ([1]), (none), (0), (0), ([]), rfl, rfl, rfl, rfl, rfl, rfl, (Frm.refl _ _), ?_, ?_, ?_, ?_, ?_, ?_, ?_, ?_, ?_⟩
    · exact NatR.low h11
    · exact NatR.low h12
    · exact NatR.low h13
    · exact NatR.nil
    · exact hcf
    · exact hcg
    · omega
    · omega
    · unfold cofP; rw [lg]
  · rintro m10 e22 w14 ⟨Aa, na, ca, da, Ab, nb, cb, db, Au, nu, cu, du, Av, nv, cv, dv, hm21, hs15, hs16, hs17, hs18, hs19, hF20, ha, hb, hu, hv, hca, hcb, hnn, hUV, hcof⟩
    obtain ⟨r23, rfl⟩ := sq (e := e22) (t := 0) hs15
    obtain ⟨r24, rfl⟩ := sq (e := r23) (t := 1) hs16
    obtain ⟨r25, rfl⟩ := sq (e := r24) (t := 2) hs17
    obtain ⟨r26, rfl⟩ := sq (e := r25) (t := 7) hs18
    obtain ⟨r27, rfl⟩ := sq (e := r26) (t := 8) hs19
    have hz28 := hF20.size
    have ⟨la, ka, ma⟩ := ha.lkm; have ⟨lb, kb, mb⟩ := hb.lkm; have ⟨lu, ku, mu⟩ := hu.lkm; have ⟨lv, kv, mv⟩ := hv.lkm
    refine wp_seq_k fun K29 hK29 => rS fun K30 hK30 => sMs rfl (sV (evLen Tryz.underlying46 rfl) ?_)
    by_cases hc31 : ((nb : Int)) > 0
    · refine sV (evGtr true rfl rfl (dT hc31)) (sK hK30 (cT rfl (wp_skip (xN (hK29 _ _ (wp_block (rS fun K32 hK32 => sMs rfl (sMs rfl (sMi rfl (sO (oCall rfl call117 (modpoly_divide ha hb (xp := xp) (by omega) (by omega) (by omega) hp hca hcb (by omega)) rfl ?_)))))))))))
      rintro _ w34 ⟨Aq_33, nq_33, cq_33, dq_33, Ar_33, nr_33, cr_33, dr_33, rfl, hE35, hq_33, hr_33, e_33, zq_33, zr_33, lt_33, lq_33, lr_33, qp_33⟩
      have hz36 := hE35.size
      have ⟨lq_33, kq_33, mq_33⟩ := hq_33.lkm
      have ⟨lr_33, kr_33, mr_33⟩ := hr_33.lkm
      refine sV (v := (.tuple #[(.slice Aq_33 nq_33 cq_33), (.slice Ar_33 nr_33 cr_33)])) (rfl) (sV (v := (.slice Aq_33 nq_33 cq_33)) (rfl) (sV (v := (.slice Ar_33 nr_33 cr_33)) (rfl) (sAs rfl (sAs rfl (sK hK32 (rS fun K39 hK39 => sMs rfl (sMs rfl (sAs rfl (sAs rfl (sK hK39 (wp_region_lit (sMs rfl (sMs rfl (sMs rfl (sMs rfl (sMi rfl ?_))))))))))))))))
      have h40 := (hv.ext hE35)
      refine sO (oCall rfl call57 (modpoly_Mul hq_33 h40 (xm := xp) (by omega) (by omega) (by omega) (by omega)) rfl ?_)
      rintro _ w42 ⟨Ar_41, nr_41, cr_41, dr_41, rfl, hE43, hr_41, e_41, le_41, zr_41⟩
      have hz44 := hE43.size
      have ⟨lr_41, kr_41, mr_41⟩ := hr_41.lkm
      refine sMi rfl ?_
      have hR46 := hE35.trans hE43
      have h47 := (hu.ext hR46)
      refine sO (oCall rfl call115 (modpoly_Sub h47 hr_41 (xm := xp) (by omega) (by omega) (by omega) (by omega)) rfl ?_)
      rintro _ w49 ⟨Ar_48, nr_48, cr_48, dr_48, rfl, hE50, hr_48, e_48, le_48, zr_48⟩
      have hz51 := hE50.size
      have ⟨lr_48, kr_48, mr_48⟩ := hr_48.lkm
      refine sAs rfl (sAs rfl (sDone (bN ?_)))
      have hR53 := hR46.trans hE50
      have h54 := (hb.ext hR53)
      have hR55 := hE43.trans hE50
      have h56 := (hr_33.ext hR55)
      have h57 := (h40.ext hR55)
      refine again ((nr_33)) (by omega) ⟨(Ab), (nb), (cb), (db), (Ar_33), (nr_33), (cr_33), (dr_33), (Av), (nv), (cv), (dv), (Ar_48), (nr_48), (cr_48), (dr_48), rfl, rfl, rfl, rfl, rfl, rfl, (hF20.trans hR53), ?_, ?_, ?_, ?_, ?_, ?_, ?_, ?_, ?_⟩
      · exact NatR.low h54
      · exact NatR.low h56
      · exact NatR.low h57
      · exact NatR.low hr_48
      · exact hcb
      · exact zr_33
      · omega
      · omega
      · exact cof_step hpr hca hcb (by omega) e_33 e_41 e_48 hcof (by omega) (by omega)
    · refine sV (evGtr false rfl rfl (dF hc31)) (sK hK30 (cF rfl (wp_exit (xE (xE (bE (xN (hK9 _ _ (rS fun K58 hK58 => sMs rfl (sMs rfl (sV (evLen Tryz.underlying46 rfl) (sV (evSub (((na : Int)) - 1) rfl rfl wI) ?_))))))))))))
      obtain ⟨b59, o60, rfl⟩ := ha.base (by omega)
      refine sV (evIx (na - 1) Tryz.underlying46 sz26 rfl rfl (o60 + (na - 1))) ?_
      have hd61 := ha.lt (na - 1)
      refine sV (evLoad one26 rfl (ha.cell (by omega))) (sMi rfl (sO (oCall rfl call118 (modular_Inverse (xa := da.getD (na - 1) 0) (by omega) (xm := xp) (by omega) (by omega) (by have h9 := monic_co hpr hca (by omega); rw [la] at h9; exact h9)) rfl ?_)))
      rintro _ w63 ⟨xr_62, xo_62, rfl, hE64, br_62, z_62, e_62, lt_62⟩
      have hz65 := hE64.size
      refine sV (v := (.tuple #[(.int .u32 ((xr_62 : Int))), (.int .i64 (xo_62))])) (rfl) (sV (v := (.int .u32 ((xr_62 : Int)))) (rfl) (sV (v := (.int .i64 (xo_62))) (rfl) (sAi rfl (sAi rfl (sK hK58 (rS fun K66 hK66 => sMs rfl (sMi rfl (sMi rfl ?_))))))))
      have h67 := (hu.ext hE64)
      refine sO (oCall rfl call40 (modpoly_Scale h67 (xc := xr_62) (by omega) (xm := xp) (by omega) (by omega) (by omega)) rfl ?_)
      rintro _ w69 ⟨Ar_68, nr_68, cr_68, dr_68, rfl, hE70, hr_68, e_68, le_68, zr_68⟩
      have hz71 := hE70.size
      have ⟨lr_68, kr_68, mr_68⟩ := hr_68.lkm
      refine sAs rfl (sK hK66 (wp_ret (ret1 (.slice Ar_68 nr_68 cr_68) Tryz.results122 (resT rfl) ?_)))
      have hR73 := ((hE6.trans hF20).trans hE64).trans hE70
      exact ⟨Ar_68, nr_68, cr_68, dr_68, rfl, hR73, (NatR.sub hr_68 q5), (by rw [e_68, e_62, ← hcof, show nb = db.length by omega, cof_end (by omega)]; unfold leadP; rw [la]), (by omega), zr_68⟩
set_option maxHeartbeats 2000000 in
theorem modpoly_Xgcd {w : World} {Sf : Nat → Prop} {Af : Option Addr} {nf cf : Nat} {df : List Nat} {Sg : Nat → Prop} {Ag : Option Addr} {ng cg : Nat} {dg : List Nat} {xp : Nat} (hf : NatR w Sf Af nf cf df) (hg : NatR w Sg Ag ng cg dg) (bp : xp < 4294967296) (hnf : nf ≤ 65536) (hng : ng ≤ 65536) (hp : xp = 2 ∨ xp = 3 ∨ xp = 5 ∨ xp = 7) : Calls Tryz.prog 95 #[(.slice Af nf cf), (.slice Ag ng cg), (.int .u32 ((xp : Int)))] w (Ret fun v w' => ∃ (Ad : Option Addr) (nd : Nat) (cd : Nat) (dd : List Nat) (Au : Option Addr) (nu : Nat) (cu : Nat) (du : List Nat) (Ay : Option Addr) (ny : Nat) (cy : Nat) (dy : List Nat) (xo : Int), v = (.tuple #[(.slice Ad nd cd), (.slice Au nu cu), (.slice Ay ny cy), (.int .i64 (xo))]) ∧ Ext w w' ∧ NatR w' (fun b => w.heap.size ≤ b) Ad nd cd dd ∧ NatR w' (fun b => w.heap.size ≤ b) Au nu cu du ∧ NatR w' (fun b => w.heap.size ≤ b) Ay ny cy dy ∧ (xo = 0) ∧ (xgcdP xp (nrmP xp df) (nrmP xp dg) = (dd, du, dy)) ∧ (nu ≤ ng + 1)) := by
  have ⟨lf, kf, mf⟩ := hf.lkm
  replace hf := hf.low
  have ⟨lg, kg, mg⟩ := hg.lkm
  replace hg := hg.low
  refine enter Tryz.func95 rfl Tryz.ntmps95 rfl ?_
  have hpr := prime4N hp
  refine rS fun K1 hK1 => sAs rfl (sAs rfl (sAs rfl (sAi rfl (sK hK1 (wp_seq_k fun K2 hK2 => rS fun K3 hK3 => sMi rfl (sO (oCall rfl call54 (modular_IsPrime (xn := xp) (by omega) (by assumption)) rfl ?_)))))))
  rintro _ w5 ⟨gr_4, rfl, hE6, e_4⟩
  have hz7 := hE6.size
  obtain rfl : gr_4 = true := e_4
  refine sV (evNot _ rfl rfl) (sK hK3 (cF rfl (wp_skip (xN (hK2 _ _ (rS fun K8 hK8 => sMs rfl (sMi rfl ?_)))))))
  have h9 := (hf.ext hE6)
  refine sO (oCall rfl call77 (modpoly_Normal h9 (xm := xp) (by omega) (by omega) (by omega)) rfl ?_)
  rintro _ w11 ⟨Ar_10, nr_10, cr_10, dr_10, rfl, hE12, hr_10, e_10, le_10, zr_10⟩
  have hz13 := hE12.size
  have ⟨lr_10, kr_10, mr_10⟩ := hr_10.lkm
  refine sMs rfl (sMi rfl ?_)
  have hR15 := hE6.trans hE12
  have h16 := (hg.ext hR15)
  refine sO (oCall rfl call77 (modpoly_Normal h16 (xm := xp) (by omega) (by omega) (by omega)) rfl ?_)
  rintro _ w18 ⟨Ar_17, nr_17, cr_17, dr_17, rfl, hE19, hr_17, e_17, le_17, zr_17⟩
  have hz20 := hE19.size
  have ⟨lr_17, kr_17, mr_17⟩ := hr_17.lkm
  refine sAs rfl (sAs rfl (sK hK8 (rS fun K22 hK22 => sMs rfl (sMs rfl (sMi rfl ?_)))))
  have h23 := (hr_10.ext hE19)
  refine sO (oCall rfl call103 (modpoly_gcd h23 hr_17 (xp := xp) (by omega) (by omega) (by omega) hp zr_10 zr_17) rfl ?_)
  rintro _ w25 ⟨Ar_24, nr_24, cr_24, dr_24, rfl, hE26, hr_24, e_24, zr_24, le_24⟩
  have hz27 := hE26.size
  have ⟨lr_24, kr_24, mr_24⟩ := hr_24.lkm
  have hne := fun h => gcd_ne hpr zr_10 zr_17 h; have hle := fun h => gcd_len hpr zr_10 zr_17 h; rw [← e_24] at hne hle
  refine sAs rfl (sK hK22 (wp_seq_k fun K29 hK29 => wp_block (rS fun K30 hK30 => sMs rfl (sV (evLen Tryz.underlying46 rfl) ?_))))
  by_cases hc31 : ((nr_17 : Int)) = 0
  · refine sV (evEql true rfl rfl (dT hc31)) (sMb rfl (sEv (v := (.slice Ar_10 nr_10 cr_10)) (rfl) rfl rfl (sEv (v := (.int .i64 ((nr_10 : Int)))) (evLen Tryz.underlying46 rfl) rfl rfl ?_)))
    by_cases hc32 : ((nr_10 : Int)) = 0
    · refine sEv (v := (.bool true)) (evEql true rfl rfl (dT hc32)) rfl rfl (sV (v := (.bool true)) (rfl) (sAb rfl (sK hK30 (cT rfl (rS fun K33 hK33 => sAs rfl (sAs rfl (sAs rfl (sAi rfl (sK hK33 (wp_ret (bR (xR (ret4 (.slice none 0 0) (.slice none 0 0) (.slice none 0 0) (.int .i64 (0)) Tryz.results95 (resT rfl) (resT rfl) (resT rfl) (resT rfl) ?_)))))))))))))
      have he9 : xgcdP xp dr_10 dr_17 = ([], [], []) := by exact xg1 (by omega) (by omega)
      have hR34 := (hR15.trans hE19).trans hE26
      exact ⟨none, 0, 0, ([]), none, 0, 0, ([]), none, 0, 0, ([]), (0), rfl, hR34, NatR.nil, NatR.nil, NatR.nil, rfl, (by rw [← e_10, ← e_17]; exact he9), (by omega)⟩
    · refine sEv (v := (.bool false)) (evEql false rfl rfl (dF hc32)) rfl rfl (sV (v := (.bool false)) (rfl) (sAb rfl (sK hK30 (cF rfl (rS fun K35 hK35 => sMs rfl (sV (evLen Tryz.underlying46 rfl) ?_))))))
      by_cases hc36 : ((nr_17 : Int)) = 0
      · refine sV (evEql true rfl rfl (dT hc36)) (sAb rfl (sK hK35 (cT rfl (rS fun K37 hK37 => sMs rfl (sMs rfl (sV (evLen Tryz.underlying46 rfl) (sV (evSub (((nr_10 : Int)) - 1) rfl rfl wI) ?_)))))))
        have h38 := (h23.ext hE26)
        obtain ⟨b39, o40, rfl⟩ := h38.base (by omega)
        refine sV (evIx (nr_10 - 1) Tryz.underlying46 sz26 rfl rfl (o40 + (nr_10 - 1))) ?_
        have hd41 := h38.lt (nr_10 - 1)
        refine sV (evLoad one26 rfl (h38.cell (by omega))) (sMi rfl (sO (oCall rfl call118 (modular_Inverse (xa := dr_10.getD (nr_10 - 1) 0) (by omega) (xm := xp) (by omega) (by omega) (by have h9 := monic_co hpr zr_10 (by omega); rw [lr_10] at h9; exact h9)) rfl ?_)))
        rintro _ w43 ⟨xr_42, xo_42, rfl, hE44, br_42, z_42, e_42, lt_42⟩
        have hz45 := hE44.size
        refine sV (v := (.tuple #[(.int .u32 ((xr_42 : Int))), (.int .i64 (xo_42))])) (rfl) (sV (v := (.int .u32 ((xr_42 : Int)))) (rfl) (sV (v := (.int .i64 (xo_42))) (rfl) (sAi rfl (sAi rfl (sK hK37 (rS fun K46 hK46 => sMs rfl (sMi rfl (sO (oBuildSlice [(.int .u32 ((xr_42 : Int)))] [[(.int .u32 ((xr_42 : Int)))]] Tryz.underlying46 inf26 rfl rfl rfl rfl rfl (fun g47 w48 hg49 hE50 hz51 hB52 => ?_))))))))))
        replace hB52 : Blk w48 g47 26 [(.int .u32 ((xr_42 : Int)))] := hB52
        refine sAs rfl (sAs rfl (sAs rfl (sAi rfl (sK hK46 (wp_ret (bR (xR (ret4 (.slice Ar_24 nr_24 cr_24) (.slice (some ⟨g47, 0, none⟩) 1 1) (.slice none 0 0) (.int .i64 (0)) Tryz.results95 (resT rfl) (resT rfl) (resT rfl) (resT rfl) ?_))))))))
        have he9 : xgcdP xp dr_10 dr_17 = (dr_24, [xr_42], []) := by rw [e_42, xg2 (by omega) (by omega), ← e_24]; unfold leadP; rw [lr_10]
        have hR53 := hE44.trans hE50
        have h54 := (hr_24.ext hR53)
        have h55 : NatR w48 (fun b => b = g47) (some ⟨g47, 0, none⟩) 1 1 ([xr_42]) := NatR.of_blk hB52 rfl (by simp [BS]; omega) (by exact lq) (by omega) (by unfold CapMax; omega)
        have hR56 := (((hR15.trans hE19).trans hE26).trans hE44).trans hE50
        exact ⟨Ar_24, nr_24, cr_24, dr_24, (some ⟨g47, 0, none⟩), 1, 1, ([xr_42]), none, 0, 0, ([]), (0), rfl, hR56, (NatR.sub h54 q5), (NatR.sub h55 q5), NatR.nil, rfl, (by rw [← e_10, ← e_17]; exact he9), (by omega)⟩
      · refine sV (evEql false rfl rfl (dF hc36)) (sAb rfl (sK hK35 (cF rfl (rS fun K57 hK57 => sMs rfl (sV (evLen Tryz.underlying46 rfl) (sMs rfl (sV (evLen Tryz.underlying46 rfl) ?_)))))))
        by_cases hc58 : ((nr_17 : Int)) = ((nr_24 : Int))
        · refine sV (evEql true rfl rfl (dT hc58)) (sAb rfl (sK hK57 (cT rfl (rS fun K59 hK59 => sMs rfl (sMs rfl (sV (evLen Tryz.underlying46 rfl) (sV (evSub (((nr_17 : Int)) - 1) rfl rfl wI) ?_)))))))
          have h60 := (hr_17.ext hE26)
          obtain ⟨b61, o62, rfl⟩ := h60.base (by omega)
          refine sV (evIx (nr_17 - 1) Tryz.underlying46 sz26 rfl rfl (o62 + (nr_17 - 1))) ?_
          have hd63 := h60.lt (nr_17 - 1)
          refine sV (evLoad one26 rfl (h60.cell (by omega))) (sMi rfl (sO (oCall rfl call118 (modular_Inverse (xa := dr_17.getD (nr_17 - 1) 0) (by omega) (xm := xp) (by omega) (by omega) (by have h9 := monic_co hpr zr_17 (by omega); rw [lr_17] at h9; exact h9)) rfl ?_)))
          rintro _ w65 ⟨xr_64, xo_64, rfl, hE66, br_64, z_64, e_64, lt_64⟩
          have hz67 := hE66.size
          refine sV (v := (.tuple #[(.int .u32 ((xr_64 : Int))), (.int .i64 (xo_64))])) (rfl) (sV (v := (.int .u32 ((xr_64 : Int)))) (rfl) (sV (v := (.int .i64 (xo_64))) (rfl) (sAi rfl (sAi rfl (sK hK59 (rS fun K68 hK68 => sMs rfl (sMi rfl (sO (oBuildSlice [(.int .u32 ((xr_64 : Int)))] [[(.int .u32 ((xr_64 : Int)))]] Tryz.underlying46 inf26 rfl rfl rfl rfl rfl (fun g69 w70 hg71 hE72 hz73 hB74 => ?_))))))))))
          replace hB74 : Blk w70 g69 26 [(.int .u32 ((xr_64 : Int)))] := hB74
          refine sAs rfl (sAs rfl (sAs rfl (sAi rfl (sK hK68 (wp_ret (bR (xR (ret4 (.slice Ar_24 nr_24 cr_24) (.slice none 0 0) (.slice (some ⟨g69, 0, none⟩) 1 1) (.int .i64 (0)) Tryz.results95 (resT rfl) (resT rfl) (resT rfl) (resT rfl) ?_))))))))
          have he9 : xgcdP xp dr_10 dr_17 = (dr_24, [], [xr_64]) := by rw [e_64, xg3 (by omega) (by rw [← e_24]; omega), ← e_24]; unfold leadP; rw [lr_17]
          have hR75 := hE66.trans hE72
          have h76 := (hr_24.ext hR75)
          have h77 : NatR w70 (fun b => b = g69) (some ⟨g69, 0, none⟩) 1 1 ([xr_64]) := NatR.of_blk hB74 rfl (by simp [BS]; omega) (by exact lq) (by omega) (by unfold CapMax; omega)
          have hR78 := (((hR15.trans hE19).trans hE26).trans hE66).trans hE72
          exact ⟨Ar_24, nr_24, cr_24, dr_24, none, 0, 0, ([]), (some ⟨g69, 0, none⟩), 1, 1, ([xr_64]), (0), rfl, hR78, (NatR.sub h76 q5), NatR.nil, (NatR.sub h77 q5), rfl, (by rw [← e_10, ← e_17]; exact he9), (by omega)⟩
        · refine sV (evEql false rfl rfl (dF hc58)) (sAb rfl (sK hK57 (cF rfl (wp_skip (bN (xN (hK29 _ _ (rS fun K79 hK79 => sMs rfl (sMs rfl (sMi rfl ?_))))))))))
          have h80 := (hr_17.ext hE26)
          refine sO (oCall rfl call117 (modpoly_divide h80 hr_24 (xp := xp) (by omega) (by omega) (by omega) hp zr_17 zr_24 (by omega)) rfl ?_)
          rintro _ w82 ⟨Aq_81, nq_81, cq_81, dq_81, Ar_81, nr_81, cr_81, dr_81, rfl, hE83, hq_81, hr_81, e_81, zq_81, zr_81, lt_81, lq_81, lr_81, qp_81⟩
          have hz84 := hE83.size
          have ⟨lq_81, kq_81, mq_81⟩ := hq_81.lkm
          have ⟨lr_81, kr_81, mr_81⟩ := hr_81.lkm
          have hq0 : 0 < nq_81 := qp_81 (by have h9 := hle (by omega); omega)
          refine sV (v := (.tuple #[(.slice Aq_81 nq_81 cq_81), (.slice Ar_81 nr_81 cr_81)])) (rfl) (sV (v := (.slice Aq_81 nq_81 cq_81)) (rfl) (sV (v := (.slice Ar_81 nr_81 cr_81)) (rfl) (sAs rfl (sAs rfl (sK hK79 (rS fun K87 hK87 => sMs rfl (sMs rfl (sMi rfl ?_))))))))
          have hR88 := hE26.trans hE83
          have h89 := (h23.ext hR88)
          have h90 := (h80.ext hE83)
          refine sO (oCall rfl call122 (modpoly_cofactor h89 h90 (xp := xp) (by omega) (by omega) (by omega) hp zr_10 zr_17 (by omega)) rfl ?_)
          rintro _ w92 ⟨Ar_91, nr_91, cr_91, dr_91, rfl, hE93, hr_91, e_91, le_91, zr_91⟩
          have hz94 := hE93.size
          have ⟨lr_91, kr_91, mr_91⟩ := hr_91.lkm
          refine sMs rfl (sMi rfl ?_)
          have h96 := (hq_81.ext hE93)
          refine sO (oCall rfl call113 (modpoly_remainder hr_91 h96 (xp := xp) (by omega) (by omega) (by omega) hp zr_91 zq_81 (by omega)) rfl ?_)
          rintro _ w98 ⟨Ar_97, nr_97, cr_97, dr_97, rfl, hE99, hr_97, e_97, zr_97, lt_97, lr_97⟩
          have hz100 := hE99.size
          have ⟨lr_97, kr_97, mr_97⟩ := hr_97.lkm
          refine sAs rfl (sK hK87 (rS fun K102 hK102 => sMs rfl (sMs rfl (sMs rfl (sMi rfl ?_)))))
          have hR103 := hE93.trans hE99
          have h104 := (h89.ext hR103)
          refine sO (oCall rfl call57 (modpoly_Mul hr_97 h104 (xm := xp) (by omega) (by omega) (by omega) (by omega)) rfl ?_)
          rintro _ w106 ⟨Ar_105, nr_105, cr_105, dr_105, rfl, hE107, hr_105, e_105, le_105, zr_105⟩
          have hz108 := hE107.size
          have ⟨lr_105, kr_105, mr_105⟩ := hr_105.lkm
          refine sMi rfl ?_
          have hR110 := ((hE83.trans hE93).trans hE99).trans hE107
          have h111 := (hr_24.ext hR110)
          refine sO (oCall rfl call115 (modpoly_Sub h111 hr_105 (xm := xp) (by omega) (by omega) (by omega) (by omega)) rfl ?_)
          rintro _ w113 ⟨Ar_112, nr_112, cr_112, dr_112, rfl, hE114, hr_112, e_112, le_112, zr_112⟩
          have hz115 := hE114.size
          have ⟨lr_112, kr_112, mr_112⟩ := hr_112.lkm
          refine sMs rfl (sMi rfl ?_)
          have hR117 := (hR103.trans hE107).trans hE114
          have h118 := (h90.ext hR117)
          refine sO (oCall rfl call117 (modpoly_divide hr_112 h118 (xp := xp) (by omega) (by omega) (by omega) hp zr_112 zr_17 (by omega)) rfl ?_)
          rintro _ w120 ⟨Aq_119, nq_119, cq_119, dq_119, Ar_119, nr_119, cr_119, dr_119, rfl, hE121, hq_119, hr_119, e_119, zq_119, zr_119, lt_119, lq_119, lr_119, qp_119⟩
          have hz122 := hE121.size
          have ⟨lq_119, kq_119, mq_119⟩ := hq_119.lkm
          have ⟨lr_119, kr_119, mr_119⟩ := hr_119.lkm
          refine sV (v := (.tuple #[(.slice Aq_119 nq_119 cq_119), (.slice Ar_119 nr_119 cr_119)])) (rfl) (sV (v := (.slice Aq_119 nq_119 cq_119)) (rfl) (sV (v := (.slice Ar_119 nr_119 cr_119)) (rfl) (sAs rfl (sK hK102 (rS fun K125 hK125 => sMs rfl (sMs rfl (sMs rfl (sAs rfl (sAs rfl (sAs rfl (sAi rfl (sK hK125 (wp_ret (ret4 (.slice Ar_24 nr_24 cr_24) (.slice Ar_97 nr_97 cr_97) (.slice Aq_119 nq_119 cq_119) (.int .i64 (0)) Tryz.results95 (resT rfl) (resT rfl) (resT rfl) (resT rfl) ?_))))))))))))))
          have he9 : xgcdP xp dr_10 dr_17 = (dr_24, dr_97, dq_119) := by rw [e_24]; exact xg4 (by omega) (by rw [← e_24]; omega) (by rw [← e_24]; exact e_81) e_91 e_97 e_105 (by rw [← e_24]; exact e_112) e_119
          have hR126 := hE114.trans hE121
          have h127 := (h111.ext hR126)
          have hR128 := (hE107.trans hE114).trans hE121
          have h129 := (hr_97.ext hR128)
          have hR130 := (((((((hR15.trans hE19).trans hE26).trans hE83).trans hE93).trans hE99).trans hE107).trans hE114).trans hE121
          exact ⟨Ar_24, nr_24, cr_24, dr_24, Ar_97, nr_97, cr_97, dr_97, Aq_119, nq_119, cq_119, dq_119, (0), rfl, hR130, (NatR.sub h127 q5), (NatR.sub h129 q5), (NatR.sub hq_119 q5), rfl, (by rw [← e_10, ← e_17]; exact he9), (by omega)⟩
  · refine sV (evEql false rfl rfl (dF hc31)) (sMb rfl (sSkip rfl rfl (sSkip rfl rfl (sSkip rfl rfl (sV (v := (.bool false)) (rfl) (sAb rfl (sK hK30 (cF rfl (rS fun K131 hK131 => sMs rfl (sV (evLen Tryz.underlying46 rfl) ?_))))))))))
    by_cases hc132 : ((nr_17 : Int)) = 0
    · refine sV (evEql true rfl rfl (dT hc132)) (sAb rfl (sK hK131 (cT rfl (rS fun K133 hK133 => sMs rfl (sMs rfl (sV (evLen Tryz.underlying46 rfl) (sV (evSub (((nr_10 : Int)) - 1) rfl rfl wI) ?_)))))))
      have h134 := (h23.ext hE26)
      obtain ⟨b135, o136, rfl⟩ := h134.base (by omega)
      refine sV (evIx (nr_10 - 1) Tryz.underlying46 sz26 rfl rfl (o136 + (nr_10 - 1))) ?_
      have hd137 := h134.lt (nr_10 - 1)
      refine sV (evLoad one26 rfl (h134.cell (by omega))) (sMi rfl (sO (oCall rfl call118 (modular_Inverse (xa := dr_10.getD (nr_10 - 1) 0) (by omega) (xm := xp) (by omega) (by omega) (by have h9 := monic_co hpr zr_10 (by omega); rw [lr_10] at h9; exact h9)) rfl ?_)))
      rintro _ w139 ⟨xr_138, xo_138, rfl, hE140, br_138, z_138, e_138, lt_138⟩
      have hz141 := hE140.size
      refine sV (v := (.tuple #[(.int .u32 ((xr_138 : Int))), (.int .i64 (xo_138))])) (rfl) (sV (v := (.int .u32 ((xr_138 : Int)))) (rfl) (sV (v := (.int .i64 (xo_138))) (rfl) (sAi rfl (sAi rfl (sK hK133 (rS fun K142 hK142 => sMs rfl (sMi rfl (sO (oBuildSlice [(.int .u32 ((xr_138 : Int)))] [[(.int .u32 ((xr_138 : Int)))]] Tryz.underlying46 inf26 rfl rfl rfl rfl rfl (fun g143 w144 hg145 hE146 hz147 hB148 => ?_))))))))))
      replace hB148 : Blk w144 g143 26 [(.int .u32 ((xr_138 : Int)))] := hB148
      refine sAs rfl (sAs rfl (sAs rfl (sAi rfl (sK hK142 (wp_ret (bR (xR (ret4 (.slice Ar_24 nr_24 cr_24) (.slice (some ⟨g143, 0, none⟩) 1 1) (.slice none 0 0) (.int .i64 (0)) Tryz.results95 (resT rfl) (resT rfl) (resT rfl) (resT rfl) ?_))))))))
      have he9 : xgcdP xp dr_10 dr_17 = (dr_24, [xr_138], []) := by rw [e_138, xg2 (by omega) (by omega), ← e_24]; unfold leadP; rw [lr_10]
      have hR149 := hE140.trans hE146
      have h150 := (hr_24.ext hR149)
      have h151 : NatR w144 (fun b => b = g143) (some ⟨g143, 0, none⟩) 1 1 ([xr_138]) := NatR.of_blk hB148 rfl (by simp [BS]; omega) (by exact lq) (by omega) (by unfold CapMax; omega)
      have hR152 := (((hR15.trans hE19).trans hE26).trans hE140).trans hE146
      exact ⟨Ar_24, nr_24, cr_24, dr_24, (some ⟨g143, 0, none⟩), 1, 1, ([xr_138]), none, 0, 0, ([]), (0), rfl, hR152, (NatR.sub h150 q5), (NatR.sub h151 q5), NatR.nil, rfl, (by rw [← e_10, ← e_17]; exact he9), (by omega)⟩
    · refine sV (evEql false rfl rfl (dF hc132)) (sAb rfl (sK hK131 (cF rfl (rS fun K153 hK153 => sMs rfl (sV (evLen Tryz.underlying46 rfl) (sMs rfl (sV (evLen Tryz.underlying46 rfl) ?_)))))))
      by_cases hc154 : ((nr_17 : Int)) = ((nr_24 : Int))
      · refine sV (evEql true rfl rfl (dT hc154)) (sAb rfl (sK hK153 (cT rfl (rS fun K155 hK155 => sMs rfl (sMs rfl (sV (evLen Tryz.underlying46 rfl) (sV (evSub (((nr_17 : Int)) - 1) rfl rfl wI) ?_)))))))
        have h156 := (hr_17.ext hE26)
        obtain ⟨b157, o158, rfl⟩ := h156.base (by omega)
        refine sV (evIx (nr_17 - 1) Tryz.underlying46 sz26 rfl rfl (o158 + (nr_17 - 1))) ?_
        have hd159 := h156.lt (nr_17 - 1)
        refine sV (evLoad one26 rfl (h156.cell (by omega))) (sMi rfl (sO (oCall rfl call118 (modular_Inverse (xa := dr_17.getD (nr_17 - 1) 0) (by omega) (xm := xp) (by omega) (by omega) (by have h9 := monic_co hpr zr_17 (by omega); rw [lr_17] at h9; exact h9)) rfl ?_)))
        rintro _ w161 ⟨xr_160, xo_160, rfl, hE162, br_160, z_160, e_160, lt_160⟩
        have hz163 := hE162.size
        refine sV (v := (.tuple #[(.int .u32 ((xr_160 : Int))), (.int .i64 (xo_160))])) (rfl) (sV (v := (.int .u32 ((xr_160 : Int)))) (rfl) (sV (v := (.int .i64 (xo_160))) (rfl) (sAi rfl (sAi rfl (sK hK155 (rS fun K164 hK164 => sMs rfl (sMi rfl (sO (oBuildSlice [(.int .u32 ((xr_160 : Int)))] [[(.int .u32 ((xr_160 : Int)))]] Tryz.underlying46 inf26 rfl rfl rfl rfl rfl (fun g165 w166 hg167 hE168 hz169 hB170 => ?_))))))))))
        replace hB170 : Blk w166 g165 26 [(.int .u32 ((xr_160 : Int)))] := hB170
        refine sAs rfl (sAs rfl (sAs rfl (sAi rfl (sK hK164 (wp_ret (bR (xR (ret4 (.slice Ar_24 nr_24 cr_24) (.slice none 0 0) (.slice (some ⟨g165, 0, none⟩) 1 1) (.int .i64 (0)) Tryz.results95 (resT rfl) (resT rfl) (resT rfl) (resT rfl) ?_))))))))
        have he9 : xgcdP xp dr_10 dr_17 = (dr_24, [], [xr_160]) := by rw [e_160, xg3 (by omega) (by rw [← e_24]; omega), ← e_24]; unfold leadP; rw [lr_17]
        have hR171 := hE162.trans hE168
        have h172 := (hr_24.ext hR171)
        have h173 : NatR w166 (fun b => b = g165) (some ⟨g165, 0, none⟩) 1 1 ([xr_160]) := NatR.of_blk hB170 rfl (by simp [BS]; omega) (by exact lq) (by omega) (by unfold CapMax; omega)
        have hR174 := (((hR15.trans hE19).trans hE26).trans hE162).trans hE168
        exact ⟨Ar_24, nr_24, cr_24, dr_24, none, 0, 0, ([]), (some ⟨g165, 0, none⟩), 1, 1, ([xr_160]), (0), rfl, hR174, (NatR.sub h172 q5), NatR.nil, (NatR.sub h173 q5), rfl, (by rw [← e_10, ← e_17]; exact he9), (by omega)⟩
      · refine sV (evEql false rfl rfl (dF hc154)) (sAb rfl (sK hK153 (cF rfl (wp_skip (bN (xN (hK29 _ _ (rS fun K175 hK175 => sMs rfl (sMs rfl (sMi rfl ?_))))))))))
        have h176 := (hr_17.ext hE26)
        refine sO (oCall rfl call117 (modpoly_divide h176 hr_24 (xp := xp) (by omega) (by omega) (by omega) hp zr_17 zr_24 (by omega)) rfl ?_)
        rintro _ w178 ⟨Aq_177, nq_177, cq_177, dq_177, Ar_177, nr_177, cr_177, dr_177, rfl, hE179, hq_177, hr_177, e_177, zq_177, zr_177, lt_177, lq_177, lr_177, qp_177⟩
        have hz180 := hE179.size
        have ⟨lq_177, kq_177, mq_177⟩ := hq_177.lkm
        have ⟨lr_177, kr_177, mr_177⟩ := hr_177.lkm
        have hq0 : 0 < nq_177 := qp_177 (by have h9 := hle (by omega); omega)
        refine sV (v := (.tuple #[(.slice Aq_177 nq_177 cq_177), (.slice Ar_177 nr_177 cr_177)])) (rfl) (sV (v := (.slice Aq_177 nq_177 cq_177)) (rfl) (sV (v := (.slice Ar_177 nr_177 cr_177)) (rfl) (sAs rfl (sAs rfl (sK hK175 (rS fun K183 hK183 => sMs rfl (sMs rfl (sMi rfl ?_))))))))
        have hR184 := hE26.trans hE179
        have h185 := (h23.ext hR184)
        have h186 := (h176.ext hE179)
        refine sO (oCall rfl call122 (modpoly_cofactor h185 h186 (xp := xp) (by omega) (by omega) (by omega) hp zr_10 zr_17 (by omega)) rfl ?_)
        rintro _ w188 ⟨Ar_187, nr_187, cr_187, dr_187, rfl, hE189, hr_187, e_187, le_187, zr_187⟩
        have hz190 := hE189.size
        have ⟨lr_187, kr_187, mr_187⟩ := hr_187.lkm
        refine sMs rfl (sMi rfl ?_)
        have h192 := (hq_177.ext hE189)
        refine sO (oCall rfl call113 (modpoly_remainder hr_187 h192 (xp := xp) (by omega) (by omega) (by omega) hp zr_187 zq_177 (by omega)) rfl ?_)
        rintro _ w194 ⟨Ar_193, nr_193, cr_193, dr_193, rfl, hE195, hr_193, e_193, zr_193, lt_193, lr_193⟩
        have hz196 := hE195.size
        have ⟨lr_193, kr_193, mr_193⟩ := hr_193.lkm
        refine sAs rfl (sK hK183 (rS fun K198 hK198 => sMs rfl (sMs rfl (sMs rfl (sMi rfl ?_)))))
        have hR199 := hE189.trans hE195
        have h200 := (h185.ext hR199)
        refine sO (oCall rfl call57 (modpoly_Mul hr_193 h200 (xm := xp) (by omega) (by omega) (by omega) (by omega)) rfl ?_)
        rintro _ w202 ⟨Ar_201, nr_201, cr_201, dr_201, rfl, hE203, hr_201, e_201, le_201, zr_201⟩
        have hz204 := hE203.size
        have ⟨lr_201, kr_201, mr_201⟩ := hr_201.lkm
        refine sMi rfl ?_
        have hR206 := ((hE179.trans hE189).trans hE195).trans hE203
        have h207 := (hr_24.ext hR206)
        refine sO (oCall rfl call115 (modpoly_Sub h207 hr_201 (xm := xp) (by omega) (by omega) (by omega) (by omega)) rfl ?_)
        rintro _ w209 ⟨Ar_208, nr_208, cr_208, dr_208, rfl, hE210, hr_208, e_208, le_208, zr_208⟩
        have hz211 := hE210.size
        have ⟨lr_208, kr_208, mr_208⟩ := hr_208.lkm
        refine sMs rfl (sMi rfl ?_)
        have hR213 := (hR199.trans hE203).trans hE210
        have h214 := (h186.ext hR213)
        refine sO (oCall rfl call117 (modpoly_divide hr_208 h214 (xp := xp) (by omega) (by omega) (by omega) hp zr_208 zr_17 (by omega)) rfl ?_)
        rintro _ w216 ⟨Aq_215, nq_215, cq_215, dq_215, Ar_215, nr_215, cr_215, dr_215, rfl, hE217, hq_215, hr_215, e_215, zq_215, zr_215, lt_215, lq_215, lr_215, qp_215⟩
        have hz218 := hE217.size
        have ⟨lq_215, kq_215, mq_215⟩ := hq_215.lkm
        have ⟨lr_215, kr_215, mr_215⟩ := hr_215.lkm
        refine sV (v := (.tuple #[(.slice Aq_215 nq_215 cq_215), (.slice Ar_215 nr_215 cr_215)])) (rfl) (sV (v := (.slice Aq_215 nq_215 cq_215)) (rfl) (sV (v := (.slice Ar_215 nr_215 cr_215)) (rfl) (sAs rfl (sK hK198 (rS fun K221 hK221 => sMs rfl (sMs rfl (sMs rfl (sAs rfl (sAs rfl (sAs rfl (sAi rfl (sK hK221 (wp_ret (ret4 (.slice Ar_24 nr_24 cr_24) (.slice Ar_193 nr_193 cr_193) (.slice Aq_215 nq_215 cq_215) (.int .i64 (0)) Tryz.results95 (resT rfl) (resT rfl) (resT rfl) (resT rfl) ?_))))))))))))))
        have he9 : xgcdP xp dr_10 dr_17 = (dr_24, dr_193, dq_215) := by rw [e_24]; exact xg4 (by omega) (by rw [← e_24]; omega) (by rw [← e_24]; exact e_177) e_187 e_193 e_201 (by rw [← e_24]; exact e_208) e_215
        have hR222 := hE210.trans hE217
        have h223 := (h207.ext hR222)
        have hR224 := (hE203.trans hE210).trans hE217
        have h225 := (hr_193.ext hR224)
        have hR226 := (((((((hR15.trans hE19).trans hE26).trans hE179).trans hE189).trans hE195).trans hE203).trans hE210).trans hE217
        exact ⟨Ar_24, nr_24, cr_24, dr_24, Ar_193, nr_193, cr_193, dr_193, Aq_215, nq_215, cq_215, dq_215, (0), rfl, hR226, (NatR.sub h223 q5), (NatR.sub h225 q5), (NatR.sub hq_215 q5), rfl, (by rw [← e_10, ← e_17]; exact he9), (by omega)⟩
theorem modpoly_Symmetric {w : World} {Sf : Nat → Prop} {Af : Option Addr} {nf cf : Nat} {df : List Nat} {xm : Nat} (hf : NatR w Sf Af nf cf df) (bm : xm < 4294967296) (hnf : nf ≤ 1048576) (hm : 0 < xm) : Calls Tryz.prog 58 #[(.slice Af nf cf), (.int .u32 ((xm : Int)))] w (Ret fun v w' => ∃ (Ar : Option Addr) (nr : Nat) (cr : Nat) (lr : List RI), v = (.slice Ar nr cr) ∧ Ext w w' ∧ PolyR w' (fun b => w.heap.size ≤ b) Ar nr cr lr (2) ∧ (zs lr = trimZ (df.map (symN xm))) ∧ (nr ≤ nf) ∧ (AllC lr)) := by
  have ⟨lf, kf, mf⟩ := hf.lkm
  replace hf := hf.low
  refine enter Tryz.func58 rfl Tryz.ntmps58 rfl (rS fun K1 hK1 => sAs rfl (sK hK1 (rS fun K2 hK2 => sMs rfl (sV (evLen Tryz.underlying46 rfl) (sO (oMake2 nf Tryz.underlying39 inf25 cI cI (by omega) (by omega) (fun g3 w4 hg5 hE6 hz7 hB8 => ?_)))))))
  have hB9 : Blk w4 g3 25 (cellsI (List.replicate nf RI.zero)) := hB8
  refine sAs rfl (sK hK2 (wp_seq_k fun K10 hK10 => rS fun K11 hK11 => sMs rfl (sV (evLen Tryz.underlying46 rfl) (sMi rfl (sK hK11 (wp_block ?_))))))
  refine lLoop (fun m e w_ => ∃ (k : Nat) (L : List RI), m = nf - k ∧ e 1 = (.int .u32 ((xm : Int))) ∧ e 5 = (.slice (some ⟨g3, 0, none⟩) nf nf) ∧ e 11 = (.slice Af nf cf) ∧ e 12 = (.int .i64 ((nf : Int))) ∧ e 13 = (.int .i64 ((k : Int))) ∧ Frm (fun b => b = g3) w4 w_ ∧ Blk w_ g3 25 (cellsI (L ++ List.replicate (nf - k) RI.zero)) ∧ (k ≤ nf) ∧ (L.length = k) ∧ (AllN w_ (fun b => g3 < b) 2 L) ∧ (zs L = (List.range k).map (fun i => symN xm (df.getD i 0))) ∧ (AllC L)) (nf - (0)) ?_ ?_
  · refine ⟨(0), ([]), rfl, rfl, rfl, rfl, rfl, cI, (Frm.refl _ _), ?_, ?_, ?_, ?_, ?_, ?_⟩
    · simpa using hB9
    · omega
    · rfl
    · exact AllN.nil
    · rfl
    · exact AllC.nil
  · rintro m12 e22 w13 ⟨k, L, hm21, hs14, hs15, hs16, hs17, hs18, hF19, hB20, hk, hL, hA, hz, hC⟩
    obtain ⟨r23, rfl⟩ := sq (e := e22) (t := 1) hs14
    obtain ⟨r24, rfl⟩ := sq (e := r23) (t := 5) hs15
    obtain ⟨r25, rfl⟩ := sq (e := r24) (t := 11) hs16
    obtain ⟨r26, rfl⟩ := sq (e := r25) (t := 12) hs17
    obtain ⟨r27, rfl⟩ := sq (e := r26) (t := 13) hs18
    have hz28 := hF19.size
    refine rS fun K29 hK29 => ?_
    by_cases hc30 : ((k : Int)) < ((nf : Int))
    · refine sV (evLss true rfl rfl (dT hc30)) (sK hK29 (wp_seq_k fun K31 hK31 => cT rfl (wp_skip (xN (hK31 _ _ (wp_seq_k fun K32 hK32 => wp_block (rS fun K33 hK33 => sMi rfl ?_)))))))
      have hR34 := hE6.rx hF19
      have h35 := (hf.frmB hR34 q3)
      obtain ⟨b36, o37, rfl⟩ := h35.base (by omega)
      refine sV (evIx k Tryz.underlying46 sz26 rfl rfl (o37 + k)) ?_
      have hd38 := h35.lt k
      refine sV (evLoad one26 rfl (h35.cell (by omega))) (sAi rfl (sAi rfl (sK hK33 (wp_region_lit (sMs rfl (sMi rfl (sMi rfl (sMi rfl (sO (oCall rfl call96 (modular_Symmetric (xa := df.getD k 0) (by omega) (xm := xm) (by omega) (by omega)) rfl ?_))))))))))
      rintro _ w40 ⟨xr_39, rfl, hE41, e_39, b_39⟩
      have hz42 := hE41.size
      refine sO (oCall rfl call35 (integer_Of (by omega)) rfl ?_)
      rintro _ w44 ⟨gr_43, Ar_43, nr_43, cr_43, dr_43, rfl, hE45, hr_43, v_43, cn_43, le_43⟩
      have hz46 := hE45.size
      have ⟨lr_43, kr_43, mr_43⟩ := hr_43.lkm
      refine sV (evIx k Tryz.underlying39 sz25 rfl rfl (k * 2)) ?_
      have hR48 := hE41.trans hE45
      have hB49 := (hB20.ext hR48)
      refine sO (oStore [(.bool gr_43), (.slice Ar_43 nr_43 cr_43)] rfl rfl rfl sz25 rfl hB49 (by rw [cellsI_len]; simp only [List.length_cons, List.length_nil]; exact lq) (fun w50 hU51 hz52 hB53 => ?_))
      replace hB53 := (cellsI_set (l := L ++ List.replicate (nf - k) RI.zero) (i := k) ⟨gr_43, Ar_43, nr_43, cr_43, dr_43⟩ (by exact lq)) ▸ hB53
      replace hB53 : Blk w50 g3 25 (cellsI ((L ++ [⟨gr_43, Ar_43, nr_43, cr_43, dr_43⟩]) ++ List.replicate (nf - (k + 1)) RI.zero)) := (fillI_set hL (by omega) : (L ++ List.replicate (nf - k) RI.zero).set k ⟨gr_43, Ar_43, nr_43, cr_43, dr_43⟩ = (L ++ [⟨gr_43, Ar_43, nr_43, cr_43, dr_43⟩]) ++ List.replicate (nf - (k + 1)) RI.zero) ▸ hB53
      refine sDone (bN (xN (hK32 _ _ (wp_region_lit (sV (evAdd (((k : Int)) + 1) rfl rfl wI) (sMi rfl (sDone ?_)))))))
      have hR54 := hR48.rx hU51
      have h55 := (hA.frmB hR54 q3)
      have h56 := (hr_43.frmB hU51 q3)
      refine again (nf - (k + 1)) (by omega) ⟨(k + 1), (L ++ [⟨gr_43, Ar_43, nr_43, cr_43, dr_43⟩]), rfl, rfl, rfl, rfl, rfl, cI, (hF19.trans hR54), ?_, ?_, ?_, ?_, ?_, ?_⟩
      · exact hB53
      · omega
      · simp [hL]
      · exact AllN.snoc h55 (NatR.sub h56 q5) (by (try dsimp only); omega)
      · exact zs_snoc hz (by show zval _ _ = _; rw [v_43, e_39])
      · exact AllC.snoc hC cn_43
    · refine sV (evLss false rfl rfl (dF hc30)) (sK hK29 (wp_seq_k fun K57 hK57 => cF rfl (wp_exit (xE (xE (bE (xN (hK10 _ _ (rS fun K58 hK58 => sMs rfl ?_)))))))))
      have h59 : PolyR w13 (fun b => g3 ≤ b) (some ⟨g3, 0, none⟩) nf nf (L ++ List.replicate (nf - k) RI.zero) (2) := PolyR.of_blk hB20 (AllN.app (AllN.sub hA q5) (AllN.zeros _)) (by (try dsimp only); omega) (by exact lq) (by omega) (by unfold CapMax; omega)
      refine sO (oCall rfl call97 (unipoly_Normal h59 (by omega) (by omega)) rfl ?_)
      rintro _ w61 ⟨qr_60, nr_60, lr_60, rfl, hE62, hgr_60, Br_60, hAr_60, kr_60, mr_60, e_60, ln_60, cn_60⟩
      have hz63 := hE62.size
      have hhr_60 : w13.heap.size ≤ qr_60 := hgr_60; have ltr_60 := Br_60.lt
      refine sAs rfl (sK hK58 (wp_ret (ret1 (.slice (some ⟨qr_60, 0, none⟩) nr_60 nr_60) Tryz.results58 (resT rfl) ?_)))
      have h65 : PolyR w61 (fun b => qr_60 ≤ b) (some ⟨qr_60, 0, none⟩) nr_60 nr_60 (lr_60) ((2)) := PolyR.of_blk Br_60 (AllN.sub hAr_60 q5) (by (try dsimp only); omega) (by exact lq) (by omega) (by unfold CapMax; omega)
      have hR66 := (hE6.rx hF19).xr hE62
      exact ⟨(some ⟨qr_60, 0, none⟩), nr_60, nr_60, lr_60, rfl, (Frm.mono hR66 q4), (PolyR.le (PolyR.sub h65 q5) (by omega)), (by rw [e_60, show nf - k = 0 by omega, List.replicate_zero, List.append_nil, sym_range hz (by omega)]), (by omega), cn_60⟩
end Go.Proofs.YtneolcopompkaaaGreatDoor
