/-
  Walks of package modpoly: division, greatest common divisors, cofactors.
-/
import Derived.Test.YtneolcopompkaaaGreatDoorMod2
namespace Go.Proofs.YtneolcopompkaaaGreatDoor
open Go.RowKit Go.Gx
theorem modpoly_monic {w : World} {Sf : Nat → Prop} {Af : Option Addr} {nf cf : Nat} {df : List Nat} {xp : Nat} (hf : NatR w Sf Af nf cf df) (bp : xp < 4294967296) (hnf : nf ≤ 1048576) (hp : xp = 2 ∨ xp = 3 ∨ xp = 5 ∨ xp = 7) (hcf : CanP xp df) : Calls Tryz.prog 80 #[(.slice Af nf cf), (.int .u32 ((xp : Int)))] w (Ret fun v w' => ∃ (Ar : Option Addr) (nr : Nat) (cr : Nat) (dr : List Nat), v = (.slice Ar nr cr) ∧ Ext w w' ∧ NatR w' (fun b => w.heap.size ≤ b) Ar nr cr dr ∧ (dr = monicP xp df) ∧ (nr ≤ nf) ∧ (CanP xp dr)) := by
  have ⟨lf, kf, mf⟩ := hf.lkm
  replace hf := hf.low
  refine enter Tryz.func80 rfl Tryz.ntmps80 rfl ?_
  have hpr := prime4N hp
  refine rS fun K1 hK1 => sAs rfl (sK hK1 (wp_seq_k fun K2 hK2 => rS fun K3 hK3 => sMs rfl (sV (evLen Tryz.underlying46 rfl) ?_)))
  by_cases hc4 : ((nf : Int)) = 0
  · refine sV (evEql true rfl rfl (dT hc4)) (sK hK3 (cT rfl (rS fun K5 hK5 => sAs rfl (sK hK5 (wp_ret (xR (ret1 (.slice none 0 0) Tryz.results80 (resT rfl) ?_)))))))
    exact ⟨none, 0, 0, ([]), rfl, (Frm.refl _ _), NatR.nil, (by unfold monicP; rw [if_pos (by omega)]), (by omega), CanP.nil⟩
  · refine sV (evEql false rfl rfl (dF hc4)) (sK hK3 (cF rfl (wp_skip (xN (hK2 _ _ (rS fun K6 hK6 => sMs rfl (sMs rfl (sV (evLen Tryz.underlying46 rfl) (sV (evSub (((nf : Int)) - 1) rfl rfl wI) ?_)))))))))
    obtain ⟨b7, o8, rfl⟩ := hf.base (by omega)
    refine sV (evIx (nf - 1) Tryz.underlying46 sz26 rfl rfl (o8 + (nf - 1))) ?_
    have hd9 := hf.lt (nf - 1)
    refine sV (evLoad one26 rfl (hf.cell (by omega))) (sMi rfl (sO (oCall rfl call118 (modular_Inverse (xa := df.getD (nf - 1) 0) (by omega) (xm := xp) (by omega) (by omega) (by have h9 := monic_co hpr hcf (by omega); rw [lf] at h9; exact h9)) rfl ?_)))
    rintro _ w11 ⟨xr_10, xo_10, rfl, hE12, br_10, z_10, e_10, lt_10⟩
    have hz13 := hE12.size
    refine sV (v := (.tuple #[(.int .u32 ((xr_10 : Int))), (.int .i64 (xo_10))])) (rfl) (sV (v := (.int .u32 ((xr_10 : Int)))) (rfl) (sV (v := (.int .i64 (xo_10))) (rfl) (sAi rfl (sAi rfl (sK hK6 (rS fun K14 hK14 => sMs rfl (sMi rfl (sMi rfl ?_))))))))
    have h15 := (hf.ext hE12)
    refine sO (oCall rfl call40 (modpoly_Scale h15 (xc := xr_10) (by omega) (xm := xp) (by omega) (by omega) (by omega)) rfl ?_)
    rintro _ w17 ⟨Ar_16, nr_16, cr_16, dr_16, rfl, hE18, hr_16, e_16, le_16, zr_16⟩
    have hz19 := hE18.size
    have ⟨lr_16, kr_16, mr_16⟩ := hr_16.lkm
    refine sAs rfl (sK hK14 (wp_ret (ret1 (.slice Ar_16 nr_16 cr_16) Tryz.results80 (resT rfl) ?_)))
    have hR21 := hE12.trans hE18
    exact ⟨Ar_16, nr_16, cr_16, dr_16, rfl, hR21, (NatR.sub hr_16 q5), (by rw [e_16, e_10]; unfold monicP leadP; rw [if_neg (by omega), lf]), (by omega), zr_16⟩
theorem modpoly_Monic {w : World} {Sf : Nat → Prop} {Af : Option Addr} {nf cf : Nat} {df : List Nat} {xp : Nat} (hf : NatR w Sf Af nf cf df) (bp : xp < 4294967296) (hnf : nf ≤ 1048576) (hp : xp = 2 ∨ xp = 3 ∨ xp = 5 ∨ xp = 7) : Calls Tryz.prog 55 #[(.slice Af nf cf), (.int .u32 ((xp : Int)))] w (Ret fun v w' => ∃ (Ar : Option Addr) (nr : Nat) (cr : Nat) (dr : List Nat) (xo : Int), v = (.tuple #[(.slice Ar nr cr), (.int .i64 (xo))]) ∧ Ext w w' ∧ NatR w' (fun b => w.heap.size ≤ b) Ar nr cr dr ∧ (xo = 0) ∧ (dr = monicP xp (nrmP xp df)) ∧ (nr ≤ nf) ∧ (CanP xp dr)) := by
  have ⟨lf, kf, mf⟩ := hf.lkm
  replace hf := hf.low
  refine enter Tryz.func55 rfl Tryz.ntmps55 rfl (rS fun K1 hK1 => sAs rfl (sAi rfl (sK hK1 (wp_seq_k fun K2 hK2 => rS fun K3 hK3 => sMi rfl (sO (oCall rfl call54 (modular_IsPrime (xn := xp) (by omega) (by assumption)) rfl ?_))))))
  rintro _ w5 ⟨gr_4, rfl, hE6, e_4⟩
  have hz7 := hE6.size
  obtain rfl : gr_4 = true := e_4
  refine sV (evNot _ rfl rfl) (sK hK3 (cF rfl (wp_skip (xN (hK2 _ _ (rS fun K8 hK8 => sMs rfl (sMi rfl ?_)))))))
  have h9 := (hf.ext hE6)
  refine sO (oCall rfl call77 (modpoly_Normal h9 (xm := xp) (by omega) (by omega) (by omega)) rfl ?_)
  rintro _ w11 ⟨Ar_10, nr_10, cr_10, dr_10, rfl, hE12, hr_10, e_10, le_10, zr_10⟩
  have hz13 := hE12.size
  have ⟨lr_10, kr_10, mr_10⟩ := hr_10.lkm
  refine sMi rfl (sO (oCall rfl call80 (modpoly_monic hr_10 (xp := xp) (by omega) (by omega) hp zr_10) rfl ?_))
  rintro _ w16 ⟨Ar_15, nr_15, cr_15, dr_15, rfl, hE17, hr_15, e_15, le_15, zr_15⟩
  have hz18 := hE17.size
  have ⟨lr_15, kr_15, mr_15⟩ := hr_15.lkm
  refine sAs rfl (sAi rfl (sK hK8 (wp_ret (ret2 (.slice Ar_15 nr_15 cr_15) (.int .i64 (0)) Tryz.results55 (resT rfl) (resT rfl) ?_))))
  have hR20 := (hE6.trans hE12).trans hE17
  exact ⟨Ar_15, nr_15, cr_15, dr_15, (0), rfl, hR20, (NatR.sub hr_15 q5), rfl, (by rw [e_15, e_10]), (by omega), zr_15⟩
set_option maxHeartbeats 2000000 in
theorem modpoly_divide {w : World} {Sf : Nat → Prop} {Af : Option Addr} {nf cf : Nat} {df : List Nat} {Sg : Nat → Prop} {Ag : Option Addr} {ng cg : Nat} {dg : List Nat} {xp : Nat} (hf : NatR w Sf Af nf cf df) (hg : NatR w Sg Ag ng cg dg) (bp : xp < 4294967296) (hnf : nf ≤ 1048576) (hng : ng ≤ 1048576) (hp : xp = 2 ∨ xp = 3 ∨ xp = 5 ∨ xp = 7) (hcf : CanP xp df) (hcg : CanP xp dg) (hng0 : 0 < ng) : Calls Tryz.prog 117 #[(.slice Af nf cf), (.slice Ag ng cg), (.int .u32 ((xp : Int)))] w (Ret fun v w' => ∃ (Aq : Option Addr) (nq : Nat) (cq : Nat) (dq : List Nat) (Ar : Option Addr) (nr : Nat) (cr : Nat) (dr : List Nat), v = (.tuple #[(.slice Aq nq cq), (.slice Ar nr cr)]) ∧ Ext w w' ∧ NatR w' (fun b => w.heap.size ≤ b) Aq nq cq dq ∧ NatR w' (fun b => w.heap.size ≤ b) Ar nr cr dr ∧ (divP xp df dg = (dq, dr)) ∧ (CanP xp dq) ∧ (CanP xp dr) ∧ (nr < ng) ∧ (nq ≤ nf + 1 - ng) ∧ (nr ≤ nf) ∧ (ng ≤ nf → 0 < nq)) := by
  have ⟨lf, kf, mf⟩ := hf.lkm
  replace hf := hf.low
  have ⟨lg, kg, mg⟩ := hg.lkm
  replace hg := hg.low
  refine enter Tryz.func117 rfl Tryz.ntmps117 rfl ?_
  have hpr := prime4N hp
  refine rS fun K1 hK1 => sAs rfl (sAs rfl (sK hK1 (rS fun K2 hK2 => sMs rfl (sV (evLen Tryz.underlying46 rfl) (sO (oMake1 nf Tryz.underlying46 inf26 rfl cI cI (by omega) (by omega) (fun g3 w4 hg5 hE6 hz7 hB8 => ?_)))))))
  have hB9 : Blk w4 g3 26 (((List.replicate nf 0)).map u32) := by rw [List.map_replicate]; exact hB8
  refine sAs rfl (sK hK2 (rS fun K10 hK10 => sMs rfl (sMs rfl ?_)))
  have h11 := (hf.ext hE6)
  refine sO (oCopy Tryz.underlying46 sz26 rfl rfl h11.1 (u32s_one _) hB9 (by omega) (by exact lq) (fun w12 hU13 hz14 hB15 => ?_))
  replace hB15 : Blk w12 g3 26 ((df).map u32) := by rw [← (by simp [lf] : (List.replicate nf 0).take 0 ++ df ++ (List.replicate nf 0).drop (0 + nf) = df), List.map_append, List.map_append, List.map_take, List.map_drop]; exact hB15
  rw [put_mkA]
  refine sK hK10 (rS fun K16 hK16 => sMs rfl (sV (evLen Tryz.underlying46 rfl) (sV (evSub (((ng : Int)) - 1) rfl rfl wI) (sAi rfl (sK hK16 (wp_seq_k fun K17 hK17 => rS fun K18 hK18 => sMs rfl (sV (evLen Tryz.underlying46 rfl) (sMi rfl ?_))))))))
  by_cases hc19 : ((nf : Int)) ≤ (((ng : Int)) - 1)
  · refine sV (evLeq true rfl rfl (dT hc19)) (sK hK18 (cT rfl (rS fun K20 hK20 => sMs rfl (sAs rfl (sAs rfl (sK hK20 (wp_ret (xR (ret2 (.slice none 0 0) (.slice (some ⟨g3, 0, none⟩) nf nf) Tryz.results117 (resT rfl) (resT rfl) ?_)))))))))
    have he9 : divP xp df dg = ([], df) := (by unfold divP; rw [if_pos (by omega)])
    have ⟨k1, k2, k3, k4, k5, k6⟩ := divP_can2 hpr hcf hcg (by omega) he9
    have h21 : NatR w12 (fun b => b = g3) (some ⟨g3, 0, none⟩) nf nf (df) := NatR.of_blk hB15 rfl hf.2 (by exact lq) (by omega) (by unfold CapMax; omega)
    have hR22 := hE6.rx hU13
    exact ⟨none, 0, 0, ([]), (some ⟨g3, 0, none⟩), nf, nf, df, rfl, (Frm.mono hR22 q4), NatR.nil, (NatR.sub h21 q5), he9, k1, k2, (by (try simp only [List.length_nil] at *); omega), (by (try simp only [List.length_nil] at *); omega), (by (try simp only [List.length_nil] at *); omega), (fun h9 => by have h8 := k6 (by omega); (try simp only [List.length_nil] at *); omega)⟩
  · refine sV (evLeq false rfl rfl (dF hc19)) (sK hK18 (cF rfl (wp_skip (xN (hK17 _ _ (rS fun K23 hK23 => sMs rfl (sMi rfl ?_)))))))
    have hR24 := hE6.rx hU13
    have h25 := (hg.frmB hR24 q3)
    obtain ⟨b26, o27, rfl⟩ := h25.base (by omega)
    refine sV (evIx (ng - 1) Tryz.underlying46 sz26 rfl rfl (o27 + (ng - 1))) ?_
    have hd28 := h25.lt (ng - 1)
    refine sV (evLoad one26 rfl (h25.cell (by omega))) (sMi rfl (sO (oCall rfl call118 (modular_Inverse (xa := dg.getD (ng - 1) 0) (by omega) (xm := xp) (by omega) (by omega) (by have h9 := monic_co hpr hcg (by omega); rw [lg] at h9; exact h9)) rfl ?_)))
    rintro _ w30 ⟨xr_29, xo_29, rfl, hE31, br_29, z_29, e_29, lt_29⟩
    have hz32 := hE31.size
    refine sV (v := (.tuple #[(.int .u32 ((xr_29 : Int))), (.int .i64 (xo_29))])) (rfl) (sV (v := (.int .u32 ((xr_29 : Int)))) (rfl) (sV (v := (.int .i64 (xo_29))) (rfl) (sAi rfl (sAi rfl (sK hK23 (rS fun K33 hK33 => sMs rfl (sV (evLen Tryz.underlying46 rfl) (sMi rfl (sV (evSub (((nf : Int)) - (((ng : Int)) - 1)) rfl rfl wI) (sO (oMake1 (nf - (ng - 1)) Tryz.underlying46 inf26 rfl cI cI (by omega) (by omega) (fun g34 w35 hg36 hE37 hz38 hB39 => ?_))))))))))))
    have hB40 : Blk w35 g34 26 (((List.replicate (nf - (ng - 1)) 0)).map u32) := by rw [List.map_replicate]; exact hB39
    refine sAs rfl (sK hK33 (wp_seq_k fun K41 hK41 => rS fun K42 hK42 => sMs rfl (sV (evLen Tryz.underlying46 rfl) (sMi rfl (sK hK42 (wp_block ?_))))))
    have hR44 := hE31.trans hE37
    have hB45 := (hB15.ext hR44)
    refine lLoop (fun m e w_ => ∃ (k : Nat) (Q : List Nat) (R : List Nat), m = (nf - (ng - 1)) - k ∧ e 1 = (.slice (some ⟨b26, o27, none⟩) ng cg) ∧ e 2 = (.int .u32 ((xp : Int))) ∧ e 6 = (.slice (some ⟨g34, 0, none⟩) (nf - (ng - 1)) (nf - (ng - 1))) ∧ e 7 = (.slice (some ⟨g3, 0, none⟩) nf nf) ∧ e 8 = (.int .i64 (((ng : Int)) - 1)) ∧ e 9 = (.int .u32 ((xr_29 : Int))) ∧ e 46 = (.int .i64 (((nf - (ng - 1) : Nat) : Int))) ∧ e 47 = (.int .i64 ((k : Int))) ∧ Frm (fun b => b = g34 ∨ b = g3) w35 w_ ∧ Blk w_ g34 26 (Q.map u32) ∧ Blk w_ g3 26 (R.map u32) ∧ (k ≤ (nf - (ng - 1))) ∧ (Q.length = (nf - (ng - 1))) ∧ (R.length = nf) ∧ (∀ d ∈ Q, d < xp) ∧ (∀ d ∈ R, d < xp) ∧ (divGo xp xr_29 dg ((nf - (ng - 1)) - k) (Q, R) = divGo xp xr_29 dg (nf - (ng - 1)) (List.replicate (nf - (ng - 1)) 0, df))) ((nf - (ng - 1)) - (0)) ?_ ?_
    · refine ⟨(0), (List.replicate (nf - (ng - 1)) 0), (df), rfl, rfl, rfl, rfl, rfl, rfl, rfl, rfl, cI, (Frm.refl _ _), ?_, ?_, ?_, ?_, ?_, ?_, ?_, ?_⟩
      · exact hB40
      · exact hB45
      · omega
      · simp
      · exact lf
      · intro d hd; rw [List.eq_of_mem_replicate hd]; omega
      · exact hcf.1
      · rfl
    · rintro m43 e59 w46 ⟨k, Q, R, hm58, hs47, hs48, hs49, hs50, hs51, hs52, hs53, hs54, hF55, hB56, hB57, hk, hQl, hRl, hQt, hRt, hG⟩
      obtain ⟨r60, rfl⟩ := sq (e := e59) (t := 1) hs47
      obtain ⟨r61, rfl⟩ := sq (e := r60) (t := 2) hs48
      obtain ⟨r62, rfl⟩ := sq (e := r61) (t := 6) hs49
      obtain ⟨r63, rfl⟩ := sq (e := r62) (t := 7) hs50
      obtain ⟨r64, rfl⟩ := sq (e := r63) (t := 8) hs51
      obtain ⟨r65, rfl⟩ := sq (e := r64) (t := 9) hs52
      obtain ⟨r66, rfl⟩ := sq (e := r65) (t := 46) hs53
      obtain ⟨r67, rfl⟩ := sq (e := r66) (t := 47) hs54
      have hz68 := hF55.size
      refine rS fun K69 hK69 => ?_
      by_cases hc70 : ((k : Int)) < (((nf - (ng - 1) : Nat) : Int))
      · refine sV (evLss true rfl rfl (dT hc70)) (sK hK69 (wp_seq_k fun K71 hK71 => cT rfl (wp_skip (xN (hK71 _ _ (wp_seq_k fun K72 hK72 => wp_block (rS fun K73 hK73 => sMi rfl (sAi rfl (sK hK73 (rS fun K74 hK74 => sMs rfl (sV (evLen Tryz.underlying46 rfl) (sV (evSub ((((nf - (ng - 1) : Nat) : Int)) - 1) rfl rfl wI) (sMi rfl (sV (evSub (((((nf - (ng - 1) : Nat) : Int)) - 1) - ((k : Int))) rfl rfl wI) (sAi rfl (sK hK74 (rS fun K75 hK75 => sMs rfl (sMi rfl (sMi rfl (sV (evAdd ((((((nf - (ng - 1) : Nat) : Int)) - 1) - ((k : Int))) + (((ng : Int)) - 1)) rfl rfl wI) (sV (evIx ((((nf - (ng - 1)) - 1) - k) + (ng - 1)) Tryz.underlying46 sz26 rfl rfl ((((nf - (ng - 1)) - 1) - k) + (ng - 1))) ?_)))))))))))))))))))))
        have hd76 := getD_lt (ds := R) (i := (((nf - (ng - 1)) - 1) - k) + (ng - 1)) (lt_BS bp hRt)
        refine sV (evLoad one26 rfl (hB57.dig (by exact lq))) (sMi rfl (sMi rfl (sO (oCall rfl call84 (modular_Mul (xa := R.getD ((((nf - (ng - 1)) - 1) - k) + (ng - 1)) 0) (by omega) (xb := xr_29) (by omega) (xm := xp) (by omega) (by omega)) rfl ?_))))
        rintro _ w78 ⟨xr_77, rfl, hE79, br_77, e_77⟩
        have hz80 := hE79.size
        have h63 : xr_77 < xp := (by rw [e_77]; exact Nat.mod_lt _ (by omega)); have h63e : xr_77 = R.getD ((nf - (ng - 1)) - 1 - k + (dg.length - 1)) 0 * xr_29 % xp := (by rw [e_77, lg])
        refine sAi rfl (sK hK75 (rS fun K81 hK81 => sMs rfl (sMi rfl (sMi rfl (sV (evIx (((nf - (ng - 1)) - 1) - k) Tryz.underlying46 sz26 rfl rfl (((nf - (ng - 1)) - 1) - k)) ?_)))))
        have hB82 := (hB56.ext hE79)
        refine sO (oStore1 rfl rfl rfl sz26 hB82 (by exact lq) (fun w83 hU84 hz85 hB86 => ?_))
        replace hB86 : Blk w83 g34 26 ((Q.set ((nf - (ng - 1)) - 1 - k) xr_77).map u32) := by rw [List.map_set]; exact hB86
        refine sK hK81 (wp_seq_k fun K87 hK87 => rS fun K88 hK88 => sMi rfl ?_)
        by_cases hc89 : ((xr_77 : Int)) = 0
        · refine sV (evEql true rfl rfl (dT hc89)) (sK hK88 (cT rfl (wp_exit (xE (bE (xN (hK72 _ _ (wp_region_lit (sV (evAdd (((k : Int)) + 1) rfl rfl wI) (sMi rfl (sDone ?_)))))))))))
          have hR90 := hE79.rx hU84
          have hB91 := (hB57.frm hR90 q1)
          refine again ((nf - (ng - 1)) - (k + 1)) (by omega) ⟨(k + 1), (Q.set ((nf - (ng - 1)) - 1 - k) xr_77), (R), rfl, rfl, rfl, rfl, rfl, rfl, rfl, rfl, cI, (Frm.mono (hF55.tr hR90) q4), ?_, ?_, ?_, ?_, ?_, ?_, ?_, ?_⟩
          · exact hB86
          · exact hB91
          · omega
          · simp [hQl]
          · exact hRl
          · exact lt_set hQt h63
          · exact hRt
          · rw [show (nf - (ng - 1)) - (k + 1) = (nf - (ng - 1)) - 1 - k by omega]; exact div_zero hG (by omega) h63e (by omega)
        · refine sV (evEql false rfl rfl (dF hc89)) (sK hK88 (cF rfl (wp_skip (xN (hK87 _ _ (rS fun K92 hK92 => sMi rfl (sMi rfl (sV (evSub (((xp - xr_77 : Nat) : Int)) rfl rfl (wU32 (by omega))) (sV (evConv (((xp - xr_77 : Nat) : Int)) Tryz.underlying26 Tryz.underlying100 rfl (wU64 (by omega))) (sAi rfl (sK hK92 (rS fun K93 hK93 => sMs rfl (sV (evLen Tryz.underlying46 rfl) (sMi rfl (sK hK93 (wp_block ?_))))))))))))))))
          have hR95 := hE79.rx hU84
          have hB96 := (hB57.frm hR95 q1)
          refine lLoop (fun m e w_ => ∃ (j : Nat), m = ng - j ∧ e 1 = (.slice (some ⟨b26, o27, none⟩) ng cg) ∧ e 2 = (.int .u32 ((xp : Int))) ∧ e 6 = (.slice (some ⟨g34, 0, none⟩) (nf - (ng - 1)) (nf - (ng - 1))) ∧ e 7 = (.slice (some ⟨g3, 0, none⟩) nf nf) ∧ e 8 = (.int .i64 (((ng : Int)) - 1)) ∧ e 9 = (.int .u32 ((xr_29 : Int))) ∧ e 12 = (.int .i64 (((((nf - (ng - 1) : Nat) : Int)) - 1) - ((k : Int)))) ∧ e 14 = (.int .u64 (((xp - xr_77 : Nat) : Int))) ∧ e 46 = (.int .i64 (((nf - (ng - 1) : Nat) : Int))) ∧ e 47 = (.int .i64 ((k : Int))) ∧ e 74 = (.slice (some ⟨b26, o27, none⟩) ng cg) ∧ e 75 = (.int .i64 ((ng : Int))) ∧ e 76 = (.int .i64 ((j : Int))) ∧ Frm (fun b => b = g3) w83 w_ ∧ Blk w_ g3 26 ((addAt xp dg ((nf - (ng - 1)) - 1 - k) (xp - xr_77) j R).map u32) ∧ (j ≤ ng)) (ng - (0)) ?_ ?_
          · refine ⟨(0), rfl, rfl, rfl, rfl, rfl, rfl, rfl, rfl, rfl, rfl, rfl, rfl, rfl, cI, (Frm.refl _ _), ?_, ?_⟩
            · rw [addAt_zero]; exact hB96
            · omega
          · rintro m94 e114 w97 ⟨j, hm113, hs98, hs99, hs100, hs101, hs102, hs103, hs104, hs105, hs106, hs107, hs108, hs109, hs110, hF111, hB112, hj⟩
            obtain ⟨r115, rfl⟩ := sq (e := e114) (t := 1) hs98
            obtain ⟨r116, rfl⟩ := sq (e := r115) (t := 2) hs99
            obtain ⟨r117, rfl⟩ := sq (e := r116) (t := 6) hs100
            obtain ⟨r118, rfl⟩ := sq (e := r117) (t := 7) hs101
            obtain ⟨r119, rfl⟩ := sq (e := r118) (t := 8) hs102
            obtain ⟨r120, rfl⟩ := sq (e := r119) (t := 9) hs103
            obtain ⟨r121, rfl⟩ := sq (e := r120) (t := 12) hs104
            obtain ⟨r122, rfl⟩ := sq (e := r121) (t := 14) hs105
            obtain ⟨r123, rfl⟩ := sq (e := r122) (t := 46) hs106
            obtain ⟨r124, rfl⟩ := sq (e := r123) (t := 47) hs107
            obtain ⟨r125, rfl⟩ := sq (e := r124) (t := 74) hs108
            obtain ⟨r126, rfl⟩ := sq (e := r125) (t := 75) hs109
            obtain ⟨r127, rfl⟩ := sq (e := r126) (t := 76) hs110
            have hz128 := hF111.size
            have hAl : (addAt xp dg ((nf - (ng - 1)) - 1 - k) (xp - xr_77) j R).length = nf := addAt_len.trans hRl
            refine rS fun K129 hK129 => ?_
            by_cases hc130 : ((j : Int)) < ((ng : Int))
            · refine sV (evLss true rfl rfl (dT hc130)) (sK hK129 (wp_seq_k fun K131 hK131 => cT rfl (wp_skip (xN (hK131 _ _ (wp_seq_k fun K132 hK132 => wp_block (rS fun K133 hK133 => sMi rfl (sV (evIx j Tryz.underlying46 sz26 rfl rfl (o27 + j)) ?_))))))))
              have hR134 := (((hR44.rx hF55).xr hE79).tr hU84).tr hF111
              have h135 := (h25.frmB hR134 q3)
              have hd136 := h135.lt j
              refine sV (evLoad one26 rfl (h135.cell (by omega))) (sAi rfl (sAi rfl (sK hK133 (dBegin (fun b => b = g3) mixed (fun w137 hE138 hz139 => dMs 0 rfl rfl (dMi 1 rfl rfl (dMi 2 rfl rfl (dV 3 rfl (fun _ _ => evAdd ((((((nf - (ng - 1) : Nat) : Int)) - 1) - ((k : Int))) + ((j : Int))) rfl rfl wI) (dMs 4 rfl rfl (dMi 5 rfl rfl (dMi 6 rfl rfl (dV 7 rfl (fun _ _ => evAdd ((((((nf - (ng - 1) : Nat) : Int)) - 1) - ((k : Int))) + ((j : Int))) rfl rfl wI) (dV 8 rfl (fun _ _ => evIx ((((nf - (ng - 1)) - 1) - k) + j) Tryz.underlying46 sz26 rfl rfl ((((nf - (ng - 1)) - 1) - k) + j)) (dMi 11 rfl rfl (dMi 12 rfl rfl (dV 13 rfl (fun _ _ => evConv (((dg.getD j 0 : Nat) : Int)) Tryz.underlying26 Tryz.underlying100 rfl (wU64 (by omega))) ?_))))))))))))))))
              refine dV 14 rfl (fun _ _ => evMul ((((xp - xr_77) * (dg.getD j 0) : Nat) : Int)) rfl rfl (mulU64 (mul32_le (by omega) (by omega)))) (dMi 15 rfl rfl (dV 16 rfl (fun _ _ => evConv ((xp : Int)) Tryz.underlying26 Tryz.underlying100 rfl (wU64 (by omega))) (dV 17 rfl (fun _ _ => evRem (((((xp - xr_77) * (dg.getD j 0)) % xp : Nat) : Int)) rfl rfl (by omega) (remE (by omega) (by omega))) ?_)))
              have h98 := Nat.mod_lt ((xp - xr_77) * (dg.getD j 0)) (show 0 < xp by omega)
              refine dMi 19 rfl rfl (dV 20 rfl (fun _ _ => evConv ((xp : Int)) Tryz.underlying26 Tryz.underlying100 rfl (wU64 (by omega))) ?_)
              have hB140 := (hB112.ext hE138)
              have hd141 := getD_lt (ds := addAt xp dg ((nf - (ng - 1)) - 1 - k) (xp - xr_77) j R) (i := (((nf - (ng - 1)) - 1) - k) + j) (lt_BS bp (addAt_lt hRt (by omega)))
              refine dOp 9 rfl rfl (by kernel_rfl) (oEv (v := (.int .u32 ((((addAt xp dg ((nf - (ng - 1)) - 1 - k) (xp - xr_77) j R).getD ((((nf - (ng - 1)) - 1) - k) + j) 0 : Nat) : Int)))) (evLoad one26 rfl (hB140.dig (by exact lq))) rfl ⟨Frm.refl _ _, dV 10 rfl (fun _ _ => evConv ((((addAt xp dg ((nf - (ng - 1)) - 1 - k) (xp - xr_77) j R).getD ((((nf - (ng - 1)) - 1) - k) + j) 0 : Nat) : Int)) Tryz.underlying26 Tryz.underlying100 rfl (wU64 (by omega))) (dV 18 rfl (fun _ _ => evAdd (((((addAt xp dg ((nf - (ng - 1)) - 1 - k) (xp - xr_77) j R).getD ((((nf - (ng - 1)) - 1) - k) + j) 0) + (((xp - xr_77) * (dg.getD j 0)) % xp) : Nat) : Int)) rfl rfl (wU64 (by omega))) (dV 21 rfl (fun _ _ => evRem ((((((addAt xp dg ((nf - (ng - 1)) - 1 - k) (xp - xr_77) j R).getD ((((nf - (ng - 1)) - 1) - k) + j) 0) + (((xp - xr_77) * (dg.getD j 0)) % xp)) % xp : Nat) : Int)) rfl rfl (by omega) (remE (by omega) (by omega))) ?_))⟩)
              have h102 := Nat.mod_lt ((((addAt xp dg ((nf - (ng - 1)) - 1 - k) (xp - xr_77) j R).getD ((((nf - (ng - 1)) - 1) - k) + j) 0) + (((xp - xr_77) * (dg.getD j 0)) % xp))) (show 0 < xp by omega)
              refine dV 22 rfl (fun _ _ => evConv ((((((addAt xp dg ((nf - (ng - 1)) - 1 - k) (xp - xr_77) j R).getD ((((nf - (ng - 1)) - 1) - k) + j) 0) + (((xp - xr_77) * (dg.getD j 0)) % xp)) % xp : Nat) : Int)) Tryz.underlying100 Tryz.underlying26 rfl (wU32 ⟨rfl, by omega, by omega⟩)) (dV 23 rfl (fun _ _ => evIx ((((nf - (ng - 1)) - 1) - k) + j) Tryz.underlying46 sz26 rfl rfl ((((nf - (ng - 1)) - 1) - k) + j)) (dOp 24 rfl rfl (by kernel_rfl) (oStore1 rfl rfl rfl sz26 hB140 (by exact lq) (fun w142 hU143 hz144 hB145 => ?_))))
              replace hB145 : Blk w142 g3 26 ((addAt xp dg ((nf - (ng - 1)) - 1 - k) (xp - xr_77) (j + 1) R).map u32) := by rw [← (addAt_step (by omega) rfl : (addAt xp dg ((nf - (ng - 1)) - 1 - k) (xp - xr_77) j R).set ((((nf - (ng - 1)) - 1) - k) + j) ((((addAt xp dg ((nf - (ng - 1)) - 1 - k) (xp - xr_77) j R).getD ((((nf - (ng - 1)) - 1) - k) + j) 0) + (((xp - xr_77) * (dg.getD j 0)) % xp)) % xp) = addAt xp dg ((nf - (ng - 1)) - 1 - k) (xp - xr_77) (j + 1) R), List.map_set]; exact hB145
              refine ⟨hU143, dDone (by kernel_rfl) (bN (xN (hK132 _ _ (wp_region_lit (sV (evAdd (((j : Int)) + 1) rfl rfl wI) (sMi rfl (sDone ?_)))))))⟩
              have hR146 := hE138.rx hU143
              refine again (ng - (j + 1)) (by omega) ⟨(j + 1), rfl, rfl, rfl, rfl, rfl, rfl, rfl, rfl, rfl, rfl, rfl, rfl, rfl, cI, (hF111.trans hR146), ?_, ?_⟩
              · exact hB145
              · omega
            · refine sV (evLss false rfl rfl (dF hc130)) (sK hK129 (wp_seq_k fun K147 hK147 => cF rfl (wp_exit (xE (xE (bE (bN (xN (hK72 _ _ (wp_region_lit (sV (evAdd (((k : Int)) + 1) rfl rfl wI) (sMi rfl (sDone ?_)))))))))))))
              have hR148 := hR95.tr hF111
              have hB149 := (hB86.frm hF111 q1)
              refine again ((nf - (ng - 1)) - (k + 1)) (by omega) ⟨(k + 1), (Q.set ((nf - (ng - 1)) - 1 - k) xr_77), (addAt xp dg ((nf - (ng - 1)) - 1 - k) (xp - xr_77) j R), rfl, rfl, rfl, rfl, rfl, rfl, rfl, rfl, cI, (Frm.mono (hF55.tr hR148) q4), ?_, ?_, ?_, ?_, ?_, ?_, ?_, ?_⟩
              · exact hB149
              · exact hB112
              · omega
              · simp [hQl]
              · rw [addAt_len]; exact hRl
              · exact lt_set hQt h63
              · exact addAt_lt hRt (by omega)
              · rw [show (nf - (ng - 1)) - (k + 1) = (nf - (ng - 1)) - 1 - k by omega]; exact div_add hG (by omega) h63e (by omega) (by omega)
      · refine sV (evLss false rfl rfl (dF hc70)) (sK hK69 (wp_seq_k fun K150 hK150 => cF rfl (wp_exit (xE (xE (bE (xN (hK41 _ _ (rS fun K151 hK151 => sMs rfl ?_)))))))))
        have h152 : NatR w46 (fun b => b = g34) (some ⟨g34, 0, none⟩) (nf - (ng - 1)) (nf - (ng - 1)) (Q) := NatR.of_blk hB56 rfl (lt_BS bp hQt) (by exact lq) (by omega) (by unfold CapMax; omega)
        refine sO (oCall rfl call53 (modpoly_trim h152) rfl ?_)
        rintro _ w154 ⟨Ar_153, nr_153, cr_153, dr_153, rfl, hE155, hr_153, e_153, le_153⟩
        have hz156 := hE155.size
        have ⟨lr_153, kr_153, mr_153⟩ := hr_153.lkm
        refine sMs rfl ?_
        have hB158 := (hB57.ext hE155)
        have h159 : NatR w154 (fun b => b = g3) (some ⟨g3, 0, none⟩) nf nf (R) := NatR.of_blk hB158 rfl (lt_BS bp hRt) (by exact lq) (by omega) (by unfold CapMax; omega)
        refine sO (oCall rfl call53 (modpoly_trim h159) rfl ?_)
        rintro _ w161 ⟨Ar_160, nr_160, cr_160, dr_160, rfl, hE162, hr_160, e_160, le_160⟩
        have hz163 := hE162.size
        have ⟨lr_160, kr_160, mr_160⟩ := hr_160.lkm
        refine sAs rfl (sAs rfl (sK hK151 (wp_ret (ret2 (.slice Ar_153 nr_153 cr_153) (.slice Ar_160 nr_160 cr_160) Tryz.results117 (resT rfl) (resT rfl) ?_))))
        have he9 : divP xp df dg = (dr_153, dr_160) := (div_fin (by omega) (by rw [e_29, lg]) hG (by omega) (by omega) e_153 e_160)
        have ⟨k1, k2, k3, k4, k5, k6⟩ := divP_can2 hpr hcf hcg (by omega) he9
        have h165 := (hr_153.ext hE162)
        have hR166 := ((((hR24.xr hE31).xr hE37).tr hF55).xr hE155).xr hE162
        exact ⟨Ar_153, nr_153, cr_153, dr_153, Ar_160, nr_160, cr_160, dr_160, rfl, (Frm.mono hR166 q4), (NatR.sub h165 q5), (NatR.sub hr_160 q5), he9, k1, k2, (by omega), (by omega), (by omega), (fun h9 => by have h8 := k6 (by omega); omega)⟩
theorem modpoly_remainder {w : World} {Sf : Nat → Prop} {Af : Option Addr} {nf cf : Nat} {df : List Nat} {Sg : Nat → Prop} {Ag : Option Addr} {ng cg : Nat} {dg : List Nat} {xp : Nat} (hf : NatR w Sf Af nf cf df) (hg : NatR w Sg Ag ng cg dg) (bp : xp < 4294967296) (hnf : nf ≤ 1048576) (hng : ng ≤ 1048576) (hp : xp = 2 ∨ xp = 3 ∨ xp = 5 ∨ xp = 7) (hcf : CanP xp df) (hcg : CanP xp dg) (hng0 : 0 < ng) : Calls Tryz.prog 113 #[(.slice Af nf cf), (.slice Ag ng cg), (.int .u32 ((xp : Int)))] w (Ret fun v w' => ∃ (Ar : Option Addr) (nr : Nat) (cr : Nat) (dr : List Nat), v = (.slice Ar nr cr) ∧ Ext w w' ∧ NatR w' (fun b => w.heap.size ≤ b) Ar nr cr dr ∧ (dr = (divP xp df dg).2) ∧ (CanP xp dr) ∧ (nr < ng) ∧ (nr ≤ nf)) := by
  have ⟨lf, kf, mf⟩ := hf.lkm
  replace hf := hf.low
  have ⟨lg, kg, mg⟩ := hg.lkm
  replace hg := hg.low
  refine enter Tryz.func113 rfl Tryz.ntmps113 rfl (rS fun K1 hK1 => sAs rfl (sK hK1 (rS fun K2 hK2 => sMs rfl (sMs rfl (sMi rfl (sO (oCall rfl call117 (modpoly_divide hf hg (xp := xp) (by omega) (by omega) (by omega) hp hcf hcg (by omega)) rfl ?_)))))))
  rintro _ w4 ⟨Aq_3, nq_3, cq_3, dq_3, Ar_3, nr_3, cr_3, dr_3, rfl, hE5, hq_3, hr_3, e_3, zq_3, zr_3, lt_3, lq_3, lr_3, qp_3⟩
  have hz6 := hE5.size
  have ⟨lq_3, kq_3, mq_3⟩ := hq_3.lkm
  have ⟨lr_3, kr_3, mr_3⟩ := hr_3.lkm
  refine sV (v := (.tuple #[(.slice Aq_3 nq_3 cq_3), (.slice Ar_3 nr_3 cr_3)])) (rfl) (sV (v := (.slice Aq_3 nq_3 cq_3)) (rfl) (sV (v := (.slice Ar_3 nr_3 cr_3)) (rfl) (sAs rfl (sAs rfl (sK hK2 (rS fun K9 hK9 => sMs rfl (sAs rfl (sK hK9 (wp_ret (ret1 (.slice Ar_3 nr_3 cr_3) Tryz.results113 (resT rfl) ?_))))))))))
  exact ⟨Ar_3, nr_3, cr_3, dr_3, rfl, hE5, (NatR.sub hr_3 q5), (by rw [e_3]), zr_3, (by omega), (by omega)⟩
theorem modpoly_gcd {w : World} {Sf : Nat → Prop} {Af : Option Addr} {nf cf : Nat} {df : List Nat} {Sg : Nat → Prop} {Ag : Option Addr} {ng cg : Nat} {dg : List Nat} {xp : Nat} (hf : NatR w Sf Af nf cf df) (hg : NatR w Sg Ag ng cg dg) (bp : xp < 4294967296) (hnf : nf ≤ 1048576) (hng : ng ≤ 1048576) (hp : xp = 2 ∨ xp = 3 ∨ xp = 5 ∨ xp = 7) (hcf : CanP xp df) (hcg : CanP xp dg) : Calls Tryz.prog 103 #[(.slice Af nf cf), (.slice Ag ng cg), (.int .u32 ((xp : Int)))] w (Ret fun v w' => ∃ (Ar : Option Addr) (nr : Nat) (cr : Nat) (dr : List Nat), v = (.slice Ar nr cr) ∧ Ext w w' ∧ NatR w' (fun b => w.heap.size ≤ b) Ar nr cr dr ∧ (dr = gcdP xp df dg) ∧ (CanP xp dr) ∧ (nr ≤ 1048576)) := by
  have ⟨lf, kf, mf⟩ := hf.lkm
  replace hf := hf.low
  have ⟨lg, kg, mg⟩ := hg.lkm
  replace hg := hg.low
  refine enter Tryz.func103 rfl Tryz.ntmps103 rfl ?_
  have hpr := prime4N hp
  refine rS fun K1 hK1 => sAs rfl (sK hK1 (wp_seq_k fun K2 hK2 => wp_block ?_))
  refine lLoop (fun m e w_ => ∃ (Aa : Option Addr) (na : Nat) (ca : Nat) (da : List Nat) (Ab : Option Addr) (nb : Nat) (cb : Nat) (db : List Nat), m = nb ∧ e 0 = (.slice Aa na ca) ∧ e 1 = (.slice Ab nb cb) ∧ e 2 = (.int .u32 ((xp : Int))) ∧ Frm (fun b => False) w w_ ∧ (NatR w_ (fun b => b < w_.heap.size) Aa na ca da) ∧ (NatR w_ (fun b => b < w_.heap.size) Ab nb cb db) ∧ (CanP xp da) ∧ (CanP xp db) ∧ (na ≤ 1048576 ∧ nb ≤ 1048576) ∧ (gcdP xp da db = gcdP xp df dg)) ((ng)) ?_ ?_
  · refine ⟨(Af), (nf), (cf), (df), (Ag), (ng), (cg), (dg), rfl, rfl, rfl, rfl, (Frm.refl _ _), ?_, ?_, ?_, ?_, ?_, ?_⟩
    · exact NatR.low hf
    · exact NatR.low hg
    · exact hcf
    · exact hcg
    · omega
    · rfl
  · rintro m3 e10 w4 ⟨Aa, na, ca, da, Ab, nb, cb, db, hm9, hs5, hs6, hs7, hF8, ha, hb, hca, hcb, hnn, hgg⟩
    obtain ⟨r11, rfl⟩ := sq (e := e10) (t := 0) hs5
    obtain ⟨r12, rfl⟩ := sq (e := r11) (t := 1) hs6
    obtain ⟨r13, rfl⟩ := sq (e := r12) (t := 2) hs7
    have hz14 := hF8.size
    have ⟨la, ka, ma⟩ := ha.lkm; have ⟨lb, kb, mb⟩ := hb.lkm
    refine wp_seq_k fun K15 hK15 => rS fun K16 hK16 => sMs rfl (sV (evLen Tryz.underlying46 rfl) ?_)
    by_cases hc17 : ((nb : Int)) > 0
    · refine sV (evGtr true rfl rfl (dT hc17)) (sK hK16 (cT rfl (wp_skip (xN (hK15 _ _ (wp_block (wp_region_lit (sMs rfl (sMs rfl (sMs rfl (sMi rfl (sO (oCall rfl call113 (modpoly_remainder ha hb (xp := xp) (by omega) (by omega) (by omega) hp hca hcb (by omega)) rfl ?_)))))))))))))
      rintro _ w19 ⟨Ar_18, nr_18, cr_18, dr_18, rfl, hE20, hr_18, e_18, zr_18, lt_18, lr_18⟩
      have hz21 := hE20.size
      have ⟨lr_18, kr_18, mr_18⟩ := hr_18.lkm
      refine sAs rfl (sAs rfl (sDone (bN ?_)))
      have h23 := (hb.ext hE20)
      refine again ((nr_18)) (by omega) ⟨(Ab), (nb), (cb), (db), (Ar_18), (nr_18), (cr_18), (dr_18), rfl, rfl, rfl, rfl, (hF8.trans hE20), ?_, ?_, ?_, ?_, ?_, ?_⟩
      · exact NatR.low h23
      · exact NatR.low hr_18
      · exact hcb
      · exact zr_18
      · omega
      · rw [e_18, ← gcd_turn hpr hca hcb (by omega)]; exact hgg
    · refine sV (evGtr false rfl rfl (dF hc17)) (sK hK16 (cF rfl (wp_exit (xE (xE (bE (xN (hK2 _ _ (rS fun K24 hK24 => sMs rfl (sMi rfl (sO (oCall rfl call80 (modpoly_monic ha (xp := xp) (by omega) (by omega) hp hca) rfl ?_))))))))))))
      rintro _ w26 ⟨Ar_25, nr_25, cr_25, dr_25, rfl, hE27, hr_25, e_25, le_25, zr_25⟩
      have hz28 := hE27.size
      have ⟨lr_25, kr_25, mr_25⟩ := hr_25.lkm
      refine sAs rfl (sK hK24 (wp_ret (ret1 (.slice Ar_25 nr_25 cr_25) Tryz.results103 (resT rfl) ?_)))
      have hR30 := hF8.trans hE27
      exact ⟨Ar_25, nr_25, cr_25, dr_25, rfl, hR30, (NatR.sub hr_25 q5), (by rw [e_25, ← hgg, gcd_end (by omega)]), zr_25, (by omega)⟩
theorem modpoly_Gcd {w : World} {Sf : Nat → Prop} {Af : Option Addr} {nf cf : Nat} {df : List Nat} {Sg : Nat → Prop} {Ag : Option Addr} {ng cg : Nat} {dg : List Nat} {xp : Nat} (hf : NatR w Sf Af nf cf df) (hg : NatR w Sg Ag ng cg dg) (bp : xp < 4294967296) (hnf : nf ≤ 1048576) (hng : ng ≤ 1048576) (hp : xp = 2 ∨ xp = 3 ∨ xp = 5 ∨ xp = 7) : Calls Tryz.prog 62 #[(.slice Af nf cf), (.slice Ag ng cg), (.int .u32 ((xp : Int)))] w (Ret fun v w' => ∃ (Ar : Option Addr) (nr : Nat) (cr : Nat) (dr : List Nat) (xo : Int), v = (.tuple #[(.slice Ar nr cr), (.int .i64 (xo))]) ∧ Ext w w' ∧ NatR w' (fun b => w.heap.size ≤ b) Ar nr cr dr ∧ (xo = 0) ∧ (dr = gcdP xp (nrmP xp df) (nrmP xp dg)) ∧ (CanP xp dr) ∧ (nr ≤ 1048576)) := by
  have ⟨lf, kf, mf⟩ := hf.lkm
  replace hf := hf.low
  have ⟨lg, kg, mg⟩ := hg.lkm
  replace hg := hg.low
  refine enter Tryz.func62 rfl Tryz.ntmps62 rfl (rS fun K1 hK1 => sAs rfl (sAi rfl (sK hK1 (wp_seq_k fun K2 hK2 => rS fun K3 hK3 => sMi rfl (sO (oCall rfl call54 (modular_IsPrime (xn := xp) (by omega) (by assumption)) rfl ?_))))))
  rintro _ w5 ⟨gr_4, rfl, hE6, e_4⟩
  have hz7 := hE6.size
  obtain rfl : gr_4 = true := e_4
  refine sV (evNot _ rfl rfl) (sK hK3 (cF rfl (wp_skip (xN (hK2 _ _ (rS fun K8 hK8 => sMs rfl (sMi rfl ?_)))))))
  have h9 := (hf.ext hE6)
  refine sO (oCall rfl call77 (modpoly_Normal h9 (xm := xp) (by omega) (by omega) (by omega)) rfl ?_)
  rintro _ w11 ⟨Ar_10, nr_10, cr_10, dr_10, rfl, hE12, hr_10, e_10, le_10, zr_10⟩
  have hz13 := hE12.size
  have ⟨lr_10, kr_10, mr_10⟩ := hr_10.lkm
  refine sMs rfl (sMi rfl ?_)
  have hR15 := hE6.trans hE12
  have h16 := (hg.ext hR15)
  refine sO (oCall rfl call77 (modpoly_Normal h16 (xm := xp) (by omega) (by omega) (by omega)) rfl ?_)
  rintro _ w18 ⟨Ar_17, nr_17, cr_17, dr_17, rfl, hE19, hr_17, e_17, le_17, zr_17⟩
  have hz20 := hE19.size
  have ⟨lr_17, kr_17, mr_17⟩ := hr_17.lkm
  refine sMi rfl ?_
  have h22 := (hr_10.ext hE19)
  refine sO (oCall rfl call103 (modpoly_gcd h22 hr_17 (xp := xp) (by omega) (by omega) (by omega) hp zr_10 zr_17) rfl ?_)
  rintro _ w24 ⟨Ar_23, nr_23, cr_23, dr_23, rfl, hE25, hr_23, e_23, zr_23, le_23⟩
  have hz26 := hE25.size
  have ⟨lr_23, kr_23, mr_23⟩ := hr_23.lkm
  refine sAs rfl (sAi rfl (sK hK8 (wp_ret (ret2 (.slice Ar_23 nr_23 cr_23) (.int .i64 (0)) Tryz.results62 (resT rfl) (resT rfl) ?_))))
  have hR28 := (hR15.trans hE19).trans hE25
  exact ⟨Ar_23, nr_23, cr_23, dr_23, (0), rfl, hR28, (NatR.sub hr_23 q5), rfl, (by rw [e_23, e_10, e_17]), zr_23, (by omega)⟩
theorem modpoly_Divide {w : World} {Sf : Nat → Prop} {Af : Option Addr} {nf cf : Nat} {df : List Nat} {Sg : Nat → Prop} {Ag : Option Addr} {ng cg : Nat} {dg : List Nat} {xp : Nat} (hf : NatR w Sf Af nf cf df) (hg : NatR w Sg Ag ng cg dg) (bp : xp < 4294967296) (hnf : nf ≤ 1048576) (hng : ng ≤ 1048576) (hp : xp = 2 ∨ xp = 3 ∨ xp = 5 ∨ xp = 7) (hg0 : (nrmP xp dg).length ≠ 0) : Calls Tryz.prog 94 #[(.slice Af nf cf), (.slice Ag ng cg), (.int .u32 ((xp : Int)))] w (Ret fun v w' => ∃ (Aq : Option Addr) (nq : Nat) (cq : Nat) (dq : List Nat) (Ar : Option Addr) (nr : Nat) (cr : Nat) (dr : List Nat) (xo : Int), v = (.tuple #[(.slice Aq nq cq), (.slice Ar nr cr), (.int .i64 (xo))]) ∧ Ext w w' ∧ NatR w' (fun b => w.heap.size ≤ b) Aq nq cq dq ∧ NatR w' (fun b => w.heap.size ≤ b) Ar nr cr dr ∧ (xo = 0) ∧ (divP xp (nrmP xp df) (nrmP xp dg) = (dq, dr)) ∧ (CanP xp dq) ∧ (CanP xp dr) ∧ (nr < ng) ∧ (nq ≤ nf) ∧ (nr ≤ nf)) := by
  have ⟨lf, kf, mf⟩ := hf.lkm
  replace hf := hf.low
  have ⟨lg, kg, mg⟩ := hg.lkm
  replace hg := hg.low
  refine enter Tryz.func94 rfl Tryz.ntmps94 rfl (rS fun K1 hK1 => sAs rfl (sAs rfl (sAi rfl (sK hK1 (wp_seq_k fun K2 hK2 => rS fun K3 hK3 => sMi rfl (sO (oCall rfl call54 (modular_IsPrime (xn := xp) (by omega) (by assumption)) rfl ?_)))))))
  rintro _ w5 ⟨gr_4, rfl, hE6, e_4⟩
  have hz7 := hE6.size
  obtain rfl : gr_4 = true := e_4
  refine sV (evNot _ rfl rfl) (sK hK3 (cF rfl (wp_skip (xN (hK2 _ _ (rS fun K8 hK8 => sMs rfl (sMi rfl ?_)))))))
  have h9 := (hf.ext hE6)
  refine sO (oCall rfl call77 (modpoly_Normal h9 (xm := xp) (by omega) (by omega) (by omega)) rfl ?_)
  rintro _ w11 ⟨Ar_10, nr_10, cr_10, dr_10, rfl, hE12, hr_10, e_10, le_10, zr_10⟩
  have hz13 := hE12.size
  have ⟨lr_10, kr_10, mr_10⟩ := hr_10.lkm
  refine sMs rfl (sMi rfl ?_)
  have hR15 := hE6.trans hE12
  have h16 := (hg.ext hR15)
  refine sO (oCall rfl call77 (modpoly_Normal h16 (xm := xp) (by omega) (by omega) (by omega)) rfl ?_)
  rintro _ w18 ⟨Ar_17, nr_17, cr_17, dr_17, rfl, hE19, hr_17, e_17, le_17, zr_17⟩
  have hz20 := hE19.size
  have ⟨lr_17, kr_17, mr_17⟩ := hr_17.lkm
  have hg1 : 0 < nr_17 := by rw [← e_17] at hg0; omega
  refine sAs rfl (sAs rfl (sK hK8 (wp_seq_k fun K22 hK22 => rS fun K23 hK23 => sMs rfl (sV (evLen Tryz.underlying46 rfl) (sV (evEql false rfl rfl (dF (by omega))) (sK hK23 (cF rfl (wp_skip (xN (hK22 _ _ (rS fun K24 hK24 => sMs rfl (sMs rfl (sMi rfl ?_)))))))))))))
  have h25 := (hr_10.ext hE19)
  refine sO (oCall rfl call117 (modpoly_divide h25 hr_17 (xp := xp) (by omega) (by omega) (by omega) hp zr_10 zr_17 (by omega)) rfl ?_)
  rintro _ w27 ⟨Aq_26, nq_26, cq_26, dq_26, Ar_26, nr_26, cr_26, dr_26, rfl, hE28, hq_26, hr_26, e_26, zq_26, zr_26, lt_26, lq_26, lr_26, qp_26⟩
  have hz29 := hE28.size
  have ⟨lq_26, kq_26, mq_26⟩ := hq_26.lkm
  have ⟨lr_26, kr_26, mr_26⟩ := hr_26.lkm
  refine sV (v := (.tuple #[(.slice Aq_26 nq_26 cq_26), (.slice Ar_26 nr_26 cr_26)])) (rfl) (sV (v := (.slice Aq_26 nq_26 cq_26)) (rfl) (sV (v := (.slice Ar_26 nr_26 cr_26)) (rfl) (sAs rfl (sAs rfl (sK hK24 (rS fun K32 hK32 => sMs rfl (sMs rfl (sAs rfl (sAs rfl (sAi rfl (sK hK32 (wp_ret (ret3 (.slice Aq_26 nq_26 cq_26) (.slice Ar_26 nr_26 cr_26) (.int .i64 (0)) Tryz.results94 (resT rfl) (resT rfl) (resT rfl) ?_)))))))))))))
  have hR33 := (hR15.trans hE19).trans hE28
  exact ⟨Aq_26, nq_26, cq_26, dq_26, Ar_26, nr_26, cr_26, dr_26, (0), rfl, hR33, (NatR.sub hq_26 q5), (NatR.sub hr_26 q5), rfl, (by rw [← e_10, ← e_17]; exact e_26), zq_26, zr_26, (by omega), (by omega), (by omega)⟩
end Go.Proofs.YtneolcopompkaaaGreatDoor
