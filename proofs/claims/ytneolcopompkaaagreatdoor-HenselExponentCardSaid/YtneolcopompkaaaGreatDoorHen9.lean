/-
  Walk of package hensel: the lift.
-/
import Derived.Test.YtneolcopompkaaaGreatDoorHen8
import Derived.Test.YtneolcopompkaaaGreatDoorHen7
import Derived.Test.YtneolcopompkaaaGreatDoorLibB
namespace Go.Proofs.YtneolcopompkaaaGreatDoor
open Go.RowKit Go.Gx
set_option maxHeartbeats 4000000 in
theorem hensel_Lift {w : World} {Sf : Nat → Prop} {Af : Option Addr} {nf cf Mf : Nat} {lf : List RI} {Sl : Nat → Prop} {Al : Option Addr} {nl cl : Nat} {fl : List NE} {xp : Nat} {xk : Nat} (hf : PolyR w Sf Af nf cf lf Mf) (hl : GListR LN w Sl Al nl cl fl) (bp : xp < 4294967296) (bk : xk ≤ 9223372036854775807) (hp : xp = 2 ∨ xp = 3 ∨ xp = 5 ∨ xp = 7) (hnf : nf ≤ 64) (hMf : Mf ≤ 4096) (hnl : nl ≤ 8) (hle : ∀ f ∈ fl, f.n ≤ 63) (hk : 1 ≤ xk ∧ xk ≤ 64) (hdeg : ∀ d ∈ (monL xp (dsN fl)), 2 ≤ (nrmP xp d).length) (hco : ∀ (i j : Nat) (f g : List Nat), j < i → (monL xp (dsN fl))[i]? = some f → (monL xp (dsN fl))[j]? = some g → (gcdP xp (nrmP xp f) (nrmP xp g)).length ≤ 1) (hlead : (md xp (ldP (zs lf))) ≠ 0) (hsame : nrmP xp (prodM xp [(md xp (ldP (zs lf)))] (monL xp (dsN fl))) = nrmP xp (redP xp (zs lf))) (hok : ∀ L0 L1 e, LReach xp xk (zs lf) (symL xp (monL xp (dsN fl))) (symL xp (cofsG xp (monL xp (dsN fl)))) L0 L1 e → ∀ u ∈ L0, 0 < (trimZ u).length) : Calls Tryz.prog 22 #[(.slice Af nf cf), (.slice Al nl cl), (.int .u32 ((xp : Int))), (.int .i64 ((xk : Int)))] w (Ret fun v w' => ∃ (Ar : Option Addr) (nr : Nat) (cr : Nat) (fr : List PE) (xo : Int), v = (.tuple #[(.slice Ar nr cr), (.int .i64 (xo))]) ∧ Ext w w' ∧ PolysR w' (fun b => w.heap.size ≤ b) Ar nr cr fr 4096 ∧ (xo = 0) ∧ (∃ L1 e, LReach xp xk (zs lf) (symL xp (monL xp (dsN fl))) (symL xp (cofsG xp (monL xp (dsN fl)))) (zsL fr) L1 e ∧ (e = xk ∨ isFac (zs lf) (zsL fr))) ∧ (nr = nl) ∧ (∀ x ∈ fr, x.n ≤ 64)) := by
  have ⟨kf, jf, mf⟩ := hf.lkm
  replace hf := hf.low
  have ⟨kl, jl, ml⟩ := hl.lkm; replace hl := hl.low
  refine enter Tryz.func22 rfl Tryz.ntmps22 rfl (rS fun K1 hK1 => sAs rfl (sAi rfl (sK hK1 (wp_scope_straight (wp_seq_k fun K2 hK2 => rS fun K3 hK3 => sMi rfl (sO (oCall rfl call54 (modular_IsPrime (xn := xp) (by omega) (by assumption)) rfl ?_)))))))
  rintro _ w5 ⟨gr_4, rfl, hE6, e_4⟩
  have hz7 := hE6.size
  obtain rfl : gr_4 = true := e_4
  refine sV (evNot _ rfl rfl) (sMb rfl (sEv (v := (.int .i64 ((xk : Int)))) (rfl) rfl rfl (sEv (v := (.bool false)) (evLss false rfl rfl (dF (by omega))) rfl rfl (sV (v := (.bool false)) (rfl) (sK hK3 (cF rfl (wp_skip (xN (hK2 _ _ (rS fun K8 hK8 => sMs rfl (sV (evLen Tryz.underlying42 rfl) (sO (oMake1 nl Tryz.underlying42 inf46 rfl cI cI (by omega) (by omega) (fun g9 w10 hg11 hE12 hz13 hB14 => ?_))))))))))))))
  have hB15 : Blk w10 g9 46 (((List.replicate nl NE.zero)).map LN.v) := by rw [List.map_replicate]; exact hB14
  refine sAs rfl (sK hK8 (wp_seq_k fun K16 hK16 => rS fun K17 hK17 => sMs rfl (sV (evLen Tryz.underlying42 rfl) (sMi rfl (sK hK17 (wp_block ?_))))))
  refine lLoop (fun m e w_ => ∃ (i : Nat) (L : List NE), m = nl - i ∧ e 0 = (.slice Af nf cf) ∧ e 2 = (.int .u32 ((xp : Int))) ∧ e 3 = (.int .i64 ((xk : Int))) ∧ e 10 = (.slice (some ⟨g9, 0, none⟩) nl nl) ∧ e 35 = (.slice Al nl cl) ∧ e 36 = (.int .i64 ((nl : Int))) ∧ e 37 = (.int .i64 ((i : Int))) ∧ Frm (fun b => b = g9) w10 w_ ∧ Blk w_ g9 46 ((L ++ List.replicate (nl - i) NE.zero).map LN.v) ∧ (i ≤ nl) ∧ (L.length = i) ∧ (AllM w_ (fun b => g9 < b) 63 L) ∧ (dsN L = (List.range i).map (fun k => monicP xp (nrmP xp ((dsN fl).getD k []))))) (nl - (0)) ?_ ?_
  · refine ⟨(0), ([]), rfl, rfl, rfl, rfl, rfl, rfl, rfl, cI, (Frm.refl _ _), ?_, ?_, ?_, ?_, ?_⟩
    · simpa using hB15
    · omega
    · rfl
    · exact AllM.nil
    · rfl
  · rintro m18 e30 w19 ⟨i, L, hm29, hs20, hs21, hs22, hs23, hs24, hs25, hs26, hF27, hB28, hi, hL, hA, hz⟩
    obtain ⟨r31, rfl⟩ := sq (e := e30) (t := 0) hs20
    obtain ⟨r32, rfl⟩ := sq (e := r31) (t := 2) hs21
    obtain ⟨r33, rfl⟩ := sq (e := r32) (t := 3) hs22
    obtain ⟨r34, rfl⟩ := sq (e := r33) (t := 10) hs23
    obtain ⟨r35, rfl⟩ := sq (e := r34) (t := 35) hs24
    obtain ⟨r36, rfl⟩ := sq (e := r35) (t := 36) hs25
    obtain ⟨r37, rfl⟩ := sq (e := r36) (t := 37) hs26
    have hz38 := hF27.size
    refine rS fun K39 hK39 => ?_
    by_cases hc40 : ((i : Int)) < ((nl : Int))
    · refine sV (evLss true rfl rfl (dT hc40)) (sK hK39 (wp_seq_k fun K41 hK41 => cT rfl (wp_skip (xN (hK41 _ _ (wp_seq_k fun K42 hK42 => wp_block (rS fun K43 hK43 => sMi rfl ?_)))))))
      have hR44 := (hE6.trans hE12).rx hF27
      have h45 := (hl.frmB hR44 q3)
      obtain ⟨b46, o47, rfl⟩ := h45.base (by omega)
      refine sV (evIx i Tryz.underlying42 sz46 rfl rfl (o47 + i)) ?_
      obtain ⟨⟨A_48, n_48, c_48, d_48⟩, he_48, hp_48, hP_48, hS_48, hb_48⟩ := h45.at_ (i := i) (by omega)
      replace hp_48 : World.cell? _ _ = some (.slice A_48 n_48 c_48) := hp_48; replace hP_48 : NatR _ _ A_48 n_48 c_48 d_48 := hP_48; have ⟨q1_48, q2_48, q3_48⟩ := hP_48.lkm
      have hn64_48 := hle _ (List.mem_of_getElem? he_48); dsimp only at hn64_48
      refine sV (evLoad one46 rfl hp_48) (sAi rfl (sAs rfl (sK hK43 (wp_region_lit (sMs rfl (sMi rfl (sMs rfl (sMi rfl (sO (oCall rfl call55 (modpoly_Monic hP_48 (xp := xp) (by omega) (by omega) hp) rfl ?_))))))))))
      rintro _ w51 ⟨Ar_50, nr_50, cr_50, dr_50, xo_50, rfl, hE52, hr_50, z_50, e_50, le_50, zr_50⟩
      have hz53 := hE52.size
      have ⟨lr_50, kr_50, mr_50⟩ := hr_50.lkm
      refine sV (v := (.tuple #[(.slice Ar_50 nr_50 cr_50), (.int .i64 (xo_50))])) (rfl) (sV (v := (.slice Ar_50 nr_50 cr_50)) (rfl) (sV (v := (.int .i64 (xo_50))) (rfl) (sV (evIx i Tryz.underlying42 sz46 rfl rfl i) ?_)))
      have hB55 := (hB28.ext hE52)
      refine sO (oStore1 rfl rfl rfl sz46 hB55 (by rw [List.length_map]; simp; omega) (fun w56 hU57 hz58 hB59 => ?_))
      replace hB59 : Blk w56 g9 46 (((L ++ [(⟨Ar_50, nr_50, cr_50, dr_50⟩ : NE)]) ++ List.replicate (nl - (i + 1)) NE.zero).map LN.v) := by rw [← (fillM_set hL (by omega) : (L ++ List.replicate (nl - i) NE.zero).set i (⟨Ar_50, nr_50, cr_50, dr_50⟩ : NE) = (L ++ [(⟨Ar_50, nr_50, cr_50, dr_50⟩ : NE)]) ++ List.replicate (nl - (i + 1)) NE.zero), List.map_set]; exact hB59
      refine sDone (bN (xN (hK42 _ _ (wp_region_lit (sV (evAdd (((i : Int)) + 1) rfl rfl wI) (sMi rfl (sDone ?_)))))))
      have hR60 := hE52.rx hU57
      have h61 := (hA.frmB hR60 q3)
      have h62 := (hr_50.frmB hU57 q3)
      refine again (nl - (i + 1)) (by omega) ⟨(i + 1), (L ++ [(⟨Ar_50, nr_50, cr_50, dr_50⟩ : NE)]), rfl, rfl, rfl, rfl, rfl, rfl, rfl, cI, (hF27.trans hR60), ?_, ?_, ?_, ?_, ?_⟩
      · exact hB59
      · omega
      · simp [hL]
      · exact AllM.snoc h61 (NatR.sub h62 q5) (by (try dsimp only); omega)
      · exact dsN_snoc (r := (⟨Ar_50, nr_50, cr_50, dr_50⟩ : NE)) hz (by show dr_50 = monicP xp (nrmP xp ((dsN fl).getD i [])); rw [e_50, dsN_get he_48])
    · refine sV (evLss false rfl rfl (dF hc40)) (sK hK39 (wp_seq_k fun K63 hK63 => cF rfl (wp_exit (xE (xE (bE (xN (hK16 _ _ (wp_seq_k fun K64 hK64 => ?_)))))))))
      have hGL65 := GListR.of_blk (L := LN) (S := fun b => w.heap.size ≤ b) (n := nl) (c := nl) hB28 (fun f hf => (((AllM.app hA (AllM.zeros (M := 63) _)) f hf).1.sub q5)) (by (try dsimp only); omega) (by simp; omega) (Nat.le_refl _) (by unfold CapMax; omega)
      obtain ⟨fm, hGm, hML, hm63⟩ : ∃ fm : List NE, GListR LN w19 (fun b => w.heap.size ≤ b) (some ⟨g9, 0, none⟩) nl nl fm ∧ dsN fm = monL xp (dsN fl) ∧ ∀ f ∈ fm, f.n ≤ 63 := ⟨_, hGL65, (by rw [show nl - i = 0 by omega, List.replicate_zero, List.append_nil]; exact monL_range (n := i) hz (by rw [dsN_len, kl]; omega)), fun f hf => ((AllM.app hA (AllM.zeros (M := 63) _)) f hf).2⟩
      have kfm : fm.length = nl := hGm.len
      refine wp_region_lit (sMs rfl (sMi rfl (sO (oCall rfl call56 (hensel_Cofactors hGm (xp := xp) (by omega) hp (by omega) hm63 (fun f hf => hdeg _ (by rw [← hML]; exact List.mem_map_of_mem hf)) (fun i j f g h h1 h2 => hco i j f.d g.d h (by rw [← hML]; simp [dsN, h1]) (by rw [← hML]; simp [dsN, h2]))) rfl ?_))))
      rintro _ w68 ⟨Ar_67, nr_67, cr_67, fr_67, xo_67, rfl, hE69, hr_67, z_67, e_67, lr_67⟩
      have hz70 := hE69.size
      have ⟨kr_67, jr_67, mr_67⟩ := hr_67.lkm
      have hlo72 := hr_67.low
      have hnc_67 : nr_67 = nl := by have h := congrArg List.length e_67; rw [dsN_len, cofsG, List.length_map, List.length_range, dsN_len] at h; omega
      refine sV (v := (.tuple #[(.slice Ar_67 nr_67 cr_67), (.int .i64 (xo_67))])) (rfl) (sV (v := (.slice Ar_67 nr_67 cr_67)) (rfl) (sV (v := (.int .i64 (xo_67))) (rfl) (sAs rfl (sAi rfl (sK hK64 (wp_seq_k fun K73 hK73 => rS fun K74 hK74 => sMi rfl (sV (evNeq false rfl rfl (dF (by omega))) (sK hK74 (cF rfl (wp_skip (xN (hK73 _ _ (rS fun K75 hK75 => sMs rfl ?_)))))))))))))
      have hR76 := ((hE6.trans hE12).rx hF27).xr hE69
      have h77 := (hf.frmB hR76 q3)
      refine sO (oCall rfl call41 (unipoly_Lead h77 (by omega) (by omega)) rfl ?_)
      rintro _ w79 ⟨gr_78, Ar_78, nr_78, cr_78, dr_78, rfl, hE80, hr_78, v_78, cn_78, le_78⟩
      have hz81 := hE80.size
      have ⟨lr_78, kr_78, mr_78⟩ := hr_78.lkm
      refine sMi rfl (sO (oCall rfl call24 (modular_Reduce hr_78 (xm := xp) (by omega) (by omega) (by omega)) rfl ?_))
      rintro _ w84 ⟨xr_83, rfl, hE85, br_83, e_83⟩
      have hz86 := hE85.size
      have hld : xr_83 = (md xp (ldP (zs lf))) := by rw [e_83, v_78]; rfl
      have hld0 : xr_83 ≠ 0 := by rw [hld]; exact hlead
      refine sAi rfl (sK hK75 (rS fun K87 hK87 => sMi rfl (sO (oBuildSlice [(.int .u32 ((xr_83 : Int)))] [[(.int .u32 ((xr_83 : Int)))]] Tryz.underlying46 inf26 rfl rfl rfl rfl rfl (fun g88 w89 hg90 hE91 hz92 hB93 => ?_)))))
      replace hB93 : Blk w89 g88 26 [(.int .u32 ((xr_83 : Int)))] := hB93
      refine sAs rfl (sK hK87 (wp_seq_k fun K94 hK94 => rS fun K95 hK95 => sMs rfl (sV (evLen Tryz.underlying42 rfl) (sMi rfl (sK hK95 (wp_block ?_))))))
      have h97 : NatR w89 (fun b => b = g88) (some ⟨g88, 0, none⟩) 1 1 ([xr_83]) := NatR.of_blk hB93 rfl (by simp [BS]; omega) (by exact lq) (by omega) (by unfold CapMax; omega)
      refine lLoop (fun m e w_ => ∃ (i2 : Nat) (Au : Option Addr) (nu : Nat) (cu : Nat) (du : List Nat), m = nl - i2 ∧ e 0 = (.slice Af nf cf) ∧ e 2 = (.int .u32 ((xp : Int))) ∧ e 3 = (.int .i64 ((xk : Int))) ∧ e 10 = (.slice (some ⟨g9, 0, none⟩) nl nl) ∧ e 13 = (.slice Ar_67 nr_67 cr_67) ∧ e 15 = (.int .u32 ((xr_83 : Int))) ∧ e 16 = (.slice Au nu cu) ∧ e 67 = (.slice (some ⟨g9, 0, none⟩) nl nl) ∧ e 68 = (.int .i64 ((nl : Int))) ∧ e 69 = (.int .i64 ((i2 : Int))) ∧ Frm (fun b => False) w89 w_ ∧ (i2 ≤ nl) ∧ (NatR w_ (fun b => b < w_.heap.size) Au nu cu du) ∧ (nu ≤ 1 + 64 * i2) ∧ (du = prodM xp [xr_83] ((dsN fm).take i2))) (nl - (0)) ?_ ?_
      · refine ⟨(0), ((some ⟨g88, 0, none⟩)), (1), (1), ([xr_83]), rfl, rfl, rfl, rfl, rfl, rfl, rfl, rfl, rfl, rfl, cI, (Frm.refl _ _), ?_, ?_, ?_, ?_⟩
        · omega
        · exact NatR.low h97
        · omega
        · rw [List.take_zero]; rfl
      · rintro m96 e111 w98 ⟨i2, Au, nu, cu, du, hm110, hs99, hs100, hs101, hs102, hs103, hs104, hs105, hs106, hs107, hs108, hF109, hi2, hu, hnu, hpr⟩
        obtain ⟨r112, rfl⟩ := sq (e := e111) (t := 0) hs99
        obtain ⟨r113, rfl⟩ := sq (e := r112) (t := 2) hs100
        obtain ⟨r114, rfl⟩ := sq (e := r113) (t := 3) hs101
        obtain ⟨r115, rfl⟩ := sq (e := r114) (t := 10) hs102
        obtain ⟨r116, rfl⟩ := sq (e := r115) (t := 13) hs103
        obtain ⟨r117, rfl⟩ := sq (e := r116) (t := 15) hs104
        obtain ⟨r118, rfl⟩ := sq (e := r117) (t := 16) hs105
        obtain ⟨r119, rfl⟩ := sq (e := r118) (t := 67) hs106
        obtain ⟨r120, rfl⟩ := sq (e := r119) (t := 68) hs107
        obtain ⟨r121, rfl⟩ := sq (e := r120) (t := 69) hs108
        have hz122 := hF109.size
        have ⟨lu, ku, mu⟩ := hu.lkm
        refine rS fun K123 hK123 => ?_
        by_cases hc124 : ((i2 : Int)) < ((nl : Int))
        · refine sV (evLss true rfl rfl (dT hc124)) (sK hK123 (wp_seq_k fun K125 hK125 => cT rfl (wp_skip (xN (hK125 _ _ (wp_seq_k fun K126 hK126 => wp_block (rS fun K127 hK127 => sV (evIx i2 Tryz.underlying42 sz46 rfl rfl i2) ?_)))))))
          have hR128 := (((hE69.trans hE80).trans hE85).trans hE91).trans hF109
          have h129 := (hGm.ext hR128)
          obtain ⟨⟨A_130, n_130, c_130, d_130⟩, he_130, hp_130, hP_130, hS_130, hb_130⟩ := h129.at_ (i := i2) (by omega)
          replace hp_130 : World.cell? _ _ = some (.slice A_130 n_130 c_130) := hp_130; replace hP_130 : NatR _ _ A_130 n_130 c_130 d_130 := hP_130; have ⟨q1_130, q2_130, q3_130⟩ := hP_130.lkm
          rw [Nat.zero_add] at hp_130
          have hn64_130 := hm63 _ (List.mem_of_getElem? he_130); dsimp only at hn64_130
          refine sV (evLoad one46 rfl hp_130) (sAs rfl (sK hK127 (wp_region_lit (sMs rfl (sMs rfl (sMi rfl (sO (oCall rfl call57 (modpoly_Mul hu hP_130 (xm := xp) (by omega) (by omega) (by omega) (by omega)) rfl ?_))))))))
          rintro _ w133 ⟨Ar_132, nr_132, cr_132, dr_132, rfl, hE134, hr_132, e_132, le_132, zr_132⟩
          have hz135 := hE134.size
          have ⟨lr_132, kr_132, mr_132⟩ := hr_132.lkm
          refine sAs rfl (sDone (bN (xN (hK126 _ _ (wp_region_lit (sV (evAdd (((i2 : Int)) + 1) rfl rfl wI) (sMi rfl (sDone (again (nl - (i2 + 1)) (by omega) ⟨(i2 + 1), (Ar_132), (nr_132), (cr_132), (dr_132), rfl, rfl, rfl, rfl, rfl, rfl, rfl, rfl, rfl, rfl, cI, (hF109.trans hE134), ?_, ?_, ?_, ?_⟩)))))))))
          · omega
          · exact NatR.low hr_132
          · omega
          · exact prodM_next hpr (by rw [dsN_len]; omega) (dsN_get he_130) e_132
        · refine sV (evLss false rfl rfl (dF hc124)) (sK hK123 (wp_seq_k fun K137 hK137 => cF rfl (wp_exit (xE (xE (bE (xN (hK94 _ _ (wp_seq_k fun K138 hK138 => rS fun K139 hK139 => sMi rfl (sV (evEql false rfl rfl (dF (by omega))) (sMb rfl (sEv (v := (.slice Au nu cu)) (rfl) rfl rfl (sEv (v := (.slice Af nf cf)) (rfl) rfl rfl (sEv (v := (.int .u32 ((xp : Int)))) (rfl) rfl rfl ?_))))))))))))))
          have hR140 := ((hE80.trans hE85).trans hE91).trans hF109
          have h141 := (h77.ext hR140)
          refine sOp rfl (oCall rfl call20 (modpoly_Reduce h141 (xm := xp) (by omega) (by omega) (by omega) (by omega)) rfl ?_)
          rintro _ w143 ⟨Ar_142, nr_142, cr_142, dr_142, rfl, hE144, hr_142, e_142, le_142, zr_142⟩
          have hz145 := hE144.size
          have ⟨lr_142, kr_142, mr_142⟩ := hr_142.lkm
          refine sEv (v := (.int .u32 ((xp : Int)))) (rfl) rfl rfl ?_
          have h147 := (hu.ext hE144)
          refine sOp rfl (oCall rfl call43 (modpoly_Same h147 hr_142 (xm := xp) (by omega) (by omega) (by omega) (by omega)) rfl ?_)
          rintro _ w149 ⟨gr_148, rfl, hE150, e_148⟩
          have hz151 := hE150.size
          obtain rfl : gr_148 = true := by rw [e_148, hpr, e_142, List.take_of_length_le (by rw [dsN_len]; omega), hML, hld]; exact decide_eq_true hsame
          refine sEv (v := (.bool false)) (evNot _ rfl rfl) rfl rfl (sV (v := (.bool false)) (rfl) (sK hK139 (cF rfl (wp_skip (xN (hK138 _ _ (rS fun K152 hK152 => sO (oAlloc [(.slice none 0 0), (.slice none 0 0)] zero92 rfl (fun g153 w154 hg155 hE156 hz157 hB158 => sK hK152 (wp_seq_k fun K159 hK159 => rS fun K160 hK160 => sMs rfl (sV (evLen Tryz.underlying42 rfl) (sMi rfl (sK hK160 (wp_block ?_))))))))))))))
          refine lLoop (fun m e w_ => ∃ (i3 : Nat) (Ao0 : Option Addr) (nO0 : Nat) (cO0 : Nat) (fo0 : List PE) (Ao1 : Option Addr) (nO1 : Nat) (cO1 : Nat) (fo1 : List PE), m = nl - i3 ∧ e 0 = (.slice Af nf cf) ∧ e 2 = (.int .u32 ((xp : Int))) ∧ e 3 = (.int .i64 ((xk : Int))) ∧ e 13 = (.slice Ar_67 nr_67 cr_67) ∧ e 19 = (.pointer (some ⟨g153, 0, none⟩)) ∧ e 89 = (.slice (some ⟨g9, 0, none⟩) nl nl) ∧ e 90 = (.int .i64 ((nl : Int))) ∧ e 91 = (.int .i64 ((i3 : Int))) ∧ Frm (fun b => w154.heap.size ≤ b ∨ b = g153) w154 w_ ∧ Blk w_ g153 92 ([(.slice Ao0 nO0 cO0), (.slice Ao1 nO1 cO1)]) ∧ (i3 ≤ nl) ∧ (OwnY 2 g153 w_ w154.heap.size 39 Ao0 nO0 cO0 fo0 Ao1 nO1 cO1 fo1) ∧ (nO0 = i3 ∧ nO1 = i3) ∧ (∀ x ∈ fo0, x.n ≤ 64) ∧ (∀ x ∈ fo1, x.n ≤ 64) ∧ (zsL fo0 = symL xp ((dsN fm).take i3)) ∧ (zsL fo1 = symL xp ((dsN fr_67).take i3))) (nl - (0)) ?_ ?_
          · refine ⟨(0), (none), (0), (0), ([]), (none), (0), (0), ([]), rfl, rfl, rfl, rfl, rfl, rfl, rfl, rfl, cI, (Frm.refl _ _), ?_, ?_, ?_, ?_, ?_, ?_, ?_, ?_⟩
            · exact hB158
            · omega
            · exact OwnY.nil (by omega)
            · exact ⟨rfl, rfl⟩
            · exact fun x hx => (by cases hx)
            · exact fun x hx => (by cases hx)
            · rw [List.take_zero]; rfl
            · rw [List.take_zero]; rfl
          · rintro m161 e174 w162 ⟨i3, Ao0, nO0, cO0, fo0, Ao1, nO1, cO1, fo1, hm173, hs163, hs164, hs165, hs166, hs167, hs168, hs169, hs170, hF171, hB172, hi3, hY, hnO, hl0, hl1, hac0, hac1⟩
            obtain ⟨r175, rfl⟩ := sq (e := e174) (t := 0) hs163
            obtain ⟨r176, rfl⟩ := sq (e := r175) (t := 2) hs164
            obtain ⟨r177, rfl⟩ := sq (e := r176) (t := 3) hs165
            obtain ⟨r178, rfl⟩ := sq (e := r177) (t := 13) hs166
            obtain ⟨r179, rfl⟩ := sq (e := r178) (t := 19) hs167
            obtain ⟨r180, rfl⟩ := sq (e := r179) (t := 89) hs168
            obtain ⟨r181, rfl⟩ := sq (e := r180) (t := 90) hs169
            obtain ⟨r182, rfl⟩ := sq (e := r181) (t := 91) hs170
            have hz183 := hF171.size
            have ⟨⟨hOa0, hOb0, hOc0⟩, hOa1, hOb1, hOc1⟩ := hY.lkm
            refine rS fun K184 hK184 => ?_
            by_cases hc185 : ((i3 : Int)) < ((nl : Int))
            · refine sV (evLss true rfl rfl (dT hc185)) (sK hK184 (wp_seq_k fun K186 hK186 => cT rfl (wp_skip (xN (hK186 _ _ (wp_seq_k fun K187 hK187 => wp_block (rS fun K188 hK188 => sMi rfl (sV (evIx i3 Tryz.underlying42 sz46 rfl rfl i3) ?_))))))))
              have hR189 := (((((((hE69.trans hE80).trans hE85).trans hE91).trans hF109).trans hE144).trans hE150).trans hE156).rx hF171
              have h190 := (hGm.frmB hR189 q3)
              obtain ⟨⟨A_191, n_191, c_191, d_191⟩, he_191, hp_191, hP_191, hS_191, hb_191⟩ := h190.at_ (i := i3) (by omega)
              replace hp_191 : World.cell? _ _ = some (.slice A_191 n_191 c_191) := hp_191; replace hP_191 : NatR _ _ A_191 n_191 c_191 d_191 := hP_191; have ⟨q1_191, q2_191, q3_191⟩ := hP_191.lkm
              rw [Nat.zero_add] at hp_191
              have hn64_191 := hm63 _ (List.mem_of_getElem? he_191); dsimp only at hn64_191
              refine sV (evLoad one46 rfl hp_191) (sAi rfl (sAs rfl (sK hK188 (wp_seq_k fun K193 hK193 => dBegin (fun b => w154.heap.size ≤ b ∨ b = g153) mixed (fun w194 hE195 hz196 => dV 0 rfl (fun _ _ => evArr 0 Tryz.underlying92 sz43 rfl rfl 0) (dMs 2 rfl rfl (dMi 3 rfl rfl (dTwo 1 4 (by kernel_rfl) ?_ ?_))))))))
              · have hB197 := (hB172.ext hE195)
                refine dWp (i := 1) rfl rfl (oEv (v := (.slice Ao0 nO0 cO0)) (evLoadB one43 rfl hB197 rfl) rfl ⟨Frm.refl _ _, ?_⟩)
                have h198 := (hP_191.ext hE195)
                refine dOp 4 rfl rfl (by kernel_rfl) (oCall rfl call58 (modpoly_Symmetric h198 (xm := xp) (by omega) (by omega) (by omega)) rfl ?_)
                rintro _ w200 ⟨Ar_199, nr_199, cr_199, lr_199, rfl, hE201, hr_199, e_199, le_199, cn_199⟩
                refine ⟨(Frm.of_ext hE201), ?_⟩
                have hz202 := hE201.size
                have ⟨kr_199, jr_199, mr_199⟩ := hr_199.lkm
                refine dOp 5 rfl rfl (by kernel_rfl) (oBuildSlice [(.slice Ar_199 nr_199 cr_199)] [[(.slice Ar_199 nr_199 cr_199)]] Tryz.underlying43 inf39 rfl rfl rfl rfl rfl (fun g204 w205 hg206 hE207 hz208 hB209 => ⟨(Frm.of_ext hE207), ?_⟩))
                replace hB209 : Blk w205 g204 39 [(.slice Ar_199 nr_199 cr_199)] := hB209
                have hR210 := (hE195.trans hE201).trans hE207
                have hO211 := (hY.ext hR210)
                have h212 := (hr_199.ext hE207)
                refine dOp 6 rfl rfl (by kernel_rfl) (oAppT (L := LPx 2 g153) (L' := LPx 2 g153) (f := (⟨Ar_199, nr_199, cr_199, lr_199⟩ : PE)) (S := fun b => (fun b => w194.heap.size ≤ b) b) (B := w154.heap.size) Tryz.underlying43 inf39 rfl rfl rfl hO211.2 hB209 (PolyR.le (PolyR.sub h212 (fun b hb_ hs => ⟨hs, by (try dsimp only at hs); omega⟩)) (by omega)) (fun b hb_ hs => ⟨fun a ha e => by have h9 := hY.2.a.lt a ha; (try dsimp only at hs); omega, fun a ha e => by have h9 := hY.2.b.lt a ha; (try dsimp only at hs); omega⟩) (by omega) (by omega) (by omega) (fun A213 c214 w215 hY216 hF217 => ⟨(hF217.mono q4), ?_⟩))
                have hY216y : OwnY 2 g153 w215 w154.heap.size 39 A213 (nO0 + 1) c214 (fo0 ++ [(⟨Ar_199, nr_199, cr_199, lr_199⟩ : PE)]) Ao1 (nO1) cO1 (fo1) := ⟨hO211.1, hY216⟩
                have hz218 := hF217.size; have ⟨⟨_, _, _⟩, _, _, _⟩ := hY216y.lkm
                refine dV 7 rfl (fun _ _ => evArr 0 Tryz.underlying92 sz43 rfl rfl 0) ?_
                have hR219 := (hE201.trans hE207).rx hF217
                have hB220 := (hB197.frm hR219 q1)
                refine dOp 8 rfl rfl (by kernel_rfl) (oStore [(.slice A213 (nO0 + 1) c214)] rfl rfl rfl sz43 rfl hB220 (Nat.le_of_ble_eq_true rfl) (fun w221 hU222 hz223 hB224 => ?_))
                replace hB224 : Blk w221 g153 92 [(.slice A213 (nO0 + 1) c214), (.slice Ao1 nO1 cO1)] := hB224
                refine ⟨(hU222.mono q4), dDone (by kernel_rfl) (xN (hK193 _ _ (dBegin (fun b => w154.heap.size ≤ b ∨ b = g153) mixed (fun w225 hE226 hz227 => dV 0 rfl (fun _ _ => evArr 1 Tryz.underlying92 sz43 rfl rfl 1) (dMs 2 rfl rfl (dMi 3 rfl rfl ?_))))))⟩
                have hR228 := (((((((((hR140.trans hE144).trans hE150).trans hE156).rx hF171).xr hE195).xr hE201).xr hE207).tr hF217).tr hU222).xr hE226
                have h229 := (hlo72.frmB hR228 q3)
                obtain ⟨b230, o231, rfl⟩ := h229.base (by omega)
                refine dV 4 rfl (fun _ _ => evIx i3 Tryz.underlying42 sz46 rfl rfl (o231 + i3)) ?_
                obtain ⟨⟨A_232, n_232, c_232, d_232⟩, he_232, hp_232, hP_232, hS_232, hb_232⟩ := h229.at_ (i := i3) (by omega)
                replace hp_232 : World.cell? _ _ = some (.slice A_232 n_232 c_232) := hp_232; replace hP_232 : NatR _ _ A_232 n_232 c_232 d_232 := hP_232; have ⟨q1_232, q2_232, q3_232⟩ := hP_232.lkm
                have hn64_232 := lr_67 _ (List.mem_of_getElem? he_232); dsimp only at hn64_232
                refine dV 5 rfl (fun _ hf => evLoad one46 rfl ((hf.cell (p := ⟨_, _, none⟩) hb_232 (by (try dsimp only at hS_232 ⊢); omega)).trans hp_232)) (dMi 6 rfl rfl (dTwo 1 7 (by kernel_rfl) ?_ ?_))
                · have hB234 := (hB224.ext hE226)
                  refine dWp (i := 1) rfl rfl (oEv (v := (.slice Ao1 nO1 cO1)) (evLoadB one43 rfl hB234 rfl) rfl ⟨Frm.refl _ _, dOp 7 rfl rfl (by kernel_rfl) (oCall rfl call58 (modpoly_Symmetric hP_232 (xm := xp) (by omega) (by omega) (by omega)) rfl ?_)⟩)
                  rintro _ w236 ⟨Ar_235, nr_235, cr_235, lr_235, rfl, hE237, hr_235, e_235, le_235, cn_235⟩
                  refine ⟨(Frm.of_ext hE237), ?_⟩
                  have hz238 := hE237.size
                  have ⟨kr_235, jr_235, mr_235⟩ := hr_235.lkm
                  refine dOp 8 rfl rfl (by kernel_rfl) (oBuildSlice [(.slice Ar_235 nr_235 cr_235)] [[(.slice Ar_235 nr_235 cr_235)]] Tryz.underlying43 inf39 rfl rfl rfl rfl rfl (fun g240 w241 hg242 hE243 hz244 hB245 => ⟨(Frm.of_ext hE243), ?_⟩))
                  replace hB245 : Blk w241 g240 39 [(.slice Ar_235 nr_235 cr_235)] := hB245
                  have hR246 := ((hU222.xr hE226).xr hE237).xr hE243
                  have hO247 := (hY216y.frmB hR246 q3)
                  have h248 := (hr_235.ext hE243)
                  refine dOp 9 rfl rfl (by kernel_rfl) (oAppT (L := LPx 2 g153) (L' := LPx 2 g153) (f := (⟨Ar_235, nr_235, cr_235, lr_235⟩ : PE)) (S := fun b => (fun b => w225.heap.size ≤ b) b) (B := w154.heap.size) Tryz.underlying43 inf39 rfl rfl rfl (OwnY.swap hO247).2 hB245 (PolyR.le (PolyR.sub h248 (fun b hb_ hs => ⟨hs, by (try dsimp only at hs); omega⟩)) (by omega)) (fun b hb_ hs => ⟨fun a ha e => by have h9 := hY216y.2.b.lt a ha; (try dsimp only at hs); omega, fun a ha e => by have h9 := hY216y.2.a.lt a ha; (try dsimp only at hs); omega⟩) (by omega) (by omega) (by omega) (fun A249 c250 w251 hY252 hF253 => ⟨(hF253.mono q4), ?_⟩))
                  replace hY252 := OwnT.swap hY252
                  have hY252y : OwnY 2 g153 w251 w154.heap.size 39 A213 (nO0 + 1) c214 (fo0 ++ [(⟨Ar_199, nr_199, cr_199, lr_199⟩ : PE)]) A249 (nO1 + 1) c250 (fo1 ++ [(⟨Ar_235, nr_235, cr_235, lr_235⟩ : PE)]) := ⟨hO247.1, hY252⟩
                  have hz254 := hF253.size; have ⟨⟨_, _, _⟩, _, _, _⟩ := hY252y.lkm
                  refine dV 10 rfl (fun _ _ => evArr 1 Tryz.underlying92 sz43 rfl rfl 1) ?_
                  have hR255 := (hE237.trans hE243).rx hF253
                  have hB256 := (hB234.frm hR255 q1)
                  refine dOp 11 rfl rfl (by kernel_rfl) (oStore [(.slice A249 (nO1 + 1) c250)] rfl rfl rfl sz43 rfl hB256 (Nat.le_of_ble_eq_true rfl) (fun w257 hU258 hz259 hB260 => ?_))
                  replace hB260 : Blk w257 g153 92 [(.slice A213 (nO0 + 1) c214), (.slice A249 (nO1 + 1) c250)] := hB260
                  refine ⟨(hU258.mono q4), dDone (by kernel_rfl) (bN (xN (hK187 _ _ (wp_region_lit (sV (evAdd (((i3 : Int)) + 1) rfl rfl wI) (sMi rfl (sDone ?_)))))))⟩
                  have hR261 := ((((((hR210.rx hF217).tr hU222).xr hE226).xr hE237).xr hE243).tr hF253).tr hU258
                  have hO262 := (hY252y.frmB hU258 q3)
                  refine again (nl - (i3 + 1)) (by omega) ⟨(i3 + 1), (A213), (nO0 + 1), (c214), (fo0 ++ [(⟨Ar_199, nr_199, cr_199, lr_199⟩ : PE)]), (A249), (nO1 + 1), (c250), (fo1 ++ [(⟨Ar_235, nr_235, cr_235, lr_235⟩ : PE)]), rfl, rfl, rfl, rfl, rfl, rfl, rfl, rfl, cI, (Frm.mono (hF171.tr hR261) q4), ?_, ?_, ?_, ?_, ?_, ?_, ?_, ?_⟩
                  · exact hB260
                  · omega
                  · exact hO262
                  · omega
                  · exact lenL_snoc hl0 (by (try dsimp only); omega)
                  · exact lenL_snoc hl1 (by (try dsimp only); omega)
                  · exact symL_next hac0 (by rw [dsN_len]; omega) (dsN_get he_191) e_199
                  · exact symL_next hac1 (by rw [dsN_len, kr_67]; omega) (dsN_get he_232) e_235
                · refine dWp (i := 7) rfl rfl (oCall rfl call58 (modpoly_Symmetric hP_232 (xm := xp) (by omega) (by omega) (by omega)) rfl ?_)
                  rintro _ w264 ⟨Ar_263, nr_263, cr_263, lr_263, rfl, hE265, hr_263, e_263, le_263, cn_263⟩
                  refine ⟨(Frm.of_ext hE265), ?_⟩
                  have hz266 := hE265.size
                  have ⟨kr_263, jr_263, mr_263⟩ := hr_263.lkm
                  refine dTwo 1 8 (by kernel_rfl) ?_ ?_
                  · have hR268 := hE226.trans hE265
                    have hB269 := (hB224.ext hR268)
                    refine dWp (i := 1) rfl rfl (oEv (v := (.slice Ao1 nO1 cO1)) (evLoadB one43 rfl hB269 rfl) rfl ⟨Frm.refl _ _, dOp 8 rfl rfl (by kernel_rfl) (oBuildSlice [(.slice Ar_263 nr_263 cr_263)] [[(.slice Ar_263 nr_263 cr_263)]] Tryz.underlying43 inf39 rfl rfl rfl rfl rfl (fun g270 w271 hg272 hE273 hz274 hB275 => ⟨(Frm.of_ext hE273), ?_⟩))⟩)
                    replace hB275 : Blk w271 g270 39 [(.slice Ar_263 nr_263 cr_263)] := hB275
                    have hR276 := ((hU222.xr hE226).xr hE265).xr hE273
                    have hO277 := (hY216y.frmB hR276 q3)
                    have h278 := (hr_263.ext hE273)
                    refine dOp 9 rfl rfl (by kernel_rfl) (oAppT (L := LPx 2 g153) (L' := LPx 2 g153) (f := (⟨Ar_263, nr_263, cr_263, lr_263⟩ : PE)) (S := fun b => (fun b => w225.heap.size ≤ b) b) (B := w154.heap.size) Tryz.underlying43 inf39 rfl rfl rfl (OwnY.swap hO277).2 hB275 (PolyR.le (PolyR.sub h278 (fun b hb_ hs => ⟨hs, by (try dsimp only at hs); omega⟩)) (by omega)) (fun b hb_ hs => ⟨fun a ha e => by have h9 := hY216y.2.b.lt a ha; (try dsimp only at hs); omega, fun a ha e => by have h9 := hY216y.2.a.lt a ha; (try dsimp only at hs); omega⟩) (by omega) (by omega) (by omega) (fun A279 c280 w281 hY282 hF283 => ⟨(hF283.mono q4), ?_⟩))
                    replace hY282 := OwnT.swap hY282
                    have hY282y : OwnY 2 g153 w281 w154.heap.size 39 A213 (nO0 + 1) c214 (fo0 ++ [(⟨Ar_199, nr_199, cr_199, lr_199⟩ : PE)]) A279 (nO1 + 1) c280 (fo1 ++ [(⟨Ar_263, nr_263, cr_263, lr_263⟩ : PE)]) := ⟨hO277.1, hY282⟩
                    have hz284 := hF283.size; have ⟨⟨_, _, _⟩, _, _, _⟩ := hY282y.lkm
                    refine dV 10 rfl (fun _ _ => evArr 1 Tryz.underlying92 sz43 rfl rfl 1) ?_
                    have hR285 := hE273.rx hF283
                    have hB286 := (hB269.frm hR285 q1)
                    refine dOp 11 rfl rfl (by kernel_rfl) (oStore [(.slice A279 (nO1 + 1) c280)] rfl rfl rfl sz43 rfl hB286 (Nat.le_of_ble_eq_true rfl) (fun w287 hU288 hz289 hB290 => ?_))
                    replace hB290 : Blk w287 g153 92 [(.slice A213 (nO0 + 1) c214), (.slice A279 (nO1 + 1) c280)] := hB290
                    refine ⟨(hU288.mono q4), dDone (by kernel_rfl) (bN (xN (hK187 _ _ (wp_region_lit (sV (evAdd (((i3 : Int)) + 1) rfl rfl wI) (sMi rfl (sDone ?_)))))))⟩
                    have hR291 := ((((((hR210.rx hF217).tr hU222).xr hE226).xr hE265).xr hE273).tr hF283).tr hU288
                    have hO292 := (hY282y.frmB hU288 q3)
                    refine again (nl - (i3 + 1)) (by omega) ⟨(i3 + 1), (A213), (nO0 + 1), (c214), (fo0 ++ [(⟨Ar_199, nr_199, cr_199, lr_199⟩ : PE)]), (A279), (nO1 + 1), (c280), (fo1 ++ [(⟨Ar_263, nr_263, cr_263, lr_263⟩ : PE)]), rfl, rfl, rfl, rfl, rfl, rfl, rfl, rfl, cI, (Frm.mono (hF171.tr hR291) q4), ?_, ?_, ?_, ?_, ?_, ?_, ?_, ?_⟩
                    · exact hB290
                    · omega
                    · exact hO292
                    · omega
                    · exact lenL_snoc hl0 (by (try dsimp only); omega)
                    · exact lenL_snoc hl1 (by (try dsimp only); omega)
                    · exact symL_next hac0 (by rw [dsN_len]; omega) (dsN_get he_191) e_199
                    · exact symL_next hac1 (by rw [dsN_len, kr_67]; omega) (dsN_get he_232) e_263
                  · refine dWp (i := 8) rfl rfl (oBuildSlice [(.slice Ar_263 nr_263 cr_263)] [[(.slice Ar_263 nr_263 cr_263)]] Tryz.underlying43 inf39 rfl rfl rfl rfl rfl (fun g293 w294 hg295 hE296 hz297 hB298 => ⟨(Frm.of_ext hE296), ?_⟩))
                    replace hB298 : Blk w294 g293 39 [(.slice Ar_263 nr_263 cr_263)] := hB298
                    have hR299 := (hE226.trans hE265).trans hE296
                    have hB300 := (hB224.ext hR299)
                    refine dOp 1 rfl rfl (by kernel_rfl) (oEv (v := (.slice Ao1 nO1 cO1)) (evLoadB one43 rfl hB300 rfl) rfl ⟨Frm.refl _ _, ?_⟩)
                    have hR301 := ((hU222.xr hE226).xr hE265).xr hE296
                    have hO302 := (hY216y.frmB hR301 q3)
                    have h303 := (hr_263.ext hE296)
                    refine dOp 9 rfl rfl (by kernel_rfl) (oAppT (L := LPx 2 g153) (L' := LPx 2 g153) (f := (⟨Ar_263, nr_263, cr_263, lr_263⟩ : PE)) (S := fun b => (fun b => w225.heap.size ≤ b) b) (B := w154.heap.size) Tryz.underlying43 inf39 rfl rfl rfl (OwnY.swap hO302).2 hB298 (PolyR.le (PolyR.sub h303 (fun b hb_ hs => ⟨hs, by (try dsimp only at hs); omega⟩)) (by omega)) (fun b hb_ hs => ⟨fun a ha e => by have h9 := hY216y.2.b.lt a ha; (try dsimp only at hs); omega, fun a ha e => by have h9 := hY216y.2.a.lt a ha; (try dsimp only at hs); omega⟩) (by omega) (by omega) (by omega) (fun A304 c305 w306 hY307 hF308 => ⟨(hF308.mono q4), ?_⟩))
                    replace hY307 := OwnT.swap hY307
                    have hY307y : OwnY 2 g153 w306 w154.heap.size 39 A213 (nO0 + 1) c214 (fo0 ++ [(⟨Ar_199, nr_199, cr_199, lr_199⟩ : PE)]) A304 (nO1 + 1) c305 (fo1 ++ [(⟨Ar_263, nr_263, cr_263, lr_263⟩ : PE)]) := ⟨hO302.1, hY307⟩
                    have hz309 := hF308.size; have ⟨⟨_, _, _⟩, _, _, _⟩ := hY307y.lkm
                    refine dV 10 rfl (fun _ _ => evArr 1 Tryz.underlying92 sz43 rfl rfl 1) ?_
                    have hB310 := (hB300.frm hF308 q1)
                    refine dOp 11 rfl rfl (by kernel_rfl) (oStore [(.slice A304 (nO1 + 1) c305)] rfl rfl rfl sz43 rfl hB310 (Nat.le_of_ble_eq_true rfl) (fun w311 hU312 hz313 hB314 => ?_))
                    replace hB314 : Blk w311 g153 92 [(.slice A213 (nO0 + 1) c214), (.slice A304 (nO1 + 1) c305)] := hB314
                    refine ⟨(hU312.mono q4), dDone (by kernel_rfl) (bN (xN (hK187 _ _ (wp_region_lit (sV (evAdd (((i3 : Int)) + 1) rfl rfl wI) (sMi rfl (sDone ?_)))))))⟩
                    have hR315 := ((((((hR210.rx hF217).tr hU222).xr hE226).xr hE265).xr hE296).tr hF308).tr hU312
                    have hO316 := (hY307y.frmB hU312 q3)
                    refine again (nl - (i3 + 1)) (by omega) ⟨(i3 + 1), (A213), (nO0 + 1), (c214), (fo0 ++ [(⟨Ar_199, nr_199, cr_199, lr_199⟩ : PE)]), (A304), (nO1 + 1), (c305), (fo1 ++ [(⟨Ar_263, nr_263, cr_263, lr_263⟩ : PE)]), rfl, rfl, rfl, rfl, rfl, rfl, rfl, rfl, cI, (Frm.mono (hF171.tr hR315) q4), ?_, ?_, ?_, ?_, ?_, ?_, ?_, ?_⟩
                    · exact hB314
                    · omega
                    · exact hO316
                    · omega
                    · exact lenL_snoc hl0 (by (try dsimp only); omega)
                    · exact lenL_snoc hl1 (by (try dsimp only); omega)
                    · exact symL_next hac0 (by rw [dsN_len]; omega) (dsN_get he_191) e_199
                    · exact symL_next hac1 (by rw [dsN_len, kr_67]; omega) (dsN_get he_232) e_263
              · have h317 := (hP_191.ext hE195)
                refine dWp (i := 4) rfl rfl (oCall rfl call58 (modpoly_Symmetric h317 (xm := xp) (by omega) (by omega) (by omega)) rfl ?_)
                rintro _ w319 ⟨Ar_318, nr_318, cr_318, lr_318, rfl, hE320, hr_318, e_318, le_318, cn_318⟩
                refine ⟨(Frm.of_ext hE320), ?_⟩
                have hz321 := hE320.size
                have ⟨kr_318, jr_318, mr_318⟩ := hr_318.lkm
                refine dTwo 1 5 (by kernel_rfl) ?_ ?_
                · have hR323 := hE195.trans hE320
                  have hB324 := (hB172.ext hR323)
                  refine dWp (i := 1) rfl rfl (oEv (v := (.slice Ao0 nO0 cO0)) (evLoadB one43 rfl hB324 rfl) rfl ⟨Frm.refl _ _, dOp 5 rfl rfl (by kernel_rfl) (oBuildSlice [(.slice Ar_318 nr_318 cr_318)] [[(.slice Ar_318 nr_318 cr_318)]] Tryz.underlying43 inf39 rfl rfl rfl rfl rfl (fun g325 w326 hg327 hE328 hz329 hB330 => ⟨(Frm.of_ext hE328), ?_⟩))⟩)
                  replace hB330 : Blk w326 g325 39 [(.slice Ar_318 nr_318 cr_318)] := hB330
                  have hR331 := hR323.trans hE328
                  have hO332 := (hY.ext hR331)
                  have h333 := (hr_318.ext hE328)
                  refine dOp 6 rfl rfl (by kernel_rfl) (oAppT (L := LPx 2 g153) (L' := LPx 2 g153) (f := (⟨Ar_318, nr_318, cr_318, lr_318⟩ : PE)) (S := fun b => (fun b => w194.heap.size ≤ b) b) (B := w154.heap.size) Tryz.underlying43 inf39 rfl rfl rfl hO332.2 hB330 (PolyR.le (PolyR.sub h333 (fun b hb_ hs => ⟨hs, by (try dsimp only at hs); omega⟩)) (by omega)) (fun b hb_ hs => ⟨fun a ha e => by have h9 := hY.2.a.lt a ha; (try dsimp only at hs); omega, fun a ha e => by have h9 := hY.2.b.lt a ha; (try dsimp only at hs); omega⟩) (by omega) (by omega) (by omega) (fun A334 c335 w336 hY337 hF338 => ⟨(hF338.mono q4), ?_⟩))
                  have hY337y : OwnY 2 g153 w336 w154.heap.size 39 A334 (nO0 + 1) c335 (fo0 ++ [(⟨Ar_318, nr_318, cr_318, lr_318⟩ : PE)]) Ao1 (nO1) cO1 (fo1) := ⟨hO332.1, hY337⟩
                  have hz339 := hF338.size; have ⟨⟨_, _, _⟩, _, _, _⟩ := hY337y.lkm
                  refine dV 7 rfl (fun _ _ => evArr 0 Tryz.underlying92 sz43 rfl rfl 0) ?_
                  have hR340 := hE328.rx hF338
                  have hB341 := (hB324.frm hR340 q1)
                  refine dOp 8 rfl rfl (by kernel_rfl) (oStore [(.slice A334 (nO0 + 1) c335)] rfl rfl rfl sz43 rfl hB341 (Nat.le_of_ble_eq_true rfl) (fun w342 hU343 hz344 hB345 => ?_))
                  replace hB345 : Blk w342 g153 92 [(.slice A334 (nO0 + 1) c335), (.slice Ao1 nO1 cO1)] := hB345
                  refine ⟨(hU343.mono q4), dDone (by kernel_rfl) (xN (hK193 _ _ (dBegin (fun b => w154.heap.size ≤ b ∨ b = g153) mixed (fun w346 hE347 hz348 => dV 0 rfl (fun _ _ => evArr 1 Tryz.underlying92 sz43 rfl rfl 1) (dMs 2 rfl rfl (dMi 3 rfl rfl ?_))))))⟩
                  have hR349 := (((((((((hR140.trans hE144).trans hE150).trans hE156).rx hF171).xr hE195).xr hE320).xr hE328).tr hF338).tr hU343).xr hE347
                  have h350 := (hlo72.frmB hR349 q3)
                  obtain ⟨b351, o352, rfl⟩ := h350.base (by omega)
                  refine dV 4 rfl (fun _ _ => evIx i3 Tryz.underlying42 sz46 rfl rfl (o352 + i3)) ?_
                  obtain ⟨⟨A_353, n_353, c_353, d_353⟩, he_353, hp_353, hP_353, hS_353, hb_353⟩ := h350.at_ (i := i3) (by omega)
                  replace hp_353 : World.cell? _ _ = some (.slice A_353 n_353 c_353) := hp_353; replace hP_353 : NatR _ _ A_353 n_353 c_353 d_353 := hP_353; have ⟨q1_353, q2_353, q3_353⟩ := hP_353.lkm
                  have hn64_353 := lr_67 _ (List.mem_of_getElem? he_353); dsimp only at hn64_353
                  refine dV 5 rfl (fun _ hf => evLoad one46 rfl ((hf.cell (p := ⟨_, _, none⟩) hb_353 (by (try dsimp only at hS_353 ⊢); omega)).trans hp_353)) (dMi 6 rfl rfl (dTwo 1 7 (by kernel_rfl) ?_ ?_))
                  · have hB355 := (hB345.ext hE347)
                    refine dWp (i := 1) rfl rfl (oEv (v := (.slice Ao1 nO1 cO1)) (evLoadB one43 rfl hB355 rfl) rfl ⟨Frm.refl _ _, dOp 7 rfl rfl (by kernel_rfl) (oCall rfl call58 (modpoly_Symmetric hP_353 (xm := xp) (by omega) (by omega) (by omega)) rfl ?_)⟩)
                    rintro _ w357 ⟨Ar_356, nr_356, cr_356, lr_356, rfl, hE358, hr_356, e_356, le_356, cn_356⟩
                    refine ⟨(Frm.of_ext hE358), ?_⟩
                    have hz359 := hE358.size
                    have ⟨kr_356, jr_356, mr_356⟩ := hr_356.lkm
                    refine dOp 8 rfl rfl (by kernel_rfl) (oBuildSlice [(.slice Ar_356 nr_356 cr_356)] [[(.slice Ar_356 nr_356 cr_356)]] Tryz.underlying43 inf39 rfl rfl rfl rfl rfl (fun g361 w362 hg363 hE364 hz365 hB366 => ⟨(Frm.of_ext hE364), ?_⟩))
                    replace hB366 : Blk w362 g361 39 [(.slice Ar_356 nr_356 cr_356)] := hB366
                    have hR367 := ((hU343.xr hE347).xr hE358).xr hE364
                    have hO368 := (hY337y.frmB hR367 q3)
                    have h369 := (hr_356.ext hE364)
                    refine dOp 9 rfl rfl (by kernel_rfl) (oAppT (L := LPx 2 g153) (L' := LPx 2 g153) (f := (⟨Ar_356, nr_356, cr_356, lr_356⟩ : PE)) (S := fun b => (fun b => w346.heap.size ≤ b) b) (B := w154.heap.size) Tryz.underlying43 inf39 rfl rfl rfl (OwnY.swap hO368).2 hB366 (PolyR.le (PolyR.sub h369 (fun b hb_ hs => ⟨hs, by (try dsimp only at hs); omega⟩)) (by omega)) (fun b hb_ hs => ⟨fun a ha e => by have h9 := hY337y.2.b.lt a ha; (try dsimp only at hs); omega, fun a ha e => by have h9 := hY337y.2.a.lt a ha; (try dsimp only at hs); omega⟩) (by omega) (by omega) (by omega) (fun A370 c371 w372 hY373 hF374 => ⟨(hF374.mono q4), ?_⟩))
                    replace hY373 := OwnT.swap hY373
                    have hY373y : OwnY 2 g153 w372 w154.heap.size 39 A334 (nO0 + 1) c335 (fo0 ++ [(⟨Ar_318, nr_318, cr_318, lr_318⟩ : PE)]) A370 (nO1 + 1) c371 (fo1 ++ [(⟨Ar_356, nr_356, cr_356, lr_356⟩ : PE)]) := ⟨hO368.1, hY373⟩
                    have hz375 := hF374.size; have ⟨⟨_, _, _⟩, _, _, _⟩ := hY373y.lkm
                    refine dV 10 rfl (fun _ _ => evArr 1 Tryz.underlying92 sz43 rfl rfl 1) ?_
                    have hR376 := (hE358.trans hE364).rx hF374
                    have hB377 := (hB355.frm hR376 q1)
                    refine dOp 11 rfl rfl (by kernel_rfl) (oStore [(.slice A370 (nO1 + 1) c371)] rfl rfl rfl sz43 rfl hB377 (Nat.le_of_ble_eq_true rfl) (fun w378 hU379 hz380 hB381 => ?_))
                    replace hB381 : Blk w378 g153 92 [(.slice A334 (nO0 + 1) c335), (.slice A370 (nO1 + 1) c371)] := hB381
                    refine ⟨(hU379.mono q4), dDone (by kernel_rfl) (bN (xN (hK187 _ _ (wp_region_lit (sV (evAdd (((i3 : Int)) + 1) rfl rfl wI) (sMi rfl (sDone ?_)))))))⟩
                    have hR382 := ((((((hR331.rx hF338).tr hU343).xr hE347).xr hE358).xr hE364).tr hF374).tr hU379
                    have hO383 := (hY373y.frmB hU379 q3)
                    refine again (nl - (i3 + 1)) (by omega) ⟨(i3 + 1), (A334), (nO0 + 1), (c335), (fo0 ++ [(⟨Ar_318, nr_318, cr_318, lr_318⟩ : PE)]), (A370), (nO1 + 1), (c371), (fo1 ++ [(⟨Ar_356, nr_356, cr_356, lr_356⟩ : PE)]), rfl, rfl, rfl, rfl, rfl, rfl, rfl, rfl, cI, (Frm.mono (hF171.tr hR382) q4), ?_, ?_, ?_, ?_, ?_, ?_, ?_, ?_⟩
                    · exact hB381
                    · omega
                    · exact hO383
                    · omega
                    · exact lenL_snoc hl0 (by (try dsimp only); omega)
                    · exact lenL_snoc hl1 (by (try dsimp only); omega)
                    · exact symL_next hac0 (by rw [dsN_len]; omega) (dsN_get he_191) e_318
                    · exact symL_next hac1 (by rw [dsN_len, kr_67]; omega) (dsN_get he_353) e_356
                  · refine dWp (i := 7) rfl rfl (oCall rfl call58 (modpoly_Symmetric hP_353 (xm := xp) (by omega) (by omega) (by omega)) rfl ?_)
                    rintro _ w385 ⟨Ar_384, nr_384, cr_384, lr_384, rfl, hE386, hr_384, e_384, le_384, cn_384⟩
                    refine ⟨(Frm.of_ext hE386), ?_⟩
                    have hz387 := hE386.size
                    have ⟨kr_384, jr_384, mr_384⟩ := hr_384.lkm
                    refine dTwo 1 8 (by kernel_rfl) ?_ ?_
                    · have hR389 := hE347.trans hE386
                      have hB390 := (hB345.ext hR389)
                      refine dWp (i := 1) rfl rfl (oEv (v := (.slice Ao1 nO1 cO1)) (evLoadB one43 rfl hB390 rfl) rfl ⟨Frm.refl _ _, dOp 8 rfl rfl (by kernel_rfl) (oBuildSlice [(.slice Ar_384 nr_384 cr_384)] [[(.slice Ar_384 nr_384 cr_384)]] Tryz.underlying43 inf39 rfl rfl rfl rfl rfl (fun g391 w392 hg393 hE394 hz395 hB396 => ⟨(Frm.of_ext hE394), ?_⟩))⟩)
                      replace hB396 : Blk w392 g391 39 [(.slice Ar_384 nr_384 cr_384)] := hB396
                      have hR397 := ((hU343.xr hE347).xr hE386).xr hE394
                      have hO398 := (hY337y.frmB hR397 q3)
                      have h399 := (hr_384.ext hE394)
                      refine dOp 9 rfl rfl (by kernel_rfl) (oAppT (L := LPx 2 g153) (L' := LPx 2 g153) (f := (⟨Ar_384, nr_384, cr_384, lr_384⟩ : PE)) (S := fun b => (fun b => w346.heap.size ≤ b) b) (B := w154.heap.size) Tryz.underlying43 inf39 rfl rfl rfl (OwnY.swap hO398).2 hB396 (PolyR.le (PolyR.sub h399 (fun b hb_ hs => ⟨hs, by (try dsimp only at hs); omega⟩)) (by omega)) (fun b hb_ hs => ⟨fun a ha e => by have h9 := hY337y.2.b.lt a ha; (try dsimp only at hs); omega, fun a ha e => by have h9 := hY337y.2.a.lt a ha; (try dsimp only at hs); omega⟩) (by omega) (by omega) (by omega) (fun A400 c401 w402 hY403 hF404 => ⟨(hF404.mono q4), ?_⟩))
                      replace hY403 := OwnT.swap hY403
                      have hY403y : OwnY 2 g153 w402 w154.heap.size 39 A334 (nO0 + 1) c335 (fo0 ++ [(⟨Ar_318, nr_318, cr_318, lr_318⟩ : PE)]) A400 (nO1 + 1) c401 (fo1 ++ [(⟨Ar_384, nr_384, cr_384, lr_384⟩ : PE)]) := ⟨hO398.1, hY403⟩
                      have hz405 := hF404.size; have ⟨⟨_, _, _⟩, _, _, _⟩ := hY403y.lkm
                      refine dV 10 rfl (fun _ _ => evArr 1 Tryz.underlying92 sz43 rfl rfl 1) ?_
                      have hR406 := hE394.rx hF404
                      have hB407 := (hB390.frm hR406 q1)
                      refine dOp 11 rfl rfl (by kernel_rfl) (oStore [(.slice A400 (nO1 + 1) c401)] rfl rfl rfl sz43 rfl hB407 (Nat.le_of_ble_eq_true rfl) (fun w408 hU409 hz410 hB411 => ?_))
                      replace hB411 : Blk w408 g153 92 [(.slice A334 (nO0 + 1) c335), (.slice A400 (nO1 + 1) c401)] := hB411
                      refine ⟨(hU409.mono q4), dDone (by kernel_rfl) (bN (xN (hK187 _ _ (wp_region_lit (sV (evAdd (((i3 : Int)) + 1) rfl rfl wI) (sMi rfl (sDone ?_)))))))⟩
                      have hR412 := ((((((hR331.rx hF338).tr hU343).xr hE347).xr hE386).xr hE394).tr hF404).tr hU409
                      have hO413 := (hY403y.frmB hU409 q3)
                      refine again (nl - (i3 + 1)) (by omega) ⟨(i3 + 1), (A334), (nO0 + 1), (c335), (fo0 ++ [(⟨Ar_318, nr_318, cr_318, lr_318⟩ : PE)]), (A400), (nO1 + 1), (c401), (fo1 ++ [(⟨Ar_384, nr_384, cr_384, lr_384⟩ : PE)]), rfl, rfl, rfl, rfl, rfl, rfl, rfl, rfl, cI, (Frm.mono (hF171.tr hR412) q4), ?_, ?_, ?_, ?_, ?_, ?_, ?_, ?_⟩
                      · exact hB411
                      · omega
                      · exact hO413
                      · omega
                      · exact lenL_snoc hl0 (by (try dsimp only); omega)
                      · exact lenL_snoc hl1 (by (try dsimp only); omega)
                      · exact symL_next hac0 (by rw [dsN_len]; omega) (dsN_get he_191) e_318
                      · exact symL_next hac1 (by rw [dsN_len, kr_67]; omega) (dsN_get he_353) e_384
                    · refine dWp (i := 8) rfl rfl (oBuildSlice [(.slice Ar_384 nr_384 cr_384)] [[(.slice Ar_384 nr_384 cr_384)]] Tryz.underlying43 inf39 rfl rfl rfl rfl rfl (fun g414 w415 hg416 hE417 hz418 hB419 => ⟨(Frm.of_ext hE417), ?_⟩))
                      replace hB419 : Blk w415 g414 39 [(.slice Ar_384 nr_384 cr_384)] := hB419
                      have hR420 := (hE347.trans hE386).trans hE417
                      have hB421 := (hB345.ext hR420)
                      refine dOp 1 rfl rfl (by kernel_rfl) (oEv (v := (.slice Ao1 nO1 cO1)) (evLoadB one43 rfl hB421 rfl) rfl ⟨Frm.refl _ _, ?_⟩)
                      have hR422 := ((hU343.xr hE347).xr hE386).xr hE417
                      have hO423 := (hY337y.frmB hR422 q3)
                      have h424 := (hr_384.ext hE417)
                      refine dOp 9 rfl rfl (by kernel_rfl) (oAppT (L := LPx 2 g153) (L' := LPx 2 g153) (f := (⟨Ar_384, nr_384, cr_384, lr_384⟩ : PE)) (S := fun b => (fun b => w346.heap.size ≤ b) b) (B := w154.heap.size) Tryz.underlying43 inf39 rfl rfl rfl (OwnY.swap hO423).2 hB419 (PolyR.le (PolyR.sub h424 (fun b hb_ hs => ⟨hs, by (try dsimp only at hs); omega⟩)) (by omega)) (fun b hb_ hs => ⟨fun a ha e => by have h9 := hY337y.2.b.lt a ha; (try dsimp only at hs); omega, fun a ha e => by have h9 := hY337y.2.a.lt a ha; (try dsimp only at hs); omega⟩) (by omega) (by omega) (by omega) (fun A425 c426 w427 hY428 hF429 => ⟨(hF429.mono q4), ?_⟩))
                      replace hY428 := OwnT.swap hY428
                      have hY428y : OwnY 2 g153 w427 w154.heap.size 39 A334 (nO0 + 1) c335 (fo0 ++ [(⟨Ar_318, nr_318, cr_318, lr_318⟩ : PE)]) A425 (nO1 + 1) c426 (fo1 ++ [(⟨Ar_384, nr_384, cr_384, lr_384⟩ : PE)]) := ⟨hO423.1, hY428⟩
                      have hz430 := hF429.size; have ⟨⟨_, _, _⟩, _, _, _⟩ := hY428y.lkm
                      refine dV 10 rfl (fun _ _ => evArr 1 Tryz.underlying92 sz43 rfl rfl 1) ?_
                      have hB431 := (hB421.frm hF429 q1)
                      refine dOp 11 rfl rfl (by kernel_rfl) (oStore [(.slice A425 (nO1 + 1) c426)] rfl rfl rfl sz43 rfl hB431 (Nat.le_of_ble_eq_true rfl) (fun w432 hU433 hz434 hB435 => ?_))
                      replace hB435 : Blk w432 g153 92 [(.slice A334 (nO0 + 1) c335), (.slice A425 (nO1 + 1) c426)] := hB435
                      refine ⟨(hU433.mono q4), dDone (by kernel_rfl) (bN (xN (hK187 _ _ (wp_region_lit (sV (evAdd (((i3 : Int)) + 1) rfl rfl wI) (sMi rfl (sDone ?_)))))))⟩
                      have hR436 := ((((((hR331.rx hF338).tr hU343).xr hE347).xr hE386).xr hE417).tr hF429).tr hU433
                      have hO437 := (hY428y.frmB hU433 q3)
                      refine again (nl - (i3 + 1)) (by omega) ⟨(i3 + 1), (A334), (nO0 + 1), (c335), (fo0 ++ [(⟨Ar_318, nr_318, cr_318, lr_318⟩ : PE)]), (A425), (nO1 + 1), (c426), (fo1 ++ [(⟨Ar_384, nr_384, cr_384, lr_384⟩ : PE)]), rfl, rfl, rfl, rfl, rfl, rfl, rfl, rfl, cI, (Frm.mono (hF171.tr hR436) q4), ?_, ?_, ?_, ?_, ?_, ?_, ?_, ?_⟩
                      · exact hB435
                      · omega
                      · exact hO437
                      · omega
                      · exact lenL_snoc hl0 (by (try dsimp only); omega)
                      · exact lenL_snoc hl1 (by (try dsimp only); omega)
                      · exact symL_next hac0 (by rw [dsN_len]; omega) (dsN_get he_191) e_318
                      · exact symL_next hac1 (by rw [dsN_len, kr_67]; omega) (dsN_get he_353) e_384
                · refine dWp (i := 5) rfl rfl (oBuildSlice [(.slice Ar_318 nr_318 cr_318)] [[(.slice Ar_318 nr_318 cr_318)]] Tryz.underlying43 inf39 rfl rfl rfl rfl rfl (fun g438 w439 hg440 hE441 hz442 hB443 => ⟨(Frm.of_ext hE441), ?_⟩))
                  replace hB443 : Blk w439 g438 39 [(.slice Ar_318 nr_318 cr_318)] := hB443
                  have hR444 := (hE195.trans hE320).trans hE441
                  have hB445 := (hB172.ext hR444)
                  refine dOp 1 rfl rfl (by kernel_rfl) (oEv (v := (.slice Ao0 nO0 cO0)) (evLoadB one43 rfl hB445 rfl) rfl ⟨Frm.refl _ _, ?_⟩)
                  have hO446 := (hY.ext hR444)
                  have h447 := (hr_318.ext hE441)
                  refine dOp 6 rfl rfl (by kernel_rfl) (oAppT (L := LPx 2 g153) (L' := LPx 2 g153) (f := (⟨Ar_318, nr_318, cr_318, lr_318⟩ : PE)) (S := fun b => (fun b => w194.heap.size ≤ b) b) (B := w154.heap.size) Tryz.underlying43 inf39 rfl rfl rfl hO446.2 hB443 (PolyR.le (PolyR.sub h447 (fun b hb_ hs => ⟨hs, by (try dsimp only at hs); omega⟩)) (by omega)) (fun b hb_ hs => ⟨fun a ha e => by have h9 := hY.2.a.lt a ha; (try dsimp only at hs); omega, fun a ha e => by have h9 := hY.2.b.lt a ha; (try dsimp only at hs); omega⟩) (by omega) (by omega) (by omega) (fun A448 c449 w450 hY451 hF452 => ⟨(hF452.mono q4), ?_⟩))
                  have hY451y : OwnY 2 g153 w450 w154.heap.size 39 A448 (nO0 + 1) c449 (fo0 ++ [(⟨Ar_318, nr_318, cr_318, lr_318⟩ : PE)]) Ao1 (nO1) cO1 (fo1) := ⟨hO446.1, hY451⟩
                  have hz453 := hF452.size; have ⟨⟨_, _, _⟩, _, _, _⟩ := hY451y.lkm
                  refine dV 7 rfl (fun _ _ => evArr 0 Tryz.underlying92 sz43 rfl rfl 0) ?_
                  have hB454 := (hB445.frm hF452 q1)
                  refine dOp 8 rfl rfl (by kernel_rfl) (oStore [(.slice A448 (nO0 + 1) c449)] rfl rfl rfl sz43 rfl hB454 (Nat.le_of_ble_eq_true rfl) (fun w455 hU456 hz457 hB458 => ?_))
                  replace hB458 : Blk w455 g153 92 [(.slice A448 (nO0 + 1) c449), (.slice Ao1 nO1 cO1)] := hB458
                  refine ⟨(hU456.mono q4), dDone (by kernel_rfl) (xN (hK193 _ _ (dBegin (fun b => w154.heap.size ≤ b ∨ b = g153) mixed (fun w459 hE460 hz461 => dV 0 rfl (fun _ _ => evArr 1 Tryz.underlying92 sz43 rfl rfl 1) (dMs 2 rfl rfl (dMi 3 rfl rfl ?_))))))⟩
                  have hR462 := (((((((((hR140.trans hE144).trans hE150).trans hE156).rx hF171).xr hE195).xr hE320).xr hE441).tr hF452).tr hU456).xr hE460
                  have h463 := (hlo72.frmB hR462 q3)
                  obtain ⟨b464, o465, rfl⟩ := h463.base (by omega)
                  refine dV 4 rfl (fun _ _ => evIx i3 Tryz.underlying42 sz46 rfl rfl (o465 + i3)) ?_
                  obtain ⟨⟨A_466, n_466, c_466, d_466⟩, he_466, hp_466, hP_466, hS_466, hb_466⟩ := h463.at_ (i := i3) (by omega)
                  replace hp_466 : World.cell? _ _ = some (.slice A_466 n_466 c_466) := hp_466; replace hP_466 : NatR _ _ A_466 n_466 c_466 d_466 := hP_466; have ⟨q1_466, q2_466, q3_466⟩ := hP_466.lkm
                  have hn64_466 := lr_67 _ (List.mem_of_getElem? he_466); dsimp only at hn64_466
                  refine dV 5 rfl (fun _ hf => evLoad one46 rfl ((hf.cell (p := ⟨_, _, none⟩) hb_466 (by (try dsimp only at hS_466 ⊢); omega)).trans hp_466)) (dMi 6 rfl rfl (dTwo 1 7 (by kernel_rfl) ?_ ?_))
                  · have hB468 := (hB458.ext hE460)
                    refine dWp (i := 1) rfl rfl (oEv (v := (.slice Ao1 nO1 cO1)) (evLoadB one43 rfl hB468 rfl) rfl ⟨Frm.refl _ _, dOp 7 rfl rfl (by kernel_rfl) (oCall rfl call58 (modpoly_Symmetric hP_466 (xm := xp) (by omega) (by omega) (by omega)) rfl ?_)⟩)
                    rintro _ w470 ⟨Ar_469, nr_469, cr_469, lr_469, rfl, hE471, hr_469, e_469, le_469, cn_469⟩
                    refine ⟨(Frm.of_ext hE471), ?_⟩
                    have hz472 := hE471.size
                    have ⟨kr_469, jr_469, mr_469⟩ := hr_469.lkm
                    refine dOp 8 rfl rfl (by kernel_rfl) (oBuildSlice [(.slice Ar_469 nr_469 cr_469)] [[(.slice Ar_469 nr_469 cr_469)]] Tryz.underlying43 inf39 rfl rfl rfl rfl rfl (fun g474 w475 hg476 hE477 hz478 hB479 => ⟨(Frm.of_ext hE477), ?_⟩))
                    replace hB479 : Blk w475 g474 39 [(.slice Ar_469 nr_469 cr_469)] := hB479
                    have hR480 := ((hU456.xr hE460).xr hE471).xr hE477
                    have hO481 := (hY451y.frmB hR480 q3)
                    have h482 := (hr_469.ext hE477)
                    refine dOp 9 rfl rfl (by kernel_rfl) (oAppT (L := LPx 2 g153) (L' := LPx 2 g153) (f := (⟨Ar_469, nr_469, cr_469, lr_469⟩ : PE)) (S := fun b => (fun b => w459.heap.size ≤ b) b) (B := w154.heap.size) Tryz.underlying43 inf39 rfl rfl rfl (OwnY.swap hO481).2 hB479 (PolyR.le (PolyR.sub h482 (fun b hb_ hs => ⟨hs, by (try dsimp only at hs); omega⟩)) (by omega)) (fun b hb_ hs => ⟨fun a ha e => by have h9 := hY451y.2.b.lt a ha; (try dsimp only at hs); omega, fun a ha e => by have h9 := hY451y.2.a.lt a ha; (try dsimp only at hs); omega⟩) (by omega) (by omega) (by omega) (fun A483 c484 w485 hY486 hF487 => ⟨(hF487.mono q4), ?_⟩))
                    replace hY486 := OwnT.swap hY486
                    have hY486y : OwnY 2 g153 w485 w154.heap.size 39 A448 (nO0 + 1) c449 (fo0 ++ [(⟨Ar_318, nr_318, cr_318, lr_318⟩ : PE)]) A483 (nO1 + 1) c484 (fo1 ++ [(⟨Ar_469, nr_469, cr_469, lr_469⟩ : PE)]) := ⟨hO481.1, hY486⟩
                    have hz488 := hF487.size; have ⟨⟨_, _, _⟩, _, _, _⟩ := hY486y.lkm
                    refine dV 10 rfl (fun _ _ => evArr 1 Tryz.underlying92 sz43 rfl rfl 1) ?_
                    have hR489 := (hE471.trans hE477).rx hF487
                    have hB490 := (hB468.frm hR489 q1)
                    refine dOp 11 rfl rfl (by kernel_rfl) (oStore [(.slice A483 (nO1 + 1) c484)] rfl rfl rfl sz43 rfl hB490 (Nat.le_of_ble_eq_true rfl) (fun w491 hU492 hz493 hB494 => ?_))
                    replace hB494 : Blk w491 g153 92 [(.slice A448 (nO0 + 1) c449), (.slice A483 (nO1 + 1) c484)] := hB494
                    refine ⟨(hU492.mono q4), dDone (by kernel_rfl) (bN (xN (hK187 _ _ (wp_region_lit (sV (evAdd (((i3 : Int)) + 1) rfl rfl wI) (sMi rfl (sDone ?_)))))))⟩
                    have hR495 := ((((((hR444.rx hF452).tr hU456).xr hE460).xr hE471).xr hE477).tr hF487).tr hU492
                    have hO496 := (hY486y.frmB hU492 q3)
                    refine again (nl - (i3 + 1)) (by omega) ⟨(i3 + 1), (A448), (nO0 + 1), (c449), (fo0 ++ [(⟨Ar_318, nr_318, cr_318, lr_318⟩ : PE)]), (A483), (nO1 + 1), (c484), (fo1 ++ [(⟨Ar_469, nr_469, cr_469, lr_469⟩ : PE)]), rfl, rfl, rfl, rfl, rfl, rfl, rfl, rfl, cI, (Frm.mono (hF171.tr hR495) q4), ?_, ?_, ?_, ?_, ?_, ?_, ?_, ?_⟩
                    · exact hB494
                    · omega
                    · exact hO496
                    · omega
                    · exact lenL_snoc hl0 (by (try dsimp only); omega)
                    · exact lenL_snoc hl1 (by (try dsimp only); omega)
                    · exact symL_next hac0 (by rw [dsN_len]; omega) (dsN_get he_191) e_318
                    · exact symL_next hac1 (by rw [dsN_len, kr_67]; omega) (dsN_get he_466) e_469
                  · refine dWp (i := 7) rfl rfl (oCall rfl call58 (modpoly_Symmetric hP_466 (xm := xp) (by omega) (by omega) (by omega)) rfl ?_)
                    rintro _ w498 ⟨Ar_497, nr_497, cr_497, lr_497, rfl, hE499, hr_497, e_497, le_497, cn_497⟩
                    refine ⟨(Frm.of_ext hE499), ?_⟩
                    have hz500 := hE499.size
                    have ⟨kr_497, jr_497, mr_497⟩ := hr_497.lkm
                    refine dTwo 1 8 (by kernel_rfl) ?_ ?_
                    · have hR502 := hE460.trans hE499
                      have hB503 := (hB458.ext hR502)
                      refine dWp (i := 1) rfl rfl (oEv (v := (.slice Ao1 nO1 cO1)) (evLoadB one43 rfl hB503 rfl) rfl ⟨Frm.refl _ _, dOp 8 rfl rfl (by kernel_rfl) (oBuildSlice [(.slice Ar_497 nr_497 cr_497)] [[(.slice Ar_497 nr_497 cr_497)]] Tryz.underlying43 inf39 rfl rfl rfl rfl rfl (fun g504 w505 hg506 hE507 hz508 hB509 => ⟨(Frm.of_ext hE507), ?_⟩))⟩)
                      replace hB509 : Blk w505 g504 39 [(.slice Ar_497 nr_497 cr_497)] := hB509
                      have hR510 := ((hU456.xr hE460).xr hE499).xr hE507
                      have hO511 := (hY451y.frmB hR510 q3)
                      have h512 := (hr_497.ext hE507)
                      refine dOp 9 rfl rfl (by kernel_rfl) (oAppT (L := LPx 2 g153) (L' := LPx 2 g153) (f := (⟨Ar_497, nr_497, cr_497, lr_497⟩ : PE)) (S := fun b => (fun b => w459.heap.size ≤ b) b) (B := w154.heap.size) Tryz.underlying43 inf39 rfl rfl rfl (OwnY.swap hO511).2 hB509 (PolyR.le (PolyR.sub h512 (fun b hb_ hs => ⟨hs, by (try dsimp only at hs); omega⟩)) (by omega)) (fun b hb_ hs => ⟨fun a ha e => by have h9 := hY451y.2.b.lt a ha; (try dsimp only at hs); omega, fun a ha e => by have h9 := hY451y.2.a.lt a ha; (try dsimp only at hs); omega⟩) (by omega) (by omega) (by omega) (fun A513 c514 w515 hY516 hF517 => ⟨(hF517.mono q4), ?_⟩))
                      replace hY516 := OwnT.swap hY516
                      have hY516y : OwnY 2 g153 w515 w154.heap.size 39 A448 (nO0 + 1) c449 (fo0 ++ [(⟨Ar_318, nr_318, cr_318, lr_318⟩ : PE)]) A513 (nO1 + 1) c514 (fo1 ++ [(⟨Ar_497, nr_497, cr_497, lr_497⟩ : PE)]) := ⟨hO511.1, hY516⟩
                      have hz518 := hF517.size; have ⟨⟨_, _, _⟩, _, _, _⟩ := hY516y.lkm
                      refine dV 10 rfl (fun _ _ => evArr 1 Tryz.underlying92 sz43 rfl rfl 1) ?_
                      have hR519 := hE507.rx hF517
                      have hB520 := (hB503.frm hR519 q1)
                      refine dOp 11 rfl rfl (by kernel_rfl) (oStore [(.slice A513 (nO1 + 1) c514)] rfl rfl rfl sz43 rfl hB520 (Nat.le_of_ble_eq_true rfl) (fun w521 hU522 hz523 hB524 => ?_))
                      replace hB524 : Blk w521 g153 92 [(.slice A448 (nO0 + 1) c449), (.slice A513 (nO1 + 1) c514)] := hB524
                      refine ⟨(hU522.mono q4), dDone (by kernel_rfl) (bN (xN (hK187 _ _ (wp_region_lit (sV (evAdd (((i3 : Int)) + 1) rfl rfl wI) (sMi rfl (sDone ?_)))))))⟩
                      have hR525 := ((((((hR444.rx hF452).tr hU456).xr hE460).xr hE499).xr hE507).tr hF517).tr hU522
                      have hO526 := (hY516y.frmB hU522 q3)
                      refine again (nl - (i3 + 1)) (by omega) ⟨(i3 + 1), (A448), (nO0 + 1), (c449), (fo0 ++ [(⟨Ar_318, nr_318, cr_318, lr_318⟩ : PE)]), (A513), (nO1 + 1), (c514), (fo1 ++ [(⟨Ar_497, nr_497, cr_497, lr_497⟩ : PE)]), rfl, rfl, rfl, rfl, rfl, rfl, rfl, rfl, cI, (Frm.mono (hF171.tr hR525) q4), ?_, ?_, ?_, ?_, ?_, ?_, ?_, ?_⟩
                      · exact hB524
                      · omega
                      · exact hO526
                      · omega
                      · exact lenL_snoc hl0 (by (try dsimp only); omega)
                      · exact lenL_snoc hl1 (by (try dsimp only); omega)
                      · exact symL_next hac0 (by rw [dsN_len]; omega) (dsN_get he_191) e_318
                      · exact symL_next hac1 (by rw [dsN_len, kr_67]; omega) (dsN_get he_466) e_497
                    · refine dWp (i := 8) rfl rfl (oBuildSlice [(.slice Ar_497 nr_497 cr_497)] [[(.slice Ar_497 nr_497 cr_497)]] Tryz.underlying43 inf39 rfl rfl rfl rfl rfl (fun g527 w528 hg529 hE530 hz531 hB532 => ⟨(Frm.of_ext hE530), ?_⟩))
                      replace hB532 : Blk w528 g527 39 [(.slice Ar_497 nr_497 cr_497)] := hB532
                      have hR533 := (hE460.trans hE499).trans hE530
                      have hB534 := (hB458.ext hR533)
                      refine dOp 1 rfl rfl (by kernel_rfl) (oEv (v := (.slice Ao1 nO1 cO1)) (evLoadB one43 rfl hB534 rfl) rfl ⟨Frm.refl _ _, ?_⟩)
                      have hR535 := ((hU456.xr hE460).xr hE499).xr hE530
                      have hO536 := (hY451y.frmB hR535 q3)
                      have h537 := (hr_497.ext hE530)
                      refine dOp 9 rfl rfl (by kernel_rfl) (oAppT (L := LPx 2 g153) (L' := LPx 2 g153) (f := (⟨Ar_497, nr_497, cr_497, lr_497⟩ : PE)) (S := fun b => (fun b => w459.heap.size ≤ b) b) (B := w154.heap.size) Tryz.underlying43 inf39 rfl rfl rfl (OwnY.swap hO536).2 hB532 (PolyR.le (PolyR.sub h537 (fun b hb_ hs => ⟨hs, by (try dsimp only at hs); omega⟩)) (by omega)) (fun b hb_ hs => ⟨fun a ha e => by have h9 := hY451y.2.b.lt a ha; (try dsimp only at hs); omega, fun a ha e => by have h9 := hY451y.2.a.lt a ha; (try dsimp only at hs); omega⟩) (by omega) (by omega) (by omega) (fun A538 c539 w540 hY541 hF542 => ⟨(hF542.mono q4), ?_⟩))
                      replace hY541 := OwnT.swap hY541
                      have hY541y : OwnY 2 g153 w540 w154.heap.size 39 A448 (nO0 + 1) c449 (fo0 ++ [(⟨Ar_318, nr_318, cr_318, lr_318⟩ : PE)]) A538 (nO1 + 1) c539 (fo1 ++ [(⟨Ar_497, nr_497, cr_497, lr_497⟩ : PE)]) := ⟨hO536.1, hY541⟩
                      have hz543 := hF542.size; have ⟨⟨_, _, _⟩, _, _, _⟩ := hY541y.lkm
                      refine dV 10 rfl (fun _ _ => evArr 1 Tryz.underlying92 sz43 rfl rfl 1) ?_
                      have hB544 := (hB534.frm hF542 q1)
                      refine dOp 11 rfl rfl (by kernel_rfl) (oStore [(.slice A538 (nO1 + 1) c539)] rfl rfl rfl sz43 rfl hB544 (Nat.le_of_ble_eq_true rfl) (fun w545 hU546 hz547 hB548 => ?_))
                      replace hB548 : Blk w545 g153 92 [(.slice A448 (nO0 + 1) c449), (.slice A538 (nO1 + 1) c539)] := hB548
                      refine ⟨(hU546.mono q4), dDone (by kernel_rfl) (bN (xN (hK187 _ _ (wp_region_lit (sV (evAdd (((i3 : Int)) + 1) rfl rfl wI) (sMi rfl (sDone ?_)))))))⟩
                      have hR549 := ((((((hR444.rx hF452).tr hU456).xr hE460).xr hE499).xr hE530).tr hF542).tr hU546
                      have hO550 := (hY541y.frmB hU546 q3)
                      refine again (nl - (i3 + 1)) (by omega) ⟨(i3 + 1), (A448), (nO0 + 1), (c449), (fo0 ++ [(⟨Ar_318, nr_318, cr_318, lr_318⟩ : PE)]), (A538), (nO1 + 1), (c539), (fo1 ++ [(⟨Ar_497, nr_497, cr_497, lr_497⟩ : PE)]), rfl, rfl, rfl, rfl, rfl, rfl, rfl, rfl, cI, (Frm.mono (hF171.tr hR549) q4), ?_, ?_, ?_, ?_, ?_, ?_, ?_, ?_⟩
                      · exact hB548
                      · omega
                      · exact hO550
                      · omega
                      · exact lenL_snoc hl0 (by (try dsimp only); omega)
                      · exact lenL_snoc hl1 (by (try dsimp only); omega)
                      · exact symL_next hac0 (by rw [dsN_len]; omega) (dsN_get he_191) e_318
                      · exact symL_next hac1 (by rw [dsN_len, kr_67]; omega) (dsN_get he_466) e_497
            · refine sV (evLss false rfl rfl (dF hc185)) (sK hK184 (wp_seq_k fun K551 hK551 => cF rfl (wp_exit (xE (xE (bE (xN (hK159 _ _ (wp_seq_k fun K552 hK552 => ?_)))))))))
              have hP0 := OwnY.left hY; have hP1 := OwnY.right hY; have hlt7 := hB172.lt
              have hz0 : zsL fo0 = (symL xp (monL xp (dsN fl))) := by rw [symL_end hac0 (by rw [dsN_len]; omega), hML]
              have hz1 : zsL fo1 = (symL xp (cofsG xp (monL xp (dsN fl)))) := by rw [symL_end hac1 (by rw [dsN_len, kr_67]; omega), e_67, hML]
              refine wp_region_lit (sMi rfl (sV (evConv ((xp : Int)) Tryz.underlying26 Tryz.underlying2 rfl (wI64 (by omega))) (sO (oCall rfl call35 (integer_Of (by omega)) rfl ?_))))
              rintro _ w556 ⟨gr_555, Ar_555, nr_555, cr_555, dr_555, rfl, hE557, hr_555, v_555, cn_555, le_555⟩
              have hz558 := hE557.size
              have ⟨lr_555, kr_555, mr_555⟩ := hr_555.lkm
              have h560 := hr_555.sub (S' := fun b => (w162.heap.size ≤ b) ∧ b < w556.heap.size) fun _ hb hs => ⟨hs, hb⟩
              refine sO (oAlloc [(.bool false), (.slice none 0 0)] zero25 rfl (fun g561 w562 hg563 hE564 hz565 hB566 => sO (oStore [(.bool gr_555), (.slice Ar_555 nr_555 cr_555)] rfl rfl rfl sz25 rfl hB566 (Nat.le_of_ble_eq_true rfl) (fun w567 hU568 hz569 hB570 => ?_))))
              replace hB570 : Blk w567 g561 25 [(.bool gr_555), (.slice Ar_555 nr_555 cr_555)] := hB570
              refine sK hK552 (rS fun K571 hK571 => sAi rfl (sK hK571 (wp_seq_k fun K572 hK572 => wp_label (xN (hK572 _ _ (wp_seq_k fun K573 hK573 => wp_block ?_))))))
              have hR575 := (hE557.trans hE564).rx hU568
              have hB576 := (hB172.frm hR575 q1)
              have hR577 := hE564.rx hU568
              have h578 := (h560.frmB hR577 q3)
              have h579 := (hP0.frmB hR575 q3)
              have h580 := (hP1.frmB hR575 q3)
              refine lLoop (fun m e w_ => ∃ (ee : Nat) (gM : Bool) (AM : Option Addr) (nM : Nat) (cM : Nat) (dM : List Nat) (Aq0 : Option Addr) (nq0 : Nat) (cq0 : Nat) (fq0 : List PE) (Aq1 : Option Addr) (nq1 : Nat) (cq1 : Nat) (fq1 : List PE), m = xk - ee ∧ e 0 = (.slice Af nf cf) ∧ e 2 = (.int .u32 ((xp : Int))) ∧ e 3 = (.int .i64 ((xk : Int))) ∧ e 19 = (.pointer (some ⟨g153, 0, none⟩)) ∧ e 22 = (.pointer (some ⟨g561, 0, none⟩)) ∧ e 23 = (.int .i64 ((ee : Int))) ∧ Frm (fun b => b = g561 ∨ b = g153) w567 w_ ∧ Blk w_ g561 25 ([.bool gM, .slice AM nM cM]) ∧ Blk w_ g153 92 ([(.slice Aq0 nq0 cq0), (.slice Aq1 nq1 cq1)]) ∧ (1 ≤ ee ∧ ee ≤ xk) ∧ (NatR w_ (fun b => w.heap.size ≤ b ∧ b ≠ g153 ∧ b ≠ g561) AM nM cM dM) ∧ (PolysR w_ (fun b => w.heap.size ≤ b ∧ b ≠ g153 ∧ b ≠ g561) Aq0 nq0 cq0 fq0 4096) ∧ (PolysR w_ (fun b => w.heap.size ≤ b ∧ b ≠ g153 ∧ b ≠ g561) Aq1 nq1 cq1 fq1 4096) ∧ (zval gM dM = ((xp ^ ee : Nat) : Int)) ∧ (nM ≤ 9) ∧ (nq0 = nl ∧ nq1 = nl) ∧ (∀ x ∈ fq0, x.n ≤ 64) ∧ (∀ x ∈ fq1, x.n ≤ 64) ∧ (LReach xp xk (zs lf) (symL xp (monL xp (dsN fl))) (symL xp (cofsG xp (monL xp (dsN fl)))) (zsL fq0) (zsL fq1) ee)) (xk - (1)) ?_ ?_
              · refine ⟨(1), (gr_555), (Ar_555), (nr_555), (cr_555), (dr_555), (Ao0), (nO0), (cO0), (fo0), (Ao1), (nO1), (cO1), (fo1), rfl, rfl, rfl, rfl, rfl, rfl, cI, (Frm.refl _ _), ?_, ?_, ?_, ?_, ?_, ?_, ?_, ?_, ?_, ?_, ?_, ?_⟩
                · exact hB570
                · exact hB576
                · omega
                · exact NatR.sub h578 q5
                · exact PolysR.le (PolysR.sub h579 q5) (by omega)
                · exact PolysR.le (PolysR.sub h580 q5) (by omega)
                · rw [v_555, Nat.pow_one]
                · omega
                · omega
                · exact hl0
                · exact hl1
                · rw [hz0, hz1]; exact .start
              · rintro m574 e592 w581 ⟨ee, gM, AM, nM, cM, dM, Aq0, nq0, cq0, fq0, Aq1, nq1, cq1, fq1, hm591, hs582, hs583, hs584, hs585, hs586, hs587, hF588, hB589, hB590, hee, hM, hQ0, hQ1, hvM, hnM, hnq, hlq0, hlq1, hRe⟩
                obtain ⟨r593, rfl⟩ := sq (e := e592) (t := 0) hs582
                obtain ⟨r594, rfl⟩ := sq (e := r593) (t := 2) hs583
                obtain ⟨r595, rfl⟩ := sq (e := r594) (t := 3) hs584
                obtain ⟨r596, rfl⟩ := sq (e := r595) (t := 19) hs585
                obtain ⟨r597, rfl⟩ := sq (e := r596) (t := 22) hs586
                obtain ⟨r598, rfl⟩ := sq (e := r597) (t := 23) hs587
                have hz599 := hF588.size
                have ⟨lM, kM, mM⟩ := hM.lkm; have ⟨lq0, kq0, mq0⟩ := hQ0.lkm; have ⟨lq1, kq1, mq1⟩ := hQ1.lkm
                refine wp_block (wp_seq_k fun K600 hK600 => rS fun K601 hK601 => sMi rfl (sMi rfl ?_))
                by_cases hc602 : ((ee : Int)) = ((xk : Int))
                · refine sV (evEql true rfl rfl (dT hc602)) (sMb rfl (sSkip rfl rfl (sSkip rfl rfl (sSkip rfl rfl (sSkip rfl rfl (sV (v := (.bool true)) (rfl) (sK hK601 (cT rfl (wp_exit (xE (bO rfl (xE (bE (xN (hK573 _ _ (rS fun K603 hK603 => sV (evArr 0 Tryz.underlying92 sz43 rfl rfl 0) (sV (evLoadB one43 rfl hB590 rfl) (sAs rfl (sAi rfl (sK hK603 (wp_ret (nR (ret2 (.slice Aq0 nq0 cq0) (.int .i64 (0)) Tryz.results22 (resT rfl) (resT rfl) ?_)))))))))))))))))))))))
                  have hR604 := (((((((((((hR76.xr hE80).xr hE85).xr hE91).xr hF109).xr hE144).xr hE150).xr hE156).tr hF171).xr hE557).xr hE564).tr hU568).tr hF588
                  exact ⟨Aq0, nq0, cq0, fq0, (0), rfl, (Frm.mono hR604 q4), (PolysR.sub hQ0 q5), rfl, ⟨_, _, hRe, .inl (by omega)⟩, hnq.1, hlq0⟩
                · refine sV (evEql false rfl rfl (dF hc602)) (sMb rfl (sEv (v := (.slice Af nf cf)) (rfl) rfl rfl (sEv (v := (.pointer (some ⟨g153, 0, none⟩))) (evArr 0 Tryz.underlying92 sz43 rfl rfl 0) rfl rfl (sEv (v := (.slice Aq0 nq0 cq0)) (evLoadB one43 rfl hB590 rfl) rfl rfl ?_))))
                  have hR605 := ((((((hE144.trans hE150).trans hE156).rx hF171).xr hE557).xr hE564).tr hU568).tr hF588
                  have h606 := (h141.frmB hR605 q3)
                  refine sOp rfl (oCall rfl call59 (hensel_isFactorization h606 hQ0 (by omega) (by omega) (by omega) (by omega) hlq0) rfl ?_)
                  rintro _ w608 ⟨gr_607, rfl, hE609, e_607⟩
                  have hz610 := hE609.size
                  refine sV (v := (.bool gr_607)) (rfl) (sK hK601 (cB gr_607 rfl ?_ ?_))
                  · intro hc611
                    subst hc611
                    refine wp_exit (xE (bO rfl (xE (bE (xN (hK573 _ _ (rS fun K612 hK612 => sV (evArr 0 Tryz.underlying92 sz43 rfl rfl 0) ?_)))))))
                    have hB613 := (hB590.ext hE609)
                    refine sV (evLoadB one43 rfl hB613 rfl) (sAs rfl (sAi rfl (sK hK612 (wp_ret (nR (ret2 (.slice Aq0 nq0 cq0) (.int .i64 (0)) Tryz.results22 (resT rfl) (resT rfl) ?_))))))
                    have h614 := (hQ0.ext hE609)
                    have hR615 := ((((((((((((hR76.xr hE80).xr hE85).xr hE91).xr hF109).xr hE144).xr hE150).xr hE156).tr hF171).xr hE557).xr hE564).tr hU568).tr hF588).xr hE609
                    exact ⟨Aq0, nq0, cq0, fq0, (0), rfl, (Frm.mono hR615 q4), (PolysR.sub h614 q5), rfl, ⟨_, _, hRe, .inr (of_decide_eq_true e_607.symm)⟩, hnq.1, hlq0⟩
                  · intro hc611
                    subst hc611
                    refine wp_skip (xN (hK600 _ _ (rS fun K616 hK616 => sMi rfl (sMi rfl (sMi rfl (sV (evSub (((xk : Int)) - ((ee : Int))) rfl rfl wI) (sV (evMin (((min ee (xk - ee) : Nat) : Int)) rfl rfl (by split <;> omega)) (sAi rfl (sK hK616 (wp_seq_k fun K617 hK617 => dBegin (fun b => b = g561) mixed (fun w618 hE619 hz620 => dMi 1 rfl rfl (dMi 2 rfl rfl (dTwo 0 3 (by kernel_rfl) ?_ ?_)))))))))))))
                    · have hR621 := hE609.trans hE619
                      have hB622 := (hB589.ext hR621)
                      refine dWp (i := 0) rfl rfl (oEv (v := (.agg #[(.bool gM), (.slice AM nM cM)])) (evLoadAB [(.bool gM), (.slice AM nM cM)] agg25 sz25 rfl hB622 rfl) rfl ⟨Frm.refl _ _, dOp 3 rfl rfl (by kernel_rfl) (oCall rfl call60 (hensel_power (xp := xp) (by omega) (by omega)) rfl ?_)⟩)
                      rintro _ w624 ⟨gr_623, Ar_623, nr_623, cr_623, dr_623, rfl, hE625, hr_623, v_623, cn_623, le_623⟩
                      refine ⟨(Frm.of_ext hE625), ?_⟩
                      have hz626 := hE625.size
                      have ⟨lr_623, kr_623, mr_623⟩ := hr_623.lkm
                      have hR628 := hR621.trans hE625
                      have h629 := (hM.ext hR628)
                      refine dOp 4 rfl rfl (by kernel_rfl) (oCall rfl call33 (integer_Mul h629 hr_623 (by omega)) rfl ?_)
                      rintro _ w631 ⟨gr_630, Ar_630, nr_630, cr_630, dr_630, rfl, hE632, hr_630, v_630, cn_630, le_630⟩
                      refine ⟨(Frm.of_ext hE632), ?_⟩
                      have hz633 := hE632.size
                      have ⟨lr_630, kr_630, mr_630⟩ := hr_630.lkm
                      have hvm2 : zval gr_630 dr_630 = ((xp ^ (ee + min ee (xk - ee)) : Nat) : Int) := by rw [v_630]; exact mod_next hvM v_623 rfl
                      have hnm2 : nr_630 ≤ 9 := int_tight cn_630 lr_630 (pow_tight (by omega) (by omega) hvm2)
                      have hpr4 := prime4N hp; have hcp2 : Int.gcd (ldP (zs lf)) (zval gr_630 dr_630) = 1 := by rw [hvm2]; exact cop_pow hpr4 hlead
                      have hne2 : zval gr_630 dr_630 ≠ 0 := by rw [hvm2]; exact powI_ne (by omega)
                      have hab2 : (zval gr_630 dr_630).natAbs = xp ^ (ee + min ee (xk - ee)) := natAbs_pow hvm2
                      have hnf2 : ¬ isFac (zs lf) (zsL fq0) := of_decide_eq_false e_607.symm
                      have hR635 := hE625.trans hE632
                      have hB636 := (hB622.ext hR635)
                      refine dOp 5 rfl rfl (by kernel_rfl) (oStore [(.bool gr_630), (.slice Ar_630 nr_630 cr_630)] rfl rfl rfl sz25 rfl hB636 (Nat.le_of_ble_eq_true rfl) (fun w637 hU638 hz639 hB640 => ?_))
                      replace hB640 : Blk w637 g561 25 [(.bool gr_630), (.slice Ar_630 nr_630 cr_630)] := hB640
                      refine ⟨hU638, dDone (by kernel_rfl) (xN (hK617 _ _ (rS fun K641 hK641 => sMi rfl (sMi rfl (sV (evAdd (((ee : Int)) + (((min ee (xk - ee) : Nat) : Int))) rfl rfl wI) (sAi rfl (sK hK641 (wp_region_lit (sMs rfl ?_)))))))))⟩
                      have hR642 := (hR628.trans hE632).rx hU638
                      have hB643 := (hB590.frm hR642 q1)
                      refine sV (evLoadAB [(.slice Aq0 nq0 cq0), (.slice Aq1 nq1 cq1)] agg92 sz92 rfl hB643 rfl) (sV (evLoadAB [(.bool gr_630), (.slice Ar_630 nr_630 cr_630)] agg25 sz25 rfl hB640 rfl) ?_)
                      have h644 := (h606.frmB hR642 q3)
                      have h645 := (hQ0.frmB hR642 q3)
                      have h646 := (hQ1.frmB hR642 q3)
                      have h647 := (hr_630.frmB hU638 q3)
                      refine sO (oCall rfl call61 (hensel_step h644 h645 h646 h647 (by omega) (by omega) (by omega) (by omega) (by omega) (by omega) ⟨hlq0, hlq1⟩ hcp2 (fun x hx => hok _ _ _ hRe _ (List.mem_map_of_mem (f := fun f : PE => zs f.l) hx)) (by intro x K h1 h2; rw [hab2] at h2 ⊢; rw [hvm2] at h1; exact hok _ _ _ (.next hRe (by omega) hnf2 h1 h2))) rfl ?_)
                      rintro _ w649 ⟨Ar0_648, nr0_648, cr0_648, fr0_648, Ar1_648, nr1_648, cr1_648, fr1_648, rfl, hE650, hr0_648, hr1_648, e_648, nr_648, lr_648⟩
                      have hz651 := hE650.size
                      have ⟨kr0_648, jr0_648, mr0_648⟩ := hr0_648.lkm
                      have ⟨kr1_648, jr1_648, mr1_648⟩ := hr1_648.lkm
                      have hre2 : LReach xp xk (zs lf) (symL xp (monL xp (dsN fl))) (symL xp (cofsG xp (monL xp (dsN fl)))) (zsL fr0_648) (zsL fr1_648) (ee + min ee (xk - ee)) := by obtain ⟨x, K, h1, h2, h3, h4⟩ := e_648; rw [hab2] at h2 h3 h4; rw [hvm2] at h1; rw [h3, h4]; exact .next hRe (by omega) hnf2 h1 h2
                      have hB654 := (hB643.ext hE650)
                      refine sO (oStore [(.slice Ar0_648 nr0_648 cr0_648), (.slice Ar1_648 nr1_648 cr1_648)] rfl rfl rfl sz92 rfl hB654 (Nat.le_of_ble_eq_true rfl) (fun w655 hU656 hz657 hB658 => ?_))
                      replace hB658 : Blk w655 g153 92 [(.slice Ar0_648 nr0_648 cr0_648), (.slice Ar1_648 nr1_648 cr1_648)] := hB658
                      refine sDone (bN ?_)
                      have hR659 := (hR642.xr hE650).tr hU656
                      have hR660 := hE650.rx hU656
                      have hB661 := (hB640.frm hR660 q1)
                      have h662 := (h647.frmB hR660 q3)
                      have h663 := (hr0_648.frmB hU656 q3)
                      have h664 := (hr1_648.frmB hU656 q3)
                      refine again (xk - (ee + (min ee (xk - ee)))) (by omega) ⟨(ee + (min ee (xk - ee))), (gr_630), (Ar_630), (nr_630), (cr_630), (dr_630), (Ar0_648), (nr0_648), (cr0_648), (fr0_648), (Ar1_648), (nr1_648), (cr1_648), (fr1_648), rfl, rfl, rfl, rfl, rfl, rfl, cI, (Frm.mono (hF588.tr hR659) q4), ?_, ?_, ?_, ?_, ?_, ?_, ?_, ?_, ?_, ?_, ?_, ?_⟩
                      · exact hB661
                      · exact hB658
                      · omega
                      · exact NatR.sub h662 q5
                      · exact PolysR.le (PolysR.sub h663 q5) (by omega)
                      · exact PolysR.le (PolysR.sub h664 q5) (by omega)
                      · exact hvm2
                      · exact hnm2
                      · omega
                      · exact lr_648.1
                      · exact lr_648.2
                      · exact hre2
                    · refine dWp (i := 3) rfl rfl (oCall rfl call60 (hensel_power (xp := xp) (by omega) (by omega)) rfl ?_)
                      rintro _ w666 ⟨gr_665, Ar_665, nr_665, cr_665, dr_665, rfl, hE667, hr_665, v_665, cn_665, le_665⟩
                      refine ⟨(Frm.of_ext hE667), ?_⟩
                      have hz668 := hE667.size
                      have ⟨lr_665, kr_665, mr_665⟩ := hr_665.lkm
                      have hR670 := (hE609.trans hE619).trans hE667
                      have hB671 := (hB589.ext hR670)
                      refine dOp 0 rfl rfl (by kernel_rfl) (oEv (v := (.agg #[(.bool gM), (.slice AM nM cM)])) (evLoadAB [(.bool gM), (.slice AM nM cM)] agg25 sz25 rfl hB671 rfl) rfl ⟨Frm.refl _ _, ?_⟩)
                      have h672 := (hM.ext hR670)
                      refine dOp 4 rfl rfl (by kernel_rfl) (oCall rfl call33 (integer_Mul h672 hr_665 (by omega)) rfl ?_)
                      rintro _ w674 ⟨gr_673, Ar_673, nr_673, cr_673, dr_673, rfl, hE675, hr_673, v_673, cn_673, le_673⟩
                      refine ⟨(Frm.of_ext hE675), ?_⟩
                      have hz676 := hE675.size
                      have ⟨lr_673, kr_673, mr_673⟩ := hr_673.lkm
                      have hvm2 : zval gr_673 dr_673 = ((xp ^ (ee + min ee (xk - ee)) : Nat) : Int) := by rw [v_673]; exact mod_next hvM v_665 rfl
                      have hnm2 : nr_673 ≤ 9 := int_tight cn_673 lr_673 (pow_tight (by omega) (by omega) hvm2)
                      have hpr4 := prime4N hp; have hcp2 : Int.gcd (ldP (zs lf)) (zval gr_673 dr_673) = 1 := by rw [hvm2]; exact cop_pow hpr4 hlead
                      have hne2 : zval gr_673 dr_673 ≠ 0 := by rw [hvm2]; exact powI_ne (by omega)
                      have hab2 : (zval gr_673 dr_673).natAbs = xp ^ (ee + min ee (xk - ee)) := natAbs_pow hvm2
                      have hnf2 : ¬ isFac (zs lf) (zsL fq0) := of_decide_eq_false e_607.symm
                      have hB678 := (hB671.ext hE675)
                      refine dOp 5 rfl rfl (by kernel_rfl) (oStore [(.bool gr_673), (.slice Ar_673 nr_673 cr_673)] rfl rfl rfl sz25 rfl hB678 (Nat.le_of_ble_eq_true rfl) (fun w679 hU680 hz681 hB682 => ?_))
                      replace hB682 : Blk w679 g561 25 [(.bool gr_673), (.slice Ar_673 nr_673 cr_673)] := hB682
                      refine ⟨hU680, dDone (by kernel_rfl) (xN (hK617 _ _ (rS fun K683 hK683 => sMi rfl (sMi rfl (sV (evAdd (((ee : Int)) + (((min ee (xk - ee) : Nat) : Int))) rfl rfl wI) (sAi rfl (sK hK683 (wp_region_lit (sMs rfl ?_)))))))))⟩
                      have hR684 := (hR670.trans hE675).rx hU680
                      have hB685 := (hB590.frm hR684 q1)
                      refine sV (evLoadAB [(.slice Aq0 nq0 cq0), (.slice Aq1 nq1 cq1)] agg92 sz92 rfl hB685 rfl) (sV (evLoadAB [(.bool gr_673), (.slice Ar_673 nr_673 cr_673)] agg25 sz25 rfl hB682 rfl) ?_)
                      have h686 := (h606.frmB hR684 q3)
                      have h687 := (hQ0.frmB hR684 q3)
                      have h688 := (hQ1.frmB hR684 q3)
                      have h689 := (hr_673.frmB hU680 q3)
                      refine sO (oCall rfl call61 (hensel_step h686 h687 h688 h689 (by omega) (by omega) (by omega) (by omega) (by omega) (by omega) ⟨hlq0, hlq1⟩ hcp2 (fun x hx => hok _ _ _ hRe _ (List.mem_map_of_mem (f := fun f : PE => zs f.l) hx)) (by intro x K h1 h2; rw [hab2] at h2 ⊢; rw [hvm2] at h1; exact hok _ _ _ (.next hRe (by omega) hnf2 h1 h2))) rfl ?_)
                      rintro _ w691 ⟨Ar0_690, nr0_690, cr0_690, fr0_690, Ar1_690, nr1_690, cr1_690, fr1_690, rfl, hE692, hr0_690, hr1_690, e_690, nr_690, lr_690⟩
                      have hz693 := hE692.size
                      have ⟨kr0_690, jr0_690, mr0_690⟩ := hr0_690.lkm
                      have ⟨kr1_690, jr1_690, mr1_690⟩ := hr1_690.lkm
                      have hre2 : LReach xp xk (zs lf) (symL xp (monL xp (dsN fl))) (symL xp (cofsG xp (monL xp (dsN fl)))) (zsL fr0_690) (zsL fr1_690) (ee + min ee (xk - ee)) := by obtain ⟨x, K, h1, h2, h3, h4⟩ := e_690; rw [hab2] at h2 h3 h4; rw [hvm2] at h1; rw [h3, h4]; exact .next hRe (by omega) hnf2 h1 h2
                      have hB696 := (hB685.ext hE692)
                      refine sO (oStore [(.slice Ar0_690 nr0_690 cr0_690), (.slice Ar1_690 nr1_690 cr1_690)] rfl rfl rfl sz92 rfl hB696 (Nat.le_of_ble_eq_true rfl) (fun w697 hU698 hz699 hB700 => ?_))
                      replace hB700 : Blk w697 g153 92 [(.slice Ar0_690 nr0_690 cr0_690), (.slice Ar1_690 nr1_690 cr1_690)] := hB700
                      refine sDone (bN ?_)
                      have hR701 := (hR684.xr hE692).tr hU698
                      have hR702 := hE692.rx hU698
                      have hB703 := (hB682.frm hR702 q1)
                      have h704 := (h689.frmB hR702 q3)
                      have h705 := (hr0_690.frmB hU698 q3)
                      have h706 := (hr1_690.frmB hU698 q3)
                      refine again (xk - (ee + (min ee (xk - ee)))) (by omega) ⟨(ee + (min ee (xk - ee))), (gr_673), (Ar_673), (nr_673), (cr_673), (dr_673), (Ar0_690), (nr0_690), (cr0_690), (fr0_690), (Ar1_690), (nr1_690), (cr1_690), (fr1_690), rfl, rfl, rfl, rfl, rfl, rfl, cI, (Frm.mono (hF588.tr hR701) q4), ?_, ?_, ?_, ?_, ?_, ?_, ?_, ?_, ?_, ?_, ?_, ?_⟩
                      · exact hB703
                      · exact hB700
                      · omega
                      · exact NatR.sub h704 q5
                      · exact PolysR.le (PolysR.sub h705 q5) (by omega)
                      · exact PolysR.le (PolysR.sub h706 q5) (by omega)
                      · exact hvm2
                      · exact hnm2
                      · omega
                      · exact lr_690.1
                      · exact lr_690.2
                      · exact hre2
end Go.Proofs.YtneolcopompkaaaGreatDoor
