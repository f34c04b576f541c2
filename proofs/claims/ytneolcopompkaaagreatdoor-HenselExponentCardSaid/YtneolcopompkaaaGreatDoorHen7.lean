/-
  Walk of package hensel: cofactors.
-/
import Derived.Test.YtneolcopompkaaaGreatDoorMod4
import Derived.Test.YtneolcopompkaaaGreatDoorLibB
namespace Go.Proofs.YtneolcopompkaaaGreatDoor
open Go.RowKit Go.Gx
set_option maxHeartbeats 2000000 in
theorem hensel_Cofactors {w : World} {Sl : Nat → Prop} {Al : Option Addr} {nl cl : Nat} {fl : List NE} {xp : Nat} (hl : GListR LN w Sl Al nl cl fl) (bp : xp < 4294967296) (hp : xp = 2 ∨ xp = 3 ∨ xp = 5 ∨ xp = 7) (hnl : nl ≤ 8) (hle : ∀ f ∈ fl, f.n ≤ 63) (hdeg : ∀ f ∈ fl, 2 ≤ (nrmP xp f.d).length) (hco : ∀ (i j : Nat) (f g : NE), j < i → fl[i]? = some f → fl[j]? = some g → (gcdP xp (nrmP xp f.d) (nrmP xp g.d)).length ≤ 1) : Calls Tryz.prog 56 #[(.slice Al nl cl), (.int .u32 ((xp : Int)))] w (Ret fun v w' => ∃ (Ar : Option Addr) (nr : Nat) (cr : Nat) (fr : List NE) (xo : Int), v = (.tuple #[(.slice Ar nr cr), (.int .i64 (xo))]) ∧ Ext w w' ∧ GListR LN w' (fun b => w.heap.size ≤ b) Ar nr cr fr ∧ (xo = 0) ∧ (dsN fr = cofsG xp (dsN fl)) ∧ (∀ f ∈ fr, f.n ≤ 64)) := by
  have ⟨kl, jl, ml⟩ := hl.lkm; replace hl := hl.low
  refine enter Tryz.func56 rfl Tryz.ntmps56 rfl (rS fun K1 hK1 => sAs rfl (sAi rfl (sK hK1 (wp_seq_k fun K2 hK2 => rS fun K3 hK3 => sMi rfl (sO (oCall rfl call54 (modular_IsPrime (xn := xp) (by omega) (by assumption)) rfl ?_))))))
  rintro _ w5 ⟨gr_4, rfl, hE6, e_4⟩
  have hz7 := hE6.size
  obtain rfl : gr_4 = true := e_4
  refine sV (evNot _ rfl rfl) (sK hK3 (cF rfl (wp_skip (xN (hK2 _ _ (wp_seq_k fun K8 hK8 => rS fun K9 hK9 => sMs rfl (sV (evLen Tryz.underlying42 rfl) (sMi rfl (sK hK9 (wp_block ?_))))))))))
  refine lLoop (fun m e w_ => ∃ (i : Nat), m = nl - i ∧ e 0 = (.slice Al nl cl) ∧ e 1 = (.int .u32 ((xp : Int))) ∧ e 23 = (.slice Al nl cl) ∧ e 24 = (.int .i64 ((nl : Int))) ∧ e 25 = (.int .i64 ((i : Int))) ∧ Frm (fun b => False) w5 w_ ∧ (i ≤ nl)) (nl - (0)) ?_ ?_
  · refine ⟨(0), rfl, rfl, rfl, rfl, rfl, cI, (Frm.refl _ _), ?_⟩
    · omega
  · rintro m10 e19 w11 ⟨i, hm18, hs12, hs13, hs14, hs15, hs16, hF17, hi⟩
    obtain ⟨r20, rfl⟩ := sq (e := e19) (t := 0) hs12
    obtain ⟨r21, rfl⟩ := sq (e := r20) (t := 1) hs13
    obtain ⟨r22, rfl⟩ := sq (e := r21) (t := 23) hs14
    obtain ⟨r23, rfl⟩ := sq (e := r22) (t := 24) hs15
    obtain ⟨r24, rfl⟩ := sq (e := r23) (t := 25) hs16
    have hz25 := hF17.size
    refine rS fun K26 hK26 => ?_
    by_cases hc27 : ((i : Int)) < ((nl : Int))
    · refine sV (evLss true rfl rfl (dT hc27)) (sK hK26 (wp_seq_k fun K28 hK28 => cT rfl (wp_skip (xN (hK28 _ _ (wp_seq_k fun K29 hK29 => wp_block (rS fun K30 hK30 => ?_)))))))
      have hR31 := hE6.trans hF17
      have h32 := (hl.ext hR31)
      obtain ⟨b33, o34, rfl⟩ := h32.base (by omega)
      refine sV (evIx i Tryz.underlying42 sz46 rfl rfl (o34 + i)) ?_
      obtain ⟨⟨A_35, n_35, c_35, d_35⟩, he_35, hp_35, hP_35, hS_35, hb_35⟩ := h32.at_ (i := i) (by omega)
      replace hp_35 : World.cell? _ _ = some (.slice A_35 n_35 c_35) := hp_35; replace hP_35 : NatR _ _ A_35 n_35 c_35 d_35 := hP_35; have ⟨q1_35, q2_35, q3_35⟩ := hP_35.lkm
      have hn64_35 := hle _ (List.mem_of_getElem? he_35); have hdg_35 := hdeg _ (List.mem_of_getElem? he_35); dsimp only at hn64_35 hdg_35
      refine sV (evLoad one46 rfl hp_35) (sAs rfl (sK hK30 (rS fun K37 hK37 => sMs rfl (sMi rfl (sO (oCall rfl call63 (modpoly_Degree hP_35 (xm := xp) (by omega) (by omega)) rfl ?_))))))
      rintro _ w39 ⟨xr_38, rfl, hE40, e_38, b_38⟩
      have hz41 := hE40.size
      refine sV (evLss false rfl rfl (dF (by omega))) (sK hK37 (cF rfl (wp_skip (bN (xN (hK29 _ _ (wp_region_lit (sV (evAdd (((i : Int)) + 1) rfl rfl wI) (sMi rfl (sDone (again (nl - (i + 1)) (by omega) ⟨(i + 1), rfl, rfl, rfl, rfl, rfl, cI, (hF17.trans hE40), ?_⟩)))))))))))
      · omega
    · refine sV (evLss false rfl rfl (dF hc27)) (sK hK26 (wp_seq_k fun K42 hK42 => cF rfl (wp_exit (xE (xE (bE (xN (hK8 _ _ (wp_seq_k fun K43 hK43 => rS fun K44 hK44 => sMs rfl (sV (evLen Tryz.underlying42 rfl) (sMi rfl (sK hK44 (wp_block ?_)))))))))))))
      refine lLoop (fun m e w_ => ∃ (i : Nat), m = nl - i ∧ e 0 = (.slice Al nl cl) ∧ e 1 = (.int .u32 ((xp : Int))) ∧ e 34 = (.slice Al nl cl) ∧ e 35 = (.int .i64 ((nl : Int))) ∧ e 36 = (.int .i64 ((i : Int))) ∧ Frm (fun b => False) w11 w_ ∧ (i ≤ nl)) (nl - (0)) ?_ ?_
      · refine ⟨(0), rfl, rfl, rfl, rfl, rfl, cI, (Frm.refl _ _), ?_⟩
        · omega
      · rintro m45 e54 w46 ⟨i, hm53, hs47, hs48, hs49, hs50, hs51, hF52, hi⟩
        obtain ⟨r55, rfl⟩ := sq (e := e54) (t := 0) hs47
        obtain ⟨r56, rfl⟩ := sq (e := r55) (t := 1) hs48
        obtain ⟨r57, rfl⟩ := sq (e := r56) (t := 34) hs49
        obtain ⟨r58, rfl⟩ := sq (e := r57) (t := 35) hs50
        obtain ⟨r59, rfl⟩ := sq (e := r58) (t := 36) hs51
        have hz60 := hF52.size
        refine rS fun K61 hK61 => ?_
        by_cases hc62 : ((i : Int)) < ((nl : Int))
        · refine sV (evLss true rfl rfl (dT hc62)) (sK hK61 (wp_seq_k fun K63 hK63 => cT rfl (wp_skip (xN (hK63 _ _ (wp_seq_k fun K64 hK64 => wp_block (rS fun K65 hK65 => sMi rfl ?_)))))))
          have hR66 := (hE6.trans hF17).trans hF52
          have h67 := (hl.ext hR66)
          obtain ⟨b68, o69, rfl⟩ := h67.base (by omega)
          refine sV (evIx i Tryz.underlying42 sz46 rfl rfl (o69 + i)) ?_
          obtain ⟨⟨A_70, n_70, c_70, d_70⟩, he_70, hp_70, hP_70, hS_70, hb_70⟩ := h67.at_ (i := i) (by omega)
          replace hp_70 : World.cell? _ _ = some (.slice A_70 n_70 c_70) := hp_70; replace hP_70 : NatR _ _ A_70 n_70 c_70 d_70 := hP_70; have ⟨q1_70, q2_70, q3_70⟩ := hP_70.lkm
          have hn64_70 := hle _ (List.mem_of_getElem? he_70); have hdg_70 := hdeg _ (List.mem_of_getElem? he_70); dsimp only at hn64_70 hdg_70
          refine sV (evLoad one46 rfl hp_70) (sAi rfl (sAs rfl (sK hK65 (rS fun K72 hK72 => sMs rfl (sMi rfl ?_)))))
          have h73 := h67.take (m := i) (by omega)
          refine sV (evSliceHi i Tryz.underlying42 sz46 rfl rfl (by omega) (by omega)) (sV (evLen Tryz.underlying42 rfl) (sMi rfl (sK hK72 (wp_block ?_))))
          refine lLoop (fun m e w_ => ∃ (j : Nat), m = i - j ∧ e 0 = (.slice (some ⟨b68, o69, none⟩) nl cl) ∧ e 1 = (.int .u32 ((xp : Int))) ∧ e 9 = (.slice A_70 n_70 c_70) ∧ e 34 = (.slice (some ⟨b68, o69, none⟩) nl cl) ∧ e 35 = (.int .i64 ((nl : Int))) ∧ e 36 = (.int .i64 ((i : Int))) ∧ e 43 = (.slice (some ⟨b68, o69, none⟩) i cl) ∧ e 44 = (.int .i64 ((i : Int))) ∧ e 45 = (.int .i64 ((j : Int))) ∧ Frm (fun b => False) w46 w_ ∧ (j ≤ i)) (i - (0)) ?_ ?_
          · refine ⟨(0), rfl, rfl, rfl, rfl, rfl, rfl, rfl, rfl, rfl, cI, (Frm.refl _ _), ?_⟩
            · omega
          · rintro m75 e88 w76 ⟨j, hm87, hs77, hs78, hs79, hs80, hs81, hs82, hs83, hs84, hs85, hF86, hj⟩
            obtain ⟨r89, rfl⟩ := sq (e := e88) (t := 0) hs77
            obtain ⟨r90, rfl⟩ := sq (e := r89) (t := 1) hs78
            obtain ⟨r91, rfl⟩ := sq (e := r90) (t := 9) hs79
            obtain ⟨r92, rfl⟩ := sq (e := r91) (t := 34) hs80
            obtain ⟨r93, rfl⟩ := sq (e := r92) (t := 35) hs81
            obtain ⟨r94, rfl⟩ := sq (e := r93) (t := 36) hs82
            obtain ⟨r95, rfl⟩ := sq (e := r94) (t := 43) hs83
            obtain ⟨r96, rfl⟩ := sq (e := r95) (t := 44) hs84
            obtain ⟨r97, rfl⟩ := sq (e := r96) (t := 45) hs85
            have hz98 := hF86.size
            refine rS fun K99 hK99 => ?_
            by_cases hc100 : ((j : Int)) < ((i : Int))
            · refine sV (evLss true rfl rfl (dT hc100)) (sK hK99 (wp_seq_k fun K101 hK101 => cT rfl (wp_skip (xN (hK101 _ _ (wp_seq_k fun K102 hK102 => wp_block (rS fun K103 hK103 => sV (evIx j Tryz.underlying42 sz46 rfl rfl (o69 + j)) ?_)))))))
              have h104 := (h73.ext hF86)
              obtain ⟨⟨A_105, n_105, c_105, d_105⟩, he_105, hp_105, hP_105, hS_105, hb_105⟩ := h104.at_ (i := j) (by omega)
              replace hp_105 : World.cell? _ _ = some (.slice A_105 n_105 c_105) := hp_105; replace hP_105 : NatR _ _ A_105 n_105 c_105 d_105 := hP_105; have ⟨q1_105, q2_105, q3_105⟩ := hP_105.lkm
              replace he_105 : fl[j]? = some ⟨A_105, n_105, c_105, d_105⟩ := by rw [List.getElem?_take_of_lt (by omega)] at he_105; exact he_105
              have hn64_105 := hle _ (List.mem_of_getElem? he_105); have hdg_105 := hdeg _ (List.mem_of_getElem? he_105); dsimp only at hn64_105 hdg_105
              refine sV (evLoad one46 rfl hp_105) (sAs rfl (sK hK103 (rS fun K107 hK107 => sMs rfl (sMs rfl (sMi rfl ?_)))))
              have h108 := (hP_70.ext hF86)
              refine sO (oCall rfl call62 (modpoly_Gcd h108 hP_105 (xp := xp) (by omega) (by omega) (by omega) hp) rfl ?_)
              rintro _ w110 ⟨Ar_109, nr_109, cr_109, dr_109, xo_109, rfl, hE111, hr_109, z_109, e_109, zr_109, le_109⟩
              have hz112 := hE111.size
              have ⟨lr_109, kr_109, mr_109⟩ := hr_109.lkm
              have hc1 := hco i j _ _ (by omega) he_70 he_105; dsimp only at hc1; rw [← e_109] at hc1
              refine sV (v := (.tuple #[(.slice Ar_109 nr_109 cr_109), (.int .i64 (xo_109))])) (rfl) (sV (v := (.slice Ar_109 nr_109 cr_109)) (rfl) (sV (v := (.int .i64 (xo_109))) (rfl) (sAs rfl (sAi rfl (sK hK107 (rS fun K114 hK114 => sMs rfl (sMi rfl (sO (oCall rfl call63 (modpoly_Degree hr_109 (xm := xp) (by omega) (by omega)) rfl ?_)))))))))
              rintro _ w116 ⟨xr_115, rfl, hE117, e_115, b_115⟩
              have hz118 := hE117.size
              rw [CanP.nrm zr_109] at e_115
              refine sV (evGtr false rfl rfl (dF (by omega))) (sK hK114 (cF rfl (wp_skip (bN (xN (hK102 _ _ (wp_region_lit (sV (evAdd (((j : Int)) + 1) rfl rfl wI) (sMi rfl (sDone ?_))))))))))
              have hR119 := hE111.trans hE117
              refine again (i - (j + 1)) (by omega) ⟨(j + 1), rfl, rfl, rfl, rfl, rfl, rfl, rfl, rfl, rfl, cI, (hF86.trans hR119), ?_⟩
              · omega
            · refine sV (evLss false rfl rfl (dF hc100)) (sK hK99 (wp_seq_k fun K120 hK120 => cF rfl (wp_exit (xE (xE (bE (bN (xN (hK64 _ _ (wp_region_lit (sV (evAdd (((i : Int)) + 1) rfl rfl wI) (sMi rfl (sDone (again (nl - (i + 1)) (by omega) ⟨(i + 1), rfl, rfl, rfl, rfl, rfl, cI, (hF52.trans hF86), ?_⟩))))))))))))))
              · omega
        · refine sV (evLss false rfl rfl (dF hc62)) (sK hK61 (wp_seq_k fun K121 hK121 => cF rfl (wp_exit (xE (xE (bE (xN (hK43 _ _ (rS fun K122 hK122 => sMs rfl (sV (evLen Tryz.underlying42 rfl) (sO (oMake1 nl Tryz.underlying42 inf46 rfl cI cI (by omega) (by omega) (fun g123 w124 hg125 hE126 hz127 hB128 => ?_)))))))))))))
          have hB129 : Blk w124 g123 46 (((List.replicate nl NE.zero)).map LN.v) := by rw [List.map_replicate]; exact hB128
          refine sAs rfl (sK hK122 (wp_seq_k fun K130 hK130 => rS fun K131 hK131 => sMs rfl (sV (evLen Tryz.underlying42 rfl) (sMi rfl (sK hK131 (wp_block ?_))))))
          refine lLoop (fun m e w_ => ∃ (i : Nat) (L : List NE), m = nl - i ∧ e 0 = (.slice Al nl cl) ∧ e 1 = (.int .u32 ((xp : Int))) ∧ e 14 = (.slice (some ⟨g123, 0, none⟩) nl nl) ∧ e 65 = (.slice Al nl cl) ∧ e 66 = (.int .i64 ((nl : Int))) ∧ e 67 = (.int .i64 ((i : Int))) ∧ Frm (fun b => b = g123) w124 w_ ∧ Blk w_ g123 46 ((L ++ List.replicate (nl - i) NE.zero).map LN.v) ∧ (i ≤ nl) ∧ (L.length = i) ∧ (AllM w_ (fun b => g123 < b) 64 L) ∧ (dsN L = (List.range i).map (cofG xp (dsN fl)))) (nl - (0)) ?_ ?_
          · refine ⟨(0), ([]), rfl, rfl, rfl, rfl, rfl, rfl, cI, (Frm.refl _ _), ?_, ?_, ?_, ?_, ?_⟩
            · simpa using hB129
            · omega
            · rfl
            · exact AllM.nil
            · rfl
          · rintro m132 e143 w133 ⟨i, L, hm142, hs134, hs135, hs136, hs137, hs138, hs139, hF140, hB141, hi, hL, hA, hz⟩
            obtain ⟨r144, rfl⟩ := sq (e := e143) (t := 0) hs134
            obtain ⟨r145, rfl⟩ := sq (e := r144) (t := 1) hs135
            obtain ⟨r146, rfl⟩ := sq (e := r145) (t := 14) hs136
            obtain ⟨r147, rfl⟩ := sq (e := r146) (t := 65) hs137
            obtain ⟨r148, rfl⟩ := sq (e := r147) (t := 66) hs138
            obtain ⟨r149, rfl⟩ := sq (e := r148) (t := 67) hs139
            have hz150 := hF140.size
            refine rS fun K151 hK151 => ?_
            by_cases hc152 : ((i : Int)) < ((nl : Int))
            · refine sV (evLss true rfl rfl (dT hc152)) (sK hK151 (wp_seq_k fun K153 hK153 => cT rfl (wp_skip (xN (hK153 _ _ (wp_seq_k fun K154 hK154 => wp_block (rS fun K155 hK155 => sMi rfl ?_)))))))
              have hR156 := (((hE6.trans hF17).trans hF52).trans hE126).rx hF140
              have h157 := (hl.frmB hR156 q3)
              obtain ⟨b158, o159, rfl⟩ := h157.base (by omega)
              refine sV (evIx i Tryz.underlying42 sz46 rfl rfl (o159 + i)) ?_
              obtain ⟨⟨A_160, n_160, c_160, d_160⟩, he_160, hp_160, hP_160, hS_160, hb_160⟩ := h157.at_ (i := i) (by omega)
              replace hp_160 : World.cell? _ _ = some (.slice A_160 n_160 c_160) := hp_160; replace hP_160 : NatR _ _ A_160 n_160 c_160 d_160 := hP_160; have ⟨q1_160, q2_160, q3_160⟩ := hP_160.lkm
              have hn64_160 := hle _ (List.mem_of_getElem? he_160); have hdg_160 := hdeg _ (List.mem_of_getElem? he_160); dsimp only at hn64_160 hdg_160
              refine sV (evLoad one46 rfl hp_160) (sAi rfl (sAs rfl (sK hK155 (rS fun K162 hK162 => sO (oBuildSlice [(.int .u32 (1))] [[(.int .u32 (1))]] Tryz.underlying46 inf26 rfl rfl rfl rfl rfl (fun g163 w164 hg165 hE166 hz167 hB168 => ?_))))))
              replace hB168 : Blk w164 g163 26 [(.int .u32 (1))] := hB168
              refine sAs rfl (sK hK162 (wp_seq_k fun K169 hK169 => rS fun K170 hK170 => sMs rfl (sV (evLen Tryz.underlying42 rfl) (sMi rfl (sK hK170 (wp_block ?_))))))
              have h172 : NatR w164 (fun b => b = g163) (some ⟨g163, 0, none⟩) 1 1 ([1]) := NatR.of_blk hB168 rfl (by decide) (by exact lq) (by omega) (by unfold CapMax; omega)
              refine lLoop (fun m e w_ => ∃ (j : Nat) (Au : Option Addr) (nu : Nat) (cu : Nat) (du : List Nat), m = nl - j ∧ e 0 = (.slice (some ⟨b158, o159, none⟩) nl cl) ∧ e 1 = (.int .u32 ((xp : Int))) ∧ e 14 = (.slice (some ⟨g123, 0, none⟩) nl nl) ∧ e 15 = (.int .i64 ((i : Int))) ∧ e 16 = (.slice A_160 n_160 c_160) ∧ e 17 = (.slice Au nu cu) ∧ e 65 = (.slice (some ⟨b158, o159, none⟩) nl cl) ∧ e 66 = (.int .i64 ((nl : Int))) ∧ e 67 = (.int .i64 ((i : Int))) ∧ e 73 = (.slice (some ⟨b158, o159, none⟩) nl cl) ∧ e 74 = (.int .i64 ((nl : Int))) ∧ e 75 = (.int .i64 ((j : Int))) ∧ Frm (fun b => False) w164 w_ ∧ (j ≤ nl) ∧ (NatR w_ (fun b => b < w_.heap.size) Au nu cu du) ∧ (nu ≤ 65) ∧ (du = othP xp d_160 i (dsN fl) j)) (nl - (0)) ?_ ?_
              · refine ⟨(0), ((some ⟨g163, 0, none⟩)), (1), (1), ([1]), rfl, rfl, rfl, rfl, rfl, rfl, rfl, rfl, rfl, rfl, rfl, rfl, cI, (Frm.refl _ _), ?_, ?_, ?_, ?_⟩
                · omega
                · exact NatR.low h172
                · omega
                · rfl
              · rintro m171 e188 w173 ⟨j, Au, nu, cu, du, hm187, hs174, hs175, hs176, hs177, hs178, hs179, hs180, hs181, hs182, hs183, hs184, hs185, hF186, hj, hu, hnu, hoth⟩
                obtain ⟨r189, rfl⟩ := sq (e := e188) (t := 0) hs174
                obtain ⟨r190, rfl⟩ := sq (e := r189) (t := 1) hs175
                obtain ⟨r191, rfl⟩ := sq (e := r190) (t := 14) hs176
                obtain ⟨r192, rfl⟩ := sq (e := r191) (t := 15) hs177
                obtain ⟨r193, rfl⟩ := sq (e := r192) (t := 16) hs178
                obtain ⟨r194, rfl⟩ := sq (e := r193) (t := 17) hs179
                obtain ⟨r195, rfl⟩ := sq (e := r194) (t := 65) hs180
                obtain ⟨r196, rfl⟩ := sq (e := r195) (t := 66) hs181
                obtain ⟨r197, rfl⟩ := sq (e := r196) (t := 67) hs182
                obtain ⟨r198, rfl⟩ := sq (e := r197) (t := 73) hs183
                obtain ⟨r199, rfl⟩ := sq (e := r198) (t := 74) hs184
                obtain ⟨r200, rfl⟩ := sq (e := r199) (t := 75) hs185
                have hz201 := hF186.size
                have ⟨lu, ku, mu⟩ := hu.lkm
                refine rS fun K202 hK202 => ?_
                by_cases hc203 : ((j : Int)) < ((nl : Int))
                · refine sV (evLss true rfl rfl (dT hc203)) (sK hK202 (wp_seq_k fun K204 hK204 => cT rfl (wp_skip (xN (hK204 _ _ (wp_seq_k fun K205 hK205 => wp_block (rS fun K206 hK206 => sMi rfl (sV (evIx j Tryz.underlying42 sz46 rfl rfl (o159 + j)) ?_))))))))
                  have hR207 := hE166.trans hF186
                  have h208 := (h157.ext hR207)
                  obtain ⟨⟨A_209, n_209, c_209, d_209⟩, he_209, hp_209, hP_209, hS_209, hb_209⟩ := h208.at_ (i := j) (by omega)
                  replace hp_209 : World.cell? _ _ = some (.slice A_209 n_209 c_209) := hp_209; replace hP_209 : NatR _ _ A_209 n_209 c_209 d_209 := hP_209; have ⟨q1_209, q2_209, q3_209⟩ := hP_209.lkm
                  have hn64_209 := hle _ (List.mem_of_getElem? he_209); have hdg_209 := hdeg _ (List.mem_of_getElem? he_209); dsimp only at hn64_209 hdg_209
                  refine sV (evLoad one46 rfl hp_209) (sAi rfl (sAs rfl (sK hK206 (rS fun K211 hK211 => sMi rfl (sMi rfl ?_)))))
                  by_cases hc212 : ((j : Int)) ≠ ((i : Int))
                  · refine sV (evNeq true rfl rfl (dT hc212)) (sK hK211 (cT rfl (wp_region_lit (sMs rfl (sMs rfl (sMi rfl (sO (oCall rfl call57 (modpoly_Mul hu hP_209 (xm := xp) (by omega) (by omega) (by omega) (by omega)) rfl ?_))))))))
                    rintro _ w214 ⟨Ar_213, nr_213, cr_213, dr_213, rfl, hE215, hr_213, e_213, le_213, zr_213⟩
                    have hz216 := hE215.size
                    have ⟨lr_213, kr_213, mr_213⟩ := hr_213.lkm
                    refine sMs rfl (sMi rfl ?_)
                    have hR218 := hR207.trans hE215
                    have h219 := (hP_160.ext hR218)
                    refine sO (oCall rfl call94 (modpoly_Divide hr_213 h219 (xp := xp) (by omega) (by omega) (by omega) hp (by have h9 := hdg_160; omega)) rfl ?_)
                    rintro _ w221 ⟨Aq_220, nq_220, cq_220, dq_220, Ar_220, nr_220, cr_220, dr_220, xo_220, rfl, hE222, hq_220, hr_220, z_220, e_220, zq_220, zr_220, lt_220, lq_220, lr_220⟩
                    have hz223 := hE222.size
                    have ⟨lq_220, kq_220, mq_220⟩ := hq_220.lkm
                    have ⟨lr_220, kr_220, mr_220⟩ := hr_220.lkm
                    refine sV (v := (.tuple #[(.slice Aq_220 nq_220 cq_220), (.slice Ar_220 nr_220 cr_220), (.int .i64 (xo_220))])) (rfl) (sV (v := (.slice Aq_220 nq_220 cq_220)) (rfl) (sV (v := (.slice Ar_220 nr_220 cr_220)) (rfl) (sV (v := (.int .i64 (xo_220))) (rfl) (sAs rfl (sDone (bN (xN (hK205 _ _ (wp_region_lit (sV (evAdd (((j : Int)) + 1) rfl rfl wI) (sMi rfl (sDone ?_))))))))))))
                    have hR226 := hE215.trans hE222
                    refine again (nl - (j + 1)) (by omega) ⟨(j + 1), (Ar_220), (nr_220), (cr_220), (dr_220), rfl, rfl, rfl, rfl, rfl, rfl, rfl, rfl, rfl, rfl, rfl, rfl, cI, (hF186.trans hR226), ?_, ?_, ?_, ?_⟩
                    · omega
                    · exact NatR.low hr_220
                    · omega
                    · exact othP_ne hoth (by omega) (dsN_get he_209) e_213 e_220
                  · refine sV (evNeq false rfl rfl (dF hc212)) (sK hK211 (cF rfl (wp_skip (bN (xN (hK205 _ _ (wp_region_lit (sV (evAdd (((j : Int)) + 1) rfl rfl wI) (sMi rfl (sDone (again (nl - (j + 1)) (by omega) ⟨(j + 1), (Au), (nu), (cu), (du), rfl, rfl, rfl, rfl, rfl, rfl, rfl, rfl, rfl, rfl, rfl, rfl, cI, hF186, ?_, ?_, ?_, ?_⟩)))))))))))
                    · omega
                    · exact NatR.low hu
                    · omega
                    · rw [othP_eq (by omega)]; exact hoth
                · refine sV (evLss false rfl rfl (dF hc203)) (sK hK202 (wp_seq_k fun K227 hK227 => cF rfl (wp_exit (xE (xE (bE (xN (hK169 _ _ (wp_region_lit (sMs rfl (sMi rfl (sMs rfl (sMs rfl (sMi rfl ?_))))))))))))))
                  have hR228 := hE166.trans hF186
                  have h229 := (hP_160.ext hR228)
                  refine sO (oCall rfl call95 (modpoly_Xgcd hu h229 (xp := xp) (by omega) (by omega) (by omega) hp) rfl ?_)
                  rintro _ w231 ⟨Ad_230, nd_230, cd_230, dd_230, Au_230, nu_230, cu_230, du_230, Ay_230, ny_230, cy_230, dy_230, xo_230, rfl, hE232, hd_230, hu_230, hy_230, z_230, e_230, lu_230⟩
                  have hz233 := hE232.size
                  have ⟨ld_230, kd_230, md_230⟩ := hd_230.lkm
                  have ⟨lu_230, ku_230, mu_230⟩ := hu_230.lkm
                  have ⟨ly_230, ky_230, my_230⟩ := hy_230.lkm
                  refine sV (v := (.tuple #[(.slice Ad_230 nd_230 cd_230), (.slice Au_230 nu_230 cu_230), (.slice Ay_230 ny_230 cy_230), (.int .i64 (xo_230))])) (rfl) (sV (v := (.slice Ad_230 nd_230 cd_230)) (rfl) (sV (v := (.slice Au_230 nu_230 cu_230)) (rfl) (sV (v := (.slice Ay_230 ny_230 cy_230)) (rfl) (sV (v := (.int .i64 (xo_230))) (rfl) (sV (evIx i Tryz.underlying42 sz46 rfl rfl i) ?_)))))
                  have hR237 := hR228.trans hE232
                  have hB238 := (hB141.ext hR237)
                  refine sO (oStore1 rfl rfl rfl sz46 hB238 (by rw [List.length_map]; simp; omega) (fun w239 hU240 hz241 hB242 => ?_))
                  replace hB242 : Blk w239 g123 46 (((L ++ [(⟨Au_230, nu_230, cu_230, du_230⟩ : NE)]) ++ List.replicate (nl - (i + 1)) NE.zero).map LN.v) := by rw [← (fillM_set hL (by omega) : (L ++ List.replicate (nl - i) NE.zero).set i (⟨Au_230, nu_230, cu_230, du_230⟩ : NE) = (L ++ [(⟨Au_230, nu_230, cu_230, du_230⟩ : NE)]) ++ List.replicate (nl - (i + 1)) NE.zero), List.map_set]; exact hB242
                  refine sDone (bN (xN (hK154 _ _ (wp_region_lit (sV (evAdd (((i : Int)) + 1) rfl rfl wI) (sMi rfl (sDone ?_)))))))
                  have hR243 := hR237.rx hU240
                  have h244 := (hA.frmB hR243 q3)
                  have h245 := (hu_230.frmB hU240 q3)
                  refine again (nl - (i + 1)) (by omega) ⟨(i + 1), (L ++ [(⟨Au_230, nu_230, cu_230, du_230⟩ : NE)]), rfl, rfl, rfl, rfl, rfl, rfl, cI, (hF140.trans hR243), ?_, ?_, ?_, ?_, ?_⟩
                  · exact hB242
                  · omega
                  · simp [hL]
                  · exact AllM.snoc h244 (NatR.sub h245 q5) (by (try dsimp only); omega)
                  · exact dsN_snoc (r := (⟨Au_230, nu_230, cu_230, du_230⟩ : NE)) hz (by exact cofG_of (dsN_get he_160) (by rw [dsN_len, kl]; exact (show nl = j by omega) ▸ hoth) e_230)
            · refine sV (evLss false rfl rfl (dF hc152)) (sK hK151 (wp_seq_k fun K246 hK246 => cF rfl (wp_exit (xE (xE (bE (xN (hK130 _ _ (wp_seq_k fun K247 hK247 => ?_)))))))))
              have hGL248 := GListR.of_blk (L := LN) (S := fun b => w.heap.size ≤ b) (n := nl) (c := nl) hB141 (fun f hf => (((AllM.app hA (AllM.zeros (M := 64) _)) f hf).1.sub q5)) (by (try dsimp only); omega) (by simp; omega) (Nat.le_refl _) (by unfold CapMax; omega)
              refine wp_region_lit (sMs rfl (sAs rfl (sAi rfl (sK hK247 (wp_ret (ret2 (.slice (some ⟨g123, 0, none⟩) nl nl) (.int .i64 (0)) Tryz.results56 (resT rfl) (resT rfl) ?_))))))
              have hR250 := (((hE6.trans hF17).trans hF52).trans hE126).rx hF140
              exact ⟨(some ⟨g123, 0, none⟩), nl, nl, (L ++ List.replicate (nl - i) NE.zero), (0), rfl, (Frm.mono hR250 q4), (GListR.sub hGL248 q5), rfl, (by rw [show nl - i = 0 by omega, List.replicate_zero, List.append_nil, hz, show i = nl by omega]; unfold cofsG; rw [dsN_len, kl]), (by rw [show nl - i = 0 by omega, List.replicate_zero, List.append_nil]; exact fun f hf => (hA f hf).2)⟩
end Go.Proofs.YtneolcopompkaaaGreatDoor
