/-
  Walk of the law UnipolyKeeps.
-/
import Derived.Test.YtppegjbdencefaaLaw2
import Derived.Test.YtppegjbdencefaaUni5
import Derived.Test.YtppegjbdencefaaRef5
import Derived.Test.YtppegjbdencefaaKeepPreds
namespace Go.Proofs.Ytppegjbdencefaa
open Go.RowKit Go.Gx
set_option maxHeartbeats 2000000 in
theorem law08_keeps {w : World} {Sf : Nat → Prop} {Af : Option Addr} {nf cf Mf : Nat} {lf : List RI} {Sg : Nat → Prop} {Ag : Option Addr} {ng cg Mg : Nat} {lg : List RI} (hf : PolyR w Sf Af nf cf lf Mf) (hg : PolyR w Sg Ag ng cg lg Mg)  : Calls Try.prog 7 #[(.slice Af nf cf), (.slice Ag ng cg)] w (Ret fun v w' => ∃ (gr : Bool), v = (.bool gr) ∧ Ext w w' ∧ (gr = true)) := by
  have ⟨kf, jf, mf⟩ := hf.lkm
  replace hf := hf.low
  have ⟨kg, jg, mg⟩ := hg.lkm
  replace hg := hg.low
  refine enter Try.func7 rfl Try.ntmps7 rfl (rS fun K1 hK1 => sAb rfl (sK hK1 (wp_seq_k fun K2 hK2 => rS fun K3 hK3 => sO (oCall rfl call12 (law08_awake) rfl ?_))))
  rintro _ w5 ⟨gr_4, rfl, hE6, e_4⟩
  have hz7 := hE6.size
  obtain rfl : gr_4 = true := e_4
  refine sV (evNot _ rfl rfl) (sMb rfl (sEv (v := (.slice Af nf cf)) (rfl) rfl rfl ?_))
  have h8 := (hf.ext hE6)
  refine sOp rfl (oCall rfl call13 (cylinderlaw08_Few h8) rfl ?_)
  rintro _ w10 ⟨gr_9, rfl, hE11, e_9⟩
  have hz12 := hE11.size
  refine sEv (v := (.bool (!gr_9))) (evNot _ rfl rfl) rfl rfl (sV (v := (.bool (!gr_9))) (rfl) (sMb rfl ?_))
  cases gr_9
  · refine sSkip rfl rfl (sSkip rfl rfl (sSkip rfl rfl (sV (v := (.bool true)) (rfl) (sK hK3 (cT rfl (rS fun K13 hK13 => sO (oCall rfl call12 (law08_awake) rfl ?_)))))))
    rintro _ w15 ⟨gr_14, rfl, hE16, e_14⟩
    have hz17 := hE16.size
    obtain rfl : gr_14 = true := e_14
    refine sAb rfl (sK hK13 (wp_ret (xR (ret1 (.bool true) Try.results7 (resT rfl) ?_))))
    have hR18 := (hE6.trans hE11).trans hE16
    exact ⟨(true), rfl, hR18, rfl⟩
  · refine sEv (v := (.slice Ag ng cg)) (rfl) rfl rfl ?_
    have hR19 := hE6.trans hE11
    have h20 := (hg.ext hR19)
    refine sOp rfl (oCall rfl call13 (cylinderlaw08_Few h20) rfl ?_)
    rintro _ w22 ⟨gr_21, rfl, hE23, e_21⟩
    have hz24 := hE23.size
    refine sEv (v := (.bool (!gr_21))) (evNot _ rfl rfl) rfl rfl (sV (v := (.bool (!gr_21))) (rfl) (sK hK3 ?_))
    cases gr_21
    · refine cT rfl (rS fun K25 hK25 => sO (oCall rfl call12 (law08_awake) rfl ?_))
      rintro _ w27 ⟨gr_26, rfl, hE28, e_26⟩
      have hz29 := hE28.size
      obtain rfl : gr_26 = true := e_26
      refine sAb rfl (sK hK25 (wp_ret (xR (ret1 (.bool true) Try.results7 (resT rfl) ?_))))
      have hR30 := (hR19.trans hE23).trans hE28
      exact ⟨(true), rfl, hR30, rfl⟩
    · refine cF rfl (wp_skip (xN (hK2 _ _ (rS fun K31 hK31 => sMs rfl ?_))))
      have qf := e_9 rfl
      have qnf := qf.1
      have hf2 := hf.reM (M' := 3) (by intro r hr; have := qf.2 r hr; omega)
      have qg := e_21 rfl
      have qng := qg.1
      have hg2 := hg.reM (M' := 3) (by intro r hr; have := qg.2 r hr; omega)
      have hR32 := hR19.trans hE23
      have h33 := (hf2.ext hR32)
      refine sO (oCall rfl call14 (law08_Of h33 (by omega) (by omega)) rfl ?_)
      rintro _ w35 ⟨Ar_34, nr_34, cr_34, fr_34, rfl, hE36, hr_34, e_34, ln_34⟩
      have hz37 := hE36.size
      have ⟨lr_34, kr_34, mr_34⟩ := hr_34.lkm
      replace hr_34 := hr_34.sub (S' := fun b => w22.heap.size ≤ b ∧ b < w35.heap.size) fun _ hb hs => ⟨hs, hb⟩
      refine sMs rfl ?_
      have hR39 := hR32.trans hE36
      have h40 := (hg2.ext hR39)
      refine sO (oCall rfl call14 (law08_Of h40 (by omega) (by omega)) rfl ?_)
      rintro _ w42 ⟨Ar_41, nr_41, cr_41, fr_41, rfl, hE43, hr_41, e_41, ln_41⟩
      have hz44 := hE43.size
      have ⟨lr_41, kr_41, mr_41⟩ := hr_41.lkm
      replace hr_41 := hr_41.sub (S' := fun b => w35.heap.size ≤ b ∧ b < w42.heap.size) fun _ hb hs => ⟨hs, hb⟩
      refine sAs rfl (sAs rfl (sK hK31 (rS fun K46 hK46 => sMs rfl (sV (evLen Try.underlying23 rfl) (sAi rfl (sK hK46 (rS fun K47 hK47 => sMs rfl ?_)))))))
      have hR48 := hE36.trans hE43
      have h49 := (h33.ext hR48)
      refine sO (oCall rfl call37 (unipoly_Normal h49 (by omega) (by omega)) rfl ?_)
      rintro _ w51 ⟨qr_50, nr_50, lr_50, rfl, hE52, hgr_50, Br_50, hAr_50, kr_50, mr_50, e_50, ln_50, cn_50⟩
      have hz53 := hE52.size
      have hhr_50 : w42.heap.size ≤ qr_50 := hgr_50; have ltr_50 := Br_50.lt
      refine sMs rfl ?_
      have h55 := (h49.ext hE52)
      refine sO (oCall rfl call22 (unipoly_Add h55 (PolyR.nil (S := fun _ => True) (M := 0)) (by omega) (by omega) (by omega) (by omega)) rfl ?_)
      rintro _ w57 ⟨Ar_56, nr_56, cr_56, lr_56, rfl, hE58, hr_56, e_56, ln_56, cn_56⟩
      have hz59 := hE58.size
      have ⟨kr_56, jr_56, mr_56⟩ := hr_56.lkm
      refine sMs rfl ?_
      have h61 := (h55.ext hE58)
      refine sO (oCall rfl call24 (unipoly_Sub h61 (PolyR.nil (S := fun _ => True) (M := 0)) (by omega) (by omega) (by omega) (by omega)) rfl ?_)
      rintro _ w63 ⟨Ar_62, nr_62, cr_62, lr_62, rfl, hE64, hr_62, e_62, ln_62, cn_62⟩
      have hz65 := hE64.size
      have ⟨kr_62, jr_62, mr_62⟩ := hr_62.lkm
      refine sMs rfl (sO (oBuildSlice [(.int .i64 (1))] [[(.int .i64 (1))]] Try.underlying93 inf2 rfl rfl rfl rfl rfl (fun g67 w68 hg69 hE70 hz71 hB72 => ?_)))
      replace hB72 : Blk w68 g67 2 [(.int .i64 (1))] := hB72
      refine sO (oCall rfl call25 (unipoly_Of (IntsR.of_blk (S := fun b => b = g67) (n := 1) (c := 1) (xs := [1]) hB72 rfl (by decide) rfl (Nat.le_refl _) (by decide)) (by decide)) rfl ?_)
      rintro _ w74 ⟨Ar_73, nr_73, cr_73, lr_73, rfl, hE75, hr_73, e_73, le_73, cn_73⟩
      have hz76 := hE75.size
      have ⟨kr_73, jr_73, mr_73⟩ := hr_73.lkm
      have hR78 := (hE64.trans hE70).trans hE75
      have h79 := (h61.ext hR78)
      refine sO (oCall rfl call18 (unipoly_Mul h79 hr_73 (by omega) (by omega) (by omega) (by omega)) rfl ?_)
      rintro _ w81 ⟨Ar_80, nr_80, cr_80, lr_80, rfl, hE82, hr_80, e_80, ln_80, cn_80⟩
      have hz83 := hE82.size
      have ⟨kr_80, jr_80, mr_80⟩ := hr_80.lkm
      refine sMs rfl (sO (oCall rfl call48 (integer_Of (by omega)) rfl ?_))
      rintro _ w86 ⟨gr_85, Ar_85, nr_85, cr_85, dr_85, rfl, hE87, hr_85, v_85, cn_85, le_85⟩
      have hz88 := hE87.size
      have ⟨lr_85, kr_85, mr_85⟩ := hr_85.lkm
      have hR90 := hE82.trans hE87
      have h91 := (h79.ext hR90)
      refine sO (oCall rfl call41 (unipoly_Scale h91 hr_85 (by omega) (by omega) (by omega)) rfl ?_)
      rintro _ w93 ⟨Ar_92, nr_92, cr_92, lr_92, rfl, hE94, hr_92, e_92, ln_92, cn_92⟩
      have hz95 := hE94.size
      have ⟨kr_92, jr_92, mr_92⟩ := hr_92.lkm
      refine sMs rfl ?_
      have h97 := (h91.ext hE94)
      refine sO (oCall rfl call19 (unipoly_Pow h97 (by omega) (by omega) (by omega)) rfl ?_)
      rintro _ w99 ⟨Ar_98, nr_98, cr_98, lr_98, rfl, hE100, hr_98, e_98, ln_98, cn_98⟩
      have hz101 := hE100.size
      have ⟨kr_98, jr_98, mr_98⟩ := hr_98.lkm
      refine sMs rfl (sO (oCall rfl call48 (integer_Of (by omega)) rfl ?_))
      rintro _ w104 ⟨gr_103, Ar_103, nr_103, cr_103, dr_103, rfl, hE105, hr_103, v_103, cn_103, le_103⟩
      have hz106 := hE105.size
      have ⟨lr_103, kr_103, mr_103⟩ := hr_103.lkm
      have hR108 := hE100.trans hE105
      have h109 := (h97.ext hR108)
      refine sO (oCall rfl call27 (unipoly_Shift h109 hr_103 (by omega) (by omega) (by omega)) rfl ?_)
      rintro _ w111 ⟨Ar_110, nr_110, cr_110, lr_110, rfl, hE112, hr_110, e_110, ln_110, cn_110⟩
      have hz113 := hE112.size
      have ⟨kr_110, jr_110, mr_110⟩ := hr_110.lkm
      refine sMs rfl (sO (oCall rfl call48 (integer_Of (by omega)) rfl ?_))
      rintro _ w116 ⟨gr_115, Ar_115, nr_115, cr_115, dr_115, rfl, hE117, hr_115, v_115, cn_115, le_115⟩
      have hz118 := hE117.size
      have ⟨lr_115, kr_115, mr_115⟩ := hr_115.lkm
      have hR120 := hE112.trans hE117
      have h121 := (h109.ext hR120)
      refine sO (oCall rfl call30 (unipoly_Stretch h121 hr_115 (by omega) (by omega) (by omega)) rfl ?_)
      rintro _ w123 ⟨Ar_122, nr_122, cr_122, lr_122, rfl, hE124, hr_122, e_122, ln_122, cn_122⟩
      have hz125 := hE124.size
      have ⟨kr_122, jr_122, mr_122⟩ := hr_122.lkm
      refine sMs rfl ?_
      have h127 := (h121.ext hE124)
      refine sO (oCall rfl call31 (unipoly_Reverse h127 (by omega) (by omega)) rfl ?_)
      rintro _ w129 ⟨Ar_128, nr_128, cr_128, lr_128, rfl, hE130, hr_128, e_128, ln_128, cn_128⟩
      have hz131 := hE130.size
      have ⟨kr_128, jr_128, mr_128⟩ := hr_128.lkm
      refine sMs rfl (sMs rfl ?_)
      have h133 := (h127.ext hE130)
      have hR134 := (((((((((((((hE43.trans hE52).trans hE58).trans hE64).trans hE70).trans hE75).trans hE82).trans hE87).trans hE94).trans hE100).trans hE105).trans hE112).trans hE117).trans hE124).trans hE130
      have h135 := (h40.ext hR134)
      refine sO (oCall rfl call22 (unipoly_Add h133 h135 (by omega) (by omega) (by omega) (by omega)) rfl ?_)
      rintro _ w137 ⟨Ar_136, nr_136, cr_136, lr_136, rfl, hE138, hr_136, e_136, ln_136, cn_136⟩
      have hz139 := hE138.size
      have ⟨kr_136, jr_136, mr_136⟩ := hr_136.lkm
      refine sMs rfl (sO (oBuildSlice [(.int .i64 (0)), (.int .i64 (1))] [[(.int .i64 (0))], [(.int .i64 (1))]] Try.underlying93 inf2 rfl rfl rfl rfl rfl (fun g141 w142 hg143 hE144 hz145 hB146 => ?_)))
      replace hB146 : Blk w142 g141 2 [(.int .i64 (0)), (.int .i64 (1))] := hB146
      refine sO (oCall rfl call25 (unipoly_Of (IntsR.of_blk (S := fun b => b = g141) (n := 2) (c := 2) (xs := [0, 1]) hB146 rfl (by decide) rfl (Nat.le_refl _) (by decide)) (by decide)) rfl ?_)
      rintro _ w148 ⟨Ar_147, nr_147, cr_147, lr_147, rfl, hE149, hr_147, e_147, le_147, cn_147⟩
      have hz150 := hE149.size
      have ⟨kr_147, jr_147, mr_147⟩ := hr_147.lkm
      have hR152 := (hE138.trans hE144).trans hE149
      have h153 := (h133.ext hR152)
      refine sO (oCall rfl call32 (unipoly_Compose h153 hr_147 (by omega) (by omega) (by omega) (by omega)) rfl ?_)
      rintro _ w155 ⟨Ar_154, nr_154, cr_154, lr_154, rfl, hE156, hr_154, e_154, ln_154, cn_154⟩
      have hz157 := hE156.size
      have ⟨kr_154, jr_154, mr_154⟩ := hr_154.lkm
      refine sO (oBuildSlice [(.slice (some ⟨qr_50, 0, none⟩) nr_50 nr_50), (.slice Ar_56 nr_56 cr_56), (.slice Ar_62 nr_62 cr_62), (.slice Ar_80 nr_80 cr_80), (.slice Ar_92 nr_92 cr_92), (.slice Ar_98 nr_98 cr_98), (.slice Ar_110 nr_110 cr_110), (.slice Ar_122 nr_122 cr_122), (.slice Ar_128 nr_128 cr_128), (.slice Ar_136 nr_136 cr_136), (.slice Ar_154 nr_154 cr_154)] [[(.slice (some ⟨qr_50, 0, none⟩) nr_50 nr_50)], [(.slice Ar_56 nr_56 cr_56)], [(.slice Ar_62 nr_62 cr_62)], [(.slice Ar_80 nr_80 cr_80)], [(.slice Ar_92 nr_92 cr_92)], [(.slice Ar_98 nr_98 cr_98)], [(.slice Ar_110 nr_110 cr_110)], [(.slice Ar_122 nr_122 cr_122)], [(.slice Ar_128 nr_128 cr_128)], [(.slice Ar_136 nr_136 cr_136)], [(.slice Ar_154 nr_154 cr_154)]] Try.underlying61 inf23 rfl rfl rfl rfl rfl ?_)
      intro g159 w160 hg161 hE162 hz163 hB164
      replace hB164 : Blk w160 g159 23 [(.slice (some ⟨qr_50, 0, none⟩) nr_50 nr_50), (.slice Ar_56 nr_56 cr_56), (.slice Ar_62 nr_62 cr_62), (.slice Ar_80 nr_80 cr_80), (.slice Ar_92 nr_92 cr_92), (.slice Ar_98 nr_98 cr_98), (.slice Ar_110 nr_110 cr_110), (.slice Ar_122 nr_122 cr_122), (.slice Ar_128 nr_128 cr_128), (.slice Ar_136 nr_136 cr_136), (.slice Ar_154 nr_154 cr_154)] := hB164
      have hR165 := (((((((((((((((((hE52.trans hE58).trans hE64).trans hE70).trans hE75).trans hE82).trans hE87).trans hE94).trans hE100).trans hE105).trans hE112).trans hE117).trans hE124).trans hE130).trans hE138).trans hE144).trans hE149).trans hE156).trans hE162
      have hpl : ∀ b, b < w160.heap.size → w42.heap.size ≤ b → w42.heap.size ≤ b ∧ Pl w160 b := fun b h1 h2 => ⟨h2, hR165.plain b h1 (.inl h2)⟩
      have h166 := (hr_154.ext hE162)
      have hR167 := ((hE144.trans hE149).trans hE156).trans hE162
      have h168 := (hr_136.ext hR167)
      have hR169 := (hR152.trans hE156).trans hE162
      have h170 := (hr_128.ext hR169)
      have hR171 := ((((hE130.trans hE138).trans hE144).trans hE149).trans hE156).trans hE162
      have h172 := (hr_122.ext hR171)
      have hR173 := ((((((hE117.trans hE124).trans hE130).trans hE138).trans hE144).trans hE149).trans hE156).trans hE162
      have h174 := (hr_110.ext hR173)
      have hR175 := ((((((((hE105.trans hE112).trans hE117).trans hE124).trans hE130).trans hE138).trans hE144).trans hE149).trans hE156).trans hE162
      have h176 := (hr_98.ext hR175)
      have hR177 := ((((((((hR108.trans hE112).trans hE117).trans hE124).trans hE130).trans hE138).trans hE144).trans hE149).trans hE156).trans hE162
      have h178 := (hr_92.ext hR177)
      have hR179 := (((((((((((hE87.trans hE94).trans hE100).trans hE105).trans hE112).trans hE117).trans hE124).trans hE130).trans hE138).trans hE144).trans hE149).trans hE156).trans hE162
      have h180 := (hr_80.ext hR179)
      have hR181 := ((((((((((((((hE70.trans hE75).trans hE82).trans hE87).trans hE94).trans hE100).trans hE105).trans hE112).trans hE117).trans hE124).trans hE130).trans hE138).trans hE144).trans hE149).trans hE156).trans hE162
      have h182 := (hr_62.ext hR181)
      have hR183 := (((((((((((((hR78.trans hE82).trans hE87).trans hE94).trans hE100).trans hE105).trans hE112).trans hE117).trans hE124).trans hE130).trans hE138).trans hE144).trans hE149).trans hE156).trans hE162
      have h184 := (hr_56.ext hR183)
      have hR185 := ((((((((((((((((hE58.trans hE64).trans hE70).trans hE75).trans hE82).trans hE87).trans hE94).trans hE100).trans hE105).trans hE112).trans hE117).trans hE124).trans hE130).trans hE138).trans hE144).trans hE149).trans hE156).trans hE162
      have hB186 := (Br_50.ext hR185)
      have h188 := (hAr_50.ext hR185)
      have h187 : PolyR w160 (fun b => qr_50 ≤ b) (some ⟨qr_50, 0, none⟩) nr_50 nr_50 (lr_50) ((3)) := PolyR.of_blk hB186 (AllN.sub h188 q5) (by (try dsimp only); omega) (by exact lq) (by omega) (by unfold CapMax; omega)
      have hWL : WL w160 w42.heap.size [(.slice (some ⟨qr_50, 0, none⟩) nr_50 nr_50), (.slice Ar_56 nr_56 cr_56), (.slice Ar_62 nr_62 cr_62), (.slice Ar_80 nr_80 cr_80), (.slice Ar_92 nr_92 cr_92), (.slice Ar_98 nr_98 cr_98), (.slice Ar_110 nr_110 cr_110), (.slice Ar_122 nr_122 cr_122), (.slice Ar_128 nr_128 cr_128), (.slice Ar_136 nr_136 cr_136), (.slice Ar_154 nr_154 cr_154)] := WL.cons (PolyR.wp (PolyR.sub (S' := fun b => w42.heap.size ≤ b) h187 q5) hpl) (by omega) (WL.cons (PolyR.wp (PolyR.sub (S' := fun b => w42.heap.size ≤ b) h184 q5) hpl) (by omega) (WL.cons (PolyR.wp (PolyR.sub (S' := fun b => w42.heap.size ≤ b) h182 q5) hpl) (by omega) (WL.cons (PolyR.wp (PolyR.sub (S' := fun b => w42.heap.size ≤ b) h180 q5) hpl) (by omega) (WL.cons (PolyR.wp (PolyR.sub (S' := fun b => w42.heap.size ≤ b) h178 q5) hpl) (by omega) (WL.cons (PolyR.wp (PolyR.sub (S' := fun b => w42.heap.size ≤ b) h176 q5) hpl) (by omega) (WL.cons (PolyR.wp (PolyR.sub (S' := fun b => w42.heap.size ≤ b) h174 q5) hpl) (by omega) (WL.cons (PolyR.wp (PolyR.sub (S' := fun b => w42.heap.size ≤ b) h172 q5) hpl) (by omega) (WL.cons (PolyR.wp (PolyR.sub (S' := fun b => w42.heap.size ≤ b) h170 q5) hpl) (by omega) (WL.cons (PolyR.wp (PolyR.sub (S' := fun b => w42.heap.size ≤ b) h168 q5) hpl) (by omega) (WL.cons (PolyR.wp (PolyR.sub (S' := fun b => w42.heap.size ≤ b) h166 q5) hpl) (by omega) (WL.nil)))))))))))
      have hBl := hB164
      obtain ⟨cs, hcs⟩ : ∃ cs : List Value, cs = [(.slice (some ⟨qr_50, 0, none⟩) nr_50 nr_50), (.slice Ar_56 nr_56 cr_56), (.slice Ar_62 nr_62 cr_62), (.slice Ar_80 nr_80 cr_80), (.slice Ar_92 nr_92 cr_92), (.slice Ar_98 nr_98 cr_98), (.slice Ar_110 nr_110 cr_110), (.slice Ar_122 nr_122 cr_122), (.slice Ar_128 nr_128 cr_128), (.slice Ar_136 nr_136 cr_136), (.slice Ar_154 nr_154 cr_154)] := ⟨_, rfl⟩
      have hlen : cs.length = 11 := by rw [hcs]; rfl
      rw [← hcs] at hWL hBl
      clear hcs
      refine sAs rfl (sK hK47 (wp_seq_k fun K189 hK189 => rS fun K190 hK190 => sAi rfl (sK hK190 (wp_block ?_))))
      refine lLoop (fun m e w_ => ∃ (i : Nat), m = 11 - i ∧ e 0 = (.slice Af nf cf) ∧ e 1 = (.slice Ag ng cg) ∧ e 5 = (.slice Ar_34 nr_34 cr_34) ∧ e 6 = (.slice Ar_41 nr_41 cr_41) ∧ e 7 = (.int .i64 ((nf : Int))) ∧ e 8 = (.slice (some ⟨g159, 0, none⟩) 11 11) ∧ e 9 = (.int .i64 ((i : Int))) ∧ Frm (fun b => w42.heap.size ≤ b ∧ b ≠ g159) w160 w_ ∧ (i ≤ 11) ∧ (WL w_ w42.heap.size cs)) (11 - (0)) ?_ ?_
      · refine ⟨(0), rfl, rfl, rfl, rfl, rfl, rfl, rfl, cI, (Frm.refl _ _), ?_, ?_⟩
        · omega
        · exact hWL
      · rintro m191 e202 w192 ⟨i, hm201, hs193, hs194, hs195, hs196, hs197, hs198, hs199, hF200, hi, hWL1⟩
        obtain ⟨r203, rfl⟩ := sq (e := e202) (t := 0) hs193
        obtain ⟨r204, rfl⟩ := sq (e := r203) (t := 1) hs194
        obtain ⟨r205, rfl⟩ := sq (e := r204) (t := 5) hs195
        obtain ⟨r206, rfl⟩ := sq (e := r205) (t := 6) hs196
        obtain ⟨r207, rfl⟩ := sq (e := r206) (t := 7) hs197
        obtain ⟨r208, rfl⟩ := sq (e := r207) (t := 8) hs198
        obtain ⟨r209, rfl⟩ := sq (e := r208) (t := 9) hs199
        have hz210 := hF200.size
        refine wp_seq_k fun K211 hK211 => rS fun K212 hK212 => sMi rfl (sMs rfl (sV (evLen Try.underlying61 rfl) ?_))
        by_cases hc213 : ((i : Int)) < 11
        · refine sV (evLss true rfl rfl (dT hc213)) (sK hK212 (cT rfl (wp_skip (xN (hK211 _ _ (wp_seq_k fun K214 hK214 => wp_block (wp_seq_k fun K215 hK215 => ?_)))))))
          obtain ⟨Ai, ni, ci, hci, hni⟩ := hWL1.get (i := i) (show i < cs.length by omega)
          refine wp_region_lit (sAi rfl (sK hK215 (wp_block ?_)))
          refine lLoop (fun m e w_ => ∃ (k : Nat), m = ni - k ∧ e 0 = (.slice Af nf cf) ∧ e 1 = (.slice Ag ng cg) ∧ e 5 = (.slice Ar_34 nr_34 cr_34) ∧ e 6 = (.slice Ar_41 nr_41 cr_41) ∧ e 7 = (.int .i64 ((nf : Int))) ∧ e 8 = (.slice (some ⟨g159, 0, none⟩) 11 11) ∧ e 9 = (.int .i64 ((i : Int))) ∧ e 10 = (.int .i64 ((k : Int))) ∧ Frm (fun b => w42.heap.size ≤ b ∧ b ≠ g159) w192 w_ ∧ (k ≤ ni) ∧ (WL w_ w42.heap.size cs)) (ni - (0)) ?_ ?_
          · refine ⟨(0), rfl, rfl, rfl, rfl, rfl, rfl, rfl, rfl, cI, (Frm.refl _ _), ?_, ?_⟩
            · omega
            · exact hWL1
          · rintro m216 e228 w217 ⟨k, hm227, hs218, hs219, hs220, hs221, hs222, hs223, hs224, hs225, hF226, hk, hWL2⟩
            obtain ⟨r229, rfl⟩ := sq (e := e228) (t := 0) hs218
            obtain ⟨r230, rfl⟩ := sq (e := r229) (t := 1) hs219
            obtain ⟨r231, rfl⟩ := sq (e := r230) (t := 5) hs220
            obtain ⟨r232, rfl⟩ := sq (e := r231) (t := 6) hs221
            obtain ⟨r233, rfl⟩ := sq (e := r232) (t := 7) hs222
            obtain ⟨r234, rfl⟩ := sq (e := r233) (t := 8) hs223
            obtain ⟨r235, rfl⟩ := sq (e := r234) (t := 9) hs224
            obtain ⟨r236, rfl⟩ := sq (e := r235) (t := 10) hs225
            have hz237 := hF226.size
            refine wp_seq_k fun K238 hK238 => rS fun K239 hK239 => sMi rfl (sMs rfl (sMi rfl (sV (evIx i Try.underlying61 sz23 rfl rfl i) ?_)))
            have hR240 := hF200.trans hF226
            have hB241 := (hBl.frm hR240 q1)
            refine sV (evLoad one23 rfl (hB241.at_ hci)) (sV (evLen Try.underlying23 rfl) ?_)
            by_cases hc242 : ((k : Int)) < ((ni : Int))
            · refine sV (evLss true rfl rfl (dT hc242)) (sK hK239 (cT rfl (wp_skip (xN (hK238 _ _ (wp_seq_k fun K243 hK243 => wp_block (wp_seq_k fun K244 hK244 => wp_seq_k fun K245 hK245 => ?_)))))))
              obtain ⟨bq, oq, rfl⟩ := (hWL2.wp hci).base (show k < ni by omega)
              obtain ⟨hBq, hPq, gq, An, nn, cn_, hc0, hc1, hnn, hWN⟩ := (hWL2.wp hci).open_ (show k < ni by omega)
              have hneq := hWL2.ne hB241 hc0 (by intros; simp)
              refine wp_region_lit (sAi rfl (sK hK245 (wp_block ?_)))
              refine lLoop (fun m e w_ => ∃ (j : Nat), m = nn - j ∧ e 0 = (.slice Af nf cf) ∧ e 1 = (.slice Ag ng cg) ∧ e 5 = (.slice Ar_34 nr_34 cr_34) ∧ e 6 = (.slice Ar_41 nr_41 cr_41) ∧ e 7 = (.int .i64 ((nf : Int))) ∧ e 8 = (.slice (some ⟨g159, 0, none⟩) 11 11) ∧ e 9 = (.int .i64 ((i : Int))) ∧ e 10 = (.int .i64 ((k : Int))) ∧ e 11 = (.int .i64 ((j : Int))) ∧ Frm (fun b => w42.heap.size ≤ b ∧ b ≠ g159) w217 w_ ∧ (j ≤ nn) ∧ (WL w_ w42.heap.size cs) ∧ (WN w_ w42.heap.size An nn) ∧ (w_.cell? ⟨bq, oq + k * 2 + 1, none⟩ = some (.slice An nn cn_))) (nn - (0)) ?_ ?_
              · refine ⟨(0), rfl, rfl, rfl, rfl, rfl, rfl, rfl, rfl, rfl, cI, (Frm.refl _ _), ?_, ?_, ?_, ?_⟩
                · omega
                · exact hWL2
                · exact hWN
                · exact hc1
              · rintro m246 e259 w247 ⟨j, hm258, hs248, hs249, hs250, hs251, hs252, hs253, hs254, hs255, hs256, hF257, hj, hWL3, hWN3, hc3⟩
                obtain ⟨r260, rfl⟩ := sq (e := e259) (t := 0) hs248
                obtain ⟨r261, rfl⟩ := sq (e := r260) (t := 1) hs249
                obtain ⟨r262, rfl⟩ := sq (e := r261) (t := 5) hs250
                obtain ⟨r263, rfl⟩ := sq (e := r262) (t := 6) hs251
                obtain ⟨r264, rfl⟩ := sq (e := r263) (t := 7) hs252
                obtain ⟨r265, rfl⟩ := sq (e := r264) (t := 8) hs253
                obtain ⟨r266, rfl⟩ := sq (e := r265) (t := 9) hs254
                obtain ⟨r267, rfl⟩ := sq (e := r266) (t := 10) hs255
                obtain ⟨r268, rfl⟩ := sq (e := r267) (t := 11) hs256
                have hz269 := hF257.size
                refine wp_seq_k fun K270 hK270 => rS fun K271 hK271 => sMi rfl (sMs rfl (sMi rfl (sV (evIx i Try.underlying61 sz23 rfl rfl i) ?_)))
                have hB272 := (hB241.frm hF257 q1)
                refine sV (evLoad one23 rfl (hB272.at_ hci)) (sMi rfl (sV (evIx k Try.underlying23 sz46 rfl rfl (oq + (k * 2))) (sV (evFA (oq + (k * 2) + 1) fa46_1 rfl rfl) (sV (evLoad one44 rfl hc3) (sV (evLen Try.underlying44 rfl) ?_)))))
                by_cases hc273 : ((j : Int)) < ((nn : Int))
                · refine sV (evLss true rfl rfl (dT hc273)) (sK hK271 (cT rfl (wp_skip (xN (hK270 _ _ (wp_seq_k fun K274 hK274 => wp_block ?_))))))
                  obtain ⟨bd, od, rfl⟩ := hWN3.base (show j < nn by omega)
                  obtain ⟨hBd, hPd, xd, hxd, hcd⟩ := hWN3.open_ (show j < nn by omega)
                  obtain ⟨csd, td, hbd⟩ := hPd.blk
                  have hned := hWL3.ne hB272 hcd (by intros; simp)
                  refine wp_region_lit (sMs rfl (sMi rfl (sV (evIx i Try.underlying61 sz23 rfl rfl i) (sV (evLoad one23 rfl (hB272.at_ hci)) (sMi rfl (sV (evIx k Try.underlying23 sz46 rfl rfl (oq + (k * 2))) (sV (evFA (oq + (k * 2) + 1) fa46_1 rfl rfl) (sV (evLoad one44 rfl hc3) (sMi rfl (sV (evIx j Try.underlying44 sz62 rfl rfl (od + j)) (sV (evLoad one62 rfl hcd) (sV (evAdd ((((xd + 1) % 4294967296 : Nat) : Int)) rfl rfl (wU32m (by omega))) (sV (evIx j Try.underlying44 sz62 rfl rfl (od + j)) (sO (oStore1 rfl rfl rfl sz62 hbd (hbd.inside hcd) (fun w275 hU4 hz4 hB4 => ?_))))))))))))))))
                  have hTP4 := TP.setU (B := w42.heap.size) hU4 hbd hcd (Nat.mod_lt _ (by decide)) hB4
                  have hWL4 := hWL3.keep hTP4
                  have hWN4 := hWN3.keep hTP4
                  have hc4 := kept_cell hU4 hbd hB4 hc3 hcd (by simp)
                  refine sDone (bN (xN (hK274 _ _ (wp_region_lit (sMi rfl (sV (evAdd (((j : Int)) + 1) rfl rfl wI) (sAi rfl (sDone (again (nn - (j + 1)) (by omega) ⟨(j + 1), rfl, rfl, rfl, rfl, rfl, rfl, rfl, rfl, rfl, cI, (Frm.mono (hF257.tr hU4) q4), ?_, ?_, ?_, ?_⟩)))))))))
                  · omega
                  · exact hWL4
                  · exact hWN4
                  · exact hc4
                · refine sV (evLss false rfl rfl (dF hc273)) (sK hK271 (cF rfl (wp_exit (xE (xE (bE (xN (hK244 _ _ (dBegin (fun b => b = bq) mixed (fun w276 hE277 hz278 => dMs 0 rfl rfl (dMi 1 rfl rfl (dV 2 rfl (fun _ _ => evIx i Try.underlying61 sz23 rfl rfl i) ?_))))))))))))
                  have hB279 := (hB272.ext hE277)
                  refine dV 3 rfl (fun _ hf => evLoad one23 rfl ((hB279.frm hf q1).at_ hci)) (dMi 4 rfl rfl (dOp 5 rfl rfl (by kernel_rfl) (oCall rfl call48 (integer_Of (by omega)) rfl ?_)))
                  rintro _ w281 ⟨gr_280, Ar_280, nr_280, cr_280, dr_280, rfl, hE282, hr_280, v_280, cn_280, le_280⟩
                  refine ⟨(Frm.of_ext hE282), ?_⟩
                  have hz283 := hE282.size
                  have ⟨lr_280, kr_280, mr_280⟩ := hr_280.lkm
                  refine dV 6 rfl (fun _ _ => evIx k Try.underlying23 sz46 rfl rfl (oq + (k * 2))) ?_
                  have hR285 := hE277.trans hE282
                  have h286 := (hWL3.ext hR285)
                  obtain ⟨hBs, hPs, gs, As, ns, cs_, hs0, hs1, hns, _⟩ := (h286.wp hci).open_ (show k < ni by omega)
                  obtain ⟨csq, tq, hbq⟩ := hPs.blk
                  have hWN5 := NatR.wn (B := w42.heap.size) hr_280 (fun b h1 (h2 : w276.heap.size ≤ b) => ⟨by omega, hE282.plain b h1 (.inl h2)⟩)
                  refine dOp 7 rfl rfl (by kernel_rfl) (oStore [(.bool gr_280), (.slice Ar_280 nr_280 cr_280)] rfl rfl rfl sz46 rfl hbq (by have h1 := hbq.inside hs1; show _ + 2 ≤ _; omega) (fun w287 hU6 hz6 hB6 => ⟨hU6, ?_⟩))
                  have hTP6 := TP.pair (B := w42.heap.size) hU6 hbq hs0 hs1 hWN5 (by omega) hB6
                  have hWL6 := h286.keep hTP6
                  refine dDone (by kernel_rfl) (bN (xN (hK243 _ _ (wp_region_lit (sMi rfl (sV (evAdd (((k : Int)) + 1) rfl rfl wI) (sAi rfl (sDone ?_))))))))
                  have hR288 := ((hF257.xr hE277).xr hE282).tr hU6
                  refine again (ni - (k + 1)) (by omega) ⟨(k + 1), rfl, rfl, rfl, rfl, rfl, rfl, rfl, rfl, cI, (Frm.mono (hF226.tr hR288) q4), ?_, ?_⟩
                  · omega
                  · exact hWL6
            · refine sV (evLss false rfl rfl (dF hc242)) (sK hK239 (cF rfl (wp_exit (xE (xE (bE (bN (xN (hK214 _ _ (wp_region_lit (sMi rfl (sV (evAdd (((i : Int)) + 1) rfl rfl wI) (sAi rfl (sDone (again (11 - (i + 1)) (by omega) ⟨(i + 1), rfl, rfl, rfl, rfl, rfl, rfl, rfl, cI, (hF200.trans hF226), ?_, ?_⟩)))))))))))))))
              · omega
              · exact hWL2
        · refine sV (evLss false rfl rfl (dF hc213)) (sK hK212 (cF rfl (wp_exit (xE (xE (bE (xN (hK189 _ _ (rS fun K289 hK289 => sMs rfl ?_)))))))))
          have hR290 := (hE156.trans hE162).rx hF200
          have h291 := (h153.frmB hR290 q3)
          refine sO (oCall rfl call14 (law08_Of h291 (by omega) (by omega)) rfl ?_)
          rintro _ w293 ⟨Ar_292, nr_292, cr_292, fr_292, rfl, hE294, hr_292, e_292, ln_292⟩
          have hz295 := hE294.size
          have ⟨lr_292, kr_292, mr_292⟩ := hr_292.lkm
          replace hr_292 := hr_292.sub (S' := fun b => w192.heap.size ≤ b ∧ b < w293.heap.size) fun _ hb hs => ⟨hs, hb⟩
          refine sMs rfl ?_
          have hR297 := ((((((hR134.trans hE138).trans hE144).trans hE149).trans hE156).trans hE162).rx hF200).xr hE294
          have h298 := (hr_34.frmB hR297 q3)
          refine sO (oCall rfl call45 (ref08_Same hr_292 h298 (by omega) (by omega)) rfl ?_)
          rintro _ w300 ⟨gr_299, rfl, hE301, e_299⟩
          have hz302 := hE301.size
          obtain rfl : gr_299 = true := by rw [e_299, e_292, e_34]; exact decide_eq_true rfl
          refine sMb rfl (sEv (v := (.slice Ag ng cg)) (rfl) rfl rfl ?_)
          have hR303 := ((hR169.rx hF200).xr hE294).xr hE301
          have h304 := (h135.frmB hR303 q3)
          refine sOp rfl (oCall rfl call14 (law08_Of h304 (by omega) (by omega)) rfl ?_)
          rintro _ w306 ⟨Ar_305, nr_305, cr_305, fr_305, rfl, hE307, hr_305, e_305, ln_305⟩
          have hz308 := hE307.size
          have ⟨lr_305, kr_305, mr_305⟩ := hr_305.lkm
          replace hr_305 := hr_305.sub (S' := fun b => w300.heap.size ≤ b ∧ b < w306.heap.size) fun _ hb hs => ⟨hs, hb⟩
          refine sEv (v := (.slice Ar_41 nr_41 cr_41)) (rfl) rfl rfl ?_
          have hR310 := (((hR165.rx hF200).xr hE294).xr hE301).xr hE307
          have h311 := (hr_41.frmB hR310 q3)
          refine sOp rfl (oCall rfl call45 (ref08_Same hr_305 h311 (by omega) (by omega)) rfl ?_)
          rintro _ w313 ⟨gr_312, rfl, hE314, e_312⟩
          have hz315 := hE314.size
          obtain rfl : gr_312 = true := by rw [e_312, e_305, e_41]; exact decide_eq_true rfl
          refine sV (v := (.bool true)) (rfl) (sMb rfl (sEv (v := (.slice Af nf cf)) (rfl) rfl rfl (sEv (v := (.int .i64 ((nf : Int)))) (evLen Try.underlying23 rfl) rfl rfl (sEv (v := (.int .i64 ((nf : Int)))) (rfl) rfl rfl (sEv (v := (.bool true)) (evEql true rfl rfl (dT (rfl))) rfl rfl (sV (v := (.bool true)) (rfl) (sAb rfl (sK hK289 (wp_ret (ret1 (.bool true) Try.results7 (resT rfl) ?_))))))))))
          have hR316 := ((((((((((((((((((((((((hR39.trans hE43).trans hE52).trans hE58).trans hE64).trans hE70).trans hE75).trans hE82).trans hE87).trans hE94).trans hE100).trans hE105).trans hE112).trans hE117).trans hE124).trans hE130).trans hE138).trans hE144).trans hE149).trans hE156).trans hE162).rx hF200).xr hE294).xr hE301).xr hE307).xr hE314
          exact ⟨(true), rfl, (Frm.mono hR316 q4), rfl⟩

end Go.Proofs.Ytppegjbdencefaa
