/-
  Walk of package squarefree: exponents over a basis.
-/
import Derived.Test.YtbniolgfaeiedaaGreatSq9
import Derived.Test.YtbniolgfaeiedaaGreatSq10
import Derived.Test.YtbniolgfaeiedaaGreatLibC
namespace Go.Proofs.YtbniolgfaeiedaaGreat
open Go.RowKit Go.Gx
set_option maxHeartbeats 2000000 in
theorem squarefree_Exponents {w : World} {Sf : Nat → Prop} {Af : Option Addr} {nf cf Mf : Nat} {lf : List RI} {Sb : Nat → Prop} {Ab : Option Addr} {nb cb Mb : Nat} {fb : List PE} (hf : PolyR w Sf Af nf cf lf Mf) (hb : PolysR w Sb Ab nb cb fb Mb) (hnf : nf ≤ 40) (hMf : Mf ≤ 340) (hN : nrm (zs lf) ≤ 2 ^ 128) (hnb : nb ≤ 1000000000) (hMb : Mb ≤ 64) (hlb : ∀ x ∈ fb, x.n ≤ 11) : Calls Tryz.prog 18 #[(.slice Af nf cf), (.slice Ab nb cb)] w (Ret fun v w' => ∃ (Ar : Option Addr) (nr : Nat) (cr : Nat) (dr : List Nat) (gk : Bool), v = (.tuple #[(.slice Ar nr cr), (.bool gk)]) ∧ Ext w w' ∧ DigR 65 w' (fun b => w.heap.size ≤ b) Ar nr cr dr ∧ (ExpR (P (zs lf)) (qps fb) gk dr)) := by
  have ⟨kf, jf, mf⟩ := hf.lkm
  replace hf := hf.low
  have ⟨kb, jb, mb⟩ := hb.lkm; replace hb := hb.low
  refine enter Tryz.func18 rfl Tryz.ntmps18 rfl (rS fun K1 hK1 => sAs rfl (sAb rfl (sK hK1 (wp_seq_k fun K2 hK2 => rS fun K3 hK3 => sMs rfl (sO (oCall rfl call19 (unipoly_Degree hf (by omega) (by omega)) rfl ?_))))))
  rintro _ w5 ⟨xr_4, rfl, hE6, e_4⟩
  have hz7 := hE6.size
  by_cases hc8 : xr_4 < 0
  · refine sV (evLss true rfl rfl (dT hc8)) (sK hK3 (cT rfl (rS fun K9 hK9 => sAs rfl (sAb rfl (sK hK9 (wp_ret (xR (ret2 (.slice none 0 0) (.bool false) Tryz.results18 (resT rfl) (resT rfl) ?_))))))))
    exact ⟨none, 0, 0, ([]), (false), rfl, hE6, DigR.nil, (.inl ⟨rfl, rfl, fun hh => hh.1 (dg_zero.1 (by rw [dg_P]; omega))⟩)⟩
  · refine sV (evLss false rfl rfl (dF hc8)) (sK hK3 (cF rfl (wp_skip (xN (hK2 _ _ (wp_seq_k fun K10 hK10 => rS fun K11 hK11 => sMs rfl (sV (evLen Tryz.underlying25 rfl) (sMi rfl (sK hK11 (wp_block ?_))))))))))
    refine lLoop (fun m e w_ => ∃ (i : Nat), m = nb - i ∧ e 0 = (.slice Af nf cf) ∧ e 1 = (.slice Ab nb cb) ∧ e 17 = (.slice Ab nb cb) ∧ e 18 = (.int .i64 ((nb : Int))) ∧ e 19 = (.int .i64 ((i : Int))) ∧ Frm (fun b => False) w5 w_ ∧ (i ≤ nb) ∧ (BaseOk ((qps fb).take i))) (nb - (0)) ?_ ?_
    · refine ⟨(0), rfl, rfl, rfl, rfl, rfl, cI, (Frm.refl _ _), ?_, ?_⟩
      · omega
      · exact base_nil
    · rintro m12 e21 w13 ⟨i, hm20, hs14, hs15, hs16, hs17, hs18, hF19, hi, hbo⟩
      obtain ⟨r22, rfl⟩ := sq (e := e21) (t := 0) hs14
      obtain ⟨r23, rfl⟩ := sq (e := r22) (t := 1) hs15
      obtain ⟨r24, rfl⟩ := sq (e := r23) (t := 17) hs16
      obtain ⟨r25, rfl⟩ := sq (e := r24) (t := 18) hs17
      obtain ⟨r26, rfl⟩ := sq (e := r25) (t := 19) hs18
      have hz27 := hF19.size
      refine rS fun K28 hK28 => ?_
      by_cases hc29 : ((i : Int)) < ((nb : Int))
      · refine sV (evLss true rfl rfl (dT hc29)) (sK hK28 (wp_seq_k fun K30 hK30 => cT rfl (wp_skip (xN (hK30 _ _ (wp_seq_k fun K31 hK31 => wp_block (rS fun K32 hK32 => sMi rfl ?_)))))))
        have hR33 := hE6.trans hF19
        have h34 := (hb.ext hR33)
        obtain ⟨b35, o36, rfl⟩ := h34.base (by omega)
        refine sV (evIx i Tryz.underlying25 sz32 rfl rfl (o36 + i)) ?_
        obtain ⟨⟨A_37, n_37, c_37, l_37⟩, he_37, hp_37, hP_37, hS_37, hb_37⟩ := h34.at_ (i := i) (by omega)
        dsimp only at hp_37 hP_37; have ⟨q1_37, q2_37, q3_37⟩ := hP_37.lkm
        have hg_37 : (qps fb)[i]? = some (P (zs l_37)) := qps_get he_37; have hn_37 : n_37 ≤ 11 := hlb _ (List.mem_of_getElem? he_37)
        refine sV (evLoad one32 rfl hp_37) (sAi rfl (sAs rfl (sK hK32 (wp_seq_k fun K39 hK39 => rS fun K40 hK40 => sMs rfl (sO (oCall rfl call19 (unipoly_Degree hP_37 (by omega) (by omega)) rfl ?_))))))
        rintro _ w42 ⟨xr_41, rfl, hE43, e_41⟩
        have hz44 := hE43.size
        by_cases hc45 : xr_41 < 1
        · refine sV (evLss true rfl rfl (dT hc45)) (sK hK40 (cT rfl (rS fun K46 hK46 => sAs rfl (sAb rfl (sK hK46 (wp_ret (xR (bR (xR (xR (bR (xR (ret2 (.slice none 0 0) (.bool false) Tryz.results18 (resT rfl) (resT rfl) ?_)))))))))))))
          have hR47 := hR33.trans hE43
          exact ⟨none, 0, 0, ([]), (false), rfl, hR47, DigR.nil, (.inl ⟨rfl, rfl, fun hh => absurd (base_deg hh.2.1 hg_37) (by rw [dg_P]; omega)⟩)⟩
        · refine sV (evLss false rfl rfl (dF hc45)) (sK hK40 (cF rfl (wp_skip (xN (hK39 _ _ (rS fun K48 hK48 => sMs rfl (sMi rfl ?_)))))))
          have h49 := (h34.ext hE43)
          have h50 := h49.take (m := i) (by omega)
          refine sV (evSliceHi i Tryz.underlying25 sz32 rfl rfl (by omega) (by omega)) (sV (evLen Tryz.underlying25 rfl) (sMi rfl (sK hK48 (wp_block ?_))))
          refine lLoop (fun m e w_ => ∃ (j : Nat), m = i - j ∧ e 0 = (.slice Af nf cf) ∧ e 1 = (.slice (some ⟨b35, o36, none⟩) nb cb) ∧ e 7 = (.slice A_37 n_37 c_37) ∧ e 17 = (.slice (some ⟨b35, o36, none⟩) nb cb) ∧ e 18 = (.int .i64 ((nb : Int))) ∧ e 19 = (.int .i64 ((i : Int))) ∧ e 29 = (.slice (some ⟨b35, o36, none⟩) i cb) ∧ e 30 = (.int .i64 ((i : Int))) ∧ e 31 = (.int .i64 ((j : Int))) ∧ Frm (fun b => False) w42 w_ ∧ (j ≤ i) ∧ (∀ x ∈ (qps fb).take j, CopQ (P (zs l_37)) x)) (i - (0)) ?_ ?_
          · refine ⟨(0), rfl, rfl, rfl, rfl, rfl, rfl, rfl, rfl, rfl, cI, (Frm.refl _ _), ?_, ?_⟩
            · omega
            · intro x hx; simp at hx
          · rintro m52 e65 w53 ⟨j, hm64, hs54, hs55, hs56, hs57, hs58, hs59, hs60, hs61, hs62, hF63, hji, hj⟩
            obtain ⟨r66, rfl⟩ := sq (e := e65) (t := 0) hs54
            obtain ⟨r67, rfl⟩ := sq (e := r66) (t := 1) hs55
            obtain ⟨r68, rfl⟩ := sq (e := r67) (t := 7) hs56
            obtain ⟨r69, rfl⟩ := sq (e := r68) (t := 17) hs57
            obtain ⟨r70, rfl⟩ := sq (e := r69) (t := 18) hs58
            obtain ⟨r71, rfl⟩ := sq (e := r70) (t := 19) hs59
            obtain ⟨r72, rfl⟩ := sq (e := r71) (t := 29) hs60
            obtain ⟨r73, rfl⟩ := sq (e := r72) (t := 30) hs61
            obtain ⟨r74, rfl⟩ := sq (e := r73) (t := 31) hs62
            have hz75 := hF63.size
            refine rS fun K76 hK76 => ?_
            by_cases hc77 : ((j : Int)) < ((i : Int))
            · refine sV (evLss true rfl rfl (dT hc77)) (sK hK76 (wp_seq_k fun K78 hK78 => cT rfl (wp_skip (xN (hK78 _ _ (wp_seq_k fun K79 hK79 => wp_block (rS fun K80 hK80 => sV (evIx j Tryz.underlying25 sz32 rfl rfl (o36 + j)) ?_)))))))
              have h81 := (h50.ext hF63)
              obtain ⟨⟨A_82, n_82, c_82, l_82⟩, he_82, hp_82, hP_82, hS_82, hb_82⟩ := h81.at_ (i := j) (by omega)
              dsimp only at hp_82 hP_82; have ⟨q1_82, q2_82, q3_82⟩ := hP_82.lkm
              have hg_82 : (qps fb)[j]? = some (P (zs l_82)) := by rw [List.getElem?_take_of_lt (by omega)] at he_82; exact qps_get he_82
              have hn_82 : n_82 ≤ 11 := hlb _ (List.mem_of_mem_take (List.mem_of_getElem? he_82))
              refine sV (evLoad one32 rfl hp_82) (sAs rfl (sK hK80 (rS fun K84 hK84 => sMs rfl (sMs rfl ?_))))
              have hR85 := hE43.trans hF63
              have h86 := (hP_37.ext hR85)
              refine sO (oCall rfl call17 (unidiv_Coprime h86 hP_82 (by omega) (by omega) (by omega) (by omega)) rfl ?_)
              rintro _ w88 ⟨gr_87, rfl, hE89, e_87⟩
              have hz90 := hE89.size
              refine sV (evNot _ rfl rfl) (sK hK84 ?_)
              cases gr_87
              · refine cT rfl (rS fun K91 hK91 => sAs rfl (sAb rfl (sK hK91 (wp_ret (bR (xR (xR (bR (bR (xR (xR (bR (xR (ret2 (.slice none 0 0) (.bool false) Tryz.results18 (resT rfl) (resT rfl) ?_))))))))))))))
                have hR92 := ((hR33.trans hE43).trans hF63).trans hE89
                exact ⟨none, 0, 0, ([]), (false), rfl, hR92, DigR.nil, (.inl ⟨rfl, rfl, fun hh => absurd (e_87.2 (base_cop hh.2.1 hg_82 hg_37 (by omega))) (by decide)⟩)⟩
              · refine cF rfl (wp_skip (bN (xN (hK79 _ _ (wp_region_lit (sV (evAdd (((j : Int)) + 1) rfl rfl wI) (sMi rfl (sDone (again (i - (j + 1)) (by omega) ⟨(j + 1), rfl, rfl, rfl, rfl, rfl, rfl, rfl, rfl, rfl, cI, (hF63.trans hE89), ?_, ?_⟩)))))))))
                · omega
                · exact cop_snoc hj hg_82 (e_87.1 rfl)
            · refine sV (evLss false rfl rfl (dF hc77)) (sK hK76 (wp_seq_k fun K93 hK93 => cF rfl (wp_exit (xE (xE (bE (bN (xN (hK31 _ _ (wp_region_lit (sV (evAdd (((i : Int)) + 1) rfl rfl wI) (sMi rfl (sDone ?_)))))))))))))
              have hR94 := hE43.trans hF63
              refine again (nb - (i + 1)) (by omega) ⟨(i + 1), rfl, rfl, rfl, rfl, rfl, cI, (hF19.trans hR94), ?_, ?_⟩
              · omega
              · exact base_next hbo hg_37 (by rw [dg_P]; omega) (by omega) hj
      · refine sV (evLss false rfl rfl (dF hc29)) (sK hK28 (wp_seq_k fun K95 hK95 => cF rfl (wp_exit (xE (xE (bE (xN (hK10 _ _ (wp_seq_k fun K96 hK96 => ?_)))))))))
        have hbase : BaseOk (qps fb) := by have h := hbo; rw [List.take_of_length_le (by simp [qps]; omega)] at h; exact h
        have hF : P (zs lf) ≠ 0 := dg_pos.2 (by rw [dg_P]; omega)
        have htf : (trimZ (zs lf)).length ≤ 40 := by have h := trimZ_len (zs lf); rw [zlen] at h; omega
        refine wp_region_lit (sMs rfl (sV (evLen Tryz.underlying25 rfl) (sO (oMake1 nb Tryz.underlying39 inf3 rfl cI cI (by omega) (by omega) (fun g97 w98 hg99 hE100 hz101 hB102 => ?_)))))
        have hB103 : Blk w98 g97 3 (((List.replicate nb 0)).map i64n) := by rw [List.map_replicate]; exact hB102
        refine sAs rfl (sK hK96 (rS fun K104 hK104 => sMs rfl (sAs rfl (sK hK104 (wp_seq_k fun K105 hK105 => rS fun K106 hK106 => sMs rfl (sV (evLen Tryz.underlying25 rfl) (sMi rfl (sK hK106 (wp_block ?_)))))))))
        have hR108 := (hE6.trans hF19).trans hE100
        have h109 := (hf.ext hR108)
        refine lLoop (fun m e w_ => ∃ (i : Nat) (es : List Nat) (Ap : Option Addr) (np : Nat) (cp : Nat) (lp : List RI), m = nb - i ∧ e 10 = (.slice (some ⟨g97, 0, none⟩) nb nb) ∧ e 11 = (.slice Ap np cp) ∧ e 45 = (.slice Ab nb cb) ∧ e 46 = (.int .i64 ((nb : Int))) ∧ e 47 = (.int .i64 ((i : Int))) ∧ Frm (fun b => w98.heap.size ≤ b ∨ b = g97) w98 w_ ∧ Blk w_ g97 3 ((es ++ List.replicate (nb - i) 0).map i64n) ∧ (i ≤ nb) ∧ (∀ d ∈ es, d < 65) ∧ (Chn (P (zs lf)) ((qps fb).take i) es (P (zs lp))) ∧ (np ≤ nf) ∧ (PolyR w_ (fun b => b < w_.heap.size ∧ b ≠ g97) Ap np cp lp 340)) (nb - (0)) ?_ ?_
        · refine ⟨(0), ([]), (Af), (nf), (cf), (lf), rfl, rfl, rfl, rfl, rfl, cI, (Frm.refl _ _), ?_, ?_, ?_, ?_, ?_, ?_⟩
          · exact hB103
          · omega
          · simp
          · exact Chn.start hF
          · omega
          · exact (PolyR.sub h109 (fun b hb hs => ⟨hb, by (try dsimp only at hs); omega⟩)).le (by omega)
        · rintro m107 e119 w110 ⟨i, es, Ap, np, cp, lp, hm118, hs111, hs112, hs113, hs114, hs115, hF116, hB117, hi, hlt, hch, hnp, hPR⟩
          obtain ⟨r120, rfl⟩ := sq (e := e119) (t := 10) hs111
          obtain ⟨r121, rfl⟩ := sq (e := r120) (t := 11) hs112
          obtain ⟨r122, rfl⟩ := sq (e := r121) (t := 45) hs113
          obtain ⟨r123, rfl⟩ := sq (e := r122) (t := 46) hs114
          obtain ⟨r124, rfl⟩ := sq (e := r123) (t := 47) hs115
          have hz125 := hF116.size
          have ⟨k7, j7, m7⟩ := hPR.lkm; have hel : es.length = i := hch.2.1.trans (by simp [qps]; omega)
          refine rS fun K126 hK126 => ?_
          by_cases hc127 : ((i : Int)) < ((nb : Int))
          · refine sV (evLss true rfl rfl (dT hc127)) (sK hK126 (wp_seq_k fun K128 hK128 => cT rfl (wp_skip (xN (hK128 _ _ (wp_seq_k fun K129 hK129 => wp_block (rS fun K130 hK130 => sMi rfl ?_)))))))
            have hR131 := hR108.rx hF116
            have h132 := (hb.frmB hR131 q3)
            obtain ⟨b133, o134, rfl⟩ := h132.base (by omega)
            refine sV (evIx i Tryz.underlying25 sz32 rfl rfl (o134 + i)) ?_
            obtain ⟨⟨A_135, n_135, c_135, l_135⟩, he_135, hp_135, hP_135, hS_135, hb_135⟩ := h132.at_ (i := i) (by omega)
            dsimp only at hp_135 hP_135; have ⟨q1_135, q2_135, q3_135⟩ := hP_135.lkm
            have hg_135 : (qps fb)[i]? = some (P (zs l_135)) := qps_get he_135; have hn_135 : n_135 ≤ 11 := hlb _ (List.mem_of_getElem? he_135)
            refine sV (evLoad one32 rfl hp_135) (sAi rfl (sAs rfl (sK hK130 (wp_region_lit (sMs rfl (sMi rfl (sMs rfl (sMs rfl (sO (oCall rfl call40 (squarefree_remove hPR hP_135 (by omega) (by omega) (by omega) (by omega)) rfl ?_))))))))))
            rintro _ w138 ⟨xk_137, Ar_137, nr_137, cr_137, lr_137, rfl, hE139, bk_137, hr_137, mu_137, kb_137, ln_137, cn_137⟩
            have hz140 := hE139.size
            have ⟨kr_137, jr_137, mr_137⟩ := hr_137.lkm
            refine sV (v := (.tuple #[(.int .i64 ((xk_137 : Int))), (.slice Ar_137 nr_137 cr_137)])) (rfl) (sV (v := (.int .i64 ((xk_137 : Int)))) (rfl) (sV (v := (.slice Ar_137 nr_137 cr_137)) (rfl) ?_))
            have hdq := base_deg hbase hg_135; have hch2 := chn_next hch mu_137 hg_135 hdq; have hrc := rem_cont mu_137 hch.ne (by rw [← dg_P]; exact hdq)
            have hT142 := PolyR.tight (K := 340) hr_137 cn_137 (exp_tight hrc hch2.dvd hF hN htf)
            refine sV (evIx i Tryz.underlying39 sz3 rfl rfl i) ?_
            have hB143 := (hB117.ext hE139)
            refine sO (oStore1 rfl rfl rfl sz3 hB143 (by exact lq) (fun w144 hU145 hz146 hB147 => ?_))
            replace hB147 : Blk w144 g97 3 (((es ++ List.replicate (nb - i) 0).set i xk_137).map i64n) := by rw [List.map_set]; exact hB147
            refine sAs rfl (sDone (bN (xN (hK129 _ _ (wp_region_lit (sV (evAdd (((i : Int)) + 1) rfl rfl wI) (sMi rfl (sDone ?_))))))))
            have hR148 := hE139.rx hU145
            have h149 := (hT142.frmB hU145 q3)
            refine again (nb - (i + 1)) (by omega) ⟨(i + 1), (es ++ [xk_137]), (Ar_137), (nr_137), (cr_137), (lr_137), rfl, rfl, rfl, rfl, rfl, cI, (Frm.mono (hF116.tr hR148) q4), ?_, ?_, ?_, ?_, ?_, ?_⟩
            · have hq := hB147; rw [fillE_set (hch.2.1.trans (by simp [qps]; omega)) (by omega)] at hq; exact hq
            · omega
            · exact lt_snocN hlt (by omega)
            · exact hch2
            · omega
            · exact PolyR.sub h149 (fun b hb hs => ⟨hb, by (try dsimp only at hs); omega⟩)
          · refine sV (evLss false rfl rfl (dF hc127)) (sK hK126 (wp_seq_k fun K150 hK150 => cF rfl (wp_exit (xE (xE (bE (xN (hK105 _ _ (wp_seq_k fun K151 hK151 => rS fun K152 hK152 => sMs rfl (sO (oCall rfl call19 (unipoly_Degree hPR (by omega) (by omega)) rfl ?_)))))))))))
            rintro _ w154 ⟨xr_153, rfl, hE155, e_153⟩
            have hz156 := hE155.size
            by_cases hc157 : xr_153 > 0
            · refine sV (evGtr true rfl rfl (dT hc157)) (sK hK152 (cT rfl (rS fun K158 hK158 => sAs rfl (sAb rfl (sK hK158 (wp_ret (xR (ret2 (.slice none 0 0) (.bool false) Tryz.results18 (resT rfl) (resT rfl) ?_))))))))
              have hchA : Chn (P (zs lf)) (qps fb) es (P (zs lp)) := by have h := hch; rw [List.take_of_length_le (by simp [qps]; omega)] at h; exact h
              have hR159 := (hR108.rx hF116).xr hE155
              exact ⟨none, 0, 0, ([]), (false), rfl, (Frm.mono hR159 q4), DigR.nil, (.inl ⟨rfl, rfl, fun hh => hchA.no hbase (by rw [dg_P]; omega) hh.2.2⟩)⟩
            · refine sV (evGtr false rfl rfl (dF hc157)) (sK hK152 (cF rfl (wp_skip (xN (hK151 _ _ (rS fun K160 hK160 => sMs rfl (sAs rfl (sAb rfl (sK hK160 (wp_ret (ret2 (.slice (some ⟨g97, 0, none⟩) nb nb) (.bool true) Tryz.results18 (resT rfl) (resT rfl) ?_)))))))))))
              have hchA : Chn (P (zs lf)) (qps fb) es (P (zs lp)) := by have h := hch; rw [List.take_of_length_le (by simp [qps]; omega)] at h; exact h
              have hB161 := (hB117.ext hE155)
              have hBz : Blk w154 g97 3 (es.map i64n) := by have h := hB161; rw [show nb - i = 0 by omega, List.replicate_zero, List.append_nil] at h; exact h
              have h162 : DigR 65 w154 (fun b => b = g97) (some ⟨g97, 0, none⟩) nb nb (es) := DigR.of_blk hBz rfl hlt (by exact lq) (by omega) (by unfold CapMax; omega)
              have hR163 := (hR108.rx hF116).xr hE155
              exact ⟨(some ⟨g97, 0, none⟩), nb, nb, es, (true), rfl, (Frm.mono hR163 q4), (DigR.sub h162 q5), (.inr ⟨rfl, hF, hbase, hchA.yes (by rw [dg_P]; omega)⟩)⟩

end Go.Proofs.YtbniolgfaeiedaaGreat
