/-
  Walk of package squarefree: the square-free decomposition.
-/
import Derived.Test.YtbniolgfaeiedaaGreatSq10
import Derived.Test.YtbniolgfaeiedaaGreatLibB
namespace Go.Proofs.YtbniolgfaeiedaaGreat
open Go.RowKit Go.Gx
set_option maxHeartbeats 4000000 in
theorem squarefree_Decompose {w : World} {Sf : Nat → Prop} {Af : Option Addr} {nf cf Mf : Nat} {lf : List RI} (hf : PolyR w Sf Af nf cf lf Mf) (hnf : nf ≤ 11) (hMf : Mf ≤ 64) (hN : nrm (zs lf) ≤ 16777216) : Calls Tryz.prog 31 #[(.slice Af nf cf)] w (Ret fun v w' => ∃ (gu : Bool) (Au : Option Addr) (nu : Nat) (cu : Nat) (du : List Nat) (Ar : Option Addr) (nr : Nat) (cr : Nat) (fr : List FE), v = (.tuple #[(.agg #[(.bool gu), (.slice Au nu cu)]), (.slice Ar nr cr)]) ∧ Ext w w' ∧ NatR w' (fun b => w.heap.size ≤ b) Au nu cu du ∧ FacsR w' (fun b => w.heap.size ≤ b) Ar nr cr fr 17 ∧ (Dec (zs lf) (zval gu du) fr) ∧ (nu ≤ 1) ∧ (nr ≤ 11) ∧ (OwnF w' w.heap.size 94 Ar nr cr fr 17)) := by
  have ⟨kf, jf, mf⟩ := hf.lkm
  replace hf := hf.low
  refine enter Tryz.func31 rfl Tryz.ntmps31 rfl (rS fun K1 hK1 => sO (oAlloc [(.bool false), (.slice none 0 0)] zero68 rfl (fun g2 w3 hg4 hE5 hz6 hB7 => sAs rfl (sK hK1 (wp_seq_k fun K8 hK8 => rS fun K9 hK9 => sMs rfl ?_)))))
  have h10 := (hf.ext hE5)
  refine sO (oCall rfl call19 (unipoly_Degree h10 (by omega) (by omega)) rfl ?_)
  rintro _ w12 ⟨xr_11, rfl, hE13, e_11⟩
  have hz14 := hE13.size
  by_cases hc15 : xr_11 < 0
  · refine sV (evLss true rfl rfl (dT hc15)) (sK hK9 (cT rfl (rS fun K16 hK16 => sV (v := (.agg #[(.bool false), (.slice none 0 0)])) (evK (by kernel_rfl)) ?_)))
    have hB17 := (hB7.ext hE13)
    refine sO (oStore [(.bool false), (.slice none 0 0)] rfl rfl rfl sz68 rfl hB17 (Nat.le_of_ble_eq_true rfl) (fun w18 hU19 hz20 hB21 => ?_))
    replace hB21 : Blk w18 g2 68 [(.bool false), (.slice none 0 0)] := hB21
    refine sAs rfl (sK hK16 (wp_ret (xR (ret2 (.agg #[(.bool false), (.slice none 0 0)]) (.slice none 0 0) Tryz.results31 (resB [(.bool false), (.slice none 0 0)] agg68 sz68 rfl hB21) (resT rfl) ?_))))
    have hR22 := (hE5.trans hE13).rx hU19
    exact ⟨false, none, 0, 0, ([]), none, 0, 0, [], rfl, (Frm.mono hR22 q4), NatR.nil, FacsR.nil, (.inl ⟨dg_zero.1 (by rw [dg_P]; omega), rfl, rfl⟩), (by omega), (by omega), OwnF.nil⟩
  · refine sV (evLss false rfl rfl (dF hc15)) ?_
    have hln := ld_of_deg e_11 (by omega); have hF := (ld_ne_iff _).1 hln
    refine sK hK9 (cF rfl (wp_skip (xN (hK8 _ _ (rS fun K23 hK23 => sMs rfl ?_)))))
    have h24 := (h10.ext hE13)
    refine sO (oCall rfl call51 (unidiv_Content h24 (by omega) (by omega)) rfl ?_)
    rintro _ w26 ⟨gr_25, Ar_25, nr_25, cr_25, dr_25, rfl, hE27, hr_25, v_25, cn_25, le_25⟩
    have hz28 := hE27.size
    have ⟨lr_25, kr_25, mr_25⟩ := hr_25.lkm
    have h30 := hr_25.sub (S' := fun b => (w12.heap.size ≤ b) ∧ b < w26.heap.size) fun _ hb hs => ⟨hs, hb⟩
    have hR31 := hE13.trans hE27
    have hB32 := (hB7.ext hR31)
    refine sO (oStore [(.bool gr_25), (.slice Ar_25 nr_25 cr_25)] rfl rfl rfl sz68 rfl hB32 (Nat.le_of_ble_eq_true rfl) (fun w33 hU34 hz35 hB36 => ?_))
    replace hB36 : Blk w33 g2 68 [(.bool gr_25), (.slice Ar_25 nr_25 cr_25)] := hB36
    refine sK hK23 (wp_seq_k fun K37 hK37 => rS fun K38 hK38 => sMs rfl ?_)
    have hR39 := hE27.rx hU34
    have h40 := (h24.frmB hR39 q3)
    refine sO (oCall rfl call53 (unipoly_Lead h40 (by omega) (by omega)) rfl ?_)
    rintro _ w42 ⟨gr_41, Ar_41, nr_41, cr_41, dr_41, rfl, hE43, hr_41, v_41, cn_41, le_41⟩
    have hz44 := hE43.size
    have ⟨lr_41, kr_41, mr_41⟩ := hr_41.lkm
    refine sO (oCall rfl call52 (integer_Sign hr_41) rfl ?_)
    rintro _ w47 ⟨xr_46, rfl, hE48, e_46⟩
    have hz49 := hE48.size
    have hsg := sign_cases (zval gr_41 dr_41); have hld : zval gr_41 dr_41 = ldP (zs lf) := v_41; have hes := e_46; rw [hld] at hsg hes
    by_cases hc50 : xr_46 < 0
    · refine sV (evLss true rfl rfl (dT hc50)) (sK hK38 (cT rfl (wp_region_lit ?_)))
      have hR51 := hE43.trans hE48
      have hB52 := (hB36.ext hR51)
      refine sV (evLoadAB [(.bool gr_25), (.slice Ar_25 nr_25 cr_25)] agg68 sz68 rfl hB52 rfl) ?_
      have hR53 := (hU34.xr hE43).xr hE48
      have h54 := (h30.frmB hR53 q3)
      refine sO (oCall rfl call54 (integer_Neg h54 (by omega)) rfl ?_)
      rintro _ w56 ⟨gr_55, Ar_55, nr_55, cr_55, dr_55, rfl, hE57, hr_55, v_55, cn_55, le_55⟩
      have hz58 := hE57.size
      have ⟨lr_55, kr_55, mr_55⟩ := hr_55.lkm
      have h60 := hr_55.sub (S' := fun b => (w47.heap.size ≤ b) ∧ b < w56.heap.size) fun _ hb hs => ⟨hs, hb⟩
      have hB61 := (hB52.ext hE57)
      refine sO (oStore [(.bool gr_55), (.slice Ar_55 nr_55 cr_55)] rfl rfl rfl sz68 rfl hB61 (Nat.le_of_ble_eq_true rfl) (fun w62 hU63 hz64 hB65 => ?_))
      replace hB65 : Blk w62 g2 68 [(.bool gr_55), (.slice Ar_55 nr_55 cr_55)] := hB65
      refine sK hK37 (wp_seq_k fun K66 hK66 => ?_)
      have hu : zval gr_55 dr_55 = primC (zs lf) := by unfold primC; rw [if_pos (by rcases hsg with h | h | h <;> omega)]; rw [v_55, v_25]
      have hu1 : nr_55 ≤ 1 := int_tight cn_55 lr_55 (by rw [hu]; exact Nat.lt_of_le_of_lt (Nat.le_trans (primC_le _) hN) (by decide))
      refine wp_region_lit (sMs rfl ?_)
      have hR67 := (hR51.trans hE57).rx hU63
      have h68 := (h40.frmB hR67 q3)
      refine sO (oCall rfl call35 (unidiv_Primitive h68 (by omega) (by omega)) rfl ?_)
      rintro _ w70 ⟨Ar_69, nr_69, cr_69, lr_69, rfl, hE71, hr_69, e_69, ln_69, cn_69⟩
      have hz72 := hE71.size
      have ⟨kr_69, jr_69, mr_69⟩ := hr_69.lkm
      have hpn : Nrm (zs lr_69) := by rw [e_69]; exact nrm_prim hF
      have hpl : nrm (zs lr_69) ≤ 16777216 := by rw [e_69]; exact Nat.le_trans (nrm_prim_le _) hN
      have hpt : (trimZ (zs lr_69)).length ≤ 11 := by have h := trimZ_len (zs lr_69); rw [zlen] at h; omega
      refine sAs rfl (sK hK66 (rS fun K74 hK74 => sMs rfl (sO (oCall rfl call36 (unipoly_Derivative hr_69 (by omega) (by omega)) rfl ?_))))
      rintro _ w76 ⟨Ar_75, nr_75, cr_75, lr_75, rfl, hE77, hr_75, e_75, ln_75, cn_75⟩
      have hz78 := hE77.size
      have ⟨kr_75, jr_75, mr_75⟩ := hr_75.lkm
      refine sAs rfl (sK hK74 (rS fun K80 hK80 => sMs rfl (sMs rfl ?_)))
      have h81 := (hr_69.ext hE77)
      refine sO (oCall rfl call39 (unidiv_Gcd h81 hr_75 (by omega) (by omega) (by omega) (by omega)) rfl ?_)
      rintro _ w83 ⟨Ar_82, nr_82, cr_82, lr_82, rfl, hE84, hr_82, gc_82, ln_82, cn_82⟩
      have hz85 := hE84.size
      have ⟨kr_82, jr_82, mr_82⟩ := hr_82.lkm
      have hgn := gcd_nrm hpn gc_82; have hgd := gc_82.q.1; have hgd2 := gc_82.q.2.1
      have hT87 := PolyR.tight (K := 17) hr_82 cn_82 (div17q hgn.c hgd hpn.ne hpl hpt)
      refine sAs rfl (sK hK80 (rS fun K88 hK88 => sMs rfl (sMs rfl ?_)))
      have h89 := (h81.ext hE84)
      refine sO (oCall rfl call43 (squarefree_quotient h89 hT87 (by omega) (by omega) (by omega) (by omega) (by assumption) (by assumption)) rfl ?_)
      rintro _ w91 ⟨Ar_90, nr_90, cr_90, lr_90, rfl, hE92, hr_90, e_90, lk_90, ln_90, cn_90⟩
      have hz93 := hE92.size
      have ⟨kr_90, jr_90, mr_90⟩ := hr_90.lkm
      have htr : trimZ (zs lr_90) = zs lr_90 := quo_trim e_90 hpn.ne (by rw [zlen]; omega)
      have hrn := hpn.quo hgn.s e_90 htr
      have hT95 := PolyR.tight (K := 17) hr_90 cn_90 (div17 ⟨_, e_90⟩ hpn.ne hpl hpt)
      refine sAs rfl (sK hK88 (rS fun K96 hK96 => sMs rfl (sMs rfl ?_)))
      have hR97 := hE84.trans hE92
      have h98 := (hr_75.ext hR97)
      have h99 := (hT87.ext hE92)
      refine sO (oCall rfl call43 (squarefree_quotient h98 h99 (by omega) (by omega) (by omega) (by omega) (by assumption) (by assumption)) rfl ?_)
      rintro _ w101 ⟨Ar_100, nr_100, cr_100, lr_100, rfl, hE102, hr_100, e_100, lk_100, ln_100, cn_100⟩
      have hz103 := hE102.size
      have ⟨kr_100, jr_100, mr_100⟩ := hr_100.lkm
      have hex_100 := exM_64 (M := (Mf + 1 + 2)) (G := 17) (K := (trimZ (zs lr_75)).length - ((trimZ (zs lr_82)).length - 1)) (L := 11) (by have h := trimZ_len (zs lr_75); rw [zlen] at h; omega)
      refine sMs rfl ?_
      have h105 := (hT95.ext hE102)
      refine sO (oCall rfl call36 (unipoly_Derivative h105 (by omega) (by omega)) rfl ?_)
      rintro _ w107 ⟨Ar_106, nr_106, cr_106, lr_106, rfl, hE108, hr_106, e_106, ln_106, cn_106⟩
      have hz109 := hE108.size
      have ⟨kr_106, jr_106, mr_106⟩ := hr_106.lkm
      have h111 := (hr_100.ext hE108)
      refine sO (oCall rfl call55 (unipoly_Sub h111 hr_106 (by omega) (by omega) (by omega) (by omega)) rfl ?_)
      rintro _ w113 ⟨Ar_112, nr_112, cr_112, lr_112, rfl, hE114, hr_112, e_112, ln_112, cn_112⟩
      have hz115 := hE114.size
      have ⟨kr_112, jr_112, mr_112⟩ := hr_112.lkm
      have hd0 : der (P (zs lr_69)) = P (zs lr_75) := by rw [e_75, P_trim, der_P]
      have hY0 : Yun (P (zs lr_69)) 1 (P (zs lr_90)) (P (zs lr_112)) (P (zs lr_69)) := Yun.start hpn.ne (by rw [hd0]; exact gc_82.q) e_90 (by rw [hd0]; exact e_100) (by rw [e_112, P_trim, P_sub, e_106, P_trim, der_P])
      have hU0 : dg (P (zs lr_69)) ≤ 11 := by rw [dg_P]; exact hpt
      have hM117 := PolyR.le (M' := 500) hr_112 (by omega)
      refine sAs rfl (sK hK96 (wp_seq_k fun K118 hK118 => rS fun K119 hK119 => sAi rfl (sK hK119 (wp_block ?_))))
      have hR121 := hE108.trans hE114
      have h122 := (h105.ext hR121)
      refine lLoop (fun m e w_ => ∃ (k : Nat) (nk : Nat) (Ao : Option Addr) (cp : Nat) (fs : List FE) (A1 : Option Addr) (n1 : Nat) (c1 : Nat) (l1 : List RI) (A2 : Option Addr) (n2 : Nat) (c2 : Nat) (l2 : List RI) (B : Nat) (U : QP), m = dg U ∧ e 2 = (.pointer (some ⟨g2, 0, none⟩)) ∧ e 3 = (.slice Ao nk cp) ∧ e 7 = (.slice A1 n1 c1) ∧ e 8 = (.slice A2 n2 c2) ∧ e 9 = (.int .i64 ((k : Int))) ∧ Frm (fun b => w113.heap.size ≤ b) w113 w_ ∧ (OwnF w_ w113.heap.size 94 Ao nk cp fs 17) ∧ (PolyR w_ (fun b => notIn Ao b ∧ w.heap.size ≤ b) A1 n1 c1 l1 17) ∧ (PolyR w_ (fun b => notIn Ao b ∧ w.heap.size ≤ b) A2 n2 c2 l2 B) ∧ (Yun (P (zs lr_69)) k (P (zs l1)) (P (zs l2)) U) ∧ (Nrm (zs l1)) ∧ (P (zs l1) ∣ P (zs lr_69)) ∧ (DecOf (P (zs lr_69)) k fs) ∧ (B + 53 * dg U ≤ 1100) ∧ (1 ≤ k ∧ k + dg U ≤ 12 ∧ nk + 1 ≤ k) ∧ (n1 ≤ 11 ∧ n2 ≤ 11)) (dg (P (zs lr_69))) ?_ ?_
      · refine ⟨(1), (0), (none), (0), ([]), (Ar_90), (nr_90), (cr_90), (lr_90), (Ar_112), (nr_112), (cr_112), (lr_112), (500), (P (zs lr_69)), rfl, rfl, rfl, rfl, rfl, cI, (Frm.refl _ _), ?_, ?_, ?_, ?_, ?_, ?_, ?_, ?_, ?_, ?_⟩
        · exact OwnF.nil
        · exact PolyR.sub h122 (fun b _ hs => ⟨(fun a ha => nomatch ha), by (try dsimp only at hs); omega⟩)
        · exact PolyR.sub hM117 (fun b _ hs => ⟨(fun a ha => nomatch ha), by (try dsimp only at hs); omega⟩)
        · exact hY0
        · exact hrn
        · exact ⟨_, (e_90.trans (qmul_comm _ _))⟩
        · exact DecOf.nil
        · omega
        · omega
        · omega
      · rintro m120 e131 w123 ⟨k, nk, Ao, cp, fs, A1, n1, c1, l1, A2, n2, c2, l2, B, U, hm130, hs124, hs125, hs126, hs127, hs128, hF129, hO, h1, h2, hY, hn1, hdv, hd, hB, hk, hnn⟩
        obtain ⟨r132, rfl⟩ := sq (e := e131) (t := 2) hs124
        obtain ⟨r133, rfl⟩ := sq (e := r132) (t := 3) hs125
        obtain ⟨r134, rfl⟩ := sq (e := r133) (t := 7) hs126
        obtain ⟨r135, rfl⟩ := sq (e := r134) (t := 8) hs127
        obtain ⟨r136, rfl⟩ := sq (e := r135) (t := 9) hs128
        have hz137 := hF129.size
        have ⟨lO, kO, mO⟩ := hO.lkm; have hOl := hO.1.lt; have ⟨k1_, j1_, m1_⟩ := h1.lkm; have ⟨k2_, j2_, m2_⟩ := h2.lkm; have hd1 : dg (P (zs l1)) = n1 := mul_tlen hn1.t (by rw [zlen]; omega); have ht1 : (trimZ (zs l1)).length = n1 := (dg_P _).symm.trans hd1
        refine wp_seq_k fun K138 hK138 => rS fun K139 hK139 => sMs rfl (sO (oCall rfl call19 (unipoly_Degree h1 (by omega) (by omega)) rfl ?_))
        rintro _ w141 ⟨xr_140, rfl, hE142, e_140⟩
        have hz143 := hE142.size
        by_cases hc144 : xr_140 > 0
        · refine sV (evGtr true rfl rfl (dT hc144)) ?_
          have hU2 := dg_rest_U hY (by rw [dg_P]; omega)
          refine sK hK139 (cT rfl (wp_skip (xN (hK138 _ _ (wp_seq_k fun K145 hK145 => wp_block (rS fun K146 hK146 => sMs rfl (sMs rfl ?_)))))))
          have h147 := (h1.ext hE142)
          have h148 := (h2.ext hE142)
          refine sO (oCall rfl call39 (unidiv_Gcd h147 h148 (by omega) (by omega) (by omega) (by omega)) rfl ?_)
          rintro _ w150 ⟨Ar_149, nr_149, cr_149, lr_149, rfl, hE151, hr_149, gc_149, ln_149, cn_149⟩
          have hz152 := hE151.size
          have ⟨kr_149, jr_149, mr_149⟩ := hr_149.lkm
          have hgn2 := gcd_nrm hn1 gc_149; have hgk := hY.gcd gc_149.q; have hgp : P (zs lr_149) ∣ P (zs lr_69) := qdvd_trans gc_149.q.1 hdv; have hga := gc_149.q.1; have hgb := gc_149.q.2.1
          have hT154 := PolyR.tight (K := 17) hr_149 cn_149 (div17q hgn2.c hgp hpn.ne hpl hpt)
          have hgl : (trimZ (zs lr_149)).length = nr_149 := by rw [hgn2.t, zlen]; omega
          refine sAs rfl (sK hK146 (rS fun K155 hK155 => sMs rfl (sMs rfl ?_)))
          have h156 := (h147.ext hE151)
          refine sO (oCall rfl call43 (squarefree_quotient h156 hT154 (by omega) (by omega) (by omega) (by omega) (by assumption) (by assumption)) rfl ?_)
          rintro _ w158 ⟨Ar_157, nr_157, cr_157, lr_157, rfl, hE159, hr_157, e_157, lk_157, ln_157, cn_157⟩
          have hz160 := hE159.size
          have ⟨kr_157, jr_157, mr_157⟩ := hr_157.lkm
          have he2 := e_157; have htr2 : trimZ (zs lr_157) = zs lr_157 := quo_trim e_157 hn1.ne (by rw [zlen]; omega)
          have hrn2 := hn1.quo hgn2.s e_157 htr2
          have hT162 := PolyR.tight (K := 17) hr_157 cn_157 (div17q hrn2.c (qdvd_trans ⟨_, he2.trans (qmul_comm _ _)⟩ hdv) hpn.ne hpl hpt)
          refine sAs rfl (sK hK155 (rS fun K163 hK163 => sMs rfl (sMs rfl ?_)))
          have hR164 := hE151.trans hE159
          have h165 := (h148.ext hR164)
          have h166 := (hT154.ext hE159)
          refine sO (oCall rfl call43 (squarefree_quotient h165 h166 (by omega) (by omega) (by omega) (by omega) (by assumption) (by assumption)) rfl ?_)
          rintro _ w168 ⟨Ar_167, nr_167, cr_167, lr_167, rfl, hE169, hr_167, e_167, lk_167, ln_167, cn_167⟩
          have hz170 := hE169.size
          have ⟨kr_167, jr_167, mr_167⟩ := hr_167.lkm
          have hex_167 : exM B 17 ((trimZ (zs l2)).length - ((trimZ (zs lr_149)).length - 1)) ≤ B + 31 * (n1 - 1) + 2 := dec_ex hY.dgo hd1 (by omega)
          refine sMs rfl ?_
          have h172 := (hT162.ext hE169)
          refine sO (oCall rfl call36 (unipoly_Derivative h172 (by omega) (by omega)) rfl ?_)
          rintro _ w174 ⟨Ar_173, nr_173, cr_173, lr_173, rfl, hE175, hr_173, e_173, ln_173, cn_173⟩
          have hz176 := hE175.size
          have ⟨kr_173, jr_173, mr_173⟩ := hr_173.lkm
          have h178 := (hr_167.ext hE175)
          refine sO (oCall rfl call55 (unipoly_Sub h178 hr_173 (by omega) (by omega) (by omega) (by omega)) rfl ?_)
          rintro _ w180 ⟨Ar_179, nr_179, cr_179, lr_179, rfl, hE181, hr_179, e_179, ln_179, cn_179⟩
          have hz182 := hE181.size
          have ⟨kr_179, jr_179, mr_179⟩ := hr_179.lkm
          obtain ⟨U2, hY2, hdU⟩ := hY.next gc_149.q e_157 e_167 (other' := P (zs lr_179)) (by rw [e_179, P_trim, P_sub, e_173, P_trim, der_P])
          refine sAs rfl (sK hK163 (rS fun K184 hK184 => sMs rfl ?_))
          have hR185 := (hE169.trans hE175).trans hE181
          have h186 := (h166.ext hR185)
          refine sO (oCall rfl call19 (unipoly_Degree h186 (by omega) (by omega)) rfl ?_)
          rintro _ w188 ⟨xr_187, rfl, hE189, e_187⟩
          have hz190 := hE189.size
          by_cases hc191 : xr_187 > 0
          · refine sV (evGtr true rfl rfl (dT hc191)) ?_
            have hnew : DecE (P (zs lr_69)) ⟨Ar_149, nr_149, cr_149, lr_149, (k : Int)⟩ := dec_new hY gc_149.q hgn2 (by omega) (by omega) (by omega) (by omega) (by omega)
            refine sK hK184 (cT rfl (wp_region_lit (sMs rfl (sMs rfl (sMi rfl (sV (v := (.agg #[(.slice Ar_149 nr_149 cr_149), (.int .i64 ((k : Int)))])) (evK (by kernel_rfl)) (sO (oBuildSlice [(.agg #[(.slice Ar_149 nr_149 cr_149), (.int .i64 ((k : Int)))])] [[(.slice Ar_149 nr_149 cr_149), (.int .i64 ((k : Int)))]] Tryz.underlying69 inf94 rfl rfl rfl rfl rfl (fun g192 w193 hg194 hE195 hz196 hB197 => ?_)))))))))
            replace hB197 : Blk w193 g192 94 [(.slice Ar_149 nr_149 cr_149), (.int .i64 ((k : Int)))] := hB197
            have hR198 := ((((((hE142.trans hE151).trans hE159).trans hE169).trans hE175).trans hE181).trans hE189).trans hE195
            have hO199 := (hO.ext hR198)
            have hR200 := hE189.trans hE195
            have h201 := (h186.ext hR200)
            have hR202 := ((hE175.trans hE181).trans hE189).trans hE195
            have h203 := (h172.ext hR202)
            have h204 := (hr_179.ext hR200)
            refine sO (oAppF (B := w113.heap.size) (M := 17) Tryz.underlying69 inf94 rfl rfl rfl hO199 hB197 h201 (fun b hb_ hs => ⟨notIn_new hOl (U := w123.heap.size) (by (try dsimp only at hs); omega), by (try dsimp only at hs); omega⟩) (by omega) (by omega) (by omega) (fun A205 c206 w207 hO208 hF209 hBe210 => ?_))
            have hz211 := hF209.size
            have hk212 := hBe210 _ _ _ _ _ _ (fun b hb_ hs => notIn_new hOl (U := w123.heap.size) (by (try dsimp only at hs); omega)) h203
            have hk213 := hBe210 _ _ _ _ _ _ (fun b hb_ hs => notIn_new hOl (U := w123.heap.size) (by (try dsimp only at hs); omega)) h204
            refine sAs rfl (sDone (bN (xN (hK145 _ _ (wp_region_lit (sMi rfl (sV (evAdd (((k : Int)) + 1) rfl rfl wI) (sAi rfl (sDone ?_)))))))))
            have hR214 := hR198.rx hF209
            refine again (dg (U2)) (by omega) ⟨(k + 1), (nk + 1), (A205), (c206), (fs ++ [⟨Ar_149, nr_149, cr_149, lr_149, (k : Int)⟩]), (Ar_157), (nr_157), (cr_157), (lr_157), (Ar_179), (nr_179), (cr_179), (lr_179), (B + 53 * (dg (P (zs l1)) - 1)), (U2), rfl, rfl, rfl, rfl, rfl, cI, (hF129.trans hR214), ?_, ?_, ?_, ?_, ?_, ?_, ?_, ?_, ?_, ?_⟩
            · exact hO208
            · exact PolyR.le (PolyR.sub hk212 (fun b _ hs => ⟨hs.1, by have h9 := hs.2; (try dsimp only at h9); omega⟩)) (by omega)
            · exact PolyR.le (PolyR.sub hk213 (fun b _ hs => ⟨hs.1, by have h9 := hs.2; (try dsimp only at h9); omega⟩)) (by omega)
            · exact hY2
            · exact hrn2
            · exact qdvd_trans ⟨_, he2.trans (qmul_comm _ _)⟩ hdv
            · exact hd.more hnew rfl
            · omega
            · omega
            · omega
          · refine sV (evGtr false rfl rfl (dF hc191)) (sK hK184 (cF rfl (wp_skip (bN (xN (hK145 _ _ (wp_region_lit (sMi rfl (sV (evAdd (((k : Int)) + 1) rfl rfl wI) (sAi rfl (sDone ?_)))))))))))
            have hR215 := (((((hE142.trans hE151).trans hE159).trans hE169).trans hE175).trans hE181).trans hE189
            have hO216 := (hO.ext hR215)
            have hR217 := (hE175.trans hE181).trans hE189
            have h218 := (h172.ext hR217)
            have h219 := (hr_179.ext hE189)
            refine again (dg (U2)) (by omega) ⟨(k + 1), (nk), (Ao), (cp), (fs), (Ar_157), (nr_157), (cr_157), (lr_157), (Ar_179), (nr_179), (cr_179), (lr_179), (B + 53 * (dg (P (zs l1)) - 1)), (U2), rfl, rfl, rfl, rfl, rfl, cI, (hF129.xr hR215), ?_, ?_, ?_, ?_, ?_, ?_, ?_, ?_, ?_, ?_⟩
            · exact hO216
            · exact PolyR.le (PolyR.sub h218 (fun b _ hs => ⟨notIn_new hOl (U := w123.heap.size) (by (try dsimp only at hs); omega), by (try dsimp only at hs); omega⟩)) (by omega)
            · exact PolyR.le (PolyR.sub h219 (fun b _ hs => ⟨notIn_new hOl (U := w123.heap.size) (by (try dsimp only at hs); omega), by (try dsimp only at hs); omega⟩)) (by omega)
            · exact hY2
            · exact hrn2
            · exact qdvd_trans ⟨_, he2.trans (qmul_comm _ _)⟩ hdv
            · exact hd.skip (by rw [dg_P]; omega) hgk.1 hgk.2
            · omega
            · omega
            · omega
        · refine sV (evGtr false rfl rfl (dF hc144)) (sK hK139 (cF rfl (wp_exit (xE (xE (bE (xN (hK118 _ _ (rS fun K220 hK220 => ?_)))))))))
          have hR221 := (((((((hE71.trans hE77).trans hE84).trans hE92).trans hE102).trans hE108).trans hE114).rx hF129).xr hE142
          have hB222 := (hB65.frm hR221 q1)
          refine sV (evLoadAB [(.bool gr_55), (.slice Ar_55 nr_55 cr_55)] agg68 sz68 rfl hB222 rfl) (sMs rfl (sO (oStore [(.bool gr_55), (.slice Ar_55 nr_55 cr_55)] rfl rfl rfl sz68 rfl hB222 (Nat.le_of_ble_eq_true rfl) (fun w223 hU224 hz225 hB226 => ?_))))
          replace hB226 : Blk w223 g2 68 [(.bool gr_55), (.slice Ar_55 nr_55 cr_55)] := hB226
          refine sAs rfl (sK hK220 (wp_ret (ret2 (.agg #[(.bool gr_55), (.slice Ar_55 nr_55 cr_55)]) (.slice Ao nk cp) Tryz.results31 (resB [(.bool gr_55), (.slice Ar_55 nr_55 cr_55)] agg68 sz68 rfl hB226) (resT rfl) ?_)))
          have hR227 := hE142.rx hU224
          have hO228 := (hO.frmB hR227 q3)
          have hR229 := (((((((((hU63.xr hE71).xr hE77).xr hE84).xr hE92).xr hE102).xr hE108).xr hE114).tr hF129).xr hE142).tr hU224
          have h230 := (h60.frmB hR229 q3)
          have hR231 := ((((((((((((((((hE5.trans hE13).trans hE27).rx hU34).xr hE43).xr hE48).xr hE57).trans hU63).xr hE71).xr hE77).xr hE84).xr hE92).xr hE102).xr hE108).xr hE114).tr hF129).xr hE142).tr hU224
          exact ⟨gr_55, Ar_55, nr_55, cr_55, dr_55, Ao, nk, cp, fs, rfl, (Frm.mono hR231 q4), (NatR.sub h230 q5), (FacsR.sub (OwnF.facs hO228) q5), (.inr ⟨hF, hu, by rw [← e_69]; exact ⟨⟨_, hd⟩, hd.prod hpn (hY.done (by rw [dg_P]; omega))⟩⟩), (by omega), (by omega), (let h := hO228; ⟨h.1.low (by omega), fun f hf => (h.2 f hf).sub fun b hb hs => ⟨hs.1, Nat.le_trans (by omega) hs.2⟩⟩)⟩
    · refine sV (evLss false rfl rfl (dF hc50)) (sK hK38 (cF rfl (wp_skip (xN (hK37 _ _ (wp_seq_k fun K232 hK232 => ?_))))))
      have hu : zval gr_25 dr_25 = primC (zs lf) := by unfold primC; rw [if_neg (by rcases hsg with h | h | h <;> omega)]; exact v_25
      have hu1 : nr_25 ≤ 1 := int_tight cn_25 lr_25 (by rw [hu]; exact Nat.lt_of_le_of_lt (Nat.le_trans (primC_le _) hN) (by decide))
      refine wp_region_lit (sMs rfl ?_)
      have hR233 := hE43.trans hE48
      have h234 := (h40.ext hR233)
      refine sO (oCall rfl call35 (unidiv_Primitive h234 (by omega) (by omega)) rfl ?_)
      rintro _ w236 ⟨Ar_235, nr_235, cr_235, lr_235, rfl, hE237, hr_235, e_235, ln_235, cn_235⟩
      have hz238 := hE237.size
      have ⟨kr_235, jr_235, mr_235⟩ := hr_235.lkm
      have hpn : Nrm (zs lr_235) := by rw [e_235]; exact nrm_prim hF
      have hpl : nrm (zs lr_235) ≤ 16777216 := by rw [e_235]; exact Nat.le_trans (nrm_prim_le _) hN
      have hpt : (trimZ (zs lr_235)).length ≤ 11 := by have h := trimZ_len (zs lr_235); rw [zlen] at h; omega
      refine sAs rfl (sK hK232 (rS fun K240 hK240 => sMs rfl (sO (oCall rfl call36 (unipoly_Derivative hr_235 (by omega) (by omega)) rfl ?_))))
      rintro _ w242 ⟨Ar_241, nr_241, cr_241, lr_241, rfl, hE243, hr_241, e_241, ln_241, cn_241⟩
      have hz244 := hE243.size
      have ⟨kr_241, jr_241, mr_241⟩ := hr_241.lkm
      refine sAs rfl (sK hK240 (rS fun K246 hK246 => sMs rfl (sMs rfl ?_)))
      have h247 := (hr_235.ext hE243)
      refine sO (oCall rfl call39 (unidiv_Gcd h247 hr_241 (by omega) (by omega) (by omega) (by omega)) rfl ?_)
      rintro _ w249 ⟨Ar_248, nr_248, cr_248, lr_248, rfl, hE250, hr_248, gc_248, ln_248, cn_248⟩
      have hz251 := hE250.size
      have ⟨kr_248, jr_248, mr_248⟩ := hr_248.lkm
      have hgn := gcd_nrm hpn gc_248; have hgd := gc_248.q.1; have hgd2 := gc_248.q.2.1
      have hT253 := PolyR.tight (K := 17) hr_248 cn_248 (div17q hgn.c hgd hpn.ne hpl hpt)
      refine sAs rfl (sK hK246 (rS fun K254 hK254 => sMs rfl (sMs rfl ?_)))
      have h255 := (h247.ext hE250)
      refine sO (oCall rfl call43 (squarefree_quotient h255 hT253 (by omega) (by omega) (by omega) (by omega) (by assumption) (by assumption)) rfl ?_)
      rintro _ w257 ⟨Ar_256, nr_256, cr_256, lr_256, rfl, hE258, hr_256, e_256, lk_256, ln_256, cn_256⟩
      have hz259 := hE258.size
      have ⟨kr_256, jr_256, mr_256⟩ := hr_256.lkm
      have htr : trimZ (zs lr_256) = zs lr_256 := quo_trim e_256 hpn.ne (by rw [zlen]; omega)
      have hrn := hpn.quo hgn.s e_256 htr
      have hT261 := PolyR.tight (K := 17) hr_256 cn_256 (div17 ⟨_, e_256⟩ hpn.ne hpl hpt)
      refine sAs rfl (sK hK254 (rS fun K262 hK262 => sMs rfl (sMs rfl ?_)))
      have hR263 := hE250.trans hE258
      have h264 := (hr_241.ext hR263)
      have h265 := (hT253.ext hE258)
      refine sO (oCall rfl call43 (squarefree_quotient h264 h265 (by omega) (by omega) (by omega) (by omega) (by assumption) (by assumption)) rfl ?_)
      rintro _ w267 ⟨Ar_266, nr_266, cr_266, lr_266, rfl, hE268, hr_266, e_266, lk_266, ln_266, cn_266⟩
      have hz269 := hE268.size
      have ⟨kr_266, jr_266, mr_266⟩ := hr_266.lkm
      have hex_266 := exM_64 (M := (Mf + 1 + 2)) (G := 17) (K := (trimZ (zs lr_241)).length - ((trimZ (zs lr_248)).length - 1)) (L := 11) (by have h := trimZ_len (zs lr_241); rw [zlen] at h; omega)
      refine sMs rfl ?_
      have h271 := (hT261.ext hE268)
      refine sO (oCall rfl call36 (unipoly_Derivative h271 (by omega) (by omega)) rfl ?_)
      rintro _ w273 ⟨Ar_272, nr_272, cr_272, lr_272, rfl, hE274, hr_272, e_272, ln_272, cn_272⟩
      have hz275 := hE274.size
      have ⟨kr_272, jr_272, mr_272⟩ := hr_272.lkm
      have h277 := (hr_266.ext hE274)
      refine sO (oCall rfl call55 (unipoly_Sub h277 hr_272 (by omega) (by omega) (by omega) (by omega)) rfl ?_)
      rintro _ w279 ⟨Ar_278, nr_278, cr_278, lr_278, rfl, hE280, hr_278, e_278, ln_278, cn_278⟩
      have hz281 := hE280.size
      have ⟨kr_278, jr_278, mr_278⟩ := hr_278.lkm
      have hd0 : der (P (zs lr_235)) = P (zs lr_241) := by rw [e_241, P_trim, der_P]
      have hY0 : Yun (P (zs lr_235)) 1 (P (zs lr_256)) (P (zs lr_278)) (P (zs lr_235)) := Yun.start hpn.ne (by rw [hd0]; exact gc_248.q) e_256 (by rw [hd0]; exact e_266) (by rw [e_278, P_trim, P_sub, e_272, P_trim, der_P])
      have hU0 : dg (P (zs lr_235)) ≤ 11 := by rw [dg_P]; exact hpt
      have hM283 := PolyR.le (M' := 500) hr_278 (by omega)
      refine sAs rfl (sK hK262 (wp_seq_k fun K284 hK284 => rS fun K285 hK285 => sAi rfl (sK hK285 (wp_block ?_))))
      have hR287 := hE274.trans hE280
      have h288 := (h271.ext hR287)
      refine lLoop (fun m e w_ => ∃ (k : Nat) (nk : Nat) (Ao : Option Addr) (cp : Nat) (fs : List FE) (A1 : Option Addr) (n1 : Nat) (c1 : Nat) (l1 : List RI) (A2 : Option Addr) (n2 : Nat) (c2 : Nat) (l2 : List RI) (B : Nat) (U : QP), m = dg U ∧ e 2 = (.pointer (some ⟨g2, 0, none⟩)) ∧ e 3 = (.slice Ao nk cp) ∧ e 7 = (.slice A1 n1 c1) ∧ e 8 = (.slice A2 n2 c2) ∧ e 9 = (.int .i64 ((k : Int))) ∧ Frm (fun b => w279.heap.size ≤ b) w279 w_ ∧ (OwnF w_ w279.heap.size 94 Ao nk cp fs 17) ∧ (PolyR w_ (fun b => notIn Ao b ∧ w.heap.size ≤ b) A1 n1 c1 l1 17) ∧ (PolyR w_ (fun b => notIn Ao b ∧ w.heap.size ≤ b) A2 n2 c2 l2 B) ∧ (Yun (P (zs lr_235)) k (P (zs l1)) (P (zs l2)) U) ∧ (Nrm (zs l1)) ∧ (P (zs l1) ∣ P (zs lr_235)) ∧ (DecOf (P (zs lr_235)) k fs) ∧ (B + 53 * dg U ≤ 1100) ∧ (1 ≤ k ∧ k + dg U ≤ 12 ∧ nk + 1 ≤ k) ∧ (n1 ≤ 11 ∧ n2 ≤ 11)) (dg (P (zs lr_235))) ?_ ?_
      · refine ⟨(1), (0), (none), (0), ([]), (Ar_256), (nr_256), (cr_256), (lr_256), (Ar_278), (nr_278), (cr_278), (lr_278), (500), (P (zs lr_235)), rfl, rfl, rfl, rfl, rfl, cI, (Frm.refl _ _), ?_, ?_, ?_, ?_, ?_, ?_, ?_, ?_, ?_, ?_⟩
        · exact OwnF.nil
        · exact PolyR.sub h288 (fun b _ hs => ⟨(fun a ha => nomatch ha), by (try dsimp only at hs); omega⟩)
        · exact PolyR.sub hM283 (fun b _ hs => ⟨(fun a ha => nomatch ha), by (try dsimp only at hs); omega⟩)
        · exact hY0
        · exact hrn
        · exact ⟨_, (e_256.trans (qmul_comm _ _))⟩
        · exact DecOf.nil
        · omega
        · omega
        · omega
      · rintro m286 e297 w289 ⟨k, nk, Ao, cp, fs, A1, n1, c1, l1, A2, n2, c2, l2, B, U, hm296, hs290, hs291, hs292, hs293, hs294, hF295, hO, h1, h2, hY, hn1, hdv, hd, hB, hk, hnn⟩
        obtain ⟨r298, rfl⟩ := sq (e := e297) (t := 2) hs290
        obtain ⟨r299, rfl⟩ := sq (e := r298) (t := 3) hs291
        obtain ⟨r300, rfl⟩ := sq (e := r299) (t := 7) hs292
        obtain ⟨r301, rfl⟩ := sq (e := r300) (t := 8) hs293
        obtain ⟨r302, rfl⟩ := sq (e := r301) (t := 9) hs294
        have hz303 := hF295.size
        have ⟨lO, kO, mO⟩ := hO.lkm; have hOl := hO.1.lt; have ⟨k1_, j1_, m1_⟩ := h1.lkm; have ⟨k2_, j2_, m2_⟩ := h2.lkm; have hd1 : dg (P (zs l1)) = n1 := mul_tlen hn1.t (by rw [zlen]; omega); have ht1 : (trimZ (zs l1)).length = n1 := (dg_P _).symm.trans hd1
        refine wp_seq_k fun K304 hK304 => rS fun K305 hK305 => sMs rfl (sO (oCall rfl call19 (unipoly_Degree h1 (by omega) (by omega)) rfl ?_))
        rintro _ w307 ⟨xr_306, rfl, hE308, e_306⟩
        have hz309 := hE308.size
        by_cases hc310 : xr_306 > 0
        · refine sV (evGtr true rfl rfl (dT hc310)) ?_
          have hU2 := dg_rest_U hY (by rw [dg_P]; omega)
          refine sK hK305 (cT rfl (wp_skip (xN (hK304 _ _ (wp_seq_k fun K311 hK311 => wp_block (rS fun K312 hK312 => sMs rfl (sMs rfl ?_)))))))
          have h313 := (h1.ext hE308)
          have h314 := (h2.ext hE308)
          refine sO (oCall rfl call39 (unidiv_Gcd h313 h314 (by omega) (by omega) (by omega) (by omega)) rfl ?_)
          rintro _ w316 ⟨Ar_315, nr_315, cr_315, lr_315, rfl, hE317, hr_315, gc_315, ln_315, cn_315⟩
          have hz318 := hE317.size
          have ⟨kr_315, jr_315, mr_315⟩ := hr_315.lkm
          have hgn2 := gcd_nrm hn1 gc_315; have hgk := hY.gcd gc_315.q; have hgp : P (zs lr_315) ∣ P (zs lr_235) := qdvd_trans gc_315.q.1 hdv; have hga := gc_315.q.1; have hgb := gc_315.q.2.1
          have hT320 := PolyR.tight (K := 17) hr_315 cn_315 (div17q hgn2.c hgp hpn.ne hpl hpt)
          have hgl : (trimZ (zs lr_315)).length = nr_315 := by rw [hgn2.t, zlen]; omega
          refine sAs rfl (sK hK312 (rS fun K321 hK321 => sMs rfl (sMs rfl ?_)))
          have h322 := (h313.ext hE317)
          refine sO (oCall rfl call43 (squarefree_quotient h322 hT320 (by omega) (by omega) (by omega) (by omega) (by assumption) (by assumption)) rfl ?_)
          rintro _ w324 ⟨Ar_323, nr_323, cr_323, lr_323, rfl, hE325, hr_323, e_323, lk_323, ln_323, cn_323⟩
          have hz326 := hE325.size
          have ⟨kr_323, jr_323, mr_323⟩ := hr_323.lkm
          have he2 := e_323; have htr2 : trimZ (zs lr_323) = zs lr_323 := quo_trim e_323 hn1.ne (by rw [zlen]; omega)
          have hrn2 := hn1.quo hgn2.s e_323 htr2
          have hT328 := PolyR.tight (K := 17) hr_323 cn_323 (div17q hrn2.c (qdvd_trans ⟨_, he2.trans (qmul_comm _ _)⟩ hdv) hpn.ne hpl hpt)
          refine sAs rfl (sK hK321 (rS fun K329 hK329 => sMs rfl (sMs rfl ?_)))
          have hR330 := hE317.trans hE325
          have h331 := (h314.ext hR330)
          have h332 := (hT320.ext hE325)
          refine sO (oCall rfl call43 (squarefree_quotient h331 h332 (by omega) (by omega) (by omega) (by omega) (by assumption) (by assumption)) rfl ?_)
          rintro _ w334 ⟨Ar_333, nr_333, cr_333, lr_333, rfl, hE335, hr_333, e_333, lk_333, ln_333, cn_333⟩
          have hz336 := hE335.size
          have ⟨kr_333, jr_333, mr_333⟩ := hr_333.lkm
          have hex_333 : exM B 17 ((trimZ (zs l2)).length - ((trimZ (zs lr_315)).length - 1)) ≤ B + 31 * (n1 - 1) + 2 := dec_ex hY.dgo hd1 (by omega)
          refine sMs rfl ?_
          have h338 := (hT328.ext hE335)
          refine sO (oCall rfl call36 (unipoly_Derivative h338 (by omega) (by omega)) rfl ?_)
          rintro _ w340 ⟨Ar_339, nr_339, cr_339, lr_339, rfl, hE341, hr_339, e_339, ln_339, cn_339⟩
          have hz342 := hE341.size
          have ⟨kr_339, jr_339, mr_339⟩ := hr_339.lkm
          have h344 := (hr_333.ext hE341)
          refine sO (oCall rfl call55 (unipoly_Sub h344 hr_339 (by omega) (by omega) (by omega) (by omega)) rfl ?_)
          rintro _ w346 ⟨Ar_345, nr_345, cr_345, lr_345, rfl, hE347, hr_345, e_345, ln_345, cn_345⟩
          have hz348 := hE347.size
          have ⟨kr_345, jr_345, mr_345⟩ := hr_345.lkm
          obtain ⟨U2, hY2, hdU⟩ := hY.next gc_315.q e_323 e_333 (other' := P (zs lr_345)) (by rw [e_345, P_trim, P_sub, e_339, P_trim, der_P])
          refine sAs rfl (sK hK329 (rS fun K350 hK350 => sMs rfl ?_))
          have hR351 := (hE335.trans hE341).trans hE347
          have h352 := (h332.ext hR351)
          refine sO (oCall rfl call19 (unipoly_Degree h352 (by omega) (by omega)) rfl ?_)
          rintro _ w354 ⟨xr_353, rfl, hE355, e_353⟩
          have hz356 := hE355.size
          by_cases hc357 : xr_353 > 0
          · refine sV (evGtr true rfl rfl (dT hc357)) ?_
            have hnew : DecE (P (zs lr_235)) ⟨Ar_315, nr_315, cr_315, lr_315, (k : Int)⟩ := dec_new hY gc_315.q hgn2 (by omega) (by omega) (by omega) (by omega) (by omega)
            refine sK hK350 (cT rfl (wp_region_lit (sMs rfl (sMs rfl (sMi rfl (sV (v := (.agg #[(.slice Ar_315 nr_315 cr_315), (.int .i64 ((k : Int)))])) (evK (by kernel_rfl)) (sO (oBuildSlice [(.agg #[(.slice Ar_315 nr_315 cr_315), (.int .i64 ((k : Int)))])] [[(.slice Ar_315 nr_315 cr_315), (.int .i64 ((k : Int)))]] Tryz.underlying69 inf94 rfl rfl rfl rfl rfl (fun g358 w359 hg360 hE361 hz362 hB363 => ?_)))))))))
            replace hB363 : Blk w359 g358 94 [(.slice Ar_315 nr_315 cr_315), (.int .i64 ((k : Int)))] := hB363
            have hR364 := ((((((hE308.trans hE317).trans hE325).trans hE335).trans hE341).trans hE347).trans hE355).trans hE361
            have hO365 := (hO.ext hR364)
            have hR366 := hE355.trans hE361
            have h367 := (h352.ext hR366)
            have hR368 := ((hE341.trans hE347).trans hE355).trans hE361
            have h369 := (h338.ext hR368)
            have h370 := (hr_345.ext hR366)
            refine sO (oAppF (B := w279.heap.size) (M := 17) Tryz.underlying69 inf94 rfl rfl rfl hO365 hB363 h367 (fun b hb_ hs => ⟨notIn_new hOl (U := w289.heap.size) (by (try dsimp only at hs); omega), by (try dsimp only at hs); omega⟩) (by omega) (by omega) (by omega) (fun A371 c372 w373 hO374 hF375 hBe376 => ?_))
            have hz377 := hF375.size
            have hk378 := hBe376 _ _ _ _ _ _ (fun b hb_ hs => notIn_new hOl (U := w289.heap.size) (by (try dsimp only at hs); omega)) h369
            have hk379 := hBe376 _ _ _ _ _ _ (fun b hb_ hs => notIn_new hOl (U := w289.heap.size) (by (try dsimp only at hs); omega)) h370
            refine sAs rfl (sDone (bN (xN (hK311 _ _ (wp_region_lit (sMi rfl (sV (evAdd (((k : Int)) + 1) rfl rfl wI) (sAi rfl (sDone ?_)))))))))
            have hR380 := hR364.rx hF375
            refine again (dg (U2)) (by omega) ⟨(k + 1), (nk + 1), (A371), (c372), (fs ++ [⟨Ar_315, nr_315, cr_315, lr_315, (k : Int)⟩]), (Ar_323), (nr_323), (cr_323), (lr_323), (Ar_345), (nr_345), (cr_345), (lr_345), (B + 53 * (dg (P (zs l1)) - 1)), (U2), rfl, rfl, rfl, rfl, rfl, cI, (hF295.trans hR380), ?_, ?_, ?_, ?_, ?_, ?_, ?_, ?_, ?_, ?_⟩
            · exact hO374
            · exact PolyR.le (PolyR.sub hk378 (fun b _ hs => ⟨hs.1, by have h9 := hs.2; (try dsimp only at h9); omega⟩)) (by omega)
            · exact PolyR.le (PolyR.sub hk379 (fun b _ hs => ⟨hs.1, by have h9 := hs.2; (try dsimp only at h9); omega⟩)) (by omega)
            · exact hY2
            · exact hrn2
            · exact qdvd_trans ⟨_, he2.trans (qmul_comm _ _)⟩ hdv
            · exact hd.more hnew rfl
            · omega
            · omega
            · omega
          · refine sV (evGtr false rfl rfl (dF hc357)) (sK hK350 (cF rfl (wp_skip (bN (xN (hK311 _ _ (wp_region_lit (sMi rfl (sV (evAdd (((k : Int)) + 1) rfl rfl wI) (sAi rfl (sDone ?_)))))))))))
            have hR381 := (((((hE308.trans hE317).trans hE325).trans hE335).trans hE341).trans hE347).trans hE355
            have hO382 := (hO.ext hR381)
            have hR383 := (hE341.trans hE347).trans hE355
            have h384 := (h338.ext hR383)
            have h385 := (hr_345.ext hE355)
            refine again (dg (U2)) (by omega) ⟨(k + 1), (nk), (Ao), (cp), (fs), (Ar_323), (nr_323), (cr_323), (lr_323), (Ar_345), (nr_345), (cr_345), (lr_345), (B + 53 * (dg (P (zs l1)) - 1)), (U2), rfl, rfl, rfl, rfl, rfl, cI, (hF295.xr hR381), ?_, ?_, ?_, ?_, ?_, ?_, ?_, ?_, ?_, ?_⟩
            · exact hO382
            · exact PolyR.le (PolyR.sub h384 (fun b _ hs => ⟨notIn_new hOl (U := w289.heap.size) (by (try dsimp only at hs); omega), by (try dsimp only at hs); omega⟩)) (by omega)
            · exact PolyR.le (PolyR.sub h385 (fun b _ hs => ⟨notIn_new hOl (U := w289.heap.size) (by (try dsimp only at hs); omega), by (try dsimp only at hs); omega⟩)) (by omega)
            · exact hY2
            · exact hrn2
            · exact qdvd_trans ⟨_, he2.trans (qmul_comm _ _)⟩ hdv
            · exact hd.skip (by rw [dg_P]; omega) hgk.1 hgk.2
            · omega
            · omega
            · omega
        · refine sV (evGtr false rfl rfl (dF hc310)) (sK hK305 (cF rfl (wp_exit (xE (xE (bE (xN (hK284 _ _ (rS fun K386 hK386 => ?_)))))))))
          have hR387 := ((((((((hR233.trans hE237).trans hE243).trans hE250).trans hE258).trans hE268).trans hE274).trans hE280).rx hF295).xr hE308
          have hB388 := (hB36.frm hR387 q1)
          refine sV (evLoadAB [(.bool gr_25), (.slice Ar_25 nr_25 cr_25)] agg68 sz68 rfl hB388 rfl) (sMs rfl (sO (oStore [(.bool gr_25), (.slice Ar_25 nr_25 cr_25)] rfl rfl rfl sz68 rfl hB388 (Nat.le_of_ble_eq_true rfl) (fun w389 hU390 hz391 hB392 => ?_))))
          replace hB392 : Blk w389 g2 68 [(.bool gr_25), (.slice Ar_25 nr_25 cr_25)] := hB392
          refine sAs rfl (sK hK386 (wp_ret (ret2 (.agg #[(.bool gr_25), (.slice Ar_25 nr_25 cr_25)]) (.slice Ao nk cp) Tryz.results31 (resB [(.bool gr_25), (.slice Ar_25 nr_25 cr_25)] agg68 sz68 rfl hB392) (resT rfl) ?_)))
          have hR393 := hE308.rx hU390
          have hO394 := (hO.frmB hR393 q3)
          have hR395 := (((((((((((hU34.xr hE43).xr hE48).xr hE237).xr hE243).xr hE250).xr hE258).xr hE268).xr hE274).xr hE280).tr hF295).xr hE308).tr hU390
          have h396 := (h30.frmB hR395 q3)
          have hR397 := ((((((((((((((hE5.trans hE13).trans hE27).rx hU34).xr hE43).xr hE48).xr hE237).xr hE243).xr hE250).xr hE258).xr hE268).xr hE274).xr hE280).tr hF295).xr hE308).tr hU390
          exact ⟨gr_25, Ar_25, nr_25, cr_25, dr_25, Ao, nk, cp, fs, rfl, (Frm.mono hR397 q4), (NatR.sub h396 q5), (FacsR.sub (OwnF.facs hO394) q5), (.inr ⟨hF, hu, by rw [← e_235]; exact ⟨⟨_, hd⟩, hd.prod hpn (hY.done (by rw [dg_P]; omega))⟩⟩), (by omega), (by omega), (let h := hO394; ⟨h.1.low (by omega), fun f hf => (h.2 f hf).sub fun b hb hs => ⟨hs.1, Nat.le_trans (by omega) hs.2⟩⟩)⟩
end Go.Proofs.YtbniolgfaeiedaaGreat
