/-
  Walk of the law SquarefreeBases.
-/
import Derived.Test.YtbniolgfaeiedaaGreatBs2
import Derived.Test.YtbniolgfaeiedaaGreatSq13
import Derived.Test.YtbniolgfaeiedaaGreatSq12
import Derived.Test.YtbniolgfaeiedaaGreatKn4
import Derived.Test.YtbniolgfaeiedaaGreatFacts2
namespace Go.Proofs.YtbniolgfaeiedaaGreat
open Go.RowKit Go.Gx
set_option maxHeartbeats 2000000 in
theorem law11_bases {w : World} {Sc0 : Nat → Prop} {Ac0 : Option Addr} {nc0 cc0 : Nat} {tc0 : List T3} {Sc1 : Nat → Prop} {Ac1 : Option Addr} {nc1 cc1 : Nat} {tc1 : List T3} {Sc2 : Nat → Prop} {Ac2 : Option Addr} {nc2 cc2 : Nat} {tc2 : List T3} {Sc3 : Nat → Prop} {Ac3 : Option Addr} {nc3 cc3 : Nat} {tc3 : List T3} (hc0 : TripR w Sc0 Ac0 nc0 cc0 tc0) (hc1 : TripR w Sc1 Ac1 nc1 cc1 tc1) (hc2 : TripR w Sc2 Ac2 nc2 cc2 tc2) (hc3 : TripR w Sc3 Ac3 nc3 cc3 tc3)  : Calls Tryz.prog 3 #[(.agg #[(.slice Ac0 nc0 cc0), (.slice Ac1 nc1 cc1), (.slice Ac2 nc2 cc2), (.slice Ac3 nc3 cc3)])] w (Ret fun v w' => ∃ (gr : Bool), v = (.bool gr) ∧ Ext w w' ∧ (gr = true)) := by
  have ⟨kc0, jc0, mc0⟩ := hc0.lkm; replace hc0 := hc0.low
  have ⟨kc1, jc1, mc1⟩ := hc1.lkm; replace hc1 := hc1.low
  have ⟨kc2, jc2, mc2⟩ := hc2.lkm; replace hc2 := hc2.low
  have ⟨kc3, jc3, mc3⟩ := hc3.lkm; replace hc3 := hc3.low
  refine enter Tryz.func3 rfl Tryz.ntmps3 rfl (rS fun K1 hK1 => sO (oBox [(.slice Ac0 nc0 cc0), (.slice Ac1 nc1 cc1), (.slice Ac2 nc2 cc2), (.slice Ac3 nc3 cc3)] rfl rfl (fun g2 w3 hg4 hE5 hz6 hB7 => ?_)))
  have h8 := (hc0.ext hE5)
  have h9 := (hc1.ext hE5)
  have h10 := (hc2.ext hE5)
  have h11 := (hc3.ext hE5)
  obtain ⟨LT, hLT, hBT, hAT⟩ : ∃ LT : List TE, LT.length = 4 ∧ Blk w3 g2 23 (LT.map TE.v) ∧ AllT w3 (fun b => b < w.heap.size) LT := ⟨[⟨Ac0, nc0, cc0, tc0⟩, ⟨Ac1, nc1, cc1, tc1⟩, ⟨Ac2, nc2, cc2, tc2⟩, ⟨Ac3, nc3, cc3, tc3⟩], rfl, hB7, by intro x hx; simp only [List.mem_cons, List.not_mem_nil, or_false] at hx; rcases hx with rfl | rfl | rfl | rfl; exact h8; exact h9; exact h10; exact h11⟩
  refine sAb rfl (sK hK1 (wp_seq_k fun K12 hK12 => rS fun K13 hK13 => sO (oCall rfl call5 (law11_awake) rfl ?_)))
  rintro _ w15 ⟨gr_14, rfl, hE16, e_14⟩
  have hz17 := hE16.size
  obtain rfl : gr_14 = true := e_14
  refine sV (evNot _ rfl rfl) (sK hK13 (cF rfl (wp_skip (xN (hK12 _ _ (rS fun K18 hK18 => sAs rfl (sK hK18 (rS fun K19 hK19 => sAs rfl (sK hK19 (wp_seq_k fun K20 hK20 => rS fun K21 hK21 => sAi rfl (sK hK21 (wp_block ?_))))))))))))
  refine lLoop (fun m e w_ => ∃ (i : Nat) (Af : Option Addr) (nf : Nat) (cf : Nat) (fl : List PE) (Ak : Option Addr) (nk : Nat) (ck : Nat) (kl : List LE), m = 4 - i ∧ e 1 = (.pointer (some ⟨g2, 0, none⟩)) ∧ e 3 = (.slice Af nf cf) ∧ e 4 = (.slice Ak nk ck) ∧ e 5 = (.int .i64 ((i : Int))) ∧ Frm (fun b => w15.heap.size ≤ b) w15 w_ ∧ (i ≤ 4) ∧ (OwnT (LP 2) LF w_ w15.heap.size 32 28 Af nf cf fl Ak nk ck kl) ∧ (nf = i) ∧ (nk ≤ i) ∧ (KnownsR (posQ fl) (kl.map LE.m)) ∧ (∀ x ∈ fl, x.n ≤ 11 ∧ nrm (zs x.l) ≤ 14348907)) (4 - (0)) ?_ ?_
  · refine ⟨(0), (none), (0), (0), ([]), (none), (0), (0), ([]), rfl, rfl, rfl, rfl, cI, (Frm.refl _ _), ?_, ?_, ?_, ?_, ?_, ?_⟩
    · omega
    · exact OwnT.nil
    · rfl
    · exact Nat.le_refl _
    · exact knowns_start
    · intro x hx; cases hx
  · rintro m22 e30 w23 ⟨i, Af, nf, cf, fl, Ak, nk, ck, kl, hm29, hs24, hs25, hs26, hs27, hF28, hi, hT, hnf, hnk, hSt, hfl⟩
    obtain ⟨r31, rfl⟩ := sq (e := e30) (t := 1) hs24
    obtain ⟨r32, rfl⟩ := sq (e := r31) (t := 3) hs25
    obtain ⟨r33, rfl⟩ := sq (e := r32) (t := 4) hs26
    obtain ⟨r34, rfl⟩ := sq (e := r33) (t := 5) hs27
    have hz35 := hF28.size
    have ⟨⟨lF, kF, mF⟩, lK, kK, mK⟩ := hT.lkm
    refine wp_seq_k fun K36 hK36 => rS fun K37 hK37 => sMi rfl ?_
    by_cases hc38 : ((i : Int)) < 4
    · refine sV (evLss true rfl rfl (dT hc38)) (sK hK37 (cT rfl (wp_skip (xN (hK36 _ _ (wp_seq_k fun K39 hK39 => wp_block (wp_seq_k fun K40 hK40 => rS fun K41 hK41 => sMi rfl (sV (evArr i Tryz.underlying23 sz22 rfl rfl i) ?_))))))))
      have hR42 := hE16.rx hF28
      have hB43 := (hBT.frm hR42 q1)
      have h45 := (hAT.frmB hR42 q3)
      obtain ⟨⟨A_44, n_44, c_44, t_44⟩, he_44, hT_44⟩ := AllT.at_ (i := i) h45 (by omega); dsimp only at hT_44; have ⟨lT_44, kT_44, mT_44⟩ := hT_44.lkm
      refine sV (evLoad one22 rfl (Blk.trip hB43 he_44)) (sO (oCall rfl call6 (ref11_Few hT_44) rfl ?_))
      rintro _ w48 ⟨gr_47, rfl, hE49, e_47⟩
      have hz50 := hE49.size
      refine sV (evNot _ rfl rfl) (sK hK41 ?_)
      cases gr_47
      · refine cT rfl (rS fun K51 hK51 => sO (oCall rfl call5 (law11_awake) rfl ?_))
        rintro _ w53 ⟨gr_52, rfl, hE54, e_52⟩
        have hz55 := hE54.size
        obtain rfl : gr_52 = true := e_52
        refine sAb rfl (sK hK51 (wp_ret (xR (bR (xR (xR (bR (xR (ret1 (.bool true) Tryz.results3 (resT rfl) ?_)))))))))
        have hR56 := (((hE5.trans hE16).rx hF28).xr hE49).xr hE54
        exact ⟨(true), rfl, (Frm.mono hR56 q4), rfl⟩
      · refine cF rfl (wp_skip (xN (hK40 _ _ (wp_seq_k fun K57 hK57 => ?_))))
        have hfe := e_47 rfl; have hft := hfe.2; have hnt : n_44 ≤ 3 := by have h := hfe.1; exact h
        refine wp_region_lit (sMi rfl (sV (evArr i Tryz.underlying23 sz22 rfl rfl i) ?_))
        have hB58 := (hB43.ext hE49)
        refine sV (evLoad one22 rfl (Blk.trip hB58 he_44)) ?_
        have h59 := (hT_44.ext hE49)
        refine sO (oCall rfl call7 (ref11_Factors h59 (by assumption) (by omega)) rfl ?_)
        rintro _ w61 ⟨xu_60, Ar_60, nr_60, cr_60, fr_60, rfl, hE62, hr_60, e_60, ub_60⟩
        have hz63 := hE62.size
        have ⟨kr_60, jr_60, mr_60⟩ := hr_60.lkm
        refine sV (v := (.tuple #[(.int .i64 (xu_60)), (.slice Ar_60 nr_60 cr_60)])) (rfl) (sV (v := (.int .i64 (xu_60))) (rfl) (sV (v := (.slice Ar_60 nr_60 cr_60)) (rfl) (sAi rfl (sAs rfl (sK hK57 (wp_seq_k fun K65 hK65 => rS fun K66 hK66 => sMi rfl ?_))))))
        by_cases hc67 : xu_60 ≠ 0
        · refine sV (evNeq true rfl rfl (dT hc67)) ?_
          have ⟨hu0, hPF, hok⟩ := (e_60 : FacR _ _ _).resolve_left fun h => absurd h.1 (by omega)
          refine sK hK66 (cT rfl (wp_region_lit (sMs rfl (sMs rfl (sO (oBuildSlice [(.slice Ar_60 nr_60 cr_60)] [[(.slice Ar_60 nr_60 cr_60)]] Tryz.underlying26 inf28 rfl rfl rfl rfl rfl (fun g68 w69 hg70 hE71 hz72 hB73 => ?_)))))))
          replace hB73 : Blk w69 g68 28 [(.slice Ar_60 nr_60 cr_60)] := hB73
          have hR74 := (hE49.trans hE62).trans hE71
          have hO75 := (hT.ext hR74)
          have h76 := (hr_60.ext hE71)
          refine sO (oAppT (L := LF) (L' := (LP 2)) (f := ⟨Ar_60, nr_60, cr_60, fr_60⟩) (B := w15.heap.size) Tryz.underlying26 inf28 rfl rfl rfl (OwnT.swap hO75) hB73 h76 (fun b hb_ hs => ⟨fun a ha e => by have h9 := hT.b.lt a ha; (try dsimp only at hs); omega, fun a ha e => by have h9 := hT.a.lt a ha; (try dsimp only at hs); omega⟩) (by omega) (by omega) (by omega) (fun A77 c78 w79 hT80 hF81 => ?_))
          have hT82 := OwnT.swap hT80
          have hz83 := hF81.size; have ⟨⟨_, _, _⟩, _, _, _⟩ := hT82.lkm
          refine sAs rfl (sK hK65 (wp_region_lit (sMs rfl (sMi rfl (sV (evArr i Tryz.underlying23 sz22 rfl rfl i) ?_)))))
          have hR84 := (hE62.trans hE71).rx hF81
          have hB85 := (hB58.frm hR84 q1)
          refine sV (evLoad one22 rfl (Blk.trip hB85 he_44)) ?_
          have h86 := (h59.frmB hR84 q3)
          refine sO (oCall rfl call8 (law11_product h86 (by assumption) (by omega)) rfl ?_)
          rintro _ w88 ⟨Ar_87, nr_87, cr_87, lr_87, rfl, hE89, hr_87, e_87, nb_87, ln_87, cn_87⟩
          have hz90 := hE89.size
          have ⟨kr_87, jr_87, mr_87⟩ := hr_87.lkm
          refine sO (oBuildSlice [(.slice Ar_87 nr_87 cr_87)] [[(.slice Ar_87 nr_87 cr_87)]] Tryz.underlying25 inf32 rfl rfl rfl rfl rfl (fun g92 w93 hg94 hE95 hz96 hB97 => ?_))
          replace hB97 : Blk w93 g92 32 [(.slice Ar_87 nr_87 cr_87)] := hB97
          have hR98 := hE89.trans hE95
          have hO99 := (hT82.ext hR98)
          have h100 := (hr_87.ext hE95)
          refine sO (oAppT (L := (LP 2)) (L' := LF) (f := ⟨Ar_87, nr_87, cr_87, lr_87⟩) (B := w15.heap.size) Tryz.underlying25 inf32 rfl rfl rfl hO99 hB97 h100 (fun b hb_ hs => ⟨fun a ha e => by have h9 := hT82.a.lt a ha; (try dsimp only at hs); omega, fun a ha e => by have h9 := hT82.b.lt a ha; (try dsimp only at hs); omega⟩) (by omega) (by omega) (by omega) (fun A101 c102 w103 hT104 hF105 => ?_))
          have hz106 := hF105.size; have ⟨⟨_, _, _⟩, _, _, _⟩ := hT104.lkm
          refine sAs rfl (sDone (bN (xN (hK39 _ _ (wp_region_lit (sMi rfl (sV (evAdd (((i : Int)) + 1) rfl rfl wI) (sAi rfl (sDone ?_)))))))))
          have hR107 := (((hR74.rx hF81).xr hE89).xr hE95).trans hF105
          refine again (4 - (i + 1)) (by omega) ⟨(i + 1), (A101), (nf + 1), (c102), (fl ++ [⟨Ar_87, nr_87, cr_87, lr_87⟩]), (A77), (nk + 1), (c78), (kl ++ [⟨Ar_60, nr_60, cr_60, fr_60⟩]), rfl, rfl, rfl, rfl, cI, (hF28.trans hR107), ?_, ?_, ?_, ?_, ?_, ?_⟩
          · omega
          · exact hT104
          · omega
          · omega
          · exact knowns_yes hSt hu0 (e_87.trans hPF) hok
          · exact fl_next hfl (by (try dsimp only); omega) (by (try dsimp only); omega)
        · refine sV (evNeq false rfl rfl (dF hc67)) ?_
          have hPF := ((e_60 : FacR _ _ _).resolve_right fun h => h.1 (by omega)).2.1
          refine sK hK66 (cF rfl (wp_skip (xN (hK65 _ _ (wp_region_lit (sMs rfl (sMi rfl (sV (evArr i Tryz.underlying23 sz22 rfl rfl i) ?_))))))))
          have hB108 := (hB58.ext hE62)
          refine sV (evLoad one22 rfl (Blk.trip hB108 he_44)) ?_
          have h109 := (h59.ext hE62)
          refine sO (oCall rfl call8 (law11_product h109 (by assumption) (by omega)) rfl ?_)
          rintro _ w111 ⟨Ar_110, nr_110, cr_110, lr_110, rfl, hE112, hr_110, e_110, nb_110, ln_110, cn_110⟩
          have hz113 := hE112.size
          have ⟨kr_110, jr_110, mr_110⟩ := hr_110.lkm
          refine sO (oBuildSlice [(.slice Ar_110 nr_110 cr_110)] [[(.slice Ar_110 nr_110 cr_110)]] Tryz.underlying25 inf32 rfl rfl rfl rfl rfl (fun g115 w116 hg117 hE118 hz119 hB120 => ?_))
          replace hB120 : Blk w116 g115 32 [(.slice Ar_110 nr_110 cr_110)] := hB120
          have hR121 := ((hE49.trans hE62).trans hE112).trans hE118
          have hO122 := (hT.ext hR121)
          have h123 := (hr_110.ext hE118)
          refine sO (oAppT (L := (LP 2)) (L' := LF) (f := ⟨Ar_110, nr_110, cr_110, lr_110⟩) (B := w15.heap.size) Tryz.underlying25 inf32 rfl rfl rfl hO122 hB120 h123 (fun b hb_ hs => ⟨fun a ha e => by have h9 := hT.a.lt a ha; (try dsimp only at hs); omega, fun a ha e => by have h9 := hT.b.lt a ha; (try dsimp only at hs); omega⟩) (by omega) (by omega) (by omega) (fun A124 c125 w126 hT127 hF128 => ?_))
          have hz129 := hF128.size; have ⟨⟨_, _, _⟩, _, _, _⟩ := hT127.lkm
          refine sAs rfl (sDone (bN (xN (hK39 _ _ (wp_region_lit (sMi rfl (sV (evAdd (((i : Int)) + 1) rfl rfl wI) (sAi rfl (sDone ?_)))))))))
          have hR130 := hR121.rx hF128
          refine again (4 - (i + 1)) (by omega) ⟨(i + 1), (A124), (nf + 1), (c125), (fl ++ [⟨Ar_110, nr_110, cr_110, lr_110⟩]), (Ak), (nk), (ck), (kl), rfl, rfl, rfl, rfl, cI, (hF28.trans hR130), ?_, ?_, ?_, ?_, ?_, ?_⟩
          · omega
          · exact hT127
          · omega
          · omega
          · exact knowns_no hSt (e_110.trans hPF)
          · exact fl_next hfl (by (try dsimp only); omega) (by (try dsimp only); omega)
    · refine sV (evLss false rfl rfl (dF hc38)) (sK hK37 (cF rfl (wp_exit (xE (xE (bE (xN (hK20 _ _ (wp_seq_k fun K131 hK131 => ?_)))))))))
      have hKL := OwnT.right hT; have hFL := GListR.polys (OwnT.left hT)
      refine wp_region_lit (sMs rfl (sO (oCall rfl call9 (ref11_Basis hKL hSt posQ_ne (by omega)) rfl ?_)))
      rintro _ w133 ⟨Ar_132, nr_132, cr_132, fr_132, rfl, hE134, hr_132, bs_132, so_132, ln_132⟩
      have hz135 := hE134.size
      have ⟨kr_132, jr_132, mr_132⟩ := hr_132.lkm
      replace hr_132 := hr_132.low
      refine sAs rfl (sK hK131 (rS fun K137 hK137 => sMs rfl ?_))
      have h138 := (hFL.ext hE134)
      refine sO (oCall rfl call10 (squarefree_Basis h138 (by omega) (by omega) (fun x hx => ⟨(hfl x hx).1, Nat.le_trans (hfl x hx).2 (by decide)⟩)) rfl ?_)
      rintro _ w140 ⟨Ar_139, nr_139, cr_139, fr_139, rfl, hE141, hr_139, bs_139, so_139, sm_139, nn_139⟩
      have hz142 := hE141.size
      have ⟨kr_139, jr_139, mr_139⟩ := hr_139.lkm
      replace hr_139 := hr_139.low
      have heq := bases_same bs_139 so_139 bs_132 so_132; have hlq : nr_139 = nr_132 := by have h := congrArg List.length heq; simp only [List.length_map] at h; omega
      refine sAs rfl (sK hK137 (wp_seq_k fun K144 hK144 => rS fun K145 hK145 => sMs rfl (sV (evLen Tryz.underlying25 rfl) (sMs rfl (sV (evLen Tryz.underlying34 rfl) (sV (evNeq false rfl rfl (dF (by omega))) (sK hK145 (cF rfl (wp_skip (xN (hK144 _ _ (wp_seq_k fun K146 hK146 => rS fun K147 hK147 => sAi rfl (sK hK147 (wp_block ?_))))))))))))))
      refine lLoop (fun m e w_ => ∃ (j : Nat), m = nr_139 - j ∧ e 8 = (.slice Ar_132 nr_132 cr_132) ∧ e 9 = (.slice Ar_139 nr_139 cr_139) ∧ e 10 = (.int .i64 ((j : Int))) ∧ Frm (fun b => False) w140 w_ ∧ (j ≤ nr_139)) (nr_139 - (0)) ?_ ?_
      · refine ⟨(0), rfl, rfl, rfl, cI, (Frm.refl _ _), ?_⟩
        · omega
      · rintro m148 e155 w149 ⟨j, hm154, hs150, hs151, hs152, hF153, hj⟩
        obtain ⟨r156, rfl⟩ := sq (e := e155) (t := 8) hs150
        obtain ⟨r157, rfl⟩ := sq (e := r156) (t := 9) hs151
        obtain ⟨r158, rfl⟩ := sq (e := r157) (t := 10) hs152
        have hz159 := hF153.size
        refine wp_seq_k fun K160 hK160 => rS fun K161 hK161 => sMi rfl (sMs rfl (sV (evLen Tryz.underlying25 rfl) ?_))
        by_cases hc162 : ((j : Int)) < ((nr_139 : Int))
        · refine sV (evLss true rfl rfl (dT hc162)) (sK hK161 (cT rfl (wp_skip (xN (hK160 _ _ (wp_seq_k fun K163 hK163 => wp_block (wp_seq_k fun K164 hK164 => dBegin (fun _ => False) mixed (fun w165 hE166 hz167 => dMs 0 rfl rfl (dMi 1 rfl rfl ?_)))))))))
          have hR168 := hF153.trans hE166
          have h169 := (hr_139.ext hR168)
          obtain ⟨b170, o171, rfl⟩ := h169.base (by omega)
          refine dV 2 rfl (fun _ _ => evIx j Tryz.underlying25 sz32 rfl rfl (o171 + j)) ?_
          obtain ⟨⟨A_172, n_172, c_172, l_172⟩, he_172, hp_172, hP_172, hS_172, hb_172⟩ := h169.at_ (i := j) (by omega)
          dsimp only at hp_172 hP_172; have ⟨q1_172, q2_172, q3_172⟩ := hP_172.lkm
          have hn11 := (sm_139 _ (List.mem_of_getElem? he_172)).2; dsimp only at hn11
          refine dV 3 rfl (fun _ hf => evLoad one32 rfl ((hf.cell (p := ⟨_, _, none⟩) hb_172 (fun h => h)).trans hp_172)) (dMs 4 rfl rfl (dMi 5 rfl rfl ?_))
          have hR174 := (hE141.trans hF153).trans hE166
          have h175 := (hr_132.ext hR174)
          obtain ⟨b176, o177, rfl⟩ := h175.base (by omega)
          refine dV 6 rfl (fun _ _ => evIx j Tryz.underlying34 sz39 rfl rfl (o177 + j)) ?_
          obtain ⟨⟨A_178, n_178, c_178, x_178, k_178⟩, he_178, hp_178, hP_178, hS_178, hb_178⟩ := h175.at_ (i := j) (by omega)
          dsimp only at hp_178 hP_178; have ⟨q1_178, q2_178, q3_178⟩ := hP_178.lkm
          refine dV 7 rfl (fun _ hf => evLoad one39 rfl ((hf.cell (p := ⟨_, _, none⟩) hb_178 (fun h => h)).trans hp_178)) ?_
          have hzx : zs l_172 = x_178 := bases_get heq he_172 he_178; have hnx : n_178 ≤ 11 := by have h := congrArg List.length hzx; rw [zlen] at h; omega
          refine dOp 8 rfl rfl (by kernel_rfl) (oCall rfl call12 (law11_Poly hP_178 (by omega)) rfl ?_)
          rintro _ w181 ⟨Ar_180, nr_180, cr_180, lr_180, rfl, hE182, hr_180, e_180, ln_180, cn_180⟩
          refine ⟨(Frm.of_ext hE182), ?_⟩
          have hz183 := hE182.size
          have ⟨kr_180, jr_180, mr_180⟩ := hr_180.lkm
          have h185 := (hP_172.ext hE182)
          refine dOp 9 rfl rfl (by kernel_rfl) (oCall rfl call11 (unipoly_Same h185 hr_180) rfl ?_)
          rintro _ w187 ⟨gr_186, rfl, hE188, e_186⟩
          refine ⟨(Frm.of_ext hE188), ?_⟩
          have hz189 := hE188.size
          obtain rfl : gr_186 = true := by rw [e_186, e_180, hzx, trim_trim]; exact decide_eq_true rfl
          refine dV 10 rfl (fun _ _ => evNot _ rfl rfl) (dDone (by kernel_rfl) (xN (hK164 _ _ (cF rfl (wp_skip (bN (xN (hK163 _ _ (wp_region_lit (sMi rfl (sV (evAdd (((j : Int)) + 1) rfl rfl wI) (sAi rfl (sDone ?_)))))))))))))
          have hR190 := (hE166.trans hE182).trans hE188
          refine again (nr_139 - (j + 1)) (by omega) ⟨(j + 1), rfl, rfl, rfl, cI, (hF153.trans hR190), ?_⟩
          · omega
        · refine sV (evLss false rfl rfl (dF hc162)) (sK hK161 (cF rfl (wp_exit (xE (xE (bE (xN (hK146 _ _ (rS fun K191 hK191 => sAb rfl (sK hK191 (wp_ret (ret1 (.bool true) Tryz.results3 (resT rfl) ?_))))))))))))
          have hR192 := ((((hE5.trans hE16).rx hF28).xr hE134).xr hE141).xr hF153
          exact ⟨(true), rfl, (Frm.mono hR192 q4), rfl⟩
end Go.Proofs.YtbniolgfaeiedaaGreat
