/-
  Walk of package cylinderref11: the basis.
-/
import Derived.Test.YtbniolgfaeiedaaGreatKn3
import Derived.Test.YtbniolgfaeiedaaGreatFacts2
namespace Go.Proofs.YtbniolgfaeiedaaGreat
open Go.RowKit Go.Gx
set_option maxHeartbeats 2000000 in
theorem ref11_Basis {w : World} {Sa : Nat → Prop} {Aa : Option Addr} {na ca : Nat} {la : List LE} {fs : List QP} (ha : GListR LF w Sa Aa na ca la) (hKn : KnownsR fs (la.map LE.m)) (hFn : ∀ F ∈ fs, F ≠ 0) (hna : na ≤ 4) : Calls Tryz.prog 9 #[(.slice Aa na ca)] w (Ret fun v w' => ∃ (Ar : Option Addr) (nr : Nat) (cr : Nat) (fr : List IE), v = (.slice Ar nr cr) ∧ Ext w w' ∧ IListR w' (fun _ => True) Ar nr cr fr ∧ (BasisOf fs (fr.map IE.x)) ∧ (SortW (fr.map IE.x)) ∧ (nr ≤ 40)) := by
  have ⟨ka, ja, ma⟩ := ha.lkm; replace ha := ha.low
  refine enter Tryz.func9 rfl Tryz.ntmps9 rfl (rS fun K1 hK1 => sAs rfl (sK hK1 (rS fun K2 hK2 => sAs rfl (sK hK2 (wp_seq_k fun K3 hK3 => rS fun K4 hK4 => sAi rfl (sK hK4 (wp_block ?_)))))))
  refine lLoop (fun m e w_ => ∃ (i : Nat) (Ap : Option Addr) (np : Nat) (cp : Nat) (fp : List IE), m = na - i ∧ e 0 = (.slice Aa na ca) ∧ e 3 = (.slice Ap np cp) ∧ e 4 = (.int .i64 ((i : Int))) ∧ Frm (fun b => False) w w_ ∧ (i ≤ na) ∧ (IFacsR w_ (fun b => b < w_.heap.size) Ap np cp fp) ∧ (AllIn (la.map LE.m) i 0 (fp.map IE.m))) (na - (0)) ?_ ?_
  · refine ⟨(0), (none), (0), (0), ([]), rfl, rfl, rfl, cI, (Frm.refl _ _), ?_, ?_, ?_⟩
    · omega
    · exact IFacsR.nil
    · exact AllIn.start
  · rintro m5 e12 w6 ⟨i, Ap, np, cp, fp, hm11, hs7, hs8, hs9, hF10, hi, hp, hA⟩
    obtain ⟨r13, rfl⟩ := sq (e := e12) (t := 0) hs7
    obtain ⟨r14, rfl⟩ := sq (e := r13) (t := 3) hs8
    obtain ⟨r15, rfl⟩ := sq (e := r14) (t := 4) hs9
    have hz16 := hF10.size
    have ⟨lp_, kp_, mp_⟩ := hp.lkm
    refine wp_seq_k fun K17 hK17 => rS fun K18 hK18 => sMi rfl (sMs rfl (sV (evLen Tryz.underlying26 rfl) ?_))
    by_cases hc19 : ((i : Int)) < ((na : Int))
    · refine sV (evLss true rfl rfl (dT hc19)) (sK hK18 (cT rfl (wp_skip (xN (hK17 _ _ (wp_seq_k fun K20 hK20 => wp_block (rS fun K21 hK21 => sAi rfl (sK hK21 (wp_block ?_)))))))))
      refine lLoop (fun m e w_ => ∃ (k : Nat) (Aq : Option Addr) (nq : Nat) (cq : Nat) (fq : List IE), m = 10 - k ∧ e 0 = (.slice Aa na ca) ∧ e 3 = (.slice Aq nq cq) ∧ e 4 = (.int .i64 ((i : Int))) ∧ e 5 = (.int .i64 ((k : Int))) ∧ Frm (fun b => False) w6 w_ ∧ (k ≤ 10) ∧ (IFacsR w_ (fun b => b < w_.heap.size) Aq nq cq fq) ∧ (AllIn (la.map LE.m) i k (fq.map IE.m))) (10 - (0)) ?_ ?_
      · refine ⟨(0), (Ap), (np), (cp), (fp), rfl, rfl, rfl, rfl, cI, (Frm.refl _ _), ?_, ?_, ?_⟩
        · omega
        · exact IFacsR.low hp
        · exact hA
      · rintro m22 e30 w23 ⟨k, Aq, nq, cq, fq, hm29, hs24, hs25, hs26, hs27, hF28, hk, hq, hA2⟩
        obtain ⟨r31, rfl⟩ := sq (e := e30) (t := 0) hs24
        obtain ⟨r32, rfl⟩ := sq (e := r31) (t := 3) hs25
        obtain ⟨r33, rfl⟩ := sq (e := r32) (t := 4) hs26
        obtain ⟨r34, rfl⟩ := sq (e := r33) (t := 5) hs27
        have hz35 := hF28.size
        have ⟨lq_, kq_, mq_⟩ := hq.lkm; have ⟨hkq, hnq⟩ := allIn_k hA2 (by omega)
        refine wp_seq_k fun K36 hK36 => rS fun K37 hK37 => sMi rfl (sMs rfl (sMi rfl ?_))
        have hR38 := hF10.trans hF28
        have h39 := (ha.ext hR38)
        obtain ⟨b40, o41, rfl⟩ := h39.base (by omega)
        refine sV (evIx i Tryz.underlying26 sz28 rfl rfl (o41 + i)) ?_
        obtain ⟨⟨A_42, n_42, c_42, f_42⟩, he_42, hp_42, hP_42, hS_42, hb_42⟩ := h39.at_ (i := i) (by omega)
        replace hp_42 : World.cell? _ _ = some (.slice A_42 n_42 c_42) := hp_42; replace hP_42 : IFacsR _ _ A_42 n_42 c_42 f_42 := hP_42; have ⟨q1_42, q2_42, q3_42⟩ := hP_42.lkm
        have hl10_42 := known_len10 hKn he_42; dsimp only at hl10_42
        refine sV (evLoad one28 rfl hp_42) (sV (evLen Tryz.underlying28 rfl) ?_)
        by_cases hc44 : ((k : Int)) < ((n_42 : Int))
        · refine sV (evLss true rfl rfl (dT hc44)) (sK hK37 (cT rfl (wp_skip (xN (hK36 _ _ (wp_seq_k fun K45 hK45 => wp_block (wp_region_lit (sMs rfl (sMs rfl (sMi rfl (sV (evIx i Tryz.underlying26 sz28 rfl rfl (o41 + i)) ?_)))))))))))
          obtain ⟨⟨A_46, n_46, c_46, f_46⟩, he_46, hp_46, hP_46, hS_46, hb_46⟩ := h39.at_ (i := i) (by omega)
          replace hp_46 : World.cell? _ _ = some (.slice A_46 n_46 c_46) := hp_46; replace hP_46 : IFacsR _ _ A_46 n_46 c_46 f_46 := hP_46; have ⟨q1_46, q2_46, q3_46⟩ := hP_46.lkm
          have hnn : n_42 = n_46 := congrArg LE.n (Option.some.inj (he_42.symm.trans he_46))
          have hl10_46 := known_len10 hKn he_46; dsimp only at hl10_46
          refine sV (evLoad one28 rfl hp_46) (sMi rfl ?_)
          obtain ⟨b48, o49, rfl⟩ := hP_46.base (by omega)
          refine sV (evIx k Tryz.underlying28 sz61 rfl rfl (o49 + (k * 2))) (sV (evFA (o49 + (k * 2)) fa61_0 rfl rfl) ?_)
          obtain ⟨⟨A_50, n_50, c_50, x_50, k_50⟩, he_50, hp_50, hq_50, hP_50, hS_50, hb_50⟩ := hP_46.at_ (i := k) (by omega)
          dsimp only at hp_50 hq_50 hP_50; have ⟨q1_50, q2_50, q3_50⟩ := hP_50.lkm
          refine sV (evLoad one39 rfl hp_50) (sO (oCall rfl call26 (ref11_With (Bw := 0) (IFacsR.sub hq q5) (IntsR.sub hP_50 q5) (by omega) hkq (by omega)) rfl ?_))
          rintro _ w53 ⟨Ar_52, nr_52, cr_52, fr_52, rfl, hE54, hr_52, e_52⟩
          have hz55 := hE54.size
          have ⟨kr_52, jr_52, mr_52⟩ := hr_52.lkm
          refine sAs rfl (sDone (bN (xN (hK45 _ _ (wp_region_lit (sMi rfl (sV (evAdd (((k : Int)) + 1) rfl rfl wI) (sAi rfl (sDone (again (10 - (k + 1)) (by omega) ⟨(k + 1), (Ar_52), (nr_52), (cr_52), (fr_52), rfl, rfl, rfl, rfl, cI, (hF28.trans hE54), ?_, ?_, ?_⟩))))))))))
          · omega
          · exact IFacsR.low hr_52
          · rw [e_52]; exact hA2.step (le_get he_46) (ie_get he_50) (known_irr hKn he_46 he_50)
        · refine sV (evLss false rfl rfl (dF hc44)) (sK hK37 (cF rfl (wp_exit (xE (xE (bE (bN (xN (hK20 _ _ (wp_region_lit (sMi rfl (sV (evAdd (((i : Int)) + 1) rfl rfl wI) (sAi rfl (sDone (again (na - (i + 1)) (by omega) ⟨(i + 1), (Aq), (nq), (cq), (fq), rfl, rfl, rfl, cI, (hF10.trans hF28), ?_, ?_, ?_⟩)))))))))))))))
          · omega
          · exact IFacsR.low hq
          · exact hA2.turn (le_get he_42) (by rw [List.length_map]; (try dsimp only); omega) hk
    · refine sV (evLss false rfl rfl (dF hc19)) (sK hK18 (cF rfl (wp_exit (xE (xE (bE (xN (hK3 _ _ (wp_seq_k fun K57 hK57 => ?_)))))))))
      have hAll : AllR (la.map LE.m) (fp.map IE.m) := hA.done (by rw [List.length_map]; omega); have hnp40 : np ≤ 40 := by have h := hA.ok.n; rw [List.length_map] at h; omega
      refine wp_region_lit (sAs rfl (sK hK57 (wp_seq_k fun K58 hK58 => rS fun K59 hK59 => sAi rfl (sK hK59 (wp_block ?_)))))
      refine lLoop (fun m e w_ => ∃ (j : Nat) (Ao : Option Addr) (no : Nat) (co_ : Nat) (fo : List IE), m = np - j ∧ e 0 = (.slice Aa na ca) ∧ e 3 = (.slice Ap np cp) ∧ e 6 = (.slice Ao no co_) ∧ e 7 = (.int .i64 ((j : Int))) ∧ Frm (fun b => False) w6 w_ ∧ (j ≤ np) ∧ (IListR w_ (fun b => b < w_.heap.size) Ao no co_ fo) ∧ (OutK fs (fp.map IE.m) j (fo.map IE.x)) ∧ (SortW (fo.map IE.x)) ∧ (∀ x ∈ fo, trimZ x.x = x.x ∧ nrm x.x ≤ 1000000000000000000) ∧ (no ≤ j)) (np - (0)) ?_ ?_
      · refine ⟨(0), (none), (0), (0), ([]), rfl, rfl, rfl, rfl, cI, (Frm.refl _ _), ?_, ?_, ?_, ?_, ?_, ?_⟩
        · omega
        · exact IListR.nil
        · exact OutK.start
        · exact List.Pairwise.nil
        · intro x hx; cases hx
        · omega
      · rintro m60 e68 w61 ⟨j, Ao, no, co_, fo, hm67, hs62, hs63, hs64, hs65, hF66, hj, hOL, hOK, hso, hot, hno⟩
        obtain ⟨r69, rfl⟩ := sq (e := e68) (t := 0) hs62
        obtain ⟨r70, rfl⟩ := sq (e := r69) (t := 3) hs63
        obtain ⟨r71, rfl⟩ := sq (e := r70) (t := 6) hs64
        obtain ⟨r72, rfl⟩ := sq (e := r71) (t := 7) hs65
        have hz73 := hF66.size
        have ⟨lOu, kOu, mOu⟩ := hOL.lkm
        refine wp_seq_k fun K74 hK74 => rS fun K75 hK75 => sMi rfl (sMs rfl (sV (evLen Tryz.underlying28 rfl) ?_))
        by_cases hc76 : ((j : Int)) < ((np : Int))
        · refine sV (evLss true rfl rfl (dT hc76)) (sK hK75 (cT rfl (wp_skip (xN (hK74 _ _ (wp_seq_k fun K77 hK77 => wp_block (rS fun K78 hK78 => sAb rfl (sK hK78 (rS fun K79 hK79 => sO (oBuildSlice [(.int .i64 (1))] [[(.int .i64 (1))]] Tryz.underlying39 inf3 rfl rfl rfl rfl rfl (fun g80 w81 hg82 hE83 hz84 hB85 => ?_)))))))))))
          replace hB85 : Blk w81 g80 3 [(.int .i64 (1))] := hB85
          refine sAs rfl (sK hK79 (wp_seq_k fun K86 hK86 => rS fun K87 hK87 => sAi rfl (sK hK87 (wp_block ?_))))
          obtain ⟨ej, hej⟩ : ∃ e, fp[j]? = some e := ⟨_, List.getElem?_eq_getElem (by omega)⟩; have hejm : ej.m ∈ (fp.map IE.m) := List.mem_map.2 ⟨ej, List.mem_of_getElem? hej, rfl⟩; have hejM : (fp.map IE.m)[j]? = some ej.m := ie_get hej
          refine lLoop (fun m e w_ => ∃ (k : Nat) (dn : Bool) (Az : Option Addr) (nz : Nat) (cz : Nat) (xz : List Int), m = np - k ∧ e 0 = (.slice Aa na ca) ∧ e 3 = (.slice Ap np cp) ∧ e 6 = (.slice Ao no co_) ∧ e 7 = (.int .i64 ((j : Int))) ∧ e 8 = (.bool dn) ∧ e 9 = (.slice Az nz cz) ∧ e 10 = (.int .i64 ((k : Int))) ∧ Frm (fun b => False) w81 w_ ∧ (k ≤ np) ∧ (IntsR w_ (fun b => b < w_.heap.size) Az nz cz xz) ∧ (xz = accM (alikeL fs ((fp.map IE.m).take k) ej.m.1)) ∧ (dn = true ↔ ∀ x ∈ (fp.map IE.m).take (min k j), keyL fs (P x.1) ≠ keyL fs (P ej.m.1))) (np - (0)) ?_ ?_
          · refine ⟨(0), (true), ((some ⟨g80, 0, none⟩)), (1), (1), ([1]), rfl, rfl, rfl, rfl, rfl, rfl, rfl, cI, (Frm.refl _ _), ?_, ?_, ?_, ?_⟩
            · omega
            · exact IntsR.low (IntsR.of_blk (S := fun b => b = g80) (n := 1) (c := 1) (xs := [1]) hB85 rfl (by decide) rfl (Nat.le_refl _) (by decide))
            · exact class_start
            · exact first_start
          · rintro m88 e99 w89 ⟨k, dn, Az, nz, cz, xz, hm98, hs90, hs91, hs92, hs93, hs94, hs95, hs96, hF97, hk, hz, hac, hfd⟩
            obtain ⟨r100, rfl⟩ := sq (e := e99) (t := 0) hs90
            obtain ⟨r101, rfl⟩ := sq (e := r100) (t := 3) hs91
            obtain ⟨r102, rfl⟩ := sq (e := r101) (t := 6) hs92
            obtain ⟨r103, rfl⟩ := sq (e := r102) (t := 7) hs93
            obtain ⟨r104, rfl⟩ := sq (e := r103) (t := 8) hs94
            obtain ⟨r105, rfl⟩ := sq (e := r104) (t := 9) hs95
            obtain ⟨r106, rfl⟩ := sq (e := r105) (t := 10) hs96
            have hz107 := hF97.size
            have ⟨lz_, kz_, mz_⟩ := hz.lkm; have hzl : xz.length ≤ 21 := (by rw [hac]; exact class_length hKn hAll hejm k); have hzn : nrm xz ≤ 64925062108545024 := (by rw [hac]; exact class_nrm hKn hAll hejm k)
            refine wp_seq_k fun K108 hK108 => rS fun K109 hK109 => sMi rfl (sMs rfl (sV (evLen Tryz.underlying28 rfl) ?_))
            by_cases hc110 : ((k : Int)) < ((np : Int))
            · refine sV (evLss true rfl rfl (dT hc110)) (sK hK109 (cT rfl (wp_skip (xN (hK108 _ _ (wp_seq_k fun K111 hK111 => wp_block (wp_seq_k fun K112 hK112 => dBegin (fun _ => False) mixed (fun w113 hE114 hz115 => dMs 0 rfl rfl (dMs 1 rfl rfl (dMi 2 rfl rfl ?_))))))))))
              have hR116 := ((hF66.trans hE83).trans hF97).trans hE114
              have h117 := (hp.ext hR116)
              obtain ⟨b118, o119, rfl⟩ := h117.base (by omega)
              refine dV 3 rfl (fun _ _ => evIx j Tryz.underlying28 sz61 rfl rfl (o119 + (j * 2))) (dV 4 rfl (fun _ _ => evFA (o119 + (j * 2)) fa61_0 rfl rfl) ?_)
              obtain ⟨⟨A_120, n_120, c_120, x_120, k_120⟩, he_120, hp_120, hq_120, hP_120, hS_120, hb_120⟩ := h117.at_ (i := j) (by omega)
              dsimp only at hp_120 hq_120 hP_120; have ⟨q1_120, q2_120, q3_120⟩ := hP_120.lkm
              refine dV 5 rfl (fun _ hf => evLoad one39 rfl ((hf.cell (p := ⟨_, _, none⟩) hb_120 (fun h => h)).trans hp_120)) (dMs 6 rfl rfl (dMi 7 rfl rfl (dV 8 rfl (fun _ _ => evIx k Tryz.underlying28 sz61 rfl rfl (o119 + (k * 2))) (dV 9 rfl (fun _ _ => evFA (o119 + (k * 2)) fa61_0 rfl rfl) ?_))))
              obtain ⟨⟨A_122, n_122, c_122, x_122, k_122⟩, he_122, hp_122, hq_122, hP_122, hS_122, hb_122⟩ := h117.at_ (i := k) (by omega)
              dsimp only at hp_122 hq_122 hP_122; have ⟨q1_122, q2_122, q3_122⟩ := hP_122.lkm
              refine dV 10 rfl (fun _ hf => evLoad one39 rfl ((hf.cell (p := ⟨_, _, none⟩) hb_122 (fun h => h)).trans hp_122)) ?_
              have hR124 := (((hF10.trans hF66).trans hE83).trans hF97).trans hE114
              have h125 := (ha.ext hR124)
              refine dOp 11 rfl rfl (by kernel_rfl) (oCall rfl call28 (ref11_alike h125 hP_120 hP_122) rfl ?_)
              rintro _ w127 ⟨gr_126, rfl, hE128, e_126⟩
              refine ⟨(Frm.of_ext hE128), ?_⟩
              have hz129 := hE128.size
              have hxj : x_120 = ej.x := congrArg IE.x (Option.some.inj (he_120.symm.trans hej)); have hi59 : IrrN x_122 := hAll.i _ (List.mem_of_getElem? (ie_get he_122)); have hkiff : gr_126 = true ↔ keyL fs (P x_122) = keyL fs (P ej.m.1) := e_126.trans ((alike_key hKn (by rw [hxj]; exact hAll.i _ hejm) hi59).trans (by rw [hxj]; exact eq_comm))
              refine dDone (by kernel_rfl) (xN (hK112 _ _ (cB gr_126 rfl ?_ ?_)))
              · intro hc130
                subst hc130
                refine wp_seq_k fun K131 hK131 => ?_
                have hkey := hkiff.1 rfl
                refine wp_region_lit (sMb rfl (sMb rfl ?_))
                cases dn
                · refine sSkip rfl rfl (sSkip rfl rfl (sSkip rfl rfl (sV (v := (.bool false)) (rfl) (sAb rfl (sK hK131 (wp_region_lit (sMs rfl (sMs rfl (sMi rfl (sV (evIx k Tryz.underlying28 sz61 rfl rfl (o119 + (k * 2))) (sV (evFA (o119 + (k * 2)) fa61_0 rfl rfl) ?_)))))))))))
                  have h132 := (h117.ext hE128)
                  obtain ⟨⟨A_133, n_133, c_133, x_133, k_133⟩, he_133, hp_133, hq_133, hP_133, hS_133, hb_133⟩ := h132.at_ (i := k) (by omega)
                  dsimp only at hp_133 hq_133 hP_133; have ⟨q1_133, q2_133, q3_133⟩ := hP_133.lkm
                  refine sV (evLoad one39 rfl hp_133) ?_
                  have hx72 : x_133 = x_122 := congrArg IE.x (Option.some.inj (he_133.symm.trans he_122)); have hl72 := hi59.l; have hb72 := hi59.b; rw [← hx72] at hl72 hb72
                  have hR135 := hE114.trans hE128
                  have h136 := (hz.ext hR135)
                  refine sO (oCall rfl call29 (ref11_Mul h136 hP_133 (Nat.le_trans (Nat.mul_le_mul hzn hb72) (by decide)) (by omega) (by omega)) rfl ?_)
                  rintro _ w138 ⟨Ar_137, nr_137, cr_137, xr_137, rfl, hE139, hr_137, e_137, le_137⟩
                  have hz140 := hE139.size
                  have ⟨lr_137, kr_137, mr_137⟩ := hr_137.lkm
                  refine sAs rfl (sDone (bN (xN (hK111 _ _ (wp_region_lit (sMi rfl (sV (evAdd (((k : Int)) + 1) rfl rfl wI) (sAi rfl (sDone ?_)))))))))
                  have hR142 := hR135.trans hE139
                  refine again (np - (k + 1)) (by omega) ⟨(k + 1), (false), (Ar_137), (nr_137), (cr_137), (xr_137), rfl, rfl, rfl, rfl, rfl, rfl, rfl, cI, (hF97.trans hR142), ?_, ?_, ?_, ?_⟩
                  · omega
                  · exact IntsR.low hr_137
                  · rw [e_137, hx72, class_yes (ie_get he_122) hkey, ← hac]
                  · exact first_yes hfd (ie_get he_122) hkey (by first | exact iff_of_true rfl ⟨rfl, by omega⟩ | exact iff_of_false (by decide) (by rintro ⟨h1, h2⟩; first | omega | cases h1))
                · refine sEv (v := (.int .i64 ((k : Int)))) (rfl) rfl rfl (sEv (v := (.int .i64 ((j : Int)))) (rfl) rfl rfl ?_)
                  by_cases hc143 : ((k : Int)) ≥ ((j : Int))
                  · refine sEv (v := (.bool true)) (evGeq true rfl rfl (dT hc143)) rfl rfl (sV (v := (.bool true)) (rfl) (sAb rfl (sK hK131 (wp_region_lit (sMs rfl (sMs rfl (sMi rfl (sV (evIx k Tryz.underlying28 sz61 rfl rfl (o119 + (k * 2))) (sV (evFA (o119 + (k * 2)) fa61_0 rfl rfl) ?_)))))))))
                    have h144 := (h117.ext hE128)
                    obtain ⟨⟨A_145, n_145, c_145, x_145, k_145⟩, he_145, hp_145, hq_145, hP_145, hS_145, hb_145⟩ := h144.at_ (i := k) (by omega)
                    dsimp only at hp_145 hq_145 hP_145; have ⟨q1_145, q2_145, q3_145⟩ := hP_145.lkm
                    refine sV (evLoad one39 rfl hp_145) ?_
                    have hx72 : x_145 = x_122 := congrArg IE.x (Option.some.inj (he_145.symm.trans he_122)); have hl72 := hi59.l; have hb72 := hi59.b; rw [← hx72] at hl72 hb72
                    have hR147 := hE114.trans hE128
                    have h148 := (hz.ext hR147)
                    refine sO (oCall rfl call29 (ref11_Mul h148 hP_145 (Nat.le_trans (Nat.mul_le_mul hzn hb72) (by decide)) (by omega) (by omega)) rfl ?_)
                    rintro _ w150 ⟨Ar_149, nr_149, cr_149, xr_149, rfl, hE151, hr_149, e_149, le_149⟩
                    have hz152 := hE151.size
                    have ⟨lr_149, kr_149, mr_149⟩ := hr_149.lkm
                    refine sAs rfl (sDone (bN (xN (hK111 _ _ (wp_region_lit (sMi rfl (sV (evAdd (((k : Int)) + 1) rfl rfl wI) (sAi rfl (sDone ?_)))))))))
                    have hR154 := hR147.trans hE151
                    refine again (np - (k + 1)) (by omega) ⟨(k + 1), (true), (Ar_149), (nr_149), (cr_149), (xr_149), rfl, rfl, rfl, rfl, rfl, rfl, rfl, cI, (hF97.trans hR154), ?_, ?_, ?_, ?_⟩
                    · omega
                    · exact IntsR.low hr_149
                    · rw [e_149, hx72, class_yes (ie_get he_122) hkey, ← hac]
                    · exact first_yes hfd (ie_get he_122) hkey (by first | exact iff_of_true rfl ⟨rfl, by omega⟩ | exact iff_of_false (by decide) (by rintro ⟨h1, h2⟩; first | omega | cases h1))
                  · refine sEv (v := (.bool false)) (evGeq false rfl rfl (dF hc143)) rfl rfl (sV (v := (.bool false)) (rfl) (sAb rfl (sK hK131 (wp_region_lit (sMs rfl (sMs rfl (sMi rfl (sV (evIx k Tryz.underlying28 sz61 rfl rfl (o119 + (k * 2))) (sV (evFA (o119 + (k * 2)) fa61_0 rfl rfl) ?_)))))))))
                    have h155 := (h117.ext hE128)
                    obtain ⟨⟨A_156, n_156, c_156, x_156, k_156⟩, he_156, hp_156, hq_156, hP_156, hS_156, hb_156⟩ := h155.at_ (i := k) (by omega)
                    dsimp only at hp_156 hq_156 hP_156; have ⟨q1_156, q2_156, q3_156⟩ := hP_156.lkm
                    refine sV (evLoad one39 rfl hp_156) ?_
                    have hx72 : x_156 = x_122 := congrArg IE.x (Option.some.inj (he_156.symm.trans he_122)); have hl72 := hi59.l; have hb72 := hi59.b; rw [← hx72] at hl72 hb72
                    have hR158 := hE114.trans hE128
                    have h159 := (hz.ext hR158)
                    refine sO (oCall rfl call29 (ref11_Mul h159 hP_156 (Nat.le_trans (Nat.mul_le_mul hzn hb72) (by decide)) (by omega) (by omega)) rfl ?_)
                    rintro _ w161 ⟨Ar_160, nr_160, cr_160, xr_160, rfl, hE162, hr_160, e_160, le_160⟩
                    have hz163 := hE162.size
                    have ⟨lr_160, kr_160, mr_160⟩ := hr_160.lkm
                    refine sAs rfl (sDone (bN (xN (hK111 _ _ (wp_region_lit (sMi rfl (sV (evAdd (((k : Int)) + 1) rfl rfl wI) (sAi rfl (sDone ?_)))))))))
                    have hR165 := hR158.trans hE162
                    refine again (np - (k + 1)) (by omega) ⟨(k + 1), (false), (Ar_160), (nr_160), (cr_160), (xr_160), rfl, rfl, rfl, rfl, rfl, rfl, rfl, cI, (hF97.trans hR165), ?_, ?_, ?_, ?_⟩
                    · omega
                    · exact IntsR.low hr_160
                    · rw [e_160, hx72, class_yes (ie_get he_122) hkey, ← hac]
                    · exact first_yes hfd (ie_get he_122) hkey (by first | exact iff_of_true rfl ⟨rfl, by omega⟩ | exact iff_of_false (by decide) (by rintro ⟨h1, h2⟩; first | omega | cases h1))
              · intro hc130
                subst hc130
                refine wp_skip (bN (xN (hK111 _ _ ?_)))
                have hkey : ¬ keyL fs (P x_122) = keyL fs (P ej.m.1) := fun h => absurd (hkiff.2 h) (by decide)
                refine wp_region_lit (sMi rfl (sV (evAdd (((k : Int)) + 1) rfl rfl wI) (sAi rfl (sDone ?_))))
                have hR166 := hE114.trans hE128
                have h167 := (hz.ext hR166)
                refine again (np - (k + 1)) (by omega) ⟨(k + 1), (dn), (Az), (nz), (cz), (xz), rfl, rfl, rfl, rfl, rfl, rfl, rfl, cI, (hF97.trans hR166), ?_, ?_, ?_, ?_⟩
                · omega
                · exact IntsR.low h167
                · rw [class_no (ie_get he_122) hkey]; exact hac
                · exact first_no hfd (ie_get he_122) hkey
            · refine sV (evLss false rfl rfl (dF hc110)) (sK hK109 (cF rfl (wp_exit (xE (xE (bE (xN (hK86 _ _ (wp_seq_k fun K168 hK168 => ?_)))))))))
              have hacE : xz = accM (alikeL fs (fp.map IE.m) ej.m.1) := by have h := hac; rw [List.take_of_length_le (by rw [List.length_map]; omega)] at h; exact h
              have htz : trimZ xz = xz := by rw [hac]; exact class_trim hAll k
              have hnz : nrm xz ≤ 1000000000000000000 := by omega
              refine wp_region_lit (sMb rfl (sK hK168 (cB dn rfl ?_ ?_)))
              · intro hc169
                subst hc169
                have hfst : ∀ x ∈ (fp.map IE.m).take j, keyL fs (P x.1) ≠ keyL fs (P ej.m.1) := by have h := hfd.1 rfl; rw [show min k j = j by omega] at h; exact h
                refine wp_region_lit (sMs rfl (sMs rfl ?_))
                have hR170 := hE83.trans hF97
                have h171 := (hOL.ext hR170)
                refine sO (oCall rfl call30 (ref11_insert h171 hz hot htz hnz (by omega)) rfl ?_)
                rintro _ w173 ⟨Ar_172, nr_172, cr_172, fr_172, rfl, hE174, hr_172, e_172, ln_172⟩
                have hz175 := hE174.size
                have ⟨kr_172, jr_172, mr_172⟩ := hr_172.lkm
                replace hr_172 := hr_172.low
                refine sAs rfl (sDone (bN (xN (hK77 _ _ (wp_region_lit (sMi rfl (sV (evAdd (((j : Int)) + 1) rfl rfl wI) (sAi rfl (sDone ?_)))))))))
                have hR177 := hR170.trans hE174
                refine again (np - (j + 1)) (by omega) ⟨(j + 1), (Ar_172), (nr_172), (cr_172), (fr_172), rfl, rfl, rfl, rfl, cI, (hF66.trans hR177), ?_, ?_, ?_, ?_, ?_, ?_⟩
                · omega
                · exact IListR.low hr_172
                · exact hOK.first hKn hFn hAll hejM hfst (by rw [e_172, ← hacE]; exact insM_perm _ _)
                · rw [e_172]; exact insM_sorted _ _ hso
                · exact ins_all (Q := fun y => trimZ y = y ∧ nrm y ≤ 1000000000000000000) e_172 hot ⟨htz, hnz⟩
                · omega
              · intro hc169
                subst hc169
                refine wp_skip (bN (xN (hK77 _ _ ?_)))
                obtain ⟨xm, hxm, hxk⟩ := first_not hfd (by omega)
                refine wp_region_lit (sMi rfl (sV (evAdd (((j : Int)) + 1) rfl rfl wI) (sAi rfl (sDone ?_))))
                have hR178 := hE83.trans hF97
                have h179 := (hOL.ext hR178)
                refine again (np - (j + 1)) (by omega) ⟨(j + 1), (Ao), (no), (co_), (fo), rfl, rfl, rfl, rfl, cI, (hF66.trans hR178), ?_, ?_, ?_, ?_, ?_, ?_⟩
                · omega
                · exact IListR.low h179
                · exact hOK.later hejM hxm hxk
                · exact hso
                · exact hot
                · omega
        · refine sV (evLss false rfl rfl (dF hc76)) (sK hK75 (cF rfl (wp_exit (xE (xE (bE (xN (hK58 _ _ (rS fun K180 hK180 => sMs rfl (sAs rfl (sK hK180 (wp_ret (ret1 (.slice Ao no co_) Tryz.results9 (resT rfl) ?_)))))))))))))
          have hR181 := hF10.trans hF66
          exact ⟨Ao, no, co_, fo, rfl, hR181, (IListR.sub hOL fun _ _ _ => trivial), (hOK.done hKn hFn hAll (by rw [List.length_map]; omega)), hso, (by omega)⟩
end Go.Proofs.YtbniolgfaeiedaaGreat
