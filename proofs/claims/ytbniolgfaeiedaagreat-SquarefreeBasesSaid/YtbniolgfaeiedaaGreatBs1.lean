/-
  Walk of package squarefree: the refinement of a basis.
-/
import Derived.Test.YtbniolgfaeiedaaGreatSq11
import Derived.Test.YtbniolgfaeiedaaGreatLibB
namespace Go.Proofs.YtbniolgfaeiedaaGreat
open Go.RowKit Go.Gx
theorem squarefree_refine_1 {w : World} {Sf : Nat → Prop} {Af : Option Addr} {nf cf Mf : Nat} {lf : List RI} {pb go pf : Nat} {Ao : Option Addr} {no co : Nat} {fo : List PE} (hf : PolyR w Sf Af nf cf lf Mf) (Bo : Blk w pb 25 [.slice Ao no co]) (hO : OwnP w 32 go pb pf Ao no co fo 17) (hSf : ∀ b, b < w.heap.size → Sf b → b ≠ go ∧ b ≠ pb ∧ b ≠ pf) (htf : trimZ (zs lf) = zs lf) (hnf : nf ≤ 64) (hM : Mf = 17) (hgo : go < w.heap.size) (hno : no ≤ 1000000000) : Calls Tryz.prog 56 #[(.slice Af nf cf), (.pointer (some ⟨pb, 0, none⟩))] w (Ret fun v w' => ∃ (A2 : Option Addr) (n2 : Nat) (c2 : Nat) (g2 : Nat), v = (.tuple #[]) ∧ Frm (fun b => b = pb ∨ b = go) w w' ∧ (Blk w' pb 25 [.slice A2 n2 c2]) ∧ (OwnP w' 32 g2 pb pf A2 n2 c2 (addE fo Af nf cf lf) 17) ∧ (g2 = go ∨ w.heap.size ≤ g2) ∧ (g2 < w'.heap.size) ∧ (n2 ≤ no + 1)) := by
  have ⟨kf, jf, mf⟩ := hf.lkm; replace hf := hf.sub (S' := fun b => Sf b ∧ b < w.heap.size) fun _ hb hs => ⟨hs, hb⟩
  have ltb := Bo.lt; have ⟨lO, kO, mO⟩ := hO.lkm
  refine enter Tryz.func56 rfl Tryz.ntmps56 rfl ?_
  subst hM
  refine rS fun K1 hK1 => sMs rfl (sO (oCall rfl call19 (unipoly_Degree hf (by omega) (by omega)) rfl ?_))
  rintro _ w3 ⟨xr_2, rfl, hE4, e_2⟩
  have hz5 := hE4.size
  by_cases hc6 : xr_2 > 0
  · refine sV (evGtr true rfl rfl (dT hc6)) (sK hK1 (cT rfl (wp_region_lit ?_)))
    have hB7 := (Bo.ext hE4)
    refine sV (evLoadB one25 rfl hB7 rfl) (sMs rfl (sO (oBuildSlice [(.slice Af nf cf)] [[(.slice Af nf cf)]] Tryz.underlying25 inf32 rfl rfl rfl rfl rfl (fun g8 w9 hg10 hE11 hz12 hB13 => ?_))))
    replace hB13 : Blk w9 g8 32 [(.slice Af nf cf)] := hB13
    have hR14 := hE4.trans hE11
    have h15 := (hO.ext hR14)
    have h16 := (hf.ext hR14)
    refine sO (oAppP Tryz.underlying25 inf32 rfl rfl rfl h15 hB13 h16 (fun b hb hs => hSf b hs.2 hs.1) (by omega) (by omega) (by omega) (fun A17 c18 gg19 w20 hO21 hF22 hn23 hl24 => ?_))
    have hz25 := hF22.size
    have hR26 := hE11.rx hF22
    have hB27 := (hB7.frm hR26 q1)
    refine sO (oStore [(.slice A17 (no + 1) c18)] rfl rfl rfl sz25 rfl hB27 (Nat.le_of_ble_eq_true rfl) (fun w28 hU29 hz30 hB31 => ?_))
    replace hB31 : Blk w28 pb 25 [(.slice A17 (no + 1) c18)] := hB31
    have hO32 := OwnP.box hO21 hU29
    refine sDone (end0 Tryz.results56 ?_)
    have hR33 := (hR14.rx hF22).tr hU29
    exact ⟨(A17), (no + 1), (c18), gg19, rfl, (Frm.mono hR33 q4), hB31, (by rw [show addE fo Af nf cf lf = fo ++ [⟨Af, nf, cf, lf⟩] from if_pos (by rw [← htf]; omega)]; exact hO32), (by omega), (by omega), (by omega)⟩
  · refine sV (evGtr false rfl rfl (dF hc6)) (sK hK1 (cF rfl (wp_skip (end0 Tryz.results56 ?_))))
    have hB34 := (Bo.ext hE4)
    have h35 := (hO.ext hE4)
    exact ⟨Ao, no, co, go, rfl, (Frm.of_ext hE4), hB34, (by rw [show addE fo Af nf cf lf = fo from if_neg (by rw [← htf]; omega)]; exact h35), (.inl rfl), (by omega), (by omega)⟩
set_option maxHeartbeats 4000000 in
theorem squarefree_refine {w : World} {Ab : Option Addr} {nb cb : Nat} {fb : List PE} {pf nf cf : Nat} {ff : List FE} {spf : List Value} {key : QP → List Nat} {vk : QP → Nat} {z : List Nat} {ks : List (List Nat)} {js : List Nat} (hb : PolysR w (fun b => b ≠ pf) Ab nb cb fb 17) (Bf : Blk w pf 94 (cellsF ff ++ spf)) (hAf : AllF w (fun b => b ≠ pf) 17 ff) (lf : ff.length = nf) (hkb : BsOk key z (fb.map fun f => zs f.l) ks) (hkf : BsOk vk 0 (ff.map fun f => zs f.l) js) (hsb : ∀ f ∈ fb, SmE f.A f.n f.l) (hsf : ∀ f ∈ ff, SmE f.A f.n f.l) (hnb : nb ≤ 80000000) (hnf : nf ≤ 11) : Calls Tryz.prog 32 #[(.slice Ab nb cb), (.slice (some ⟨pf, 0, none⟩) nf cf)] w (Ret fun v w' => ∃ (Ar : Option Addr) (nr : Nat) (cr : Nat) (fr : List PE) (gr : Nat) (pr : Nat), v = (.slice Ar nr cr) ∧ Frm (fun b => b = pf) w w' ∧ PolysR w' (fun _ => True) Ar nr cr fr 17 ∧ (OwnP w' 32 gr pr pf Ar nr cr fr 17) ∧ (w.heap.size ≤ pr) ∧ (∃ ls, BsOk (key2 key vk) (z, 0) (fr.map fun f => zs f.l) ls) ∧ (∀ f ∈ fr, SmE f.A f.n f.l) ∧ (nr ≤ 12 * nb + 11)) := by
  have ⟨kb, jb, mb⟩ := hb.lkm; replace hb := hb.sub (S' := fun b => b ≠ pf ∧ b < w.heap.size) fun _ hb hs => ⟨hs, hb⟩
  have ltf := Bf.lt
  refine enter Tryz.func32 rfl Tryz.ntmps32 rfl ?_
  have hzk := hkb.nz; have hzj := hkf.nz; have hnk := hkb.nd; have hnj := hkf.nd; have hck := hkb.cov; have hcj := hkf.cov
  have hlk : ks.length = nb := by have h := hkb.len; rw [List.length_map] at h; omega
  have hlj : js.length = nf := by have h := hkf.len; rw [List.length_map] at h; omega
  refine rS fun K1 hK1 => sAs rfl ?_
  have hA2 := AllF.sub (S' := fun b => b ≠ pf ∧ b < w.heap.size) hAf (fun b hb hs => ⟨hs, hb⟩)
  refine sK hK1 (rS fun K3 hK3 => sO (oAlloc [(.slice none 0 0)] zero25 rfl (fun g4 w5 hg6 hE7 hz8 hB9 => ?_)))
  have hO10 : OwnP w5 32 g4 g4 pf none 0 0 [] 17 := OwnP.nil (by omega)
  have h11 := (hA2.ext hE7)
  refine sK hK3 (rS fun K13 hK13 => sV (v := (.func (.func 56) #[] #[(.pointer (some ⟨g4, 0, none⟩))])) (evK (by kernel_rfl)) (sV (v := (.func (.func 56) #[] #[(.pointer (some ⟨g4, 0, none⟩))])) (rfl) (sK hK13 (wp_seq_k fun K14 hK14 => rS fun K15 hK15 => sMs rfl (sV (evLen Tryz.underlying25 rfl) (sMi rfl (sK hK15 (wp_block ?_))))))))
  have hB17 := (Bf.ext hE7)
  refine lLoop (fun m e w_ => ∃ (ie : Nat) (Ao : Option Addr) (no : Nat) (co : Nat) (fo : List PE) (go : Nat) (fso : List FE), m = nb - ie ∧ e 1 = (.slice (some ⟨pf, 0, none⟩) nf cf) ∧ e 5 = (.pointer (some ⟨g4, 0, none⟩)) ∧ e 6 = (.func (.func 56) #[] #[(.pointer (some ⟨g4, 0, none⟩))]) ∧ e 14 = (.slice Ab nb cb) ∧ e 15 = (.int .i64 ((nb : Int))) ∧ e 16 = (.int .i64 ((ie : Int))) ∧ Frm (fun b => b = g4 ∨ b = pf) w5 w_ ∧ Blk w_ g4 25 ([.slice Ao no co]) ∧ Blk w_ pf 94 (cellsF fso ++ spf) ∧ (ie ≤ nb) ∧ (OwnP w_ 32 go g4 pf Ao no co fo 17) ∧ (AllF w_ (fun b => b ≠ pf ∧ b ≠ g4 ∧ b ≠ go) 17 fso) ∧ (fso.length = nf) ∧ (go < w_.heap.size) ∧ (go = g4 ∨ w5.heap.size ≤ go) ∧ (∃ ls, OutOk (key2 key vk) (D1 ks js ie 0) (fo.map fun f => zs f.l) ls) ∧ (FcsOk key vk ks js ie 0 fso) ∧ (∀ f ∈ fo, SmE f.A f.n f.l) ∧ (no ≤ 12 * ie)) (nb - (0)) ?_ ?_
  · refine ⟨(0), (none), (0), (0), ([]), (g4), (ff), rfl, rfl, rfl, rfl, rfl, rfl, cI, (Frm.refl _ _), ?_, ?_, ?_, ?_, ?_, ?_, ?_, ?_, ?_, ?_, ?_, ?_⟩
    · exact hB9
    · exact hB17
    · omega
    · exact hO10
    · exact AllF.sub h11 (fun b hb hs => (by (try dsimp only at hs ⊢); omega))
    · omega
    · omega
    · exact .inl rfl
    · exact ⟨_, refine_start⟩
    · exact FcsOk.start hkf hsf
    · intro f hf; cases hf
    · omega
  · rintro m16 e29 w18 ⟨ie, Ao, no, co, fo, go, fso, hm28, hs19, hs20, hs21, hs22, hs23, hs24, hF25, hB26, hB27, hi, hOo, hAo, hlso, hgso, hgo, hout, hfc, hsm, hno⟩
    obtain ⟨r30, rfl⟩ := sq (e := e29) (t := 1) hs19
    obtain ⟨r31, rfl⟩ := sq (e := r30) (t := 5) hs20
    obtain ⟨r32, rfl⟩ := sq (e := r31) (t := 6) hs21
    obtain ⟨r33, rfl⟩ := sq (e := r32) (t := 14) hs22
    obtain ⟨r34, rfl⟩ := sq (e := r33) (t := 15) hs23
    obtain ⟨r35, rfl⟩ := sq (e := r34) (t := 16) hs24
    have hz36 := hF25.size
    have ⟨lOo, kOo, mOo⟩ := hOo.lkm; have hneo := hOo.ne
    refine rS fun K37 hK37 => ?_
    by_cases hc38 : ((ie : Int)) < ((nb : Int))
    · refine sV (evLss true rfl rfl (dT hc38)) (sK hK37 (wp_seq_k fun K39 hK39 => cT rfl (wp_skip (xN (hK39 _ _ (wp_seq_k fun K40 hK40 => wp_block (rS fun K41 hK41 => ?_)))))))
      have hR42 := hE7.rx hF25
      have h43 := (hb.frmB hR42 q3)
      obtain ⟨b44, o45, rfl⟩ := h43.base (by omega)
      refine sV (evIx ie Tryz.underlying25 sz32 rfl rfl (o45 + ie)) ?_
      obtain ⟨⟨A_46, n_46, c_46, l_46⟩, he_46, hp_46, hP_46, hS_46, hb_46⟩ := h43.at_ (i := ie) (by omega)
      dsimp only at hp_46 hP_46; have ⟨q1_46, q2_46, q3_46⟩ := hP_46.lkm
      obtain ⟨ke_46, hke_46, hel_46⟩ := elem_start (v := vk) (js := js) hkb he_46; have hsm_46 := hsb _ (List.mem_of_getElem? he_46); dsimp only at hel_46 hsm_46
      refine sV (evLoad one32 rfl hp_46) (sAs rfl (sK hK41 (wp_seq_k fun K48 hK48 => rS fun K49 hK49 => sMs rfl (sV (evLen Tryz.underlying69 rfl) (sMi rfl (sK hK49 (wp_block ?_)))))))
      refine lLoop (fun m e w_ => ∃ (i : Nat) (Aq : Option Addr) (nq : Nat) (cq : Nat) (fq : List PE) (gq : Nat) (fsq : List FE) (Ae : Option Addr) (ne : Nat) (ce : Nat) (le : List RI), m = nf - i ∧ e 1 = (.slice (some ⟨pf, 0, none⟩) nf cf) ∧ e 5 = (.pointer (some ⟨g4, 0, none⟩)) ∧ e 6 = (.func (.func 56) #[] #[(.pointer (some ⟨g4, 0, none⟩))]) ∧ e 8 = (.slice Ae ne ce) ∧ e 14 = (.slice (some ⟨b44, o45, none⟩) nb cb) ∧ e 15 = (.int .i64 ((nb : Int))) ∧ e 16 = (.int .i64 ((ie : Int))) ∧ e 21 = (.int .i64 ((nf : Int))) ∧ e 22 = (.int .i64 ((i : Int))) ∧ Frm (fun b => b = pf ∨ b = g4 ∨ b = go) w18 w_ ∧ Blk w_ g4 25 ([.slice Aq nq cq]) ∧ Blk w_ pf 94 (cellsF fsq ++ spf) ∧ (i ≤ nf) ∧ (OwnP w_ 32 gq g4 pf Aq nq cq fq 17) ∧ (AllF w_ (fun b => b ≠ pf ∧ b ≠ g4 ∧ b ≠ gq) 17 fsq) ∧ (fsq.length = nf) ∧ (gq < w_.heap.size) ∧ (gq = go ∨ w18.heap.size ≤ gq) ∧ (PolyR w_ (fun b => b ≠ pf ∧ b ≠ g4 ∧ b ≠ gq) Ae ne ce le 17) ∧ (ElOk key vk js ke_46 i (zs le)) ∧ (SmE Ae ne le) ∧ (∃ ls, OutOk (key2 key vk) (D1 ks js ie i) (fq.map fun f => zs f.l) ls) ∧ (FcsOk key vk ks js ie i fsq) ∧ (∀ f ∈ fq, SmE f.A f.n f.l) ∧ (nq ≤ 12 * ie + i)) (nf - (0)) ?_ ?_
      · refine ⟨(0), (Ao), (no), (co), (fo), (go), (fso), (A_46), (n_46), (c_46), (l_46), rfl, rfl, rfl, rfl, rfl, rfl, rfl, rfl, rfl, cI, (Frm.refl _ _), ?_, ?_, ?_, ?_, ?_, ?_, ?_, ?_, ?_, ?_, ?_, ?_, ?_, ?_, ?_⟩
        · exact hB26
        · exact hB27
        · omega
        · exact hOo
        · exact AllF.sub hAo (fun b hb hs => (by (try dsimp only at hs ⊢); omega))
        · omega
        · omega
        · exact .inl rfl
        · exact PolyR.sub hP_46 (fun b hb hs => (by (try dsimp only at hs ⊢); omega))
        · exact hel_46
        · exact hsm_46
        · exact hout
        · exact hfc
        · exact hsm
        · omega
      · rintro m50 e65 w51 ⟨i, Aq, nq, cq, fq, gq, fsq, Ae, ne, ce, le, hm64, hs52, hs53, hs54, hs55, hs56, hs57, hs58, hs59, hs60, hF61, hB62, hB63, hii, hOq, hAq, hlsq, hgsq, hgq, hPe, hel, hse, houq, hfd, hsq, hnq⟩
        obtain ⟨r66, rfl⟩ := sq (e := e65) (t := 1) hs52
        obtain ⟨r67, rfl⟩ := sq (e := r66) (t := 5) hs53
        obtain ⟨r68, rfl⟩ := sq (e := r67) (t := 6) hs54
        obtain ⟨r69, rfl⟩ := sq (e := r68) (t := 8) hs55
        obtain ⟨r70, rfl⟩ := sq (e := r69) (t := 14) hs56
        obtain ⟨r71, rfl⟩ := sq (e := r70) (t := 15) hs57
        obtain ⟨r72, rfl⟩ := sq (e := r71) (t := 16) hs58
        obtain ⟨r73, rfl⟩ := sq (e := r72) (t := 21) hs59
        obtain ⟨r74, rfl⟩ := sq (e := r73) (t := 22) hs60
        have hz75 := hF61.size
        have ⟨lOq, kOq, mOq⟩ := hOq.lkm; have hneq := hOq.ne
        have ⟨ke_, je_, me_⟩ := hPe.lkm; have hne11 := hse.2.2
        refine rS fun K76 hK76 => ?_
        by_cases hc77 : ((i : Int)) < ((nf : Int))
        · refine sV (evLss true rfl rfl (dT hc77)) (sK hK76 (wp_seq_k fun K78 hK78 => cT rfl (wp_skip (xN (hK78 _ _ (wp_seq_k fun K79 hK79 => wp_block (rS fun K80 hK80 => sMi rfl (sAi rfl (sK hK80 (rS fun K81 hK81 => sMs rfl (sMs rfl (sMi rfl (sV (evIx i Tryz.underlying69 sz94 rfl rfl (i * 2)) (sV (evFA (i * 2) fa94_0 rfl rfl) ?_))))))))))))))
          obtain ⟨⟨A_82, n_82, c_82, l_82, k_82⟩, he_82⟩ : ∃ r, (fsq)[i]? = some r := ⟨_, List.getElem?_eq_getElem (by omega)⟩
          have hc_82 := hB63.fac he_82; have hP_82 := hAq _ (List.mem_of_getElem? he_82); dsimp only at hc_82 hP_82; have ⟨q1_82, q2_82, q3_82⟩ := hP_82.lkm
          obtain ⟨jj_82, hjj_82, hfc_82, hsf_82⟩ := hfd.get he_82; dsimp only at hfc_82 hsf_82; have hnf_82 := hsf_82.2.2
          refine sV (evLoad one32 rfl hc_82.1) (sO (oCall rfl call39 (unidiv_Gcd hPe hP_82 (by omega) (by omega) (by omega) (by omega)) rfl ?_))
          rintro _ w85 ⟨Ar_84, nr_84, cr_84, lr_84, rfl, hE86, hr_84, gc_84, ln_84, cn_84⟩
          have hz87 := hE86.size
          have ⟨kr_84, jr_84, mr_84⟩ := hr_84.lkm
          have hjj := hjj_82; have hcl := common_cl hel hfc_82 (nodup_at hnk hke_46) (nodup_at hnj hjj) gc_84; have hgn := hcl.n; have hgd := gc_84.q.1; have hgd2 := gc_84.q.2.1; have hsmc := hse.1.dvd hgd
          have hgl : (trimZ (zs lr_84)).length = nr_84 := by rw [hgn.t, zlen]; omega
          have hsc : SmE Ar_84 nr_84 lr_84 := ⟨hsmc, by omega, by omega⟩
          have hT89 := PolyR.tight (K := 17) hr_84 cn_84 (hsmc.tight hgn.c)
          refine sAs rfl (sK hK81 (rS fun K90 hK90 => sMs rfl (sMs rfl ?_)))
          have h91 := (hPe.ext hE86)
          refine sO (oCall rfl call43 (squarefree_quotient h91 hT89 (by omega) (by omega) (by omega) (by omega) (by assumption) (by assumption)) rfl ?_)
          rintro _ w93 ⟨Ar_92, nr_92, cr_92, lr_92, rfl, hE94, hr_92, e_92, lk_92, ln_92, cn_92⟩
          have hz95 := hE94.size
          have ⟨kr_92, jr_92, mr_92⟩ := hr_92.lkm
          have htr1 : trimZ (zs lr_92) = zs lr_92 := quo_trim e_92 hel.n.ne (by rw [zlen]; omega)
          have hel2 := hel.step hcl hjj hnj e_92 htr1; have hsm1 : Sm (zs lr_92) := hse.1.dvd ⟨_, (e_92.trans (qmul_comm _ _))⟩; have hl1 := hsm1.len; have hse2 : SmE Ar_92 nr_92 lr_92 := ⟨hsm1, by omega, by rw [htr1, zlen] at hl1; omega⟩
          have hT97 := PolyR.tight (K := 17) hr_92 cn_92 (hsm1.tight hel2.n.c)
          have hgdv : P (zs lr_84) ∣ P (zs l_82) := hgd2
          refine sAs rfl (sK hK90 (rS fun K98 hK98 => sMs rfl (sMi rfl (sMs rfl (sMi rfl (sV (evIx i Tryz.underlying69 sz94 rfl rfl (i * 2)) (sV (evFA (i * 2) fa94_0 rfl rfl) ?_)))))))
          have hR99 := hE86.trans hE94
          have hB100 := (hB63.ext hR99)
          have h102 := (hAq.ext hR99)
          obtain ⟨⟨A_101, n_101, c_101, l_101, k_101⟩, he_101⟩ : ∃ r, (fsq)[i]? = some r := ⟨_, List.getElem?_eq_getElem (by omega)⟩
          have hc_101 := hB100.fac he_101; have hP_101 := h102 _ (List.mem_of_getElem? he_101); dsimp only at hc_101 hP_101; have ⟨q1_101, q2_101, q3_101⟩ := hP_101.lkm
          obtain ⟨jj_101, hjj_101, hfc_101, hsf_101⟩ := hfd.get he_101; dsimp only at hfc_101 hsf_101; have hnf_101 := hsf_101.2.2
          refine sV (evLoad one32 rfl hc_101.1) ?_
          have hff := Option.some.inj (he_82.symm.trans he_101); injection hff with hf1 hf2 hf3 hf4 hf5; rw [hf4] at hgdv
          have hfj : jj_82 = jj_101 := Option.some.inj (hjj_82.symm.trans hjj_101)
          refine sMs rfl ?_
          have h104 := (hT89.ext hE94)
          refine sO (oCall rfl call43 (squarefree_quotient hP_101 h104 (by omega) (by omega) (by omega) (by omega) (by assumption) (by assumption)) rfl ?_)
          rintro _ w106 ⟨Ar_105, nr_105, cr_105, lr_105, rfl, hE107, hr_105, e_105, lk_105, ln_105, cn_105⟩
          have hz108 := hE107.size
          have ⟨kr_105, jr_105, mr_105⟩ := hr_105.lkm
          have htr2 : trimZ (zs lr_105) = zs lr_105 := quo_trim e_105 hfc_101.n.ne (by rw [zlen]; omega)
          rw [hfj] at hcl
          have hfc2 := hfc_101.step hcl hke_46 hnk e_105 htr2; have hsm2 : Sm (zs lr_105) := hsf_101.1.dvd ⟨_, (e_105.trans (qmul_comm _ _))⟩; have hl2 := hsm2.len
          have hT110 := PolyR.tight (K := 17) hr_105 cn_105 (hsm2.tight hfc2.n.c)
          have hfd2 := hfd.set (f' := ⟨Ar_105, nr_105, cr_105, lr_105, k_101⟩) hjj_101 hfc2 ⟨hsm2, (by (try dsimp only); omega), (by rw [htr2, zlen] at hl2; (try dsimp only); omega)⟩; rw [← hfj] at hcl
          refine sV (evIx i Tryz.underlying69 sz94 rfl rfl (i * 2)) (sV (evFA (i * 2) fa94_0 rfl rfl) ?_)
          have hB111 := (hB100.ext hE107)
          refine sO (oStore1 rfl rfl rfl sz32 hB111 (by rw [List.length_append, cellsF_len]; omega) (fun w112 hU113 hz114 hB115 => ?_))
          replace hB115 : Blk w112 pf 94 (cellsF ((fsq).set i ⟨Ar_105, nr_105, cr_105, lr_105, k_101⟩) ++ spf) := Eq.mp (congrArg (Blk w112 pf 94) (cellsF_setSp (sp := spf) Ar_105 nr_105 cr_105 lr_105 he_101)) hB115
          have hR116 := hE107.rx hU113
          have h117 := (h102.frmB hR116 q3)
          have h118 := (hT110.frmB hU113 q3)
          have hA119 : AllF w112 (fun b => b ≠ pf ∧ b ≠ g4 ∧ b ≠ gq) 17 ((fsq).set i ⟨Ar_105, nr_105, cr_105, lr_105, k_101⟩) := AllF.set h117 (PolyR.sub h118 (fun b hb hs => (by (try dsimp only at hs ⊢); omega)))
          refine sK hK98 (wp_region_lit (sV (v := (.func (.func 56) #[] #[(.pointer (some ⟨g4, 0, none⟩))])) (rfl) (sMs rfl ?_)))
          have h120 := (h104.frmB hR116 q3)
          have h121 := (hT97.frmB hR116 q3)
          have hk122 := h121.sub (S' := fun b => (w85.heap.size ≤ b) ∧ b < w112.heap.size) fun _ hb hs => ⟨hs, hb⟩
          have hk123 := hA119.sub (S' := fun b => (b ≠ pf ∧ b ≠ g4 ∧ b ≠ gq) ∧ b < w112.heap.size) fun _ hb hs => ⟨hs, hb⟩
          have hR124 := (hR99.trans hE107).rx hU113
          have hB125 := (hB62.frm hR124 q1)
          have h126 := (hOq.frmB hR124 q3)
          refine sO (oCall rfl call56 (squarefree_refine_1 h120 hB125 h126 (by intro b hlt hb; (try dsimp only at hb ⊢); omega) hgn.t (by omega) rfl (by omega) (by omega)) rfl ?_)
          rintro _ w128 ⟨A2_127, n2_127, c2_127, g2_127, rfl, hE129, B2_127, hO2_127, hg2_127, hg3_127, hn2_127⟩
          have hz130 := hE129.size
          have ⟨lO_127, kO_127, mO_127⟩ := hO2_127.lkm
          have h131 := (hk122.frmB hE129 q3)
          have hk132 := h131.sub (S' := fun b => b ≠ pf ∧ b ≠ g4 ∧ b ≠ g2_127) fun b hb hs => (by (try dsimp only at hs ⊢); omega)
          have h133 := (hk123.frmB hE129 q3)
          have hk134 := h133.sub (S' := fun b => b ≠ pf ∧ b ≠ g4 ∧ b ≠ g2_127) fun b hb hs => (by (try dsimp only at hs ⊢); omega)
          refine sDone (bN (xN (hK79 _ _ (wp_region_lit (sV (evAdd (((i : Int)) + 1) rfl rfl wI) (sMi rfl (sDone ?_)))))))
          have hR135 := hR124.tr hE129
          have hB136 := (hB115.frm hE129 q1)
          refine again (nf - (i + 1)) (by omega) ⟨(i + 1), (A2_127), (n2_127), (c2_127), (addE fq Ar_84 nr_84 cr_84 lr_84), (g2_127), ((fsq).set i ⟨Ar_105, nr_105, cr_105, lr_105, k_101⟩), (Ar_92), (nr_92), (cr_92), (lr_92), rfl, rfl, rfl, rfl, rfl, rfl, rfl, rfl, rfl, cI, (Frm.mono (hF61.tr hR135) q4), ?_, ?_, ?_, ?_, ?_, ?_, ?_, ?_, ?_, ?_, ?_, ?_, ?_, ?_, ?_⟩
          · exact B2_127
          · exact hB136
          · omega
          · exact hO2_127
          · exact AllF.sub hk134 (fun b hb hs => (by (try dsimp only at hs ⊢); omega))
          · (try rw [List.length_set]); omega
          · omega
          · omega
          · exact PolyR.sub hk132 (fun b hb hs => (by (try dsimp only at hs ⊢); omega))
          · exact hel2
          · exact hse2
          · obtain ⟨ls1, h1⟩ := houq; rw [addE_map]; exact refine_common h1 hke_46 hjj hnk hnj hcl
          · exact hfd2
          · exact addE_sm hsq hsc
          · omega
        · refine sV (evLss false rfl rfl (dF hc77)) (sK hK76 (wp_seq_k fun K137 hK137 => cF rfl (wp_exit (xE (xE (bE (xN (hK48 _ _ ?_))))))))
          have hcl2 := hel.rest (by omega) hzj hcj; have hout2 : ∃ ls, OutOk (key2 key vk) (D1 ks js (ie + 1) 0) ((addE fq Ae ne ce le).map fun f => zs f.l) ls := by obtain ⟨ls1, h1⟩ := houq; rw [addE_map]; exact refine_rest h1 (by omega) hke_46 hnk hzj hcj hcl2
          refine wp_region_lit (sV (v := (.func (.func 56) #[] #[(.pointer (some ⟨g4, 0, none⟩))])) (rfl) (sMs rfl ?_))
          have hk138 := hAq.sub (S' := fun b => (b ≠ pf ∧ b ≠ g4 ∧ b ≠ gq) ∧ b < w51.heap.size) fun _ hb hs => ⟨hs, hb⟩
          refine sO (oCall rfl call56 (squarefree_refine_1 hPe hB62 hOq (by intro b hlt hb; (try dsimp only at hb ⊢); omega) hel.n.t (by omega) rfl (by omega) (by omega)) rfl ?_)
          rintro _ w140 ⟨A2_139, n2_139, c2_139, g2_139, rfl, hE141, B2_139, hO2_139, hg2_139, hg3_139, hn2_139⟩
          have hz142 := hE141.size
          have ⟨lO_139, kO_139, mO_139⟩ := hO2_139.lkm
          have h143 := (hk138.frmB hE141 q3)
          have hk144 := h143.sub (S' := fun b => b ≠ pf ∧ b ≠ g4 ∧ b ≠ g2_139) fun b hb hs => (by (try dsimp only at hs ⊢); omega)
          refine sDone (bN (xN (hK40 _ _ (wp_region_lit (sV (evAdd (((ie : Int)) + 1) rfl rfl wI) (sMi rfl (sDone ?_)))))))
          have hR145 := hF61.tr hE141
          have hB146 := (hB63.frm hE141 q1)
          refine again (nb - (ie + 1)) (by omega) ⟨(ie + 1), (A2_139), (n2_139), (c2_139), (addE fq Ae ne ce le), (g2_139), (fsq), rfl, rfl, rfl, rfl, rfl, rfl, cI, (Frm.mono (hF25.tr hR145) q4), ?_, ?_, ?_, ?_, ?_, ?_, ?_, ?_, ?_, ?_, ?_, ?_⟩
          · exact B2_139
          · exact hB146
          · omega
          · exact hO2_139
          · exact AllF.sub hk144 (fun b hb hs => (by (try dsimp only at hs ⊢); omega))
          · (try rw [List.length_set]); omega
          · omega
          · omega
          · exact hout2
          · exact hfd.turn (by omega)
          · exact addE_sm hsq hse
          · omega
    · refine sV (evLss false rfl rfl (dF hc38)) (sK hK37 (wp_seq_k fun K147 hK147 => cF rfl (wp_exit (xE (xE (bE (xN (hK14 _ _ (wp_seq_k fun K148 hK148 => wp_seq_k fun K149 hK149 => ?_)))))))))
      have hfz : FcsOk key vk ks js ie 0 fso := hfc
      refine wp_region_lit (sMs rfl (sV (evLen Tryz.underlying69 rfl) (sMi rfl (sK hK149 (wp_block ?_)))))
      refine lLoop (fun m e w_ => ∃ (i : Nat) (Aq : Option Addr) (nq : Nat) (cq : Nat) (fq : List PE) (gq : Nat), m = nf - i ∧ e 5 = (.pointer (some ⟨g4, 0, none⟩)) ∧ e 6 = (.func (.func 56) #[] #[(.pointer (some ⟨g4, 0, none⟩))]) ∧ e 54 = (.slice (some ⟨pf, 0, none⟩) nf cf) ∧ e 55 = (.int .i64 ((nf : Int))) ∧ e 56 = (.int .i64 ((i : Int))) ∧ Frm (fun b => b = g4 ∨ b = go) w18 w_ ∧ Blk w_ g4 25 ([.slice Aq nq cq]) ∧ (i ≤ nf) ∧ (OwnP w_ 32 gq g4 pf Aq nq cq fq 17) ∧ (AllF w_ (fun b => b ≠ pf ∧ b ≠ g4 ∧ b ≠ gq) 17 fso) ∧ (gq < w_.heap.size) ∧ (gq = go ∨ w18.heap.size ≤ gq) ∧ (∃ ls, OutOk (key2 key vk) (D2 ks js z i) (fq.map fun f => zs f.l) ls) ∧ (∀ f ∈ fq, SmE f.A f.n f.l) ∧ (nq ≤ 12 * ie + i)) (nf - (0)) ?_ ?_
      · refine ⟨(0), (Ao), (no), (co), (fo), (go), rfl, rfl, rfl, rfl, rfl, cI, (Frm.refl _ _), ?_, ?_, ?_, ?_, ?_, ?_, ?_, ?_, ?_⟩
        · exact hB26
        · omega
        · exact hOo
        · exact AllF.sub hAo (fun b hb hs => (by (try dsimp only at hs ⊢); omega))
        · omega
        · exact .inl rfl
        · obtain ⟨ls1, h1⟩ := hout; exact ⟨ls1, refine_turn h1 (by omega)⟩
        · exact hsm
        · omega
      · rintro m150 e160 w151 ⟨i, Aq, nq, cq, fq, gq, hm159, hs152, hs153, hs154, hs155, hs156, hF157, hB158, hii, hOq, hAq, hgsq, hgq, houq, hsq, hnq⟩
        obtain ⟨r161, rfl⟩ := sq (e := e160) (t := 5) hs152
        obtain ⟨r162, rfl⟩ := sq (e := r161) (t := 6) hs153
        obtain ⟨r163, rfl⟩ := sq (e := r162) (t := 54) hs154
        obtain ⟨r164, rfl⟩ := sq (e := r163) (t := 55) hs155
        obtain ⟨r165, rfl⟩ := sq (e := r164) (t := 56) hs156
        have hz166 := hF157.size
        have ⟨lOq, kOq, mOq⟩ := hOq.lkm; have hneq := hOq.ne
        refine rS fun K167 hK167 => ?_
        by_cases hc168 : ((i : Int)) < ((nf : Int))
        · refine sV (evLss true rfl rfl (dT hc168)) (sK hK167 (wp_seq_k fun K169 hK169 => cT rfl (wp_skip (xN (hK169 _ _ (wp_seq_k fun K170 hK170 => wp_block (rS fun K171 hK171 => sV (evIx i Tryz.underlying69 sz94 rfl rfl (i * 2)) ?_)))))))
          have hB172 := (hB27.frm hF157 q1)
          obtain ⟨⟨A_173, n_173, c_173, l_173, k_173⟩, he_173⟩ : ∃ r, (fso)[i]? = some r := ⟨_, List.getElem?_eq_getElem (by omega)⟩
          have hc_173 := hB172.fac he_173; have hP_173 := hAq _ (List.mem_of_getElem? he_173); dsimp only at hc_173 hP_173; have ⟨q1_173, q2_173, q3_173⟩ := hP_173.lkm
          obtain ⟨jj_173, hjj_173, hfc_173, hsf_173⟩ := hfz.last he_173; dsimp only at hfc_173 hsf_173; have hnf_173 := hsf_173.2.2
          refine sV (evLoadA [(.slice A_173 n_173 c_173), (.int .i64 (k_173))] agg94 sz94 rfl (cell2 hc_173.1 hc_173.2)) (sO (oAlloc [(.slice none 0 0), (.int .i64 (0))] zero94 rfl (fun g175 w176 hg177 hE178 hz179 hB180 => sO (oStore [(.slice A_173 n_173 c_173), (.int .i64 (k_173))] rfl rfl rfl sz94 rfl hB180 (Nat.le_of_ble_eq_true rfl) (fun w181 hU182 hz183 hB184 => ?_)))))
          replace hB184 : Blk w181 g175 94 [(.slice A_173 n_173 c_173), (.int .i64 (k_173))] := hB184
          refine sK hK171 (wp_region_lit (sV (v := (.func (.func 56) #[] #[(.pointer (some ⟨g4, 0, none⟩))])) (rfl) (sV (evFA 0 fa94_0 rfl rfl) (sV (evLoadB one32 rfl hB184 rfl) ?_))))
          have hR185 := hE178.rx hU182
          have h186 := (hP_173.frmB hR185 q3)
          have h187 := (hAq.frmB hR185 q3)
          have hk188 := h187.sub (S' := fun b => (b ≠ pf ∧ b ≠ g4 ∧ b ≠ gq) ∧ b < w181.heap.size) fun _ hb hs => ⟨hs, hb⟩
          have hB189 := (hB158.frm hR185 q1)
          have h190 := (hOq.frmB hR185 q3)
          refine sO (oCall rfl call56 (squarefree_refine_1 h186 hB189 h190 (by intro b hlt hb; (try dsimp only at hb ⊢); omega) hfc_173.n.t (by omega) rfl (by omega) (by omega)) rfl ?_)
          rintro _ w192 ⟨A2_191, n2_191, c2_191, g2_191, rfl, hE193, B2_191, hO2_191, hg2_191, hg3_191, hn2_191⟩
          have hz194 := hE193.size
          have ⟨lO_191, kO_191, mO_191⟩ := hO2_191.lkm
          have h195 := (hk188.frmB hE193 q3)
          have hk196 := h195.sub (S' := fun b => b ≠ pf ∧ b ≠ g4 ∧ b ≠ g2_191) fun b hb hs => (by (try dsimp only at hs ⊢); omega)
          refine sDone (bN (xN (hK170 _ _ (wp_region_lit (sV (evAdd (((i : Int)) + 1) rfl rfl wI) (sMi rfl (sDone ?_)))))))
          have hR197 := hR185.tr hE193
          refine again (nf - (i + 1)) (by omega) ⟨(i + 1), (A2_191), (n2_191), (c2_191), (addE fq A_173 n_173 c_173 l_173), (g2_191), rfl, rfl, rfl, rfl, rfl, cI, (Frm.mono (hF157.tr hR197) q4), ?_, ?_, ?_, ?_, ?_, ?_, ?_, ?_, ?_⟩
          · exact B2_191
          · omega
          · exact hO2_191
          · exact AllF.sub hk196 (fun b hb hs => (by (try dsimp only at hs ⊢); omega))
          · omega
          · omega
          · obtain ⟨ls1, h1⟩ := houq; rw [addE_map]; exact refine_last h1 hjj_173 hnj hzk (hfc_173.rest (by omega) hzk hck)
          · exact addE_sm hsq hsf_173
          · omega
        · refine sV (evLss false rfl rfl (dF hc168)) (sK hK167 (wp_seq_k fun K198 hK198 => cF rfl (wp_exit (xE (xE (bE (xN (hK148 _ _ (rS fun K199 hK199 => sV (evLoadB one25 rfl hB158 rfl) (sAs rfl (sK hK199 (wp_ret (ret1 (.slice Aq nq cq) Tryz.results32 (resT rfl) ?_)))))))))))))
          have hr200 : PolysR w151 (fun _ => True) Aq nq cq (fq) 17 := ⟨hOq.1.rd.sub fun _ _ _ => trivial, fun x hx => (hOq.2.2.2.2 x hx).sub fun _ _ _ => trivial⟩
          have hR201 := (hE7.rx hF25).tr hF157
          exact ⟨Aq, nq, cq, fq, gq, g4, rfl, (Frm.mono hR201 q4), hr200, hOq, (by omega), (by obtain ⟨ls1, h1⟩ := houq; exact ⟨ls1, refine_done h1 (by omega) hzk hzj hck hcj⟩), hsq, (by omega)⟩
end Go.Proofs.YtbniolgfaeiedaaGreat
