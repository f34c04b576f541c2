/-
  Walks of package natural: differences and products.
-/
import Derived.Test.YtneolcopompkaaaGreatDoorNat2
namespace Go.Proofs.YtneolcopompkaaaGreatDoor
open Go.RowKit Go.Gx
theorem natural_Sub_1 {w : World} {x1 : Nat} {x2 : Nat} {pc xc : Nat} (b1 : x1 < 4294967296) (b2 : x2 < 4294967296) (Bc : Blk w pc 26 [.int .u32 (xc : Int)]) (bc : xc < 4294967296) (hc : xc ≤ 1) : Calls Tryz.prog 90 #[(.int .u32 ((x1 : Int))), (.int .u32 ((x2 : Int))), (.pointer (some ⟨pc, 0, none⟩))] w (Ret fun v w' => ∃ (xs : Nat) (zc : Nat), v = (.int .u32 ((xs : Int))) ∧ Frm (fun b => b = pc) w w' ∧ xs < 4294967296 ∧ (Blk w' pc 26 [.int .u32 (zc : Int)]) ∧ (xs + x2 + xc = x1 + 4294967296 * zc) ∧ (zc ≤ 1)) := by
  refine enter Tryz.func90 rfl Tryz.ntmps90 rfl (rS fun K1 hK1 => sAi rfl (sK hK1 (rS fun K2 hK2 => sMi rfl (sMi rfl (sV (evLoadB one26 rfl Bc rfl) (sO (oCall rfl call91 (bits_Sub32 (x1 := x1) (by omega) (x2 := x2) (by omega) (x3 := xc) (by omega) (by omega)) rfl ?_)))))))
  rintro _ w4 ⟨xs_3, xc_3, rfl, hE5, bs_3, bc_3, e_3, z_3⟩
  have hz6 := hE5.size
  refine sV (v := (.tuple #[(.int .u32 ((xs_3 : Int))), (.int .u32 ((xc_3 : Int)))])) (rfl) (sV (v := (.int .u32 ((xs_3 : Int)))) (rfl) (sV (v := (.int .u32 ((xc_3 : Int)))) (rfl) (sAi rfl (sAi rfl (sK hK2 (rS fun K7 hK7 => sMi rfl ?_))))))
  have hB8 := (Bc.ext hE5)
  refine sO (oStore [(.int .u32 ((xc_3 : Int)))] rfl rfl rfl sz26 rfl hB8 (Nat.le_of_ble_eq_true rfl) (fun w9 hU10 hz11 hB12 => ?_))
  replace hB12 : Blk w9 pc 26 [(.int .u32 ((xc_3 : Int)))] := hB12
  refine sK hK7 (rS fun K13 hK13 => sMi rfl (sAi rfl (sK hK13 (wp_ret (ret1 (.int .u32 ((xs_3 : Int))) Tryz.results90 (resT rfl) ?_)))))
  have hR14 := hE5.rx hU10
  exact ⟨(xs_3), xc_3, rfl, hR14, (by omega), hB12, (by omega), (by omega)⟩
theorem natural_Sub {w : World} {Sa : Nat → Prop} {Aa : Option Addr} {na ca : Nat} {da : List Nat} {Sb : Nat → Prop} {Ab : Option Addr} {nb cb : Nat} {db : List Nat} (ha : NatR w Sa Aa na ca da) (hb : NatR w Sb Ab nb cb db) (hna : na ≤ 1099511627776) (hnb : nb ≤ 1099511627776) : Calls Tryz.prog 48 #[(.slice Aa na ca), (.slice Ab nb cb)] w (Ret fun v w' => ∃ (Ar : Option Addr) (nr : Nat) (cr : Nat) (dr : List Nat) (gk : Bool), v = (.tuple #[(.slice Ar nr cr), (.bool gk)]) ∧ Ext w w' ∧ NatR w' (fun b => w.heap.size ≤ b) Ar nr cr dr ∧ (gk = decide (val db ≤ val da)) ∧ (val dr = val da - val db) ∧ (Canon isZ dr) ∧ (nr ≤ na)) := by
  have ⟨la, ka, ma⟩ := ha.lkm
  replace ha := ha.low
  have ⟨lb, kb, mb⟩ := hb.lkm
  replace hb := hb.low
  refine enter Tryz.func48 rfl Tryz.ntmps48 rfl (rS fun K1 hK1 => sAs rfl (sAb rfl (sK hK1 (rS fun K2 hK2 => sMs rfl (sO (oCall rfl call87 (natural_trim ha) rfl ?_))))))
  rintro _ w4 ⟨Ar_3, nr_3, cr_3, dr_3, rfl, hE5, hr_3, e_3, le_3⟩
  have hz6 := hE5.size
  have ⟨lr_3, kr_3, mr_3⟩ := hr_3.lkm
  refine sMs rfl ?_
  have h8 := (hb.ext hE5)
  refine sO (oCall rfl call87 (natural_trim h8) rfl ?_)
  rintro _ w10 ⟨Ar_9, nr_9, cr_9, dr_9, rfl, hE11, hr_9, e_9, le_9⟩
  have hz12 := hE11.size
  have ⟨lr_9, kr_9, mr_9⟩ := hr_9.lkm
  refine sAs rfl (sAs rfl (sK hK2 (wp_seq_k fun K14 hK14 => rS fun K15 hK15 => sMs rfl (sMs rfl ?_))))
  have h16 := (hr_3.ext hE11)
  refine sO (oCall rfl call47 (natural_Cmp h16 hr_9) rfl ?_)
  rintro _ w18 ⟨xr_17, rfl, hE19, e_17⟩
  have hz20 := hE19.size
  by_cases hc21 : xr_17 < 0
  · refine sV (evLss true rfl rfl (dT hc21)) ?_
    have hcm := lt_trims e_3 e_9 (cmpN_neg e_17 hc21)
    refine sK hK15 (cT rfl (rS fun K22 hK22 => sAs rfl (sAb rfl (sK hK22 (wp_ret (xR (ret2 (.slice none 0 0) (.bool false) Tryz.results48 (resT rfl) (resT rfl) ?_)))))))
    have hR23 := (hE5.trans hE11).trans hE19
    exact ⟨none, 0, 0, ([]), (false), rfl, hR23, NatR.nil, (by simp; omega), (by simp [val]; omega), (canon_nil _), (by omega)⟩
  · refine sV (evLss false rfl rfl (dF hc21)) ?_
    have hcv := cmpN_nn e_17 hc21
    have hcm := le_trims e_3 e_9 hcv
    have hcl := canon_len_le hr_3.2 (by rw [e_9]; exact canon_trim _ _) hcv
    refine sK hK15 (cF rfl (wp_skip (xN (hK14 _ _ (rS fun K24 hK24 => sO (oAlloc [(.int .u32 (0))] zero26 rfl (fun g25 w26 hg27 hE28 hz29 hB30 => sK hK24 (rS fun K31 hK31 => sV (v := (.func (.func 90) #[] #[(.pointer (some ⟨g25, 0, none⟩))])) (evK (by kernel_rfl)) (sV (v := (.func (.func 90) #[] #[(.pointer (some ⟨g25, 0, none⟩))])) (rfl) (sK hK31 (rS fun K32 hK32 => sMs rfl (sV (evLen Tryz.underlying23 rfl) (sO (oMake1 nr_3 Tryz.underlying23 inf26 rfl cI cI (by omega) (by omega) (fun g33 w34 hg35 hE36 hz37 hB38 => ?_)))))))))))))))
    have hB39 : Blk w34 g33 26 (((List.replicate nr_3 0)).map u32) := by rw [List.map_replicate]; exact hB38
    refine sAs rfl (sK hK32 (wp_seq_k fun K40 hK40 => rS fun K41 hK41 => sMs rfl (sV (evLen Tryz.underlying23 rfl) (sMi rfl (sK hK41 (wp_block ?_))))))
    have hB43 := (hB30.ext hE36)
    refine lLoop (fun m e w_ => ∃ (k : Nat) (P : List Nat) (cy : Nat), m = nr_9 - k ∧ e 0 = (.slice Ar_3 nr_3 cr_3) ∧ e 1 = (.slice Ar_9 nr_9 cr_9) ∧ e 7 = (.func (.func 90) #[] #[(.pointer (some ⟨g25, 0, none⟩))]) ∧ e 8 = (.slice (some ⟨g33, 0, none⟩) nr_3 nr_3) ∧ e 24 = (.slice Ar_9 nr_9 cr_9) ∧ e 25 = (.int .i64 ((nr_9 : Int))) ∧ e 26 = (.int .i64 ((k : Int))) ∧ Frm (fun b => b = g25 ∨ b = g33) w34 w_ ∧ Blk w_ g25 26 ([.int .u32 (cy : Int)]) ∧ Blk w_ g33 26 ((P ++ List.replicate (nr_3 - k) 0).map u32) ∧ (k ≤ nr_9) ∧ (0 ≤ k) ∧ (P.length = k) ∧ (∀ d ∈ P, d < BS) ∧ (cy ≤ 1) ∧ (val P + val (dr_9.take k) = val (dr_3.take k) + BS ^ k * cy)) (nr_9 - (0)) ?_ ?_
    · refine ⟨(0), ([]), (0), rfl, rfl, rfl, rfl, rfl, rfl, rfl, cI, (Frm.refl _ _), ?_, ?_, ?_, ?_, ?_, ?_, ?_, ?_⟩
      · exact hB43
      · simpa using hB39
      · omega
      · omega
      · rfl
      · simp
      · omega
      · simp [val]
    · rintro m42 e56 w44 ⟨k, P, cy, hm55, hs45, hs46, hs47, hs48, hs49, hs50, hs51, hF52, hB53, hB54, hk, hl, hP, hlt, hcy, hv⟩
      obtain ⟨r57, rfl⟩ := sq (e := e56) (t := 0) hs45
      obtain ⟨r58, rfl⟩ := sq (e := r57) (t := 1) hs46
      obtain ⟨r59, rfl⟩ := sq (e := r58) (t := 7) hs47
      obtain ⟨r60, rfl⟩ := sq (e := r59) (t := 8) hs48
      obtain ⟨r61, rfl⟩ := sq (e := r60) (t := 24) hs49
      obtain ⟨r62, rfl⟩ := sq (e := r61) (t := 25) hs50
      obtain ⟨r63, rfl⟩ := sq (e := r62) (t := 26) hs51
      have hz64 := hF52.size
      refine rS fun K65 hK65 => ?_
      by_cases hc66 : ((k : Int)) < ((nr_9 : Int))
      · refine sV (evLss true rfl rfl (dT hc66)) (sK hK65 (wp_seq_k fun K67 hK67 => cT rfl (wp_skip (xN (hK67 _ _ (wp_seq_k fun K68 hK68 => wp_block (rS fun K69 hK69 => sMi rfl ?_)))))))
        have hR70 := ((hE19.trans hE28).trans hE36).rx hF52
        have h71 := (hr_9.frmB hR70 q3)
        obtain ⟨b72, o73, rfl⟩ := h71.base (by omega)
        refine sV (evIx k Tryz.underlying23 sz26 rfl rfl (o73 + k)) ?_
        have hd74 := h71.lt k
        refine sV (evLoad one26 rfl (h71.cell (by omega))) (sAi rfl (sAi rfl (sK hK69 (wp_region_lit (sMs rfl (sMi rfl (sV (v := (.func (.func 90) #[] #[(.pointer (some ⟨g25, 0, none⟩))])) (rfl) (sMs rfl (sMi rfl ?_)))))))))
        have h75 := (h16.frmB hR70 q3)
        obtain ⟨b76, o77, rfl⟩ := h75.base (by omega)
        refine sV (evIx k Tryz.underlying23 sz26 rfl rfl (o77 + k)) ?_
        have hd78 := h75.lt k
        refine sV (evLoad one26 rfl (h75.cell (by omega))) (sMi rfl (sO (oCall rfl call90 (natural_Sub_1 (x1 := dr_3.getD k 0) (by omega) (x2 := dr_9.getD k 0) (by omega) (xc := cy) hB53 (by omega) (by omega)) rfl ?_)))
        rintro _ w80 ⟨xs_79, zc_79, rfl, hE81, bs_79, B_79, e_79, z_79⟩
        have hz82 := hE81.size
        refine sV (evIx k Tryz.underlying23 sz26 rfl rfl k) ?_
        have hB83 := (hB54.frm hE81 q1)
        refine sO (oStore1 rfl rfl rfl sz26 hB83 (by exact lq) (fun w84 hU85 hz86 hB87 => ?_))
        replace hB87 : Blk w84 g33 26 (((P ++ [xs_79]) ++ List.replicate (nr_3 - (k + 1)) 0).map u32) := by rw [← (fill_set2 hP (by omega) : (P ++ List.replicate (nr_3 - k) 0).set k xs_79 = (P ++ [xs_79]) ++ List.replicate (nr_3 - (k + 1)) 0), List.map_set]; exact hB87
        refine sDone (bN (xN (hK68 _ _ (wp_region_lit (sV (evAdd (((k : Int)) + 1) rfl rfl wI) (sMi rfl (sDone ?_)))))))
        have hR88 := hE81.tr hU85
        have hB89 := (B_79.frm hU85 q1)
        refine again (nr_9 - (k + 1)) (by omega) ⟨(k + 1), (P ++ [xs_79]), (zc_79), rfl, rfl, rfl, rfl, rfl, rfl, rfl, cI, (Frm.mono (hF52.tr hR88) q4), ?_, ?_, ?_, ?_, ?_, ?_, ?_, ?_⟩
        · exact hB89
        · exact hB87
        · omega
        · omega
        · simp [hP]
        · exact lt_snoc hlt (by omega)
        · omega
        · exact sub_step hv hP (by omega)
      · refine sV (evLss false rfl rfl (dF hc66)) (sK hK65 (wp_seq_k fun K90 hK90 => cF rfl (wp_exit (xE (xE (bE (xN (hK40 _ _ (wp_seq_k fun K91 hK91 => rS fun K92 hK92 => sMs rfl (sV (evLen Tryz.underlying23 rfl) (sAi rfl (sK hK92 (wp_block ?_)))))))))))))
        refine lLoop (fun m e w_ => ∃ (k2 : Nat) (P2 : List Nat) (cy2 : Nat), m = nr_3 - k2 ∧ e 0 = (.slice Ar_3 nr_3 cr_3) ∧ e 7 = (.func (.func 90) #[] #[(.pointer (some ⟨g25, 0, none⟩))]) ∧ e 8 = (.slice (some ⟨g33, 0, none⟩) nr_3 nr_3) ∧ e 11 = (.int .i64 ((k2 : Int))) ∧ Frm (fun b => b = g25 ∨ b = g33) w44 w_ ∧ Blk w_ g25 26 ([.int .u32 (cy2 : Int)]) ∧ Blk w_ g33 26 ((P2 ++ List.replicate (nr_3 - k2) 0).map u32) ∧ (k2 ≤ nr_3) ∧ (nr_9 ≤ k2) ∧ (P2.length = k2) ∧ (∀ d ∈ P2, d < BS) ∧ (cy2 ≤ 1) ∧ (val P2 + val (dr_9.take k2) = val (dr_3.take k2) + BS ^ k2 * cy2)) (nr_3 - (k)) ?_ ?_
        · refine ⟨(k), (P), (cy), rfl, rfl, rfl, rfl, cI, (Frm.refl _ _), ?_, ?_, ?_, ?_, ?_, ?_, ?_, ?_⟩
          · exact hB53
          · exact hB54
          · omega
          · omega
          · exact hP
          · exact hlt
          · omega
          · exact hv
        · rintro m93 e103 w94 ⟨k2, P2, cy2, hm102, hs95, hs96, hs97, hs98, hF99, hB100, hB101, hk2, hl2, hP2, hlt2, hcy2, hv2⟩
          obtain ⟨r104, rfl⟩ := sq (e := e103) (t := 0) hs95
          obtain ⟨r105, rfl⟩ := sq (e := r104) (t := 7) hs96
          obtain ⟨r106, rfl⟩ := sq (e := r105) (t := 8) hs97
          obtain ⟨r107, rfl⟩ := sq (e := r106) (t := 11) hs98
          have hz108 := hF99.size
          refine wp_seq_k fun K109 hK109 => rS fun K110 hK110 => sMi rfl (sMs rfl (sV (evLen Tryz.underlying23 rfl) ?_))
          by_cases hc111 : ((k2 : Int)) < ((nr_3 : Int))
          · refine sV (evLss true rfl rfl (dT hc111)) (sK hK110 (cT rfl (wp_skip (xN (hK109 _ _ (wp_seq_k fun K112 hK112 => wp_block (wp_region_lit (sMs rfl (sMi rfl (sV (v := (.func (.func 90) #[] #[(.pointer (some ⟨g25, 0, none⟩))])) (rfl) (sMs rfl (sMi rfl ?_))))))))))))
            have hR113 := (((hE19.trans hE28).trans hE36).rx hF52).trans hF99
            have h114 := (h16.frmB hR113 q3)
            obtain ⟨b115, o116, rfl⟩ := h114.base (by omega)
            refine sV (evIx k2 Tryz.underlying23 sz26 rfl rfl (o116 + k2)) ?_
            have hd117 := h114.lt k2
            refine sV (evLoad one26 rfl (h114.cell (by omega))) (sO (oCall rfl call90 (natural_Sub_1 (x1 := dr_3.getD k2 0) (by omega) (x2 := 0) (by omega) (xc := cy2) hB100 (by omega) (by omega)) rfl ?_))
            rintro _ w119 ⟨xs_118, zc_118, rfl, hE120, bs_118, B_118, e_118, z_118⟩
            have hz121 := hE120.size
            refine sV (evIx k2 Tryz.underlying23 sz26 rfl rfl k2) ?_
            have hB122 := (hB101.frm hE120 q1)
            refine sO (oStore1 rfl rfl rfl sz26 hB122 (by exact lq) (fun w123 hU124 hz125 hB126 => ?_))
            replace hB126 : Blk w123 g33 26 (((P2 ++ [xs_118]) ++ List.replicate (nr_3 - (k2 + 1)) 0).map u32) := by rw [← (fill_set2 hP2 (by omega) : (P2 ++ List.replicate (nr_3 - k2) 0).set k2 xs_118 = (P2 ++ [xs_118]) ++ List.replicate (nr_3 - (k2 + 1)) 0), List.map_set]; exact hB126
            refine sDone (bN (xN (hK112 _ _ (wp_region_lit (sMi rfl (sV (evAdd (((k2 : Int)) + 1) rfl rfl wI) (sAi rfl (sDone ?_))))))))
            have hR127 := hE120.tr hU124
            have hB128 := (B_118.frm hU124 q1)
            refine again (nr_3 - (k2 + 1)) (by omega) ⟨(k2 + 1), (P2 ++ [xs_118]), (zc_118), rfl, rfl, rfl, rfl, cI, (Frm.mono (hF99.tr hR127) q4), ?_, ?_, ?_, ?_, ?_, ?_, ?_, ?_⟩
            · exact hB128
            · exact hB126
            · omega
            · omega
            · simp [hP2]
            · exact lt_snoc hlt2 (by omega)
            · omega
            · exact sub_step hv2 hP2 (by rw [getD_ge (ds := dr_9) (n := nr_9) (by omega) k2 (by omega)]; omega)
          · refine sV (evLss false rfl rfl (dF hc111)) (sK hK110 (cF rfl (wp_exit (xE (xE (bE (xN (hK91 _ _ (rS fun K129 hK129 => sMs rfl ?_)))))))))
            have h130 : NatR w94 (fun b => b = g33) (some ⟨g33, 0, none⟩) nr_3 nr_3 (P2 ++ List.replicate (nr_3 - k2) 0) := NatR.of_blk hB101 rfl (lt_fill hlt2) (by exact lq) (by omega) (by unfold CapMax; omega)
            refine sO (oCall rfl call87 (natural_trim h130) rfl ?_)
            rintro _ w132 ⟨Ar_131, nr_131, cr_131, dr_131, rfl, hE133, hr_131, e_131, le_131⟩
            have hz134 := hE133.size
            have ⟨lr_131, kr_131, mr_131⟩ := hr_131.lkm
            refine sAs rfl (sAb rfl (sK hK129 (wp_ret (ret2 (.slice Ar_131 nr_131 cr_131) (.bool true) Tryz.results48 (resT rfl) (resT rfl) ?_))))
            have hR136 := ((((((hE5.trans hE11).trans hE19).trans hE28).trans hE36).rx hF52).trans hF99).xr hE133
            exact ⟨Ar_131, nr_131, cr_131, dr_131, (true), rfl, (Frm.mono hR136 q4), (NatR.sub hr_131 q5), (by simp; omega), (sub_fin e_131 hv2 hP2 hlt2 (by omega) (by omega) hcv e_3 e_9), (by rw [e_131]; exact canon_trim _ _), (by omega)⟩
theorem natural_schoolbook {w : World} {Sa : Nat → Prop} {Aa : Option Addr} {na ca : Nat} {da : List Nat} {Sb : Nat → Prop} {Ab : Option Addr} {nb cb : Nat} {db : List Nat} (ha : NatR w Sa Aa na ca da) (hb : NatR w Sb Ab nb cb db) (hna : na ≤ 1099511627776) (hnb : nb ≤ 1099511627776) : Calls Tryz.prog 126 #[(.slice Aa na ca), (.slice Ab nb cb)] w (Ret fun v w' => ∃ (Ar : Option Addr) (nr : Nat) (cr : Nat) (dr : List Nat), v = (.slice Ar nr cr) ∧ Ext w w' ∧ NatR w' (fun b => w.heap.size ≤ b) Ar nr cr dr ∧ (val dr = val da * val db) ∧ (nr = na + nb)) := by
  have ⟨la, ka, ma⟩ := ha.lkm
  replace ha := ha.low
  have ⟨lb, kb, mb⟩ := hb.lkm
  replace hb := hb.low
  refine enter Tryz.func126 rfl Tryz.ntmps126 rfl (rS fun K1 hK1 => sAs rfl (sK hK1 (rS fun K2 hK2 => sMs rfl (sV (evLen Tryz.underlying23 rfl) (sMs rfl (sV (evLen Tryz.underlying23 rfl) (sV (evAdd (((na : Int)) + ((nb : Int))) rfl rfl wI) (sO (oMake1 (na + nb) Tryz.underlying23 inf26 rfl cI cI (by omega) (by omega) (fun g3 w4 hg5 hE6 hz7 hB8 => ?_))))))))))
  have hB9 : Blk w4 g3 26 (((List.replicate (na + nb) 0)).map u32) := by rw [List.map_replicate]; exact hB8
  refine sAs rfl (sK hK2 (wp_seq_k fun K10 hK10 => rS fun K11 hK11 => sMs rfl (sV (evLen Tryz.underlying23 rfl) (sMi rfl (sK hK11 (wp_block ?_))))))
  refine lLoop (fun m e w_ => ∃ (i : Nat) (Q : List Nat), m = na - i ∧ e 1 = (.slice Ab nb cb) ∧ e 5 = (.slice (some ⟨g3, 0, none⟩) (na + nb) (na + nb)) ∧ e 21 = (.slice Aa na ca) ∧ e 22 = (.int .i64 ((na : Int))) ∧ e 23 = (.int .i64 ((i : Int))) ∧ Frm (fun b => b = g3) w4 w_ ∧ Blk w_ g3 26 ((Q ++ List.replicate (na - i) 0).map u32) ∧ (i ≤ na) ∧ (Q.length = i + nb) ∧ (∀ d ∈ Q, d < BS) ∧ (val Q = val (da.take i) * val db)) (na - (0)) ?_ ?_
  · refine ⟨(0), (List.replicate nb 0), rfl, rfl, rfl, rfl, rfl, cI, (Frm.refl _ _), ?_, ?_, ?_, ?_, ?_⟩
    · rw [List.replicate_append_replicate, show nb + (na - 0) = na + nb by omega]; exact hB9
    · omega
    · simp
    · intro d hd; simp [BS] at hd ⊢; omega
    · simp [val, val_zeros]
  · rintro m12 e22 w13 ⟨i, Q, hm21, hs14, hs15, hs16, hs17, hs18, hF19, hB20, hi, hQ, hQt, hv⟩
    obtain ⟨r23, rfl⟩ := sq (e := e22) (t := 1) hs14
    obtain ⟨r24, rfl⟩ := sq (e := r23) (t := 5) hs15
    obtain ⟨r25, rfl⟩ := sq (e := r24) (t := 21) hs16
    obtain ⟨r26, rfl⟩ := sq (e := r25) (t := 22) hs17
    obtain ⟨r27, rfl⟩ := sq (e := r26) (t := 23) hs18
    have hz28 := hF19.size
    refine rS fun K29 hK29 => ?_
    by_cases hc30 : ((i : Int)) < ((na : Int))
    · refine sV (evLss true rfl rfl (dT hc30)) (sK hK29 (wp_seq_k fun K31 hK31 => cT rfl (wp_skip (xN (hK31 _ _ (wp_seq_k fun K32 hK32 => wp_block (rS fun K33 hK33 => sMi rfl ?_)))))))
      have hR34 := hE6.rx hF19
      have h35 := (ha.frmB hR34 q3)
      obtain ⟨b36, o37, rfl⟩ := h35.base (by omega)
      refine sV (evIx i Tryz.underlying23 sz26 rfl rfl (o37 + i)) ?_
      have hd38 := h35.lt i
      refine sV (evLoad one26 rfl (h35.cell (by omega))) (sAi rfl (sAi rfl (sK hK33 (wp_seq_k fun K39 hK39 => rS fun K40 hK40 => sMi rfl ?_))))
      by_cases hc41 : (((da.getD i 0 : Nat) : Int)) = 0
      · refine sV (evEql true rfl rfl (dT hc41)) (sK hK40 (cT rfl (wp_exit (xE (bE (xN (hK32 _ _ (wp_region_lit (sV (evAdd (((i : Int)) + 1) rfl rfl wI) (sMi rfl (sDone (again (na - (i + 1)) (by omega) ⟨(i + 1), (Q ++ [0]), rfl, rfl, rfl, rfl, rfl, cI, hF19, ?_, ?_, ?_, ?_, ?_⟩))))))))))))
        · rw [List.append_assoc, show ([0] : List Nat) ++ List.replicate (na - (i + 1)) 0 = List.replicate (na - i) 0 from rep_cons (by omega)]; exact hB20
        · omega
        · simp [hQ]; omega
        · exact lt_snoc hQt (by omega)
        · exact mul_skip (by omega) hv
      · refine sV (evEql false rfl rfl (dF hc41)) (sK hK40 (cF rfl (wp_skip (xN (hK39 _ _ (rS fun K42 hK42 => sMs rfl (sMi rfl (sV (evSliceLoAt i Tryz.underlying23 sz26 rfl rfl (by omega) (by omega) (by omega) (by omega) i (by omega)) (sAs rfl (sK hK42 (rS fun K43 hK43 => sAi rfl (sK hK43 (wp_seq_k fun K44 hK44 => rS fun K45 hK45 => sMs rfl (sV (evLen Tryz.underlying23 rfl) (sMi rfl (sK hK45 (wp_block ?_)))))))))))))))))
        refine lLoop (fun m e w_ => ∃ (j : Nat) (R : List Nat) (cy : Nat), m = nb - j ∧ e 1 = (.slice Ab nb cb) ∧ e 5 = (.slice (some ⟨g3, 0, none⟩) (na + nb) (na + nb)) ∧ e 7 = (.int .u32 (((da.getD i 0 : Nat) : Int))) ∧ e 8 = (.slice (some ⟨g3, i, none⟩) ((na + nb) - i) ((na + nb) - i)) ∧ e 9 = (.int .u32 ((cy : Int))) ∧ e 21 = (.slice (some ⟨b36, o37, none⟩) na ca) ∧ e 22 = (.int .i64 ((na : Int))) ∧ e 23 = (.int .i64 ((i : Int))) ∧ e 33 = (.slice Ab nb cb) ∧ e 34 = (.int .i64 ((nb : Int))) ∧ e 35 = (.int .i64 ((j : Int))) ∧ Frm (fun b => b = g3) w13 w_ ∧ Blk w_ g3 26 ((R ++ Q.drop (i + j) ++ List.replicate (na - i) 0).map u32) ∧ (j ≤ nb) ∧ (R.length = i + j) ∧ (∀ d ∈ R, d < BS) ∧ (cy < 4294967296) ∧ (val R + BS ^ (i + j) * cy = val (Q.take (i + j)) + BS ^ i * (da.getD i 0 * val (db.take j)))) (nb - (0)) ?_ ?_
        · refine ⟨(0), (Q.take i), (0), rfl, rfl, rfl, rfl, rfl, cI, rfl, rfl, rfl, rfl, rfl, cI, (Frm.refl _ _), ?_, ?_, ?_, ?_, ?_, ?_⟩
          · rw [Nat.add_zero, List.take_append_drop]; exact hB20
          · omega
          · simp [hQ]
          · exact fun d hd => hQt d (List.mem_of_mem_take hd)
          · omega
          · simp [val]
        · rintro m46 e62 w47 ⟨j, R, cy, hm61, hs48, hs49, hs50, hs51, hs52, hs53, hs54, hs55, hs56, hs57, hs58, hF59, hB60, hj, hR, hRt, hcy, hw⟩
          obtain ⟨r63, rfl⟩ := sq (e := e62) (t := 1) hs48
          obtain ⟨r64, rfl⟩ := sq (e := r63) (t := 5) hs49
          obtain ⟨r65, rfl⟩ := sq (e := r64) (t := 7) hs50
          obtain ⟨r66, rfl⟩ := sq (e := r65) (t := 8) hs51
          obtain ⟨r67, rfl⟩ := sq (e := r66) (t := 9) hs52
          obtain ⟨r68, rfl⟩ := sq (e := r67) (t := 21) hs53
          obtain ⟨r69, rfl⟩ := sq (e := r68) (t := 22) hs54
          obtain ⟨r70, rfl⟩ := sq (e := r69) (t := 23) hs55
          obtain ⟨r71, rfl⟩ := sq (e := r70) (t := 33) hs56
          obtain ⟨r72, rfl⟩ := sq (e := r71) (t := 34) hs57
          obtain ⟨r73, rfl⟩ := sq (e := r72) (t := 35) hs58
          have hz74 := hF59.size
          refine rS fun K75 hK75 => ?_
          by_cases hc76 : ((j : Int)) < ((nb : Int))
          · refine sV (evLss true rfl rfl (dT hc76)) (sK hK75 (wp_seq_k fun K77 hK77 => cT rfl (wp_skip (xN (hK77 _ _ (wp_seq_k fun K78 hK78 => wp_block (rS fun K79 hK79 => sMi rfl ?_)))))))
            have hR80 := hR34.trans hF59
            have h81 := (hb.frmB hR80 q3)
            obtain ⟨b82, o83, rfl⟩ := h81.base (by omega)
            refine sV (evIx j Tryz.underlying23 sz26 rfl rfl (o83 + j)) ?_
            have hd84 := h81.lt j
            refine sV (evLoad one26 rfl (h81.cell (by omega))) (sAi rfl (sAi rfl (sK hK79 (rS fun K85 hK85 => sMi rfl (sMi rfl (sO (oCall rfl call147 (bits_Mul32 (x1 := da.getD i 0) (by omega) (x2 := db.getD j 0) (by omega)) rfl ?_)))))))
            rintro _ w87 ⟨xh_86, xl_86, rfl, hE88, bh_86, bl_86, e_86⟩
            have hz89 := hE88.size
            refine sV (v := (.tuple #[(.int .u32 ((xh_86 : Int))), (.int .u32 ((xl_86 : Int)))])) (rfl) (sV (v := (.int .u32 ((xh_86 : Int)))) (rfl) (sV (v := (.int .u32 ((xl_86 : Int)))) (rfl) (sAi rfl (sAi rfl (sK hK85 (rS fun K90 hK90 => sMi rfl (sMs rfl (sMi rfl (sV (evIx j Tryz.underlying23 sz26 rfl rfl (i + j)) ?_)))))))))
            have hB91 := (hB60.ext hE88)
            have hd92 := getD_lt (ds := R ++ Q.drop (i + j) ++ List.replicate (na - i) 0) (i := i + j) (lt_mid hRt hQt)
            refine sV (evLoad one26 rfl (hB91.dig (by exact lq))) ?_
            have hq := mid_get (Z := List.replicate (na - i) 0) hR (show i + j < Q.length by omega)
            refine sO (oCall rfl call89 (bits_Add32 (x1 := xl_86) (by omega) (x2 := (R ++ Q.drop (i + j) ++ List.replicate (na - i) 0).getD (i + j) 0) (by omega) (x3 := 0) (by omega) (by omega)) rfl ?_)
            rintro _ w94 ⟨xs_93, xc_93, rfl, hE95, bs_93, bc_93, e_93, z_93⟩
            have hz96 := hE95.size
            have hq1 := mul32_le (ha.lt i) (hb.lt j)
            refine sV (v := (.tuple #[(.int .u32 ((xs_93 : Int))), (.int .u32 ((xc_93 : Int)))])) (rfl) (sV (v := (.int .u32 ((xs_93 : Int)))) (rfl) (sV (v := (.int .u32 ((xc_93 : Int)))) (rfl) (sAi rfl (sAi rfl (sK hK90 (rS fun K97 hK97 => sMi rfl (sMi rfl (sV (evAdd (((xh_86 + xc_93 : Nat) : Int)) rfl rfl (wU32 (by omega))) (sAi rfl (sK hK97 (rS fun K98 hK98 => sMi rfl (sMi rfl (sO (oCall rfl call89 (bits_Add32 (x1 := xs_93) (by omega) (x2 := cy) (by omega) (x3 := 0) (by omega) (by omega)) rfl ?_))))))))))))))
            rintro _ w100 ⟨xs_99, xc_99, rfl, hE101, bs_99, bc_99, e_99, z_99⟩
            have hz102 := hE101.size
            have hsum : xs_99 + 4294967296 * (xh_86 + xc_93 + xc_99) = Q.getD (i + j) 0 + da.getD i 0 * db.getD j 0 + cy := by omega
            have hcc := mul_carry (getD_lt hQt) (ha.lt i) (hb.lt j) hcy hsum
            refine sV (v := (.tuple #[(.int .u32 ((xs_99 : Int))), (.int .u32 ((xc_99 : Int)))])) (rfl) (sV (v := (.int .u32 ((xs_99 : Int)))) (rfl) (sV (v := (.int .u32 ((xc_99 : Int)))) (rfl) (sAi rfl (sAi rfl (sK hK98 (rS fun K103 hK103 => sMs rfl (sMi rfl (sMi rfl (sV (evIx j Tryz.underlying23 sz26 rfl rfl (i + j)) ?_)))))))))
            have hR104 := hE95.trans hE101
            have hB105 := (hB91.ext hR104)
            refine sO (oStore1 rfl rfl rfl sz26 hB105 (by exact lq) (fun w106 hU107 hz108 hB109 => ?_))
            replace hB109 : Blk w106 g3 26 (((R ++ [xs_99]) ++ Q.drop (i + j + 1) ++ List.replicate (na - i) 0).map u32) := by rw [← (mid_set hR (by omega) : (R ++ Q.drop (i + j) ++ List.replicate (na - i) 0).set (i + j) xs_99 = (R ++ [xs_99]) ++ Q.drop (i + j + 1) ++ List.replicate (na - i) 0), List.map_set]; exact hB109
            refine sK hK103 (wp_region_lit (sMi rfl (sMi rfl (sV (evAdd ((((xh_86 + xc_93) + xc_99 : Nat) : Int)) rfl rfl (wU32 (by omega))) (sAi rfl (sDone (bN (xN (hK78 _ _ (wp_region_lit (sV (evAdd (((j : Int)) + 1) rfl rfl wI) (sMi rfl (sDone ?_)))))))))))))
            have hR110 := ((hE88.trans hE95).trans hE101).rx hU107
            refine again (nb - (j + 1)) (by omega) ⟨(j + 1), (R ++ [xs_99]), ((xh_86 + xc_93) + xc_99), rfl, rfl, rfl, rfl, rfl, cI, rfl, rfl, rfl, rfl, rfl, cI, (hF59.trans hR110), ?_, ?_, ?_, ?_, ?_, ?_⟩
            · rw [show i + (j + 1) = i + j + 1 from rfl]; exact hB109
            · omega
            · simp [hR]; omega
            · exact lt_snoc hRt (by omega)
            · exact hcc
            · exact mul_step hw hR (by omega)
          · refine sV (evLss false rfl rfl (dF hc76)) (sK hK75 (wp_seq_k fun K111 hK111 => cF rfl (wp_exit (xE (xE (bE (xN (hK44 _ _ (wp_region_lit (sMs rfl (sMs rfl (sV (evLen Tryz.underlying23 rfl) (sMi rfl (sV (evIx nb Tryz.underlying23 sz26 rfl rfl (i + nb)) (sO (oStore1 rfl rfl rfl sz26 hB60 (by exact lq) (fun w112 hU113 hz114 hB115 => ?_)))))))))))))))))
            replace hB115 : Blk w112 g3 26 (((R ++ [cy]) ++ List.replicate (na - (i + 1)) 0).map u32) := by rw [← (row_end (Q := Q) hR (by omega) (by omega) (by omega) : (R ++ Q.drop (i + j) ++ List.replicate (na - i) 0).set (i + nb) cy = (R ++ [cy]) ++ List.replicate (na - (i + 1)) 0), List.map_set]; exact hB115
            refine sDone (bN (xN (hK32 _ _ (wp_region_lit (sV (evAdd (((i : Int)) + 1) rfl rfl wI) (sMi rfl (sDone ?_)))))))
            have hR116 := hF59.trans hU113
            refine again (na - (i + 1)) (by omega) ⟨(i + 1), (R ++ [cy]), rfl, rfl, rfl, rfl, rfl, cI, (hF19.trans hR116), ?_, ?_, ?_, ?_, ?_⟩
            · exact hB115
            · omega
            · simp [hR]; omega
            · exact lt_snoc hRt (by omega)
            · exact mul_row hw hR (by omega) (by omega) hv
    · refine sV (evLss false rfl rfl (dF hc30)) (sK hK29 (wp_seq_k fun K117 hK117 => cF rfl (wp_exit (xE (xE (bE (xN (hK10 _ _ (rS fun K118 hK118 => sMs rfl (sAs rfl (sK hK118 (wp_ret (ret1 (.slice (some ⟨g3, 0, none⟩) (na + nb) (na + nb)) Tryz.results126 (resT rfl) ?_)))))))))))))
      have h119 : NatR w13 (fun b => b = g3) (some ⟨g3, 0, none⟩) (na + nb) (na + nb) (Q ++ List.replicate (na - i) 0) := NatR.of_blk hB20 rfl (lt_fill hQt) (by exact lq) (by omega) (by unfold CapMax; omega)
      have hR120 := hE6.rx hF19
      exact ⟨(some ⟨g3, 0, none⟩), (na + nb), (na + nb), (Q ++ List.replicate (na - i) 0), rfl, (Frm.mono hR120 q4), (NatR.sub h119 q5), (by rw [val_fill, hv, val_take_all da (by omega)]), (by omega)⟩
end Go.Proofs.YtneolcopompkaaaGreatDoor
