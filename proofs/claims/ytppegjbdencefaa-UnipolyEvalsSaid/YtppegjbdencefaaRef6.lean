/-
  Walk of package cylinderref01: division bit by bit.
-/
import Derived.Test.YtppegjbdencefaaRef2
import Derived.Test.YtppegjbdencefaaBitDiv
namespace Go.Proofs.Ytppegjbdencefaa
open Go.RowKit Go.Gx
set_option maxHeartbeats 1000000 in
theorem ref01_DivMod {w : World} {Sa : Nat → Prop} {Aa : Option Addr} {na ca : Nat} {da : List Nat} {Sb : Nat → Prop} {Ab : Option Addr} {nb cb : Nat} {db : List Nat} (ha : DigR 2 w Sa Aa na ca da) (hb : DigR 2 w Sb Ab nb cb db) (hna : na ≤ 1073741824) (hnb : nb ≤ 1073741824) (hb0 : 0 < vb 2 db) : Calls Try.prog 120 #[(.slice Aa na ca), (.slice Ab nb cb)] w (Ret fun v w' => ∃ (Aq : Option Addr) (nq : Nat) (cq : Nat) (dq : List Nat) (Ar : Option Addr) (nr : Nat) (cr : Nat) (dr : List Nat), v = (.tuple #[(.slice Aq nq cq), (.slice Ar nr cr)]) ∧ Ext w w' ∧ DigR 2 w' (fun b => w.heap.size ≤ b) Aq nq cq dq ∧ DigR 2 w' (fun b => w.heap.size ≤ b) Ar nr cr dr ∧ (vb 2 dq = vb 2 da / vb 2 db) ∧ (vb 2 dr = vb 2 da % vb 2 db) ∧ (Canon isZ dq) ∧ (Canon isZ dr) ∧ (nq ≤ na) ∧ (nr ≤ nb)) := by
  have ⟨la, ka, ma⟩ := ha.lkm
  replace ha := ha.low
  have ⟨lb, kb, mb⟩ := hb.lkm
  replace hb := hb.low
  refine enter Try.func120 rfl Try.ntmps120 rfl (rS fun K1 hK1 => sAs rfl (sAs rfl (sK hK1 (rS fun K2 hK2 => sMs rfl (sV (evLen Try.underlying29 rfl) (sO (oMake1 na Try.underlying29 inf3 rfl cI cI (by omega) (by omega) (fun g3 w4 hg5 hE6 hz7 hB8 => ?_))))))))
  have hB9 : Blk w4 g3 3 (((List.replicate na 0)).map i64n) := by rw [List.map_replicate]; exact hB8
  refine sAs rfl (sK hK2 (rS fun K10 hK10 => sMs rfl ?_))
  have h11 := (hb.ext hE6)
  refine sO (oCall rfl call117 (ref01_words h11 (by omega)) rfl ?_)
  rintro _ w13 ⟨Ar_12, nr_12, cr_12, dr_12, rfl, hE14, hr_12, v_12, ln_12, ow_12⟩
  have hz15 := hE14.size
  have ⟨lr_12, kr_12, mr_12⟩ := hr_12.lkm
  refine sAs rfl (sK hK10 (rS fun K17 hK17 => sMs rfl (sV (evLen Try.underlying29 rfl) (sV (evAdd (((nr_12 : Int)) + 1) rfl rfl wI) (sAi rfl (sK hK17 (rS fun K18 hK18 => sMi rfl (sO (oMake1 (nr_12 + 1) Try.underlying29 inf3 rfl cI cI (by omega) (by omega) (fun g19 w20 hg21 hE22 hz23 hB24 => ?_))))))))))
  have hB25 : Blk w20 g19 3 (((List.replicate (nr_12 + 1) 0)).map i64n) := by rw [List.map_replicate]; exact hB24
  refine sAs rfl (sK hK18 (rS fun K26 hK26 => sMs rfl (sO (oBuildSlice [(.int .i64 (0))] [[(.int .i64 (0))]] Try.underlying29 inf3 rfl rfl rfl rfl rfl (fun g27 w28 hg29 hE30 hz31 hB32 => ?_)))))
  replace hB32 : Blk w28 g27 3 [(.int .i64 (0))] := hB32
  have hR33 := hE22.trans hE30
  have hO34 := (ow_12.ext hR33)
  refine sO (oAppD (B := w4.heap.size) (U := w13.heap.size) (cs := (dr_12).map i64n) Try.underlying29 inf3 rfl (by decide) rfl rfl hO34 hB32 rfl rfl (by omega) (by omega) (by omega) ow_12.lt (fun Ad cd w35 hOd hFd hPd => ?_))
  have hzd := hFd.size
  replace hOd : Own w35 w4.heap.size 3 1 Ad (nr_12 + 1) cd ((dr_12 ++ [0]).map i64n) := by rw [List.map_append]; exact hOd
  have hDt : ∀ d ∈ dr_12 ++ [0], d < 32768 := vlt_snoc hr_12.2 (by decide)
  have hdd := hOd.away (p := g3) (q := g19) hDt fun a ha => by have h := hPd a ha; omega
  have hDv : vb 32768 (dr_12 ++ [0]) = vb 2 db := by rw [vb_snoc_zero, v_12]
  obtain ⟨DD, hDD⟩ : ∃ D, D = dr_12 ++ [0] := ⟨_, rfl⟩
  rw [← hDD] at hdd hDt hDv
  have ⟨ldd, kdd, mdd⟩ := hdd.lkm
  refine sAs rfl (sK hK26 (wp_seq_k fun K37 hK37 => rS fun K38 hK38 => sMs rfl (sV (evLen Try.underlying29 rfl) (sV (evSub (((na : Int)) - 1) rfl rfl wI) (sAi rfl (sK hK38 (wp_block ?_)))))))
  have hR40 := ((hE14.trans hE22).trans hE30).rx hFd
  have hB41 := (hB9.frm hR40 q1)
  have hR42 := hE30.rx hFd
  have hB43 := (hB25.frm hR42 q1)
  refine lLoop (fun m e w_ => ∃ (k : Nat) (Q : List Nat) (R : List Nat), m = k ∧ e 0 = (.slice Aa na ca) ∧ e 6 = (.slice (some ⟨g3, 0, none⟩) na na) ∧ e 7 = (.slice Ad (nr_12 + 1) cd) ∧ e 8 = (.int .i64 (((nr_12 : Int)) + 1)) ∧ e 9 = (.slice (some ⟨g19, 0, none⟩) (nr_12 + 1) (nr_12 + 1)) ∧ e 10 = (.int .i64 ((k : Int) - 1)) ∧ Frm (fun b => b = g3 ∨ b = g19) w35 w_ ∧ Blk w_ g3 3 ((List.replicate k 0 ++ Q).map i64n) ∧ Blk w_ g19 3 (R.map i64n) ∧ (k ≤ na) ∧ (Q.length = na - k) ∧ (∀ d ∈ Q, d < 2) ∧ (R.length = nr_12 + 1) ∧ (∀ d ∈ R, d < 32768) ∧ (vb 2 Q = vb 2 (da.drop k) / vb 2 db) ∧ (vb 32768 R = vb 2 (da.drop k) % vb 2 db)) ((na)) ?_ ?_
  · refine ⟨(na), ([]), (List.replicate (nr_12 + 1) 0), rfl, rfl, rfl, rfl, rfl, rfl, cI, (Frm.refl _ _), ?_, ?_, ?_, ?_, ?_, ?_, ?_, ?_, ?_⟩
    · simpa using hB41
    · exact hB43
    · omega
    · simp
    · simp
    · simp
    · exact vlt_zeros (by decide) _
    · rw [List.drop_of_length_le (by omega)]; simp [vb]
    · rw [vb_zeros, List.drop_of_length_le (by omega)]; simp [vb]
  · rintro m39 e55 w44 ⟨k, Q, R, hm54, hs45, hs46, hs47, hs48, hs49, hs50, hF51, hB52, hB53, hk, hQl, hQt, hR, hRt, hq, hr⟩
    obtain ⟨r56, rfl⟩ := sq (e := e55) (t := 0) hs45
    obtain ⟨r57, rfl⟩ := sq (e := r56) (t := 6) hs46
    obtain ⟨r58, rfl⟩ := sq (e := r57) (t := 7) hs47
    obtain ⟨r59, rfl⟩ := sq (e := r58) (t := 8) hs48
    obtain ⟨r60, rfl⟩ := sq (e := r59) (t := 9) hs49
    obtain ⟨r61, rfl⟩ := sq (e := r60) (t := 10) hs50
    have hz62 := hF51.size
    refine wp_seq_k fun K63 hK63 => rS fun K64 hK64 => sMi rfl ?_
    by_cases hc65 : ((k : Int) - 1) ≥ 0
    · refine sV (evGeq true rfl rfl (dT hc65)) (sK hK64 (cT rfl (wp_skip (xN (hK63 _ _ (wp_seq_k fun K66 hK66 => wp_block (rS fun K67 hK67 => sMs rfl (sMi rfl ?_))))))))
      have hR68 := ((((hE6.trans hE14).trans hE22).trans hE30).rx hFd).tr hF51
      have h69 := (ha.frmB hR68 q3)
      obtain ⟨b70, o71, rfl⟩ := h69.base (by omega)
      refine sV (evIx (k - 1) Try.underlying29 sz3 rfl rfl (o71 + (k - 1))) ?_
      have hd72 := h69.lt (k - 1)
      refine sV (evLoad one3 rfl (h69.cell (by omega))) (sAi rfl (sK hK67 (wp_seq_k fun K73 hK73 => rS fun K74 hK74 => sAi rfl (sK hK74 (wp_block ?_)))))
      refine lLoop (fun m e w_ => ∃ (j : Nat) (P : List Nat) (cy : Nat), m = nr_12 + 1 - j ∧ e 0 = (.slice (some ⟨b70, o71, none⟩) na ca) ∧ e 6 = (.slice (some ⟨g3, 0, none⟩) na na) ∧ e 7 = (.slice Ad (nr_12 + 1) cd) ∧ e 8 = (.int .i64 (((nr_12 : Int)) + 1)) ∧ e 9 = (.slice (some ⟨g19, 0, none⟩) (nr_12 + 1) (nr_12 + 1)) ∧ e 10 = (.int .i64 ((k : Int) - 1)) ∧ e 11 = (.int .i64 ((cy : Int))) ∧ e 12 = (.int .i64 ((j : Int))) ∧ Frm (fun b => b = g19) w44 w_ ∧ Blk w_ g19 3 ((P ++ R.drop j).map i64n) ∧ (j ≤ nr_12 + 1) ∧ (P.length = j) ∧ (∀ d ∈ P, d < 32768) ∧ (cy ≤ 1) ∧ (vb 32768 P + 32768 ^ j * cy = 2 * vb 32768 (R.take j) + da.getD (k - 1) 0)) (nr_12 + 1 - (0)) ?_ ?_
      · refine ⟨(0), ([]), (da.getD (k - 1) 0), rfl, rfl, rfl, rfl, rfl, rfl, rfl, cI, cI, (Frm.refl _ _), ?_, ?_, ?_, ?_, ?_, ?_⟩
        · exact hB53
        · omega
        · rfl
        · simp
        · omega
        · simp [vb]
      · rintro m75 e88 w76 ⟨j, P, cy, hm87, hs77, hs78, hs79, hs80, hs81, hs82, hs83, hs84, hF85, hB86, hj, hP, hPt, hcy, hd⟩
        obtain ⟨r89, rfl⟩ := sq (e := e88) (t := 0) hs77
        obtain ⟨r90, rfl⟩ := sq (e := r89) (t := 6) hs78
        obtain ⟨r91, rfl⟩ := sq (e := r90) (t := 7) hs79
        obtain ⟨r92, rfl⟩ := sq (e := r91) (t := 8) hs80
        obtain ⟨r93, rfl⟩ := sq (e := r92) (t := 9) hs81
        obtain ⟨r94, rfl⟩ := sq (e := r93) (t := 10) hs82
        obtain ⟨r95, rfl⟩ := sq (e := r94) (t := 11) hs83
        obtain ⟨r96, rfl⟩ := sq (e := r95) (t := 12) hs84
        have hz97 := hF85.size
        refine wp_seq_k fun K98 hK98 => rS fun K99 hK99 => sMi rfl (sMi rfl ?_)
        by_cases hc100 : ((j : Int)) < (((nr_12 : Int)) + 1)
        · refine sV (evLss true rfl rfl (dT hc100)) (sK hK99 (cT rfl (wp_skip (xN (hK98 _ _ (wp_seq_k fun K101 hK101 => wp_block (rS fun K102 hK102 => sMs rfl (sMi rfl (sV (evIx j Try.underlying29 sz3 rfl rfl j) ?_)))))))))
          have hd103 := vgetD_lt (P := P ++ R.drop j) (i := j) (vlt_part hPt hRt) (by decide)
          refine sV (evLoad one3 rfl (hB86.digi (by exact lq))) ?_
          generalize hq50 : (P ++ R.drop j).getD j 0 = q50 at *
          have hp50 := hq50.symm.trans (part_get hP (by omega))
          refine sV (evMul (2 * ((q50 : Int))) rfl rfl wI) (sMi rfl (sV (evAdd ((2 * ((q50 : Int))) + ((cy : Int))) rfl rfl wI) (sAi rfl (sK hK102 (rS fun K104 hK104 => sMs rfl (sMi rfl (sMi rfl (sV (evRem (((((2 * q50) + cy) % 32768 : Nat) : Int)) rfl rfl (by omega) (remE (by omega) (by omega))) (sV (evIx j Try.underlying29 sz3 rfl rfl j) (sO (oStore1 rfl rfl rfl sz3 hB86 (by exact lq) (fun w105 hU106 hz107 hB108 => ?_))))))))))))
          replace hB108 : Blk w105 g19 3 (((P ++ [((2 * q50) + cy) % 32768]) ++ R.drop (j + 1)).map i64n) := by rw [← (part_set hP (by omega) : (P ++ R.drop j).set j (((2 * q50) + cy) % 32768) = (P ++ [((2 * q50) + cy) % 32768]) ++ R.drop (j + 1)), List.map_set]; exact hB108
          refine sK hK104 (wp_region_lit (sMi rfl (sV (evQuo (((((2 * q50) + cy) / 32768 : Nat) : Int)) rfl rfl (by omega) (quoEi64 (by omega) (by omega) (by omega))) (sAi rfl (sDone (bN (xN (hK101 _ _ (wp_region_lit (sMi rfl (sV (evAdd (((j : Int)) + 1) rfl rfl wI) (sAi rfl (sDone (again (nr_12 + 1 - (j + 1)) (by omega) ⟨(j + 1), (P ++ [((2 * q50) + cy) % 32768]), (((2 * q50) + cy) / 32768), rfl, rfl, rfl, rfl, rfl, rfl, rfl, cI, cI, (hF85.trans hU106), ?_, ?_, ?_, ?_, ?_, ?_⟩))))))))))))))
          · exact hB108
          · omega
          · simp [hP]
          · exact vlt_snoc hPt (by omega)
          · omega
          · exact dbl_step hd hP (by omega)
        · refine sV (evLss false rfl rfl (dF hc100)) (sK hK99 (cF rfl (wp_exit (xE (xE (bE (xN (hK73 _ _ (wp_seq_k fun K109 hK109 => ?_)))))))))
          rw [List.drop_of_length_le (show R.length ≤ j by omega), List.append_nil] at hB86
          have hP2 := dbl_end hd (show j = nr_12 + 1 by omega) (by omega) (show _ < vb 2 db by rw [hr]; exact Nat.mod_lt _ hb0) (by omega) (word_bound v_12 hr_12.2 (by omega))
          refine wp_region_lit (sMi rfl (sV (evSub ((((nr_12 : Int)) + 1) - 1) rfl rfl wI) (sAi rfl (sK hK109 (wp_seq_k fun K110 hK110 => wp_block ?_)))))
          refine lLoop (fun m e w_ => ∃ (t : Nat), m = t ∧ e 0 = (.slice (some ⟨b70, o71, none⟩) na ca) ∧ e 6 = (.slice (some ⟨g3, 0, none⟩) na na) ∧ e 7 = (.slice Ad (nr_12 + 1) cd) ∧ e 8 = (.int .i64 (((nr_12 : Int)) + 1)) ∧ e 9 = (.slice (some ⟨g19, 0, none⟩) (nr_12 + 1) (nr_12 + 1)) ∧ e 10 = (.int .i64 ((k : Int) - 1)) ∧ e 14 = (.int .i64 ((t : Int))) ∧ Frm (fun b => False) w76 w_ ∧ (t < nr_12 + 1) ∧ (∀ i, t + 1 ≤ i → P.getD i 0 = DD.getD i 0)) (((nr_12 + 1) - 1)) ?_ ?_
          · refine ⟨((nr_12 + 1) - 1), rfl, rfl, rfl, rfl, rfl, rfl, rfl, cI, (Frm.refl _ _), ?_, ?_⟩
            · omega
            · exact eq_top1 (by omega) (by omega)
          · rintro m111 e122 w112 ⟨t, hm121, hs113, hs114, hs115, hs116, hs117, hs118, hs119, hF120, ht, heq⟩
            obtain ⟨r123, rfl⟩ := sq (e := e122) (t := 0) hs113
            obtain ⟨r124, rfl⟩ := sq (e := r123) (t := 6) hs114
            obtain ⟨r125, rfl⟩ := sq (e := r124) (t := 7) hs115
            obtain ⟨r126, rfl⟩ := sq (e := r125) (t := 8) hs116
            obtain ⟨r127, rfl⟩ := sq (e := r126) (t := 9) hs117
            obtain ⟨r128, rfl⟩ := sq (e := r127) (t := 10) hs118
            obtain ⟨r129, rfl⟩ := sq (e := r128) (t := 14) hs119
            have hz130 := hF120.size
            refine wp_seq_k fun K131 hK131 => wp_seq_k fun K132 hK132 => ?_
            have hR133 := hF85.xr hF120
            have hB134 := (hB52.frm hR133 q1)
            have hB135 := (hB86.ext hF120)
            have hR136 := ((hFd.tr hF51).tr hF85).xr hF120
            have hB137 := (hB32.frm hR136 q1)
            refine wpJoin (n := 118) (fun e w_ => ∃ (gb : Bool), e 0 = (.slice (some ⟨b70, o71, none⟩) na ca) ∧ e 6 = (.slice (some ⟨g3, 0, none⟩) na na) ∧ e 7 = (.slice Ad (nr_12 + 1) cd) ∧ e 8 = (.int .i64 (((nr_12 : Int)) + 1)) ∧ e 9 = (.slice (some ⟨g19, 0, none⟩) (nr_12 + 1) (nr_12 + 1)) ∧ e 10 = (.int .i64 ((k : Int) - 1)) ∧ e 14 = (.int .i64 ((t : Int))) ∧ e 75 = (.bool gb) ∧ Frm (fun _ => False) w112 w_ ∧ ((gb = true ∧ 0 < t ∧ P.getD t 0 = DD.getD t 0) ∨ (gb = false ∧ (t = 0 ∨ P.getD t 0 ≠ DD.getD t 0)))) ?_ ?_
            · refine dBegin (fun _ => False) mixed (fun w138 hE139 hz140 => dMi 0 rfl rfl ?_)
              by_cases hc141 : ((t : Int)) > 0
              · refine dV 1 rfl (fun _ _ => evGtr true rfl rfl (dT hc141)) (dMb 2 rfl rfl (dEv 3 rfl (v := (.slice (some ⟨g19, 0, none⟩) (nr_12 + 1) (nr_12 + 1))) (fun _ _ => rfl) rfl rfl (by kernel_rfl) (dEv 4 rfl (v := (.int .i64 ((t : Int)))) (fun _ _ => rfl) rfl rfl (by kernel_rfl) (dEv 5 rfl (v := (.pointer (some ⟨g19, t, none⟩))) (fun _ _ => evIx t Try.underlying29 sz3 rfl rfl t) rfl rfl (by kernel_rfl) ?_))))
                have hB142 := (hB135.ext hE139)
                have hd143 := vgetD_lt (P := P) (i := t) hPt (by decide)
                refine dEv 6 rfl (v := (.int .i64 (((P.getD t 0 : Nat) : Int)))) (fun _ hf => evLoad one3 rfl ((hB142.ext hf).digi (by exact lq))) rfl rfl (by kernel_rfl) (dEv 7 rfl (v := (.slice Ad (nr_12 + 1) cd)) (fun _ _ => rfl) rfl rfl (by kernel_rfl) (dEv 8 rfl (v := (.int .i64 ((t : Int)))) (fun _ _ => rfl) rfl rfl (by kernel_rfl) ?_))
                have hR144 := ((hF51.tr hF85).xr hF120).xr hE139
                have h145 := (hdd.frmB hR144 q3)
                obtain ⟨b146, o147, rfl⟩ := h145.base (by omega)
                refine dEv 9 rfl (v := (.pointer (some ⟨b146, o147 + t, none⟩))) (fun _ _ => evIx t Try.underlying29 sz3 rfl rfl (o147 + t)) rfl rfl (by kernel_rfl) ?_
                have hd148 := h145.lt t
                refine dEv 10 rfl (v := (.int .i64 (((DD.getD t 0 : Nat) : Int)))) (fun _ hf => evLoad one3 rfl ((h145.ext hf).cell (by omega))) rfl rfl (by kernel_rfl) ?_
                by_cases hc149 : (((P.getD t 0 : Nat) : Int)) = (((DD.getD t 0 : Nat) : Int))
                · refine dEv 11 rfl (v := (.bool true)) (fun _ _ => evEql true rfl rfl (dT hc149)) rfl rfl (by kernel_rfl) (dV 12 rfl (v := (.bool true)) (fun _ _ => rfl) (dDone (by kernel_rfl) ?_))
                  exact ⟨rfl, _, rfl, (true), rfl, rfl, rfl, rfl, rfl, rfl, rfl, rfl, hE139, (.inl ⟨rfl, by omega, by omega⟩)⟩
                · refine dEv 11 rfl (v := (.bool false)) (fun _ _ => evEql false rfl rfl (dF hc149)) rfl rfl (by kernel_rfl) (dV 12 rfl (v := (.bool false)) (fun _ _ => rfl) (dDone (by kernel_rfl) ?_))
                  exact ⟨rfl, _, rfl, (false), rfl, rfl, rfl, rfl, rfl, rfl, rfl, rfl, hE139, (.inr ⟨rfl, .inr (by omega)⟩)⟩
              · refine dV 1 rfl (fun _ _ => evGtr false rfl rfl (dF hc141)) (dMb 2 rfl rfl (dSkip 3 rfl rfl rfl (by kernel_rfl) (dSkip 4 rfl rfl rfl (by kernel_rfl) (dSkip 5 rfl rfl rfl (by kernel_rfl) (dSkip 6 rfl rfl rfl (by kernel_rfl) (dSkip 7 rfl rfl rfl (by kernel_rfl) (dSkip 8 rfl rfl rfl (by kernel_rfl) (dSkip 9 rfl rfl rfl (by kernel_rfl) (dSkip 10 rfl rfl rfl (by kernel_rfl) (dSkip 11 rfl rfl rfl (by kernel_rfl) (dV 12 rfl (v := (.bool false)) (fun _ _ => rfl) (dDone (by kernel_rfl) ?_))))))))))))
                exact ⟨rfl, _, rfl, (false), rfl, rfl, rfl, rfl, rfl, rfl, rfl, rfl, hE139, (.inr ⟨rfl, .inl (by omega)⟩)⟩
            · rintro e151 w150 ⟨gb, hs153, hs154, hs155, hs156, hs157, hs158, hs159, hs160, hF152, hgb⟩
              obtain ⟨r161, rfl⟩ := sq (e := e151) (t := 0) hs153
              obtain ⟨r162, rfl⟩ := sq (e := r161) (t := 6) hs154
              obtain ⟨r163, rfl⟩ := sq (e := r162) (t := 7) hs155
              obtain ⟨r164, rfl⟩ := sq (e := r163) (t := 8) hs156
              obtain ⟨r165, rfl⟩ := sq (e := r164) (t := 9) hs157
              obtain ⟨r166, rfl⟩ := sq (e := r165) (t := 10) hs158
              obtain ⟨r167, rfl⟩ := sq (e := r166) (t := 14) hs159
              obtain ⟨r168, rfl⟩ := sq (e := r167) (t := 75) hs160
              have hz169 := hF152.size
              refine xN (hK132 _ _ (cB gb rfl ?_ ?_))
              · intro hc170
                subst hc170
                refine wp_skip (xN (hK131 _ _ (wp_block ?_)))
                have hg1 := (hgb.resolve_right fun h => absurd h.1 (by decide)).2
                refine wp_region_lit (sMi rfl (sV (evSub (((t : Int)) - 1) rfl rfl wI) (sAi rfl (sDone (bN (again ((t - 1)) (by omega) ⟨(t - 1), rfl, rfl, rfl, rfl, rfl, rfl, rfl, cI, (hF120.trans hF152), ?_, ?_⟩))))))
                · omega
                · exact eq_down1 heq (by omega) (by omega)
              · intro hc170
                subst hc170
                refine wp_exit (xE (xE (bE (xN (hK110 _ _ (wp_seq_k fun K171 hK171 => wp_seq_k fun K172 hK172 => ?_))))))
                have hg2 := (hgb.resolve_left fun h => absurd h.1 (by decide)).2
                refine dBegin (fun _ => False) mixed (fun w173 hE174 hz175 => dMs 0 rfl rfl (dMi 1 rfl rfl (dV 2 rfl (fun _ _ => evIx t Try.underlying29 sz3 rfl rfl t) ?_)))
                have hR176 := hF152.trans hE174
                have hB177 := (hB135.ext hR176)
                have hd178 := vgetD_lt (P := P) (i := t) hPt (by decide)
                refine dV 3 rfl (fun _ hf => evLoad one3 rfl ((hB177.ext hf).digi (by exact lq))) (dMs 4 rfl rfl (dMi 5 rfl rfl ?_))
                have hR179 := (((hF51.tr hF85).xr hF120).xr hF152).xr hE174
                have h180 := (hdd.frmB hR179 q3)
                obtain ⟨b181, o182, rfl⟩ := h180.base (by omega)
                refine dV 6 rfl (fun _ _ => evIx t Try.underlying29 sz3 rfl rfl (o182 + t)) ?_
                have hd183 := h180.lt t
                refine dV 7 rfl (fun _ hf => evLoad one3 rfl ((h180.ext hf).cell (by omega))) ?_
                by_cases hc184 : (((P.getD t 0 : Nat) : Int)) < (((DD.getD t 0 : Nat) : Int))
                · refine dV 8 rfl (fun _ _ => evLss true rfl rfl (dT hc184)) ?_
                  have hdm := dm_lt (a := da.getD (k - 1) 0) hb0 hq hr (by rw [← hP2, ← hDv]; exact vb_ltk (by decide) t hPt heq (by omega))
                  refine dDone (by kernel_rfl) (xN (hK172 _ _ (cT rfl (wp_exit (xE (bE (xN (hK66 _ _ (wp_region_lit (sMi rfl (sV (evSub (((k : Int) - 1) - 1) rfl rfl wI) (sAi rfl (sDone ?_)))))))))))))
                  have hR185 := (hR133.xr hF152).xr hE174
                  have hB186 := (hB134.ext hR176)
                  refine again ((k - 1)) (by omega) ⟨(k - 1), (0 :: Q), (P), rfl, rfl, rfl, rfl, rfl, rfl, cI, (Frm.mono (hF51.tr hR185) q4), ?_, ?_, ?_, ?_, ?_, ?_, ?_, ?_, ?_⟩
                  · rw [← rep_zero (by omega)]; exact hB186
                  · exact hB177
                  · omega
                  · simp [hQl]; omega
                  · exact vlt_cons (by decide) hQt
                  · omega
                  · exact hPt
                  · rw [vb_drop_pred (B := 2) (ds := da) (k := k) (by omega) (by omega)]; exact (Nat.zero_add _).trans hdm.1
                  · rw [vb_drop_pred (B := 2) (ds := da) (k := k) (by omega) (by omega), hP2]; exact hdm.2
                · refine dV 8 rfl (fun _ _ => evLss false rfl rfl (dF hc184)) ?_
                  have hge : vb 2 db ≤ vb 32768 P := by rw [← hDv]; exact cmp_ge (by decide) hDt heq (by omega) hg2
                  have hdm := dm_ge (a := da.getD (k - 1) 0) hb0 hq hr (by omega) (by rw [← hP2]; exact hge)
                  refine dDone (by kernel_rfl) (xN (hK172 _ _ (cF rfl (wp_skip (xN (hK171 _ _ (rS fun K187 hK187 => sMs rfl (sMi rfl (sV (evIx (k - 1) Try.underlying29 sz3 rfl rfl (k - 1)) ?_)))))))))
                  have hB188 := (hB134.ext hR176)
                  refine sO (oStore1 rfl rfl rfl sz3 hB188 (by exact lq) (fun w189 hU190 hz191 hB192 => ?_))
                  replace hB192 : Blk w189 g3 3 ((List.replicate (k - 1) 0 ++ (1 :: Q)).map i64n) := by rw [← (rep_set (by omega) : (List.replicate k 0 ++ Q).set (k - 1) 1 = List.replicate (k - 1) 0 ++ (1 :: Q)), List.map_set]; exact hB192
                  refine sK hK187 (rS fun K193 hK193 => sAi rfl (sK hK193 (rS fun K194 hK194 => sAi rfl (sK hK194 (wp_block ?_)))))
                  have hB196 := (hB177.frm hU190 q1)
                  refine lLoop (fun m e w_ => ∃ (s : Nat) (W : List Nat) (bo : Nat), m = nr_12 + 1 - s ∧ e 0 = (.slice (some ⟨b70, o71, none⟩) na ca) ∧ e 6 = (.slice (some ⟨g3, 0, none⟩) na na) ∧ e 7 = (.slice (some ⟨b181, o182, none⟩) (nr_12 + 1) cd) ∧ e 8 = (.int .i64 (((nr_12 : Int)) + 1)) ∧ e 9 = (.slice (some ⟨g19, 0, none⟩) (nr_12 + 1) (nr_12 + 1)) ∧ e 10 = (.int .i64 ((k : Int) - 1)) ∧ e 15 = (.int .i64 ((bo : Int))) ∧ e 16 = (.int .i64 ((s : Int))) ∧ Frm (fun b => b = g19) w189 w_ ∧ Blk w_ g19 3 ((W ++ P.drop s).map i64n) ∧ (s ≤ nr_12 + 1) ∧ (W.length = s) ∧ (∀ d ∈ W, d < 32768) ∧ (bo ≤ 1) ∧ (vb 32768 W + vb 32768 (DD.take s) = vb 32768 (P.take s) + 32768 ^ s * bo)) (nr_12 + 1 - (0)) ?_ ?_
                  · refine ⟨(0), ([]), (0), rfl, rfl, rfl, rfl, rfl, rfl, rfl, cI, cI, (Frm.refl _ _), ?_, ?_, ?_, ?_, ?_, ?_⟩
                    · exact hB196
                    · omega
                    · rfl
                    · simp
                    · omega
                    · simp [vb]
                  · rintro m195 e209 w197 ⟨s, W, bo, hm208, hs198, hs199, hs200, hs201, hs202, hs203, hs204, hs205, hF206, hB207, hs, hW, hWt, hbo, hw⟩
                    obtain ⟨r210, rfl⟩ := sq (e := e209) (t := 0) hs198
                    obtain ⟨r211, rfl⟩ := sq (e := r210) (t := 6) hs199
                    obtain ⟨r212, rfl⟩ := sq (e := r211) (t := 7) hs200
                    obtain ⟨r213, rfl⟩ := sq (e := r212) (t := 8) hs201
                    obtain ⟨r214, rfl⟩ := sq (e := r213) (t := 9) hs202
                    obtain ⟨r215, rfl⟩ := sq (e := r214) (t := 10) hs203
                    obtain ⟨r216, rfl⟩ := sq (e := r215) (t := 15) hs204
                    obtain ⟨r217, rfl⟩ := sq (e := r216) (t := 16) hs205
                    have hz218 := hF206.size
                    refine wp_seq_k fun K219 hK219 => rS fun K220 hK220 => sMi rfl (sMi rfl ?_)
                    by_cases hc221 : ((s : Int)) < (((nr_12 : Int)) + 1)
                    · refine sV (evLss true rfl rfl (dT hc221)) (sK hK220 (cT rfl (wp_skip (xN (hK219 _ _ (wp_seq_k fun K222 hK222 => wp_block (wp_seq_k fun K223 hK223 => dBegin (fun _ => False) mixed (fun w224 hE225 hz226 => dMs 0 rfl rfl (dMi 1 rfl rfl (dV 2 rfl (fun _ _ => evIx s Try.underlying29 sz3 rfl rfl s) ?_))))))))))
                      have hB227 := (hB207.ext hE225)
                      have hd228 := vgetD_lt (P := W ++ P.drop s) (i := s) (vlt_part hWt hPt) (by decide)
                      refine dV 3 rfl (fun _ hf => evLoad one3 rfl ((hB227.ext hf).digi (by exact lq))) ?_
                      generalize hq98 : (W ++ P.drop s).getD s 0 = q98 at *
                      have hp98 := hq98.symm.trans (part_get hW (by omega))
                      refine dMs 4 rfl rfl (dMi 5 rfl rfl (dV 6 rfl (fun _ _ => evIx s Try.underlying29 sz3 rfl rfl (o182 + s)) ?_))
                      have hR229 := (hU190.tr hF206).xr hE225
                      have h230 := (h180.frmB hR229 q3)
                      have hd231 := h230.lt s
                      refine dV 7 rfl (fun _ hf => evLoad one3 rfl ((h230.ext hf).cell (by omega))) (dV 8 rfl (fun _ _ => evSub (((q98 : Int)) - (((DD.getD s 0 : Nat) : Int))) rfl rfl wI) (dMi 9 rfl rfl (dV 10 rfl (fun _ _ => evSub ((((q98 : Int)) - (((DD.getD s 0 : Nat) : Int))) - ((bo : Int))) rfl rfl wI) (dAi 11 rfl rfl (dDone (by kernel_rfl) (xN (hK223 _ _ (rS fun K232 hK232 => sAi rfl (sK hK232 (wp_seq_k fun K233 hK233 => rS fun K234 hK234 => sMi rfl ?_))))))))))
                      by_cases hc235 : ((((q98 : Int)) - (((DD.getD s 0 : Nat) : Int))) - ((bo : Int))) < 0
                      · refine sV (evLss true rfl rfl (dT hc235)) (sK hK234 (cT rfl (rS fun K236 hK236 => sMi rfl (sV (evAdd (((((q98 : Int)) - (((DD.getD s 0 : Nat) : Int))) - ((bo : Int))) + 32768) rfl rfl wI) (sAi rfl (sK hK236 (wp_region_lit (sAi rfl (sK hK233 (wp_region_lit (sMs rfl (sMi rfl (sV (v := (.int .i64 (((q98 + 32768 - DD.getD s 0 - bo : Nat) : Int)))) (by rw [show ((q98 + 32768 - DD.getD s 0 - bo : Nat) : Int) = ((((q98 : Int)) - (((DD.getD s 0 : Nat) : Int))) - ((bo : Int))) + 32768 by omega]; rfl) (sV (evIx s Try.underlying29 sz3 rfl rfl s) (sO (oStore1 rfl rfl rfl sz3 hB227 (by exact lq) (fun w237 hU238 hz239 hB240 => ?_)))))))))))))))))
                        replace hB240 : Blk w237 g19 3 (((W ++ [q98 + 32768 - DD.getD s 0 - bo]) ++ P.drop (s + 1)).map i64n) := by rw [← (part_set hW (by omega) : (W ++ P.drop s).set s (q98 + 32768 - DD.getD s 0 - bo) = (W ++ [q98 + 32768 - DD.getD s 0 - bo]) ++ P.drop (s + 1)), List.map_set]; exact hB240
                        refine sDone (bN (xN (hK222 _ _ (wp_region_lit (sMi rfl (sV (evAdd (((s : Int)) + 1) rfl rfl wI) (sAi rfl (sDone ?_))))))))
                        have hR241 := hE225.rx hU238
                        refine again (nr_12 + 1 - (s + 1)) (by omega) ⟨(s + 1), (W ++ [q98 + 32768 - DD.getD s 0 - bo]), (1), rfl, rfl, rfl, rfl, rfl, rfl, rfl, cI, cI, (hF206.trans hR241), ?_, ?_, ?_, ?_, ?_, ?_⟩
                        · exact hB240
                        · omega
                        · simp [hW]
                        · exact vlt_snoc hWt (by omega)
                        · omega
                        · exact vsub_step hw hW (by omega)
                      · refine sV (evLss false rfl rfl (dF hc235)) (sK hK234 (cF rfl (wp_skip (xN (hK233 _ _ (wp_region_lit (sMs rfl (sMi rfl (sV (v := (.int .i64 (((q98 + 0 - DD.getD s 0 - bo : Nat) : Int)))) (by rw [show ((q98 + 0 - DD.getD s 0 - bo : Nat) : Int) = (((q98 : Int)) - (((DD.getD s 0 : Nat) : Int))) - ((bo : Int)) by omega]; rfl) (sV (evIx s Try.underlying29 sz3 rfl rfl s) (sO (oStore1 rfl rfl rfl sz3 hB227 (by exact lq) (fun w242 hU243 hz244 hB245 => ?_)))))))))))))
                        replace hB245 : Blk w242 g19 3 (((W ++ [q98 + 0 - DD.getD s 0 - bo]) ++ P.drop (s + 1)).map i64n) := by rw [← (part_set hW (by omega) : (W ++ P.drop s).set s (q98 + 0 - DD.getD s 0 - bo) = (W ++ [q98 + 0 - DD.getD s 0 - bo]) ++ P.drop (s + 1)), List.map_set]; exact hB245
                        refine sDone (bN (xN (hK222 _ _ (wp_region_lit (sMi rfl (sV (evAdd (((s : Int)) + 1) rfl rfl wI) (sAi rfl (sDone ?_))))))))
                        have hR246 := hE225.rx hU243
                        refine again (nr_12 + 1 - (s + 1)) (by omega) ⟨(s + 1), (W ++ [q98 + 0 - DD.getD s 0 - bo]), (0), rfl, rfl, rfl, rfl, rfl, rfl, rfl, cI, cI, (hF206.trans hR246), ?_, ?_, ?_, ?_, ?_, ?_⟩
                        · exact hB245
                        · omega
                        · simp [hW]
                        · exact vlt_snoc hWt (by omega)
                        · omega
                        · exact vsub_step hw hW (by omega)
                    · refine sV (evLss false rfl rfl (dF hc221)) (sK hK220 (cF rfl (wp_exit (xE (xE (bE (bN (xN (hK66 _ _ ?_)))))))))
                      rw [List.drop_of_length_le (show P.length ≤ s by omega), List.append_nil] at hB207
                      have hW2 : vb 32768 W = vb 32768 P - vb 2 db := by rw [← hDv]; exact vsub_end (n := s) hw hW hWt (by omega) (by rw [hDv]; exact hge) (vb_all _ (by omega))
                      refine wp_region_lit (sMi rfl (sV (evSub (((k : Int) - 1) - 1) rfl rfl wI) (sAi rfl (sDone ?_))))
                      have hR247 := (((hR133.xr hF152).xr hE174).tr hU190).tr hF206
                      have hB248 := (hB192.frm hF206 q1)
                      refine again ((k - 1)) (by omega) ⟨(k - 1), (1 :: Q), (W), rfl, rfl, rfl, rfl, rfl, rfl, cI, (Frm.mono (hF51.tr hR247) q4), ?_, ?_, ?_, ?_, ?_, ?_, ?_, ?_, ?_⟩
                      · exact hB248
                      · exact hB207
                      · omega
                      · simp [hQl]; omega
                      · exact vlt_cons (by decide) hQt
                      · omega
                      · exact hWt
                      · rw [vb_drop_pred (B := 2) (ds := da) (k := k) (by omega) (by omega)]; exact hdm.1
                      · rw [vb_drop_pred (B := 2) (ds := da) (k := k) (by omega) (by omega), hW2, hP2]; exact hdm.2
    · refine sV (evGeq false rfl rfl (dF hc65)) (sK hK64 (cF rfl (wp_exit (xE (xE (bE (xN (hK37 _ _ (rS fun K249 hK249 => sMs rfl ?_)))))))))
      have h250 : DigR 2 w44 (fun b => b = g3) (some ⟨g3, 0, none⟩) na na (List.replicate k 0 ++ Q) := DigR.of_blk hB52 rfl (vlt_rep hQt) (by exact lq) (by omega) (by unfold CapMax; omega)
      refine sO (oCall rfl call74 (ref01_Trim h250) rfl ?_)
      rintro _ w252 ⟨Ar_251, nr_251, cr_251, dr_251, rfl, hE253, hr_251, e_251, le_251⟩
      have hz254 := hE253.size
      have ⟨lr_251, kr_251, mr_251⟩ := hr_251.lkm
      refine sMs rfl ?_
      have hB256 := (hB53.ext hE253)
      have h257 : DigR 32768 w252 (fun b => b = g19) (some ⟨g19, 0, none⟩) (nr_12 + 1) (nr_12 + 1) (R) := DigR.of_blk hB256 rfl hRt (by exact lq) (by omega) (by unfold CapMax; omega)
      refine sO (oCall rfl call118 (ref01_bits h257 (by omega)) rfl ?_)
      rintro _ w259 ⟨Ar_258, nr_258, cr_258, dr_258, rfl, hE260, hr_258, v_258, cn_258, ln_258⟩
      have hz261 := hE260.size
      have ⟨lr_258, kr_258, mr_258⟩ := hr_258.lkm
      refine sAs rfl (sAs rfl (sK hK249 (wp_ret (ret2 (.slice Ar_251 nr_251 cr_251) (.slice Ar_258 nr_258 cr_258) Try.results120 (resT rfl) (resT rfl) ?_))))
      have hk0 : k = 0 := by omega
      have hr0 : vb 2 dr_258 = vb 2 da % vb 2 db := by rw [v_258, hr, hk0]; rfl
      have h263 := (hr_251.ext hE260)
      have hR264 := ((((((hE6.trans hE14).trans hE22).trans hE30).rx hFd).tr hF51).xr hE253).xr hE260
      exact ⟨Ar_251, nr_251, cr_251, dr_251, Ar_258, nr_258, cr_258, dr_258, rfl, (Frm.mono hR264 q4), (DigR.sub h263 q5), (DigR.sub hr_258 q5), (by rw [e_251, vb_trim, hk0]; rw [hk0] at hq; exact hq), hr0, (by rw [e_251]; exact canon_trim _ _), cn_258, (by omega), (by rw [← lr_258]; exact canon_len (B := 2) cn_258 (by decide) (by rw [hr0]; exact Nat.lt_trans (Nat.mod_lt _ hb0) (by have h := vb_lt db hb.2; rwa [lb] at h)))⟩

end Go.Proofs.Ytppegjbdencefaa
