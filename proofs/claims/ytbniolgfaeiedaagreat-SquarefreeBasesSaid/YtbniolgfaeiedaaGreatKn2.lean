/-
  Walks of package cylinderref11: products, factors, decompositions; of the laws: Poly, product.
-/
import Derived.Test.YtbniolgfaeiedaaGreatKn1
import Derived.Test.YtbniolgfaeiedaaGreatLibC
import Derived.Test.YtbniolgfaeiedaaGreatSq1
import Derived.Test.YtbniolgfaeiedaaGreatFacts2
namespace Go.Proofs.YtbniolgfaeiedaaGreat
open Go.RowKit Go.Gx
theorem ref11_Few {w : World} {xn : Int} {St : Nat → Prop} {At : Option Addr} {nt ct : Nat} {tt : List T3} (ht : TripR w St At nt ct tt)  : Calls Tryz.prog 6 #[(.int .i64 (xn)), (.slice At nt ct)] w (Ret fun v w' => ∃ (gr : Bool), v = (.bool gr) ∧ Ext w w' ∧ (gr = true → nt ≤ xn.toNat ∧ Few9 tt)) := by
  have ⟨kt, jt, mt⟩ := ht.lkm; replace ht := ht.low
  refine enter Tryz.func6 rfl Tryz.ntmps6 rfl (rS fun K1 hK1 => sAb rfl (sK hK1 (wp_seq_k fun K2 hK2 => rS fun K3 hK3 => sMs rfl (sV (evLen Tryz.underlying22 rfl) (sMi rfl ?_)))))
  by_cases hc4 : ((nt : Int)) > xn
  · refine sV (evGtr true rfl rfl (dT hc4)) (sK hK3 (cT rfl (rS fun K5 hK5 => sAb rfl (sK hK5 (wp_ret (xR (ret1 (.bool false) Tryz.results6 (resT rfl) ?_)))))))
    exact ⟨(false), rfl, (Frm.refl _ _), (fun h => by cases h)⟩
  · refine sV (evGtr false rfl rfl (dF hc4)) (sK hK3 (cF rfl (wp_skip (xN (hK2 _ _ (wp_seq_k fun K6 hK6 => rS fun K7 hK7 => sAi rfl (sK hK7 (wp_block ?_))))))))
    refine lLoop (fun m e w_ => ∃ (i : Nat), m = nt - i ∧ e 1 = (.slice At nt ct) ∧ e 5 = (.int .i64 ((i : Int))) ∧ Frm (fun b => False) w w_ ∧ (i ≤ nt) ∧ (Few9 (tt.take i))) (nt - (0)) ?_ ?_
    · refine ⟨(0), rfl, rfl, cI, (Frm.refl _ _), ?_, ?_⟩
      · omega
      · intro t ht; simp at ht
    · rintro m8 e14 w9 ⟨i, hm13, hs10, hs11, hF12, hi, hfw⟩
      obtain ⟨r15, rfl⟩ := sq (e := e14) (t := 1) hs10
      obtain ⟨r16, rfl⟩ := sq (e := r15) (t := 5) hs11
      have hz17 := hF12.size
      refine wp_seq_k fun K18 hK18 => rS fun K19 hK19 => sMi rfl (sMs rfl (sV (evLen Tryz.underlying22 rfl) ?_))
      by_cases hc20 : ((i : Int)) < ((nt : Int))
      · refine sV (evLss true rfl rfl (dT hc20)) (sK hK19 (cT rfl (wp_skip (xN (hK18 _ _ (wp_seq_k fun K21 hK21 => wp_block (rS fun K22 hK22 => sAi rfl (sK hK22 (wp_block ?_)))))))))
        refine lLoop (fun m e w_ => ∃ (k : Nat), m = 3 - k ∧ e 1 = (.slice At nt ct) ∧ e 5 = (.int .i64 ((i : Int))) ∧ e 6 = (.int .i64 ((k : Int))) ∧ Frm (fun b => False) w9 w_ ∧ (k ≤ 3) ∧ (∀ m, m < k → (compT (tt.getD i (0, 0, 0)) m).natAbs ≤ 9)) (3 - (0)) ?_ ?_
        · refine ⟨(0), rfl, rfl, rfl, cI, (Frm.refl _ _), ?_, ?_⟩
          · omega
          · intro m hm; omega
        · rintro m23 e30 w24 ⟨k, hm29, hs25, hs26, hs27, hF28, hk, hrow⟩
          obtain ⟨r31, rfl⟩ := sq (e := e30) (t := 1) hs25
          obtain ⟨r32, rfl⟩ := sq (e := r31) (t := 5) hs26
          obtain ⟨r33, rfl⟩ := sq (e := r32) (t := 6) hs27
          have hz34 := hF28.size
          refine wp_seq_k fun K35 hK35 => rS fun K36 hK36 => sMi rfl ?_
          by_cases hc37 : ((k : Int)) < 3
          · refine sV (evLss true rfl rfl (dT hc37)) (sK hK36 (cT rfl (wp_skip (xN (hK35 _ _ (wp_seq_k fun K38 hK38 => wp_block (rS fun K39 hK39 => sMs rfl (sMi rfl (sMi rfl ?_)))))))))
            have hR40 := hF12.trans hF28
            have h41 := (ht.ext hR40)
            obtain ⟨b42, o43, rfl⟩ := h41.base (by omega)
            refine sV (evIx i Tryz.underlying22 sz54 rfl rfl (o43 + (i * 3))) (sV (evArr k Tryz.underlying54 sz53 rfl rfl (o43 + (i * 3) + k)) (sV (evLoad one53 rfl (h41.cellk (by omega) (by omega))) ?_))
            by_cases hc44 : (compT (tt.getD i (0, 0, 0)) k) < ((-9))
            · refine sV (evLss true rfl rfl (dT hc44)) (sMb rfl (sSkip rfl rfl (sSkip rfl rfl (sSkip rfl rfl (sSkip rfl rfl (sSkip rfl rfl (sSkip rfl rfl (sSkip rfl rfl (sV (v := (.bool true)) (rfl) (sK hK39 (cT rfl (rS fun K45 hK45 => sAb rfl (sK hK45 (wp_ret (bR (xR (xR (bR (bR (xR (xR (bR (xR (ret1 (.bool false) Tryz.results6 (resT rfl) ?_))))))))))))))))))))))))
              exact ⟨(false), rfl, hR40, (fun h => by cases h)⟩
            · refine sV (evLss false rfl rfl (dF hc44)) (sMb rfl (sEv (v := (.slice (some ⟨b42, o43, none⟩) nt ct)) (rfl) rfl rfl (sEv (v := (.int .i64 ((i : Int)))) (rfl) rfl rfl (sEv (v := (.int .i64 ((k : Int)))) (rfl) rfl rfl (sEv (v := (.pointer (some ⟨b42, o43 + (i * 3), none⟩))) (evIx i Tryz.underlying22 sz54 rfl rfl (o43 + (i * 3))) rfl rfl (sEv (v := (.pointer (some ⟨b42, o43 + (i * 3) + k, none⟩))) (evArr k Tryz.underlying54 sz53 rfl rfl (o43 + (i * 3) + k)) rfl rfl (sEv (v := (.int .i8 (compT (tt.getD i (0, 0, 0)) k))) (evLoad one53 rfl (h41.cellk (by omega) (by omega))) rfl rfl ?_)))))))
              by_cases hc46 : (compT (tt.getD i (0, 0, 0)) k) > 9
              · refine sEv (v := (.bool true)) (evGtr true rfl rfl (dT hc46)) rfl rfl (sV (v := (.bool true)) (rfl) (sK hK39 (cT rfl (rS fun K47 hK47 => sAb rfl (sK hK47 (wp_ret (bR (xR (xR (bR (bR (xR (xR (bR (xR (ret1 (.bool false) Tryz.results6 (resT rfl) ?_))))))))))))))))
                exact ⟨(false), rfl, hR40, (fun h => by cases h)⟩
              · refine sEv (v := (.bool false)) (evGtr false rfl rfl (dF hc46)) rfl rfl (sV (v := (.bool false)) (rfl) (sK hK39 (cF rfl (wp_skip (bN (xN (hK38 _ _ (wp_region_lit (sMi rfl (sV (evAdd (((k : Int)) + 1) rfl rfl wI) (sAi rfl (sDone (again (3 - (k + 1)) (by omega) ⟨(k + 1), rfl, rfl, rfl, cI, hF28, ?_, ?_⟩)))))))))))))
                · omega
                · exact few_row hrow rfl hc44 hc46
          · refine sV (evLss false rfl rfl (dF hc37)) (sK hK36 (cF rfl (wp_exit (xE (xE (bE (bN (xN (hK21 _ _ (wp_region_lit (sMi rfl (sV (evAdd (((i : Int)) + 1) rfl rfl wI) (sAi rfl (sDone (again (nt - (i + 1)) (by omega) ⟨(i + 1), rfl, rfl, cI, (hF12.trans hF28), ?_, ?_⟩)))))))))))))))
            · omega
            · exact few_next hfw (by omega) (by rw [show k = 3 by omega] at hrow; exact hrow)
      · refine sV (evLss false rfl rfl (dF hc20)) (sK hK19 (cF rfl (wp_exit (xE (xE (bE (xN (hK6 _ _ (rS fun K48 hK48 => sAb rfl (sK hK48 (wp_ret (ret1 (.bool true) Tryz.results6 (resT rfl) ?_))))))))))))
        exact ⟨(true), rfl, hF12, (fun _ => ⟨by omega, few9_all hfw (by omega)⟩)⟩
set_option maxHeartbeats 1000000 in
theorem ref11_Product {w : World} {St : Nat → Prop} {At : Option Addr} {nt ct : Nat} {tt : List T3} (ht : TripR w St At nt ct tt) (hft : Few9 tt) (hnt : nt ≤ 5) : Calls Tryz.prog 27 #[(.slice At nt ct)] w (Ret fun v w' => ∃ (Ar : Option Addr) (nr : Nat) (cr : Nat) (xr : List Int), v = (.slice Ar nr cr) ∧ Ext w w' ∧ IntsR w' (fun b => w.heap.size ≤ b) Ar nr cr xr ∧ (P xr = prodT tt) ∧ (trimZ xr = xr) ∧ (nrm xr ≤ 27 ^ nt) ∧ (nr ≤ 2 * nt + 1)) := by
  have ⟨kt, jt, mt⟩ := ht.lkm; replace ht := ht.low
  refine enter Tryz.func27 rfl Tryz.ntmps27 rfl (rS fun K1 hK1 => sAs rfl (sK hK1 (rS fun K2 hK2 => sO (oBuildSlice [(.int .i64 (1))] [[(.int .i64 (1))]] Tryz.underlying39 inf3 rfl rfl rfl rfl rfl (fun g3 w4 hg5 hE6 hz7 hB8 => ?_)))))
  replace hB8 : Blk w4 g3 3 [(.int .i64 (1))] := hB8
  refine sAs rfl (sK hK2 (wp_seq_k fun K9 hK9 => rS fun K10 hK10 => sAi rfl (sK hK10 (wp_block ?_))))
  refine lLoop (fun m e w_ => ∃ (i : Nat) (Ap : Option Addr) (np : Nat) (cp : Nat) (xp : List Int), m = nt - i ∧ e 0 = (.slice At nt ct) ∧ e 3 = (.slice Ap np cp) ∧ e 4 = (.int .i64 ((i : Int))) ∧ Frm (fun b => False) w4 w_ ∧ (i ≤ nt) ∧ (IntsR w_ (fun b => w.heap.size ≤ b) Ap np cp xp) ∧ (P xp = prodT (tt.take i)) ∧ (nrm xp ≤ 27 ^ i) ∧ (trimZ xp = xp) ∧ (np ≤ 2 * i + 1)) (nt - (0)) ?_ ?_
  · refine ⟨(0), ((some ⟨g3, 0, none⟩)), (1), (1), ([1]), rfl, rfl, rfl, cI, (Frm.refl _ _), ?_, ?_, ?_, ?_, ?_, ?_⟩
    · omega
    · exact IntsR.sub (IntsR.of_blk (S := fun b => b = g3) (n := 1) (c := 1) (xs := [1]) hB8 rfl (by decide) rfl (Nat.le_refl _) (by decide)) q5
    · exact tprod_start
    · decide
    · decide
    · omega
  · rintro m11 e18 w12 ⟨i, Ap, np, cp, xp, hm17, hs13, hs14, hs15, hF16, hi, hp, hP, hnb, htt, hln⟩
    obtain ⟨r19, rfl⟩ := sq (e := e18) (t := 0) hs13
    obtain ⟨r20, rfl⟩ := sq (e := r19) (t := 3) hs14
    obtain ⟨r21, rfl⟩ := sq (e := r20) (t := 4) hs15
    have hz22 := hF16.size
    have ⟨lp_, kp_, mp_⟩ := hp.lkm
    refine wp_seq_k fun K23 hK23 => rS fun K24 hK24 => sMi rfl (sMs rfl (sV (evLen Tryz.underlying22 rfl) ?_))
    by_cases hc25 : ((i : Int)) < ((nt : Int))
    · refine sV (evLss true rfl rfl (dT hc25)) (sK hK24 (cT rfl (wp_skip (xN (hK23 _ _ (wp_seq_k fun K26 hK26 => wp_block (wp_region_lit (sMs rfl (sMs rfl (sMi rfl ?_))))))))))
      have hR27 := hE6.trans hF16
      have h28 := (ht.ext hR27)
      obtain ⟨b29, o30, rfl⟩ := h28.base (by omega)
      refine sV (evIx i Tryz.underlying22 sz54 rfl rfl (o30 + (i * 3))) ?_
      obtain ⟨ta_31, tb_31, tc_31, he_31, hc_31, hra_31, hrb_31, hrc_31⟩ := h28.at_ (i := i) (by omega)
      have hf9 := few_at hft he_31
      refine sV (evLoadA [(.int .i8 (ta_31)), (.int .i8 (tb_31)), (.int .i8 (tc_31))] agg54 sz54 rfl hc_31) (sO (oCall rfl call25 (ref11_Wide (by omega) (by omega) (by omega)) rfl ?_))
      rintro _ w33 ⟨Ar_32, nr_32, cr_32, xr_32, rfl, hE34, hr_32, e_32, ln_32⟩
      have hz35 := hE34.size
      have ⟨lr_32, kr_32, mr_32⟩ := hr_32.lkm
      have hqb := quad_bd e_32 hf9; have hn27 := prod_nrm27 hnb hqb.2 (by omega)
      have h37 := (hp.ext hE34)
      refine sO (oCall rfl call29 (ref11_Mul h37 hr_32 hn27.1 (by omega) (by omega)) rfl ?_)
      rintro _ w39 ⟨Ar_38, nr_38, cr_38, xr_38, rfl, hE40, hr_38, e_38, le_38⟩
      have hz41 := hE40.size
      have ⟨lr_38, kr_38, mr_38⟩ := hr_38.lkm
      refine sAs rfl (sDone (bN (xN (hK26 _ _ (wp_region_lit (sMi rfl (sV (evAdd (((i : Int)) + 1) rfl rfl wI) (sAi rfl (sDone ?_)))))))))
      have hR43 := hE34.trans hE40
      refine again (nt - (i + 1)) (by omega) ⟨(i + 1), (Ar_38), (nr_38), (cr_38), (xr_38), rfl, rfl, rfl, cI, (hF16.trans hR43), ?_, ?_, ?_, ?_, ?_, ?_⟩
      · omega
      · exact IntsR.sub hr_38 q5
      · exact tprod_step hP he_31 e_32 e_38
      · rw [e_38]; exact hn27.2
      · rw [e_38, trim_trim]
      · have h := mulT_len e_38 lp_ lr_32 (by omega); omega
    · refine sV (evLss false rfl rfl (dF hc25)) (sK hK24 (cF rfl (wp_exit (xE (xE (bE (xN (hK9 _ _ (rS fun K44 hK44 => sMs rfl (sAs rfl (sK hK44 (wp_ret (ret1 (.slice Ap np cp) Tryz.results27 (resT rfl) ?_)))))))))))))
      have hR45 := hE6.trans hF16
      exact ⟨Ap, np, cp, xp, rfl, hR45, (IntsR.sub hp q5), (by rw [hP, List.take_of_length_le (by omega)]), htt, (by rw [show i = nt by omega] at hnb; exact hnb), (by omega)⟩
set_option maxHeartbeats 1000000 in
theorem ref11_With {w : World} {Bw : Nat} {Al : Option Addr} {nl cl : Nat} {fl : List IE} {Ap : Option Addr} {np cp : Nat} {xp : List Int} (hl : IFacsR w (fun b => Bw ≤ b) Al nl cl fl) (hp : IntsR w (fun b => Bw ≤ b) Ap np cp xp) (hBw : Bw ≤ w.heap.size) (hkb : ∀ e ∈ fl, 0 ≤ e.k ∧ e.k ≤ 1000) (hnl : nl ≤ 1000) : Calls Tryz.prog 26 #[(.slice Al nl cl), (.slice Ap np cp)] w (Ret fun v w' => ∃ (Ar : Option Addr) (nr : Nat) (cr : Nat) (fr : List IE), v = (.slice Ar nr cr) ∧ Ext w w' ∧ IFacsR w' (fun b => Bw ≤ b) Ar nr cr fr ∧ (fr.map IE.m = withM (fl.map IE.m) xp)) := by
  have ⟨kl, jl, ml⟩ := hl.lkm; replace hl := hl.sub (S' := fun b => Bw ≤ b ∧ b < w.heap.size) fun _ hb hs => ⟨hs, hb⟩
  have ⟨lp, kp, mp⟩ := hp.lkm; replace hp := hp.sub (S' := fun b => Bw ≤ b ∧ b < w.heap.size) fun _ hb hs => ⟨hs, hb⟩
  refine enter Tryz.func26 rfl Tryz.ntmps26 rfl (rS fun K1 hK1 => sAs rfl (sK hK1 (rS fun K2 hK2 => sO (oBuildSlice [] [] Tryz.underlying28 inf61 rfl rfl rfl rfl rfl (fun g3 w4 hg5 hE6 hz7 hB8 => ?_)))))
  replace hB8 : Blk w4 g3 61 [] := hB8
  refine sMs rfl ?_
  have h9 := (hl.ext hE6)
  refine sO (oCopyI (T := fun b => Bw ≤ b) Tryz.underlying28 inf61 rfl rfl rfl hB8 h9 (fun b hb_ hs => by (try dsimp only at hs ⊢); omega) (by omega) (by omega) (fun A11 c12 w13 hO14 hF15 hn16 => ?_))
  have hz17 := hF15.size
  have ⟨lO, kO, mO⟩ := hO14.lkm
  refine sAs rfl (sK hK2 (wp_seq_k fun K18 hK18 => rS fun K19 hK19 => sAi rfl (sK hK19 (wp_block ?_))))
  refine lLoop (fun m e w_ => ∃ (i : Nat), m = nl - i ∧ e 1 = (.slice Ap np cp) ∧ e 5 = (.slice A11 nl c12) ∧ e 6 = (.int .i64 ((i : Int))) ∧ Frm (fun b => False) w13 w_ ∧ (i ≤ nl) ∧ (∀ j e, j < i → fl[j]? = some e → trimZ e.x ≠ trimZ xp)) (nl - (0)) ?_ ?_
  · refine ⟨(0), rfl, rfl, rfl, cI, (Frm.refl _ _), ?_, ?_⟩
    · omega
    · intro j e hj; omega
  · rintro m20 e27 w21 ⟨i, hm26, hs22, hs23, hs24, hF25, hi, hne⟩
    obtain ⟨r28, rfl⟩ := sq (e := e27) (t := 1) hs22
    obtain ⟨r29, rfl⟩ := sq (e := r28) (t := 5) hs23
    obtain ⟨r30, rfl⟩ := sq (e := r29) (t := 6) hs24
    have hz31 := hF25.size
    refine wp_seq_k fun K32 hK32 => rS fun K33 hK33 => sMi rfl (sMs rfl (sV (evLen Tryz.underlying28 rfl) ?_))
    by_cases hc34 : ((i : Int)) < ((nl : Int))
    · refine sV (evLss true rfl rfl (dT hc34)) (sK hK33 (cT rfl (wp_skip (xN (hK32 _ _ (wp_seq_k fun K35 hK35 => wp_block (rS fun K36 hK36 => sMs rfl (sMi rfl ?_))))))))
      have hO37 := (hO14.ext hF25)
      have h38 := OwnI.facs hO37
      obtain ⟨b39, o40, rfl⟩ := h38.base (by omega)
      refine sV (evIx i Tryz.underlying28 sz61 rfl rfl (o40 + (i * 2))) (sV (evFA (o40 + (i * 2)) fa61_0 rfl rfl) ?_)
      have h41 := OwnI.facs hO37
      obtain ⟨⟨A_42, n_42, c_42, x_42, k_42⟩, he_42, hp_42, hq_42, hP_42, hS_42, hb_42⟩ := h41.at_ (i := i) (by omega)
      dsimp only at hp_42 hq_42 hP_42; have ⟨q1_42, q2_42, q3_42⟩ := hP_42.lkm
      have hkk := hkb _ (List.mem_of_getElem? he_42); dsimp only at hkk
      refine sV (evLoad one39 rfl hp_42) (sMs rfl ?_)
      have hR44 := (hE6.rx hF15).xr hF25
      have h45 := (hp.frmB hR44 q3)
      refine sO (oCall rfl call47 (ref11_Same hP_42 h45) rfl ?_)
      rintro _ w47 ⟨gr_46, rfl, hE48, e_46⟩
      have hz49 := hE48.size
      refine sK hK36 (cB gr_46 rfl ?_ ?_)
      · intro hc50
        subst hc50
        refine rS fun K51 hK51 => sMs rfl (sMi rfl (sV (evIx i Tryz.underlying28 sz61 rfl rfl (o40 + (i * 2))) (sV (evFA (o40 + (i * 2) + 1) fa61_1 rfl rfl) ?_)))
        have hO52 := (hO37.ext hE48)
        have h53 := OwnI.facs hO52
        obtain ⟨⟨A_54, n_54, c_54, x_54, k_54⟩, he_54, hp_54, hq_54, hP_54, hS_54, hb_54⟩ := h53.at_ (i := i) (by omega)
        dsimp only at hp_54 hq_54 hP_54; have ⟨q1_54, q2_54, q3_54⟩ := hP_54.lkm
        have hkk := hkb _ (List.mem_of_getElem? he_54); dsimp only at hkk
        refine sV (evLoad one3 rfl hq_54) (sV (evAdd (k_54 + 1) rfl rfl wI) (sV (evIx i Tryz.underlying28 sz61 rfl rfl (o40 + (i * 2))) (sV (evFA (o40 + (i * 2) + 1) fa61_1 rfl rfl) ?_)))
        obtain ⟨g9, sp9, hA9, hBg9, hB9, hl9, ha9⟩ := hO52.open_ (by omega)
        obtain ⟨rfl, rfl⟩ : b39 = g9 ∧ o40 = 0 := by injection hA9 with hA9; injection hA9 with h1 h2; exact ⟨h1, h2⟩
        refine sO (oStore1 rfl rfl rfl sz3 hB9 (by rw [List.length_append, cellsIE_len]; omega) (fun w55 hU56 hz57 hB58 => ?_))
        have hO59 := ownI_power hBg9 hB58 hl9 kl kO (by unfold CapMax; omega) ha9 hU56 he_54
        refine sK hK51 (rS fun K60 hK60 => sMs rfl (sAs rfl (sK hK60 (wp_ret (bR (xR (xR (bR (xR (ret1 (.slice (some ⟨b39, 0, none⟩) nl c12) Tryz.results26 (resT rfl) ?_))))))))))
        have hR61 := (hR44.xr hE48).tr hU56
        exact ⟨(some ⟨b39, 0, none⟩), nl, c12, (fl.set i ⟨A_54, n_54, c_54, x_54, k_54 + 1⟩), rfl, (Frm.mono hR61 q4), (OwnI.facsT hO59 (fun b hb => by (try dsimp only at hb ⊢); omega)), (with_found he_54 hne (by have h9 := Option.some.inj (he_42.symm.trans he_54); injection h9 with h1 h2 h3 h4 h5; rw [← h4]; exact e_46.1 rfl))⟩
      · intro hc50
        subst hc50
        refine wp_skip (bN (xN (hK35 _ _ (wp_region_lit (sMi rfl (sV (evAdd (((i : Int)) + 1) rfl rfl wI) (sAi rfl (sDone (again (nl - (i + 1)) (by omega) ⟨(i + 1), rfl, rfl, rfl, cI, (hF25.trans hE48), ?_, ?_⟩)))))))))
        · omega
        · exact with_next hne he_42 (fun h => absurd (e_46.2 h) (by decide))
    · refine sV (evLss false rfl rfl (dF hc34)) (sK hK33 (cF rfl (wp_exit (xE (xE (bE (xN (hK18 _ _ (rS fun K62 hK62 => sMs rfl (sMs rfl (sV (v := (.agg #[(.slice Ap np cp), (.int .i64 (1))])) (evK (by kernel_rfl)) (sO (oBuildSlice [(.agg #[(.slice Ap np cp), (.int .i64 (1))])] [[(.slice Ap np cp), (.int .i64 (1))]] Tryz.underlying28 inf61 rfl rfl rfl rfl rfl (fun g63 w64 hg65 hE66 hz67 hB68 => ?_))))))))))))))
      replace hB68 : Blk w64 g63 61 [(.slice Ap np cp), (.int .i64 (1))] := hB68
      have hR69 := hF25.trans hE66
      have hO70 := (hO14.ext hR69)
      have hR71 := ((hE6.rx hF15).xr hF25).xr hE66
      have h72 := (hp.frmB hR71 q3)
      refine sO (oAppI (B := g3) Tryz.underlying28 inf61 rfl rfl rfl hO70 hB68 h72 (fun b hb_ hs => ⟨(by (try dsimp only at hs ⊢); omega), fun a ha e => by have h9 := hO70.1.lt a ha; (try dsimp only at hs); omega⟩) (by omega) (by omega) (by omega) (fun A73 c74 w75 hO76 hF77 _ hn78 => ?_))
      have hz79 := hF77.size
      refine sAs rfl (sK hK62 (wp_ret (ret1 (.slice A73 (nl + 1) c74) Tryz.results26 (resT rfl) ?_)))
      have hR80 := hR71.tr hF77
      exact ⟨A73, (nl + 1), c74, (fl ++ [⟨Ap, np, cp, xp, 1⟩]), rfl, (Frm.mono hR80 q4), (OwnI.facsT hO76 (fun b hb => by (try dsimp only at hb ⊢); omega)), (with_new hne (by omega))⟩
set_option maxHeartbeats 1000000 in
theorem ref11_Factors {w : World} {St : Nat → Prop} {At : Option Addr} {nt ct : Nat} {tt : List T3} (ht : TripR w St At nt ct tt) (hft : Few9 tt) (hnt : nt ≤ 5) : Calls Tryz.prog 7 #[(.slice At nt ct)] w (Ret fun v w' => ∃ (xu : Int) (Ar : Option Addr) (nr : Nat) (cr : Nat) (fr : List IE), v = (.tuple #[(.int .i64 (xu)), (.slice Ar nr cr)]) ∧ Ext w w' ∧ IFacsR w' (fun b => w.heap.size ≤ b) Ar nr cr fr ∧ (FacR (prodT tt) xu (fr.map IE.m)) ∧ (xu.natAbs ≤ 59049)) := by
  have ⟨kt, jt, mt⟩ := ht.lkm; replace ht := ht.low
  refine enter Tryz.func7 rfl Tryz.ntmps7 rfl (rS fun K1 hK1 => sAi rfl (sAs rfl (sK hK1 (rS fun K2 hK2 => sAi rfl (sK hK2 (rS fun K3 hK3 => sAs rfl (sK hK3 (wp_seq_k fun K4 hK4 => rS fun K5 hK5 => sAi rfl (sK hK5 (wp_block ?_))))))))))
  refine lLoop (fun m e w_ => ∃ (i : Nat) (u : Int) (Ap : Option Addr) (np : Nat) (cp : Nat) (fp : List IE), m = nt - i ∧ e 0 = (.slice At nt ct) ∧ e 4 = (.int .i64 (u)) ∧ e 5 = (.slice Ap np cp) ∧ e 6 = (.int .i64 ((i : Int))) ∧ Frm (fun b => False) w w_ ∧ (i ≤ nt) ∧ (u.natAbs ≤ 9 ^ i) ∧ (IFacsR w_ (fun b => w.heap.size ≤ b) Ap np cp fp) ∧ (FacSt (prodT (tt.take i)) u (2 * i) (fp.map IE.m))) (nt - (0)) ?_ ?_
  · refine ⟨(0), (1), (none), (0), (0), ([]), rfl, rfl, cI, rfl, cI, (Frm.refl _ _), ?_, ?_, ?_, ?_⟩
    · omega
    · decide
    · exact IFacsR.nil
    · exact facSt_start
  · rintro m6 e14 w7 ⟨i, u, Ap, np, cp, fp, hm13, hs8, hs9, hs10, hs11, hF12, hi, hub, hp, hst⟩
    obtain ⟨r15, rfl⟩ := sq (e := e14) (t := 0) hs8
    obtain ⟨r16, rfl⟩ := sq (e := r15) (t := 4) hs9
    obtain ⟨r17, rfl⟩ := sq (e := r16) (t := 5) hs10
    obtain ⟨r18, rfl⟩ := sq (e := r17) (t := 6) hs11
    have hz19 := hF12.size
    have ⟨lp_, kp_, mp_⟩ := hp.lkm
    refine wp_seq_k fun K20 hK20 => rS fun K21 hK21 => sMi rfl (sMs rfl (sV (evLen Tryz.underlying22 rfl) ?_))
    by_cases hc22 : ((i : Int)) < ((nt : Int))
    · refine sV (evLss true rfl rfl (dT hc22)) (sK hK21 (cT rfl (wp_skip (xN (hK20 _ _ (wp_seq_k fun K23 hK23 => wp_block (rS fun K24 hK24 => sMs rfl (sMi rfl ?_))))))))
      have h25 := (ht.ext hF12)
      obtain ⟨b26, o27, rfl⟩ := h25.base (by omega)
      refine sV (evIx i Tryz.underlying22 sz54 rfl rfl (o27 + (i * 3))) ?_
      obtain ⟨ta_28, tb_28, tc_28, he_28, hc_28, hra_28, hrb_28, hrc_28⟩ := h25.at_ (i := i) (by omega)
      have hf9 := few_at hft he_28
      refine sV (evLoadA [(.int .i8 (ta_28)), (.int .i8 (tb_28)), (.int .i8 (tc_28))] agg54 sz54 rfl hc_28) (sO (oCall rfl call25 (ref11_Wide (by omega) (by omega) (by omega)) rfl ?_))
      rintro _ w30 ⟨Ar_29, nr_29, cr_29, xr_29, rfl, hE31, hr_29, e_29, ln_29⟩
      have hz32 := hE31.size
      have ⟨lr_29, kr_29, mr_29⟩ := hr_29.lkm
      have ⟨hqb, hqn⟩ := quad_bd e_29 hf9
      refine sO (oCall rfl call24 (ref11_Split hr_29 (by assumption) (by omega)) rfl ?_)
      rintro _ w35 ⟨xu_34, Ar_34, nr_34, cr_34, fr_34, rfl, hE36, hr_34, e_34, ln_34⟩
      have hz37 := hE36.size
      have ⟨kr_34, jr_34, mr_34⟩ := hr_34.lkm
      have hun := u_next hub e_34.2.2.1 (by omega)
      refine sV (v := (.tuple #[(.int .i64 (xu_34)), (.slice Ar_34 nr_34 cr_34)])) (rfl) (sV (v := (.int .i64 (xu_34))) (rfl) (sV (v := (.slice Ar_34 nr_34 cr_34)) (rfl) (sAi rfl (sAs rfl (sK hK24 (rS fun K39 hK39 => sMi rfl (sMi rfl (sV (evMul (u * xu_34) rfl rfl (wI64 ⟨rfl, by omega, by omega⟩)) (sAi rfl (sK hK39 (rS fun K40 hK40 => sAi rfl (sK hK40 (wp_block ?_)))))))))))))
      have hR42 := hE31.trans hE36
      have h43 := (hp.ext hR42)
      refine lLoop (fun m e w_ => ∃ (k : Nat) (Aq : Option Addr) (nq : Nat) (cq : Nat) (fq : List IE), m = nr_34 - k ∧ e 0 = (.slice (some ⟨b26, o27, none⟩) nt ct) ∧ e 4 = (.int .i64 (u * xu_34)) ∧ e 5 = (.slice Aq nq cq) ∧ e 6 = (.int .i64 ((i : Int))) ∧ e 8 = (.slice Ar_34 nr_34 cr_34) ∧ e 9 = (.int .i64 ((k : Int))) ∧ Frm (fun b => False) w35 w_ ∧ (k ≤ nr_34) ∧ (IFacsR w_ (fun b => w.heap.size ≤ b) Aq nq cq fq) ∧ (FacIn (prodT (tt.take (i + 1))) (u * xu_34) (2 * i) (fq.map IE.m) (fr_34.map IE.x) k)) (nr_34 - (0)) ?_ ?_
      · refine ⟨(0), (Ap), (np), (cp), (fp), rfl, rfl, rfl, rfl, rfl, rfl, cI, (Frm.refl _ _), ?_, ?_, ?_⟩
        · omega
        · exact IFacsR.sub h43 q5
        · exact fac_next hst he_28 e_29 e_34
      · rintro m41 e53 w44 ⟨k, Aq, nq, cq, fq, hm52, hs45, hs46, hs47, hs48, hs49, hs50, hF51, hk, hq, hin⟩
        obtain ⟨r54, rfl⟩ := sq (e := e53) (t := 0) hs45
        obtain ⟨r55, rfl⟩ := sq (e := r54) (t := 4) hs46
        obtain ⟨r56, rfl⟩ := sq (e := r55) (t := 5) hs47
        obtain ⟨r57, rfl⟩ := sq (e := r56) (t := 6) hs48
        obtain ⟨r58, rfl⟩ := sq (e := r57) (t := 8) hs49
        obtain ⟨r59, rfl⟩ := sq (e := r58) (t := 9) hs50
        have hz60 := hF51.size
        have ⟨lq_, kq_, mq_⟩ := hq.lkm; have ⟨hkq, hnq⟩ := facIn_k hin (by omega)
        refine wp_seq_k fun K61 hK61 => rS fun K62 hK62 => sMi rfl (sMs rfl (sV (evLen Tryz.underlying34 rfl) ?_))
        by_cases hc63 : ((k : Int)) < ((nr_34 : Int))
        · refine sV (evLss true rfl rfl (dT hc63)) (sK hK62 (cT rfl (wp_skip (xN (hK61 _ _ (wp_seq_k fun K64 hK64 => wp_block (wp_region_lit (sMs rfl (sMs rfl (sMi rfl ?_))))))))))
          have h65 := (hr_34.ext hF51)
          obtain ⟨b66, o67, rfl⟩ := h65.base (by omega)
          refine sV (evIx k Tryz.underlying34 sz39 rfl rfl (o67 + k)) ?_
          obtain ⟨⟨A_68, n_68, c_68, x_68, k_68⟩, he_68, hp_68, hP_68, hS_68, hb_68⟩ := h65.at_ (i := k) (by omega)
          dsimp only at hp_68 hP_68; have ⟨q1_68, q2_68, q3_68⟩ := hP_68.lkm
          refine sV (evLoad one39 rfl hp_68) (sO (oCall rfl call26 (ref11_With (Bw := w.heap.size) (IFacsR.sub hq q5) (IntsR.sub hP_68 q5) (by omega) hkq (by omega)) rfl ?_))
          rintro _ w71 ⟨Ar_70, nr_70, cr_70, fr_70, rfl, hE72, hr_70, e_70⟩
          have hz73 := hE72.size
          have ⟨kr_70, jr_70, mr_70⟩ := hr_70.lkm
          refine sAs rfl (sDone (bN (xN (hK64 _ _ (wp_region_lit (sMi rfl (sV (evAdd (((k : Int)) + 1) rfl rfl wI) (sAi rfl (sDone (again (nr_34 - (k + 1)) (by omega) ⟨(k + 1), (Ar_70), (nr_70), (cr_70), (fr_70), rfl, rfl, rfl, rfl, rfl, rfl, cI, (hF51.trans hE72), ?_, ?_, ?_⟩))))))))))
          · omega
          · exact IFacsR.sub hr_70 q5
          · rw [e_70]; exact hin.step (ix_get he_68)
        · refine sV (evLss false rfl rfl (dF hc63)) (sK hK62 (cF rfl (wp_exit (xE (xE (bE (bN (xN (hK23 _ _ (wp_region_lit (sMi rfl (sV (evAdd (((i : Int)) + 1) rfl rfl wI) (sAi rfl (sDone ?_))))))))))))))
          have hR75 := hR42.trans hF51
          refine again (nt - (i + 1)) (by omega) ⟨(i + 1), (u * xu_34), (Aq), (nq), (cq), (fq), rfl, rfl, cI, rfl, cI, (hF12.trans hR75), ?_, ?_, ?_, ?_⟩
          · omega
          · exact hun.1
          · exact IFacsR.sub hq q5
          · exact hin.leave (by simp; omega) (by omega)
    · refine sV (evLss false rfl rfl (dF hc22)) (sK hK21 (cF rfl (wp_exit (xE (xE (bE (xN (hK4 _ _ (wp_seq_k fun K76 hK76 => rS fun K77 hK77 => sMi rfl ?_)))))))))
      by_cases hc78 : u = 0
      · refine sV (evEql true rfl rfl (dT hc78)) (sK hK77 (cT rfl (rS fun K79 hK79 => sAi rfl (sAs rfl (sK hK79 (wp_ret (xR (ret2 (.int .i64 (0)) (.slice none 0 0) Tryz.results7 (resT rfl) (resT rfl) ?_))))))))
        have hst2 : FacSt (prodT tt) u (2 * i) (fp.map IE.m) := by have h := hst; rw [List.take_of_length_le (by omega)] at h; exact h
        exact ⟨(0), none, 0, 0, [], rfl, hF12, IFacsR.nil, (hst2.zero (by omega)), (by decide)⟩
      · refine sV (evEql false rfl rfl (dF hc78)) (sK hK77 (cF rfl (wp_skip (xN (hK76 _ _ (rS fun K80 hK80 => sMi rfl (sMs rfl (sAi rfl (sAs rfl (sK hK80 (wp_ret (ret2 (.int .i64 (u)) (.slice Ap np cp) Tryz.results7 (resT rfl) (resT rfl) ?_))))))))))))
        have hst2 : FacSt (prodT tt) u (2 * i) (fp.map IE.m) := by have h := hst; rw [List.take_of_length_le (by omega)] at h; exact h
        exact ⟨(u), Ap, np, cp, fp, rfl, hF12, (IFacsR.sub hp q5), (hst2.full (by omega) (by omega)), (nine_end hub (by omega))⟩
theorem law11_Poly {w : World} {Sf : Nat → Prop} {Af : Option Addr} {nf cf : Nat} {xf : List Int} (hf : IntsR w Sf Af nf cf xf) (hnf : nf ≤ 1000) : Calls Tryz.prog 12 #[(.slice Af nf cf)] w (Ret fun v w' => ∃ (Ar : Option Addr) (nr : Nat) (cr : Nat) (lr : List RI), v = (.slice Ar nr cr) ∧ Ext w w' ∧ PolyR w' (fun b => w.heap.size ≤ b) Ar nr cr lr (2) ∧ (zs lr = trimZ xf) ∧ (nr ≤ nf) ∧ (AllC lr)) := by
  have ⟨lf, kf, mf⟩ := hf.lkm
  replace hf := hf.low
  refine enter Tryz.func12 rfl Tryz.ntmps12 rfl (rS fun K1 hK1 => sAs rfl (sK hK1 (rS fun K2 hK2 => sAs rfl (sK hK2 (wp_seq_k fun K3 hK3 => rS fun K4 hK4 => sAi rfl (sK hK4 (wp_block ?_)))))))
  refine lLoop (fun m e w_ => ∃ (k : Nat) (O : List Int) (Ao : Option Addr) (cp : Nat), m = nf - k ∧ e 0 = (.slice Af nf cf) ∧ e 3 = (.slice Ao k cp) ∧ e 4 = (.int .i64 ((k : Int))) ∧ Frm (fun b => w.heap.size ≤ b) w w_ ∧ (k ≤ nf) ∧ (O = xf.take k) ∧ (Own w_ w.heap.size 2 1 Ao k cp (O.map (Value.int .i64)))) (nf - (0)) ?_ ?_
  · refine ⟨(0), ([]), (none), (0), rfl, rfl, rfl, cI, (Frm.refl _ _), ?_, ?_, ?_⟩
    · omega
    · rfl
    · exact Own.nil
  · rintro m5 e12 w6 ⟨k, O, Ao, cp, hm11, hs7, hs8, hs9, hF10, hk, hF, hO⟩
    obtain ⟨r13, rfl⟩ := sq (e := e12) (t := 0) hs7
    obtain ⟨r14, rfl⟩ := sq (e := r13) (t := 3) hs8
    obtain ⟨r15, rfl⟩ := sq (e := r14) (t := 4) hs9
    have hz16 := hF10.size
    have ⟨lO, kO, mO⟩ := hO.lkm
    refine wp_seq_k fun K17 hK17 => rS fun K18 hK18 => sMi rfl (sMs rfl (sV (evLen Tryz.underlying39 rfl) ?_))
    by_cases hc19 : ((k : Int)) < ((nf : Int))
    · refine sV (evLss true rfl rfl (dT hc19)) (sK hK18 (cT rfl (wp_skip (xN (hK17 _ _ (wp_seq_k fun K20 hK20 => wp_block (wp_region_lit (sMs rfl (sMs rfl (sMi rfl ?_))))))))))
      have h21 := (hf.frmB hF10 q3)
      obtain ⟨b22, o23, rfl⟩ := h21.base (by omega)
      refine sV (evIx k Tryz.underlying39 sz3 rfl rfl (o23 + k)) ?_
      have hr24 := h21.rng k
      refine sV (evLoad one3 rfl (h21.cell (by omega))) (sO (oBuildSlice [(.int .i64 (xf.getD k 0))] [[(.int .i64 (xf.getD k 0))]] Tryz.underlying74 inf2 rfl rfl rfl rfl rfl (fun g25 w26 hg27 hE28 hz29 hB30 => ?_)))
      replace hB30 : Blk w26 g25 2 [(.int .i64 (xf.getD k 0))] := hB30
      have hO31 := (hO.ext hE28)
      refine sO (oApp (B := w.heap.size) (cs := (O).map (Value.int .i64)) Tryz.underlying74 inf2 rfl (by decide) rfl rfl hO31 hB30 rfl rfl (by omega) (by omega) (by omega) (fun A32 c33 w34 hO35 hF36 _ _ => ?_))
      replace hO35 : Own w34 w.heap.size 2 1 A32 (k + 1) c33 ((O ++ [xf.getD k 0]).map (Value.int .i64)) := by rw [List.map_append]; exact hO35
      refine sAs rfl (sDone (bN (xN (hK20 _ _ (wp_region_lit (sMi rfl (sV (evAdd (((k : Int)) + 1) rfl rfl wI) (sAi rfl (sDone ?_)))))))))
      have hR37 := hE28.rx hF36
      refine again (nf - (k + 1)) (by omega) ⟨(k + 1), (O ++ [xf.getD k 0]), (A32), (c33), rfl, rfl, rfl, cI, (hF10.trans hR37), ?_, ?_, ?_⟩
      · omega
      · exact take_snoc16 hF (by omega)
      · exact hO35
    · refine sV (evLss false rfl rfl (dF hc19)) (sK hK18 (cF rfl (wp_exit (xE (xE (bE (xN (hK3 _ _ (rS fun K38 hK38 => sMs rfl (sO (oCall rfl call23 (unipoly_Of (Own.intsR hO (fun x hx => hf.2 x (by rw [hF] at hx; exact List.mem_of_mem_take hx))) (by omega)) rfl ?_)))))))))))
      rintro _ w40 ⟨Ar_39, nr_39, cr_39, lr_39, rfl, hE41, hr_39, e_39, le_39, cn_39⟩
      have hz42 := hE41.size
      have ⟨kr_39, jr_39, mr_39⟩ := hr_39.lkm
      refine sAs rfl (sK hK38 (wp_ret (ret1 (.slice Ar_39 nr_39 cr_39) Tryz.results12 (resT rfl) ?_)))
      have hR44 := hF10.xr hE41
      exact ⟨Ar_39, nr_39, cr_39, lr_39, rfl, (Frm.mono hR44 q4), (PolyR.le (PolyR.sub hr_39 q5) (by omega)), (by rw [e_39, hF, List.take_of_length_le (by omega)]), (by omega), cn_39⟩
theorem law11_product {w : World} {St : Nat → Prop} {At : Option Addr} {nt ct : Nat} {tt : List T3} (ht : TripR w St At nt ct tt) (hft : Few9 tt) (hnt : nt ≤ 5) : Calls Tryz.prog 8 #[(.slice At nt ct)] w (Ret fun v w' => ∃ (Ar : Option Addr) (nr : Nat) (cr : Nat) (lr : List RI), v = (.slice Ar nr cr) ∧ Ext w w' ∧ PolyR w' (fun b => w.heap.size ≤ b) Ar nr cr lr (2) ∧ (P (zs lr) = prodT tt) ∧ (nrm (zs lr) ≤ 14348907) ∧ (nr ≤ 11) ∧ (AllC lr)) := by
  have ⟨kt, jt, mt⟩ := ht.lkm; replace ht := ht.low
  refine enter Tryz.func8 rfl Tryz.ntmps8 rfl (rS fun K1 hK1 => sAs rfl (sK hK1 (rS fun K2 hK2 => sMs rfl (sO (oCall rfl call27 (ref11_Product ht (by assumption) (by omega)) rfl ?_)))))
  rintro _ w4 ⟨Ar_3, nr_3, cr_3, xr_3, rfl, hE5, hr_3, e_3, t_3, nb_3, ln_3⟩
  have hz6 := hE5.size
  have ⟨lr_3, kr_3, mr_3⟩ := hr_3.lkm
  refine sO (oCall rfl call12 (law11_Poly hr_3 (by omega)) rfl ?_)
  rintro _ w9 ⟨Ar_8, nr_8, cr_8, lr_8, rfl, hE10, hr_8, e_8, ln_8, cn_8⟩
  have hz11 := hE10.size
  have ⟨kr_8, jr_8, mr_8⟩ := hr_8.lkm
  refine sAs rfl (sK hK2 (wp_ret (ret1 (.slice Ar_8 nr_8 cr_8) Tryz.results8 (resT rfl) ?_)))
  have hR13 := hE5.trans hE10
  exact ⟨Ar_8, nr_8, cr_8, lr_8, rfl, hR13, (PolyR.le (PolyR.sub hr_8 q5) (by omega)), (by rw [e_8, P_trim, e_3]), (by rw [e_8, nrm_trim]; exact nrm27_end nb_3 (by omega)), (by omega), cn_8⟩
end Go.Proofs.YtbniolgfaeiedaaGreat
