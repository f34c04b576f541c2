/-
  Walk of package unidiv: the subresultant sequence.
-/
import Derived.Test.YtbniolgfaeiedaaGreatSq3
import Derived.Test.YtbniolgfaeiedaaGreatLibE
import Derived.Test.YtbniolgfaeiedaaGreatLibB
namespace Go.Proofs.YtbniolgfaeiedaaGreat
open Go.RowKit Go.Gx
set_option maxHeartbeats 4000000 in
theorem unidiv_remainders1 {w : World} {l D b8 : Nat} {rc : Bool → Loop} {v8 : Value} {pf : Nat} {Af : Option Addr} {nf cf Mf : Nat} {lf : List RI} {pg : Nat} {Ag : Option Addr} {ng cg Mg : Nat} {lg : List RI} (hl : w.heap[l]? = some (.loop (rc false))) (hD : w.heap[D]? = some (.deferred (some []))) (B8 : Blk w b8 32 [v8]) (hY : ∀ (W : World) (A : Option Addr) (n c : Nat) (ll : List RI) (v : Value), Frm (fun b => b = l ∨ b = b8) w W → W.heap[l]? = some (.loop (rc false)) → W.heap[D]? = some (.deferred (some [])) → Blk W b8 32 [v] → PolyR W (fun b => w.heap.size ≤ b) A n c ll 60000 → n ≤ 11 → 1 ≤ (trimZ (zs ll)).length → Yd Tryz.prog l #[.slice A n c] W (Ret fun r W2 => ∃ y : Bool, r = .bool y ∧ (y = false ↔ (trimZ (zs ll)).length = 1) ∧ Frm (fun b => b = l ∨ b = b8) W W2 ∧ W2.heap[l]? = some (.loop (rc (!y))) ∧ W2.heap[D]? = some (.deferred (some [])) ∧ Blk W2 b8 32 [.slice A n c])) (Bf : Blk w pf 32 [.slice Af nf cf]) (hf : PolyR w (fun b => b ≠ l ∧ b ≠ b8) Af nf cf lf Mf) (df : pf ≠ b8) (Bg : Blk w pg 32 [.slice Ag ng cg]) (hg : PolyR w (fun b => b ≠ l ∧ b ≠ b8) Ag ng cg lg Mg) (dg : pg ≠ b8) (hnf : nf ≤ 11) (hng : ng ≤ 11) (hMf : Mf ≤ 2401) (hMg : Mg ≤ 2401) (hle : (trimZ (zs lg)).length ≤ (trimZ (zs lf)).length) (hg1 : 1 ≤ (trimZ (zs lg)).length) : Calls Tryz.prog 95 #[(.func (.yield l) #[] #[]), (.pointer (some ⟨pf, 0, none⟩)), (.pointer (some ⟨pg, 0, none⟩))] w (Ret fun v w' => ∃ (Al : Option Addr) (nl : Nat) (cl : Nat) (ll : List RI) (dn : Bool), v = (.tuple #[]) ∧ Frm (fun b => b = l ∨ b = b8) w w' ∧ (w'.heap[l]? = some (.loop (rc dn))) ∧ (w'.heap[D]? = some (.deferred (some []))) ∧ (Blk w' b8 32 [.slice Al nl cl]) ∧ (PolyR w' (fun b => w.heap.size ≤ b) Al nl cl ll 60000) ∧ (nl ≤ 11) ∧ (GcdQ (P (zs lf)) (P (zs lg)) (P (zs ll))) ∧ (P (zs ll) ≠ 0)) := by
  have ltl := (Array.getElem?_eq_some_iff.1 hl).1; have ltD := (Array.getElem?_eq_some_iff.1 hD).1; have lt8 := B8.lt
  have nlD : D ≠ l := by rintro rfl; rw [hl] at hD; cases hD
  have nl8 : b8 ≠ l := by rintro rfl; unfold Blk at B8; rw [hl] at B8; cases B8
  have nD8 : b8 ≠ D := by rintro rfl; unfold Blk at B8; rw [hD] at B8; cases B8
  have ⟨kf, jf, mf⟩ := hf.lkm; have ltf := Bf.lt; have nef : pf ≠ l := by rintro rfl; unfold Blk at Bf; rw [hl] at Bf; cases Bf
  replace hf := hf.sub (S' := fun b => b ≠ l ∧ b ≠ b8 ∧ b < w.heap.size) fun _ hb hs => ⟨hs.1, hs.2, hb⟩
  have ⟨kg, jg, mg⟩ := hg.lkm; have ltg := Bg.lt; have neg : pg ≠ l := by rintro rfl; unfold Blk at Bg; rw [hl] at Bg; cases Bg
  replace hg := hg.sub (S' := fun b => b ≠ l ∧ b ≠ b8 ∧ b < w.heap.size) fun _ hb hs => ⟨hs.1, hs.2, hb⟩
  refine enter Tryz.func95 rfl Tryz.ntmps95 rfl (wp_seq_k fun K1 hK1 => dBegin (fun _ => False) mixed (fun w2 hE3 hz4 => ?_))
  have hB5 := (Bf.ext hE3)
  refine dV 0 rfl (fun _ hf => evLoadB one32 rfl (hB5.ext hf) rfl) ?_
  have hB6 := (Bg.ext hE3)
  refine dV 2 rfl (fun _ hf => evLoadB one32 rfl (hB6.ext hf) rfl) ?_
  have h7 := (hf.ext hE3)
  refine dOp 1 rfl rfl (by kernel_rfl) (oCall rfl call69 (unipoly_Normal h7 (by omega) (by omega)) rfl ?_)
  rintro _ w9 ⟨qr_8, nr_8, lr_8, rfl, hE10, hgr_8, Br_8, hAr_8, kr_8, mr_8, e_8, ln_8, cn_8⟩
  refine ⟨(Frm.of_ext hE10), ?_⟩
  have hz11 := hE10.size
  have hhr_8 : w2.heap.size ≤ qr_8 := hgr_8; have ltr_8 := Br_8.lt
  have hR13 := hE3.trans hE10
  have h14 := (hg.ext hR13)
  refine dOp 3 rfl rfl (by kernel_rfl) (oCall rfl call69 (unipoly_Normal h14 (by omega) (by omega)) rfl ?_)
  rintro _ w16 ⟨qr_15, nr_15, lr_15, rfl, hE17, hgr_15, Br_15, hAr_15, kr_15, mr_15, e_15, ln_15, cn_15⟩
  refine ⟨(Frm.of_ext hE17), ?_⟩
  have hz18 := hE17.size
  have hhr_15 : w9.heap.size ≤ qr_15 := hgr_15; have ltr_15 := Br_15.lt
  refine dAs 4 rfl rfl (dAs 5 rfl rfl (dDone (by kernel_rfl) (xN (hK1 _ _ (wp_seq_k fun K20 hK20 => wp_seq_k fun K21 hK21 => ?_)))))
  have h22 := (hAr_8.ext hE17)
  have h23 := h22.sub (S' := fun b => (qr_8 < b) ∧ b < w16.heap.size) fun _ hb hs => ⟨hs, hb⟩
  have hB24 := (Br_8.ext hE17)
  have h25 : PolyR w16 (fun b => w.heap.size ≤ b ∧ b < w16.heap.size) (some ⟨qr_8, 0, none⟩) nr_8 nr_8 (lr_8) ((Mf)) := PolyR.of_blk hB24 (AllN.sub h23 q5) (by (try dsimp only); omega) (by exact lq) (by omega) (by unfold CapMax; omega)
  have hPa := PolyR.le (M' := 60000) h25 (by omega)
  have ⟨hta0, hsa, hpa⟩ := trim_len2 e_8; rw [zlen] at hta0; have hca := fun i => PolyR.coef h25 (K := capK) (cap_of (by omega)) i
  have hta : (trimZ (zs lr_8)).length = nr_8 := by omega
  have h27 := hAr_15.sub (S' := fun b => (qr_15 < b) ∧ b < w16.heap.size) fun _ hb hs => ⟨hs, hb⟩
  have h28 : PolyR w16 (fun b => w.heap.size ≤ b ∧ b < w16.heap.size) (some ⟨qr_15, 0, none⟩) nr_15 nr_15 (lr_15) ((Mg)) := PolyR.of_blk Br_15 (AllN.sub h27 q5) (by (try dsimp only); omega) (by exact lq) (by omega) (by unfold CapMax; omega)
  have hPb := PolyR.le (M' := 60000) h28 (by omega)
  have ⟨htb0, hsb, hpb⟩ := trim_len2 e_15; rw [zlen] at htb0; have hcb := fun i => PolyR.coef h28 (K := capK) (cap_of (by omega)) i
  have htb : (trimZ (zs lr_15)).length = nr_15 := by omega
  refine iRegion (iEv (v := (.func (.yield l) #[] #[])) (by intro c h; cases h) (rfl) rfl rfl (iEv (v := (.slice (some ⟨qr_8, 0, none⟩) nr_8 nr_8)) (by intro c h; cases h) (rfl) rfl rfl ?_))
  have hR31 := hR13.trans hE17
  have hl30 := (hR31.block l (Array.getElem?_eq_some_iff.1 hl).1 (fun h => h)).trans hl; have hD30 := (hR31.block D (Array.getElem?_eq_some_iff.1 hD).1 (fun h => h)).trans hD
  have B830 := B8.ext hR31
  refine iYield rfl rfl rfl (hY _ _ _ _ _ _ (Frm.of_ext hR31) hl30 hD30 B830 (PolyR.le (PolyR.sub hPa q5) (by omega)) (by omega) (by omega)) ?_
  rintro _ w33 ⟨y32, rfl, hy32, hF32, hl32, hD32, B832⟩
  have hz34 := hF32.size
  refine iEv (v := (.bool (!y32))) (by intro c h; cases h) (evNot _ rfl rfl) rfl rfl (iEv (v := (.bool (!y32))) (by intro c h; cases h) (rfl) rfl rfl ?_)
  cases y32
  · refine iSkip rfl rfl (iSkip rfl rfl (iSkip rfl rfl (iSkip rfl rfl (iEv (v := (.bool true)) (by intro c h; cases h) (rfl) rfl rfl (iDone (xN (hK21 _ _ (cT rfl (wp_ret (xR (ret0 Tryz.results95 ?_)))))))))))
    have h35 := (hPa.frmB hF32 q3)
    have hR36 := hR31.rx hF32
    exact ⟨(some ⟨qr_8, 0, none⟩), nr_8, nr_8, lr_8, true, rfl, hR36, hl32, hD32, B832, (PolyR.le (PolyR.sub h35 q5) (by omega)), (by omega), (gcd_trim hpa hpb (gcd_const (hy32.1 rfl) (InI.left _ _))), (P_of_len (by omega))⟩
  · refine iEv (v := (.func (.yield l) #[] #[])) (by intro c h; cases h) (rfl) rfl rfl (iEv (v := (.slice (some ⟨qr_15, 0, none⟩) nr_15 nr_15)) (by intro c h; cases h) (rfl) rfl rfl ?_)
    have hR37 := hR31.rx hF32
    have h38 := (hPb.frmB hF32 q3)
    refine iYield rfl rfl rfl (hY _ _ _ _ _ _ hR37 hl32 hD32 B832 (PolyR.le (PolyR.sub h38 q5) (by omega)) (by omega) (by omega)) ?_
    rintro _ w40 ⟨y39, rfl, hy39, hF39, hl39, hD39, B839⟩
    have hz41 := hF39.size
    refine iEv (v := (.bool (!y39))) (by intro c h; cases h) (evNot _ rfl rfl) rfl rfl (iEv (v := (.bool (!y39))) (by intro c h; cases h) (rfl) rfl rfl (iDone (xN (hK21 _ _ ?_))))
    cases y39
    · refine cT rfl (wp_ret (xR (ret0 Tryz.results95 ?_)))
      have h42 := (h38.frmB hF39 q3)
      have hR43 := hR37.trans hF39
      exact ⟨(some ⟨qr_15, 0, none⟩), nr_15, nr_15, lr_15, true, rfl, hR43, hl39, hD39, B839, (PolyR.le (PolyR.sub h42 q5) (by omega)), (by omega), (gcd_trim hpa hpb (gcd_const (hy39.1 rfl) (InI.right _ _))), (P_of_len (by omega))⟩
    · refine cF rfl (wp_skip (xN (hK20 _ _ (wp_seq_k fun K44 hK44 => ?_))))
      have hn145 : (trimZ (zs lr_15)).length ≠ 1 := fun h => nomatch hy39.2 h
      refine wp_region_lit (sMs rfl (sV (evLen Tryz.underlying32 rfl) (sMs rfl (sV (evLen Tryz.underlying32 rfl) (sV (evSub (((nr_8 - nr_15 : Nat) : Int)) rfl rfl (wI64 (by omega))) (sAi rfl (sK hK44 (rS fun K46 hK46 => sO (oCall rfl call44 (integer_Of (by omega)) rfl ?_)))))))))
      rintro _ w48 ⟨gr_47, Ar_47, nr_47, cr_47, dr_47, rfl, hE49, hr_47, v_47, cn_47, le_47⟩
      have hz50 := hE49.size
      have ⟨lr_47, kr_47, mr_47⟩ := hr_47.lkm
      have h52 := hr_47.sub (S' := fun b => (w40.heap.size ≤ b) ∧ b < w48.heap.size) fun _ hb hs => ⟨hs, hb⟩
      refine sO (oAlloc [(.bool false), (.slice none 0 0)] zero68 rfl (fun g53 w54 hg55 hE56 hz57 hB58 => sO (oStore [(.bool gr_47), (.slice Ar_47 nr_47 cr_47)] rfl rfl rfl sz68 rfl hB58 (Nat.le_of_ble_eq_true rfl) (fun w59 hU60 hz61 hB62 => ?_))))
      replace hB62 : Blk w59 g53 68 [(.bool gr_47), (.slice Ar_47 nr_47 cr_47)] := hB62
      refine sK hK46 (rS fun K63 hK63 => sV (evLoadAB [(.bool gr_47), (.slice Ar_47 nr_47 cr_47)] agg68 sz68 rfl hB62 rfl) (sMi rfl (sV (evAdd ((((nr_8 - nr_15 : Nat) : Int)) + 1) rfl rfl wI) ?_)))
      have hR64 := hE56.rx hU60
      have h65 := (h52.frmB hR64 q3)
      refine sO (oCall rfl call96 (unidiv_power h65 (xn := (nr_8 - nr_15) + 1) (by omega) (by omega) (by omega)) (by rw [show ((((nr_8 - nr_15 : Nat) : Int)) + 1 : Int) = (((nr_8 - nr_15) + 1 : Nat) : Int) by omega]; rfl) ?_)
      rintro _ w67 ⟨gr_66, Ar_66, nr_66, cr_66, dr_66, rfl, hE68, hr_66, v_66, cn_66, le_66⟩
      have hz69 := hE68.size
      have ⟨lr_66, kr_66, mr_66⟩ := hr_66.lkm
      have h71 := hr_66.sub (S' := fun b => (w59.heap.size ≤ b) ∧ b < w67.heap.size) fun _ hb hs => ⟨hs, hb⟩
      refine sO (oAlloc [(.bool false), (.slice none 0 0)] zero68 rfl (fun g72 w73 hg74 hE75 hz76 hB77 => sO (oStore [(.bool gr_66), (.slice Ar_66 nr_66 cr_66)] rfl rfl rfl sz68 rfl hB77 (Nat.le_of_ble_eq_true rfl) (fun w78 hU79 hz80 hB81 => ?_))))
      replace hB81 : Blk w78 g72 68 [(.bool gr_66), (.slice Ar_66 nr_66 cr_66)] := hB81
      refine sK hK63 (wp_block ?_)
      have hR83 := (hE68.trans hE75).rx hU79
      have hB84 := (hB62.frm hR83 q1)
      have hR86 := ((((hE49.trans hE56).rx hU60).xr hE68).xr hE75).tr hU79
      have hl85 := (hR86.block l (Array.getElem?_eq_some_iff.1 hl39).1 (by (try dsimp only); omega)).trans hl39; have hD85 := (hR86.block D (Array.getElem?_eq_some_iff.1 hD39).1 (by (try dsimp only); omega)).trans hD39
      have B885 := B839.frm hR86 q1
      have hR87 := ((((((hF32.trans hF39).xr hE49).xr hE56).tr hU60).xr hE68).xr hE75).tr hU79
      have h88 := (hPa.frmB hR87 q3)
      have hR89 := (((((hF39.xr hE49).xr hE56).tr hU60).xr hE68).xr hE75).tr hU79
      have h90 := (h38.frmB hR89 q3)
      have h91 := (h65.frmB hR83 q3)
      have hR92 := hE75.rx hU79
      have h93 := (h71.frmB hR92 q3)
      refine lLoop (fun m e w_ => ∃ (A1 : Option Addr) (n1 : Nat) (c1 : Nat) (l1 : List RI) (A2 : Option Addr) (n2 : Nat) (c2 : Nat) (l2 : List RI) (g3 : Bool) (A3 : Option Addr) (n3 : Nat) (c3 : Nat) (d3 : List Nat) (g4 : Bool) (A4 : Option Addr) (n4 : Nat) (c4 : Nat) (d4 : List Nat) (lz : Int), m = n2 ∧ e 0 = (.func (.yield l) #[] #[]) ∧ e 4 = (.slice A1 n1 c1) ∧ e 5 = (.slice A2 n2 c2) ∧ e 6 = (.int .i64 (((n1 - n2 : Nat) : Int))) ∧ e 7 = (.pointer (some ⟨g53, 0, none⟩)) ∧ e 8 = (.pointer (some ⟨g72, 0, none⟩)) ∧ Frm (fun b => b = l ∨ b = b8 ∨ b = g53 ∨ b = g72) w78 w_ ∧ Blk w_ g53 68 ([.bool g3, .slice A3 n3 c3]) ∧ Blk w_ g72 68 ([.bool g4, .slice A4 n4 c4]) ∧ (w_.heap[l]? = some (.loop (rc false))) ∧ (w_.heap[D]? = some (.deferred (some []))) ∧ (Blk w_ b8 32 [.slice A2 n2 c2]) ∧ (PolyR w_ (fun b => w.heap.size ≤ b ∧ b ≠ g53 ∧ b ≠ g72) A1 n1 c1 l1 60000) ∧ (PolyR w_ (fun b => w.heap.size ≤ b ∧ b ≠ g53 ∧ b ≠ g72) A2 n2 c2 l2 60000) ∧ (NatR w_ (fun b => w.heap.size ≤ b ∧ b ≠ g53 ∧ b ≠ g72) A3 n3 c3 d3) ∧ (NatR w_ (fun b => w.heap.size ≤ b ∧ b ≠ g53 ∧ b ≠ g72) A4 n4 c4 d4) ∧ ((trimZ (zs l1)).length = n1) ∧ ((trimZ (zs l2)).length = n2) ∧ (RemI (zs lr_8) (zs lr_15) (zs l1) (zs l2) lz (zval g3 d3) (zval g4 d4)) ∧ (2 ≤ n2 ∧ n2 ≤ n1 ∧ n1 ≤ 11 ∧ n2 ≤ (trimZ (zs lr_15)).length ∧ n1 ≤ (trimZ (zs lr_8)).length) ∧ (n3 ≤ 60000) ∧ (n4 ≤ 67108864)) ((nr_15)) ?_ ?_
      · refine ⟨((some ⟨qr_8, 0, none⟩)), (nr_8), (nr_8), (lr_8), ((some ⟨qr_15, 0, none⟩)), (nr_15), (nr_15), (lr_15), (gr_47), (Ar_47), (nr_47), (cr_47), (dr_47), (gr_66), (Ar_66), (nr_66), (cr_66), (dr_66), (1), rfl, rfl, rfl, rfl, cI, rfl, rfl, (Frm.refl _ _), ?_, ?_, ?_, ?_, ?_, ?_, ?_, ?_, ?_, ?_, ?_, ?_, ?_, ?_, ?_⟩
        · exact hB84
        · exact hB81
        · exact hl85
        · exact hD85
        · exact B885
        · exact PolyR.sub h88 q5
        · exact PolyR.sub h90 q5
        · exact NatR.sub h91 q5
        · exact NatR.sub h93 q5
        · exact hta
        · exact htb
        · have hv7 := v_47; have hv8 := v_66; rw [hv7] at hv8; rw [hv7]; exact RemI.start (by omega) (by omega) (by rw [hv8, hta, htb])
        · omega
        · omega
        · omega
      · rintro m82 e105 w94 ⟨A1, n1, c1, l1, A2, n2, c2, l2, g3, A3, n3, c3, d3, g4, A4, n4, c4, d4, lz, hm104, hs95, hs96, hs97, hs98, hs99, hs100, hF101, hB102, hB103, hl_, hD_, hB_, hP1, hP2, hN3, hN4, hta, htb, hR, hnn, h3, h4⟩
        obtain ⟨r106, rfl⟩ := sq (e := e105) (t := 0) hs95
        obtain ⟨r107, rfl⟩ := sq (e := r106) (t := 4) hs96
        obtain ⟨r108, rfl⟩ := sq (e := r107) (t := 5) hs97
        obtain ⟨r109, rfl⟩ := sq (e := r108) (t := 6) hs98
        obtain ⟨r110, rfl⟩ := sq (e := r109) (t := 7) hs99
        obtain ⟨r111, rfl⟩ := sq (e := r110) (t := 8) hs100
        have hz112 := hF101.size
        have ⟨k1_, j1_, m1_⟩ := hP1.lkm; have ⟨k2_, j2_, m2_⟩ := hP2.lkm; have hgl := hR.ldb.2; have hD0 := hR.D0; have hs0 := hR.sub.s0; have ⟨lV3, kV3, mV3⟩ := hN3.lkm; have ⟨lV4, kV4, mV4⟩ := hN4.lkm
        refine wp_block (rS fun K113 hK113 => sMs rfl (sMs rfl (sO (oCall rfl call97 (unidiv_Pseudo hP1 hP2 (by omega) (by omega) (by omega) (by omega) (by assumption)) rfl ?_))))
        rintro _ w115 ⟨Aq_114, nq_114, cq_114, lq_114, Ar_114, nr_114, cr_114, lr_114, xe_114, rfl, hE116, hq_114, hr_114, ok_114, id_114, lt_114, tr_114, lnq_114, lnr_114⟩
        have hz117 := hE116.size
        have ⟨kq_114, jq_114, mq_114⟩ := hq_114.lkm
        have ⟨kr_114, jr_114, mr_114⟩ := hr_114.lkm
        have hp : Psd (zs l1) (zs l2) (zs lq_114) (zs lr_114) := ⟨id_114, by rw [zlen]; omega, tr_114⟩; have hps : psM 60000 60000 ((trimZ (zs l1)).length - ((trimZ (zs l2)).length - 1)) ≤ 800000 := by unfold psM; omega
        refine sV (v := (.tuple #[(.slice Aq_114 nq_114 cq_114), (.slice Ar_114 nr_114 cr_114), (.int .i64 (xe_114))])) (rfl) (sV (v := (.slice Aq_114 nq_114 cq_114)) (rfl) (sV (v := (.slice Ar_114 nr_114 cr_114)) (rfl) (sV (v := (.int .i64 (xe_114))) (rfl) (sAs rfl (sAs rfl (sAi rfl (sK hK113 (wp_seq_k fun K120 hK120 => rS fun K121 hK121 => sMs rfl (sV (evLen Tryz.underlying32 rfl) ?_)))))))))
        by_cases hc122 : ((nr_114 : Int)) = 0
        · refine sV (evEql true rfl rfl (dT hc122)) (sK hK121 (cT rfl (wp_ret (xR (bR (xR (bR (ret0 Tryz.results95 ?_))))))))
          have hl123 := (hE116.block l (Array.getElem?_eq_some_iff.1 hl_).1 (fun h => h)).trans hl_; have hD123 := (hE116.block D (Array.getElem?_eq_some_iff.1 hD_).1 (fun h => h)).trans hD_
          have B8123 := hB_.ext hE116
          have h124 := (hP2.ext hE116)
          have hR125 := ((((((((hR37.trans hF39).xr hE49).xr hE56).tr hU60).xr hE68).xr hE75).tr hU79).tr hF101).xr hE116
          exact ⟨A2, n2, c2, l2, false, rfl, (Frm.mono hR125 q4), hl123, hD123, B8123, (PolyR.le (PolyR.sub h124 q5) (by omega)), (by omega), (gcd_trim hpa hpb (hR.done hp (by rw [zlen]; omega))), (P_of_len (by omega))⟩
        · refine sV (evEql false rfl rfl (dF hc122)) (sK hK121 (cF rfl (wp_skip (xN (hK120 _ _ (rS fun K126 hK126 => sMs rfl ?_))))))
          have hB127 := (hB103.ext hE116)
          refine sV (evLoadAB [(.bool g4), (.slice A4 n4 c4)] agg68 sz68 rfl hB127 rfl) ?_
          have h128 := (hN4.ext hE116)
          refine sO (oCall rfl call59 (unidiv_over hr_114 h128 (by omega) (by omega) (by omega) (by omega)) rfl ?_)
          rintro _ w130 ⟨Ar_129, nr_129, cr_129, lr_129, rfl, hE131, hr_129, e_129, ln_129, cn_129⟩
          have hz132 := hE131.size
          have ⟨kr_129, jr_129, mr_129⟩ := hr_129.lkm
          have ⟨hq1, hq2, hq3, hq4⟩ := hR.quo hp e_129; rw [zlen] at hq2; rw [zlen, zlen] at hq3; have hin := hR.inr hp e_129
          have htr : (trimZ (zs lr_129)).length = nr_129 := by omega
          have hnr : nr_129 + 1 ≤ n2 ∧ 1 ≤ nr_129 := by omega
          have hT134 := (PolyR.tightC (K := capZ) hr_129 cn_129 (fun i => hR.sizeZ hp e_129 hca hcb (by omega) (by omega) (by omega) i)).le cap_le
          refine sAs rfl (sK hK126 (wp_seq_k fun K135 hK135 => wp_seq_k fun K136 hK136 => iRegion (iEv (v := (.func (.yield l) #[] #[])) (by intro c h; cases h) (rfl) rfl rfl (iEv (v := (.slice Ar_129 nr_129 cr_129)) (by intro c h; cases h) (rfl) rfl rfl ?_))))
          have hR138 := hE116.trans hE131
          have hl137 := (hR138.block l (Array.getElem?_eq_some_iff.1 hl_).1 (fun h => h)).trans hl_; have hD137 := (hR138.block D (Array.getElem?_eq_some_iff.1 hD_).1 (fun h => h)).trans hD_
          have B8137 := hB_.ext hR138
          have hR139 := (((((((((hR37.trans hF39).xr hE49).xr hE56).tr hU60).xr hE68).xr hE75).tr hU79).tr hF101).xr hE116).xr hE131
          refine iYield rfl rfl rfl (hY _ _ _ _ _ _ (Frm.mono hR139 q4) hl137 hD137 B8137 (PolyR.le (PolyR.sub hT134 q5) (by omega)) (by omega) (by omega)) ?_
          rintro _ w141 ⟨y140, rfl, hy140, hF140, hl140, hD140, B8140⟩
          have hz142 := hF140.size
          refine iEv (v := (.bool (!y140))) (by intro c h; cases h) (evNot _ rfl rfl) rfl rfl (iDone (xN (hK136 _ _ ?_)))
          cases y140
          · refine cT rfl (wp_ret (xR (bR (xR (bR (ret0 Tryz.results95 ?_))))))
            have h143 := (hT134.frmB hF140 q3)
            have hR144 := hR139.tr hF140
            exact ⟨Ar_129, nr_129, cr_129, lr_129, true, rfl, (Frm.mono hR144 q4), hl140, hD140, B8140, (PolyR.le (PolyR.sub h143 q5) (by omega)), (by omega), (gcd_trim hpa hpb (gcd_const (hy140.1 rfl) hin)), (P_of_len (by omega))⟩
          · refine cF rfl (wp_skip (xN (hK135 _ _ (wp_seq_k fun K145 hK145 => ?_))))
            have hn1146 : (trimZ (zs lr_129)).length ≠ 1 := fun h => nomatch hy140.2 h
            refine wp_region_lit (sMs rfl ?_)
            have hR147 := hR138.rx hF140
            have h148 := (hP2.frmB hR147 q3)
            refine sO (oCall rfl call53 (unipoly_Lead h148 (by omega) (by omega)) rfl ?_)
            rintro _ w150 ⟨gr_149, Ar_149, nr_149, cr_149, dr_149, rfl, hE151, hr_149, v_149, cn_149, le_149⟩
            have hz152 := hE151.size
            have ⟨lr_149, kr_149, mr_149⟩ := hr_149.lkm
            refine sO (oCall rfl call54 (integer_Neg hr_149 (by omega)) rfl ?_)
            rintro _ w155 ⟨gr_154, Ar_154, nr_154, cr_154, dr_154, rfl, hE156, hr_154, v_154, cn_154, le_154⟩
            have hz157 := hE156.size
            have ⟨lr_154, kr_154, mr_154⟩ := hr_154.lkm
            refine sO (oAlloc [(.bool false), (.slice none 0 0)] zero68 rfl (fun g159 w160 hg161 hE162 hz163 hB164 => sO (oStore [(.bool gr_154), (.slice Ar_154 nr_154 cr_154)] rfl rfl rfl sz68 rfl hB164 (Nat.le_of_ble_eq_true rfl) (fun w165 hU166 hz167 hB168 => ?_))))
            replace hB168 : Blk w165 g159 68 [(.bool gr_154), (.slice Ar_154 nr_154 cr_154)] := hB168
            refine sK hK145 (wp_seq_k fun K169 hK169 => rS fun K170 hK170 => sMi rfl ?_)
            by_cases hc171 : (((n1 - n2 : Nat) : Int)) > 0
            · refine sV (evGtr true rfl rfl (dT hc171)) (sK hK170 (cT rfl (dBegin (fun b => b = g53) mixed (fun w172 hE173 hz174 => ?_))))
              have hB175 := (hB168.ext hE173)
              refine dV 0 rfl (fun _ hf => evLoadAB [(.bool gr_154), (.slice Ar_154 nr_154 cr_154)] agg68 sz68 rfl (hB175.frm hf q1) rfl) (dMi 1 rfl rfl (dMi 4 rfl rfl (dV 5 rfl (fun _ _ => evSub (((n1 - n2 - 1 : Nat) : Int)) rfl rfl (wI64 (by omega))) (dTwo 2 3 (by kernel_rfl) ?_ ?_))))
              · have hR176 := (hE162.rx hU166).xr hE173
                have h177 := (hr_154.frmB hR176 q3)
                refine dWp (i := 2) rfl rfl (oCall rfl call96 (unidiv_power h177 (xn := n1 - n2) (by omega) (by omega) (by omega)) rfl ?_)
                rintro _ w179 ⟨gr_178, Ar_178, nr_178, cr_178, dr_178, rfl, hE180, hr_178, v_178, cn_178, le_178⟩
                refine ⟨(Frm.of_ext hE180), ?_⟩
                have hz181 := hE180.size
                have ⟨lr_178, kr_178, mr_178⟩ := hr_178.lkm
                have hR183 := (((((hR147.xr hE151).xr hE156).xr hE162).tr hU166).xr hE173).xr hE180
                have hB184 := (hB102.frm hR183 q1)
                refine dOp 3 rfl rfl (by kernel_rfl) (oEv (v := (.agg #[(.bool g3), (.slice A3 n3 c3)])) (evLoadAB [(.bool g3), (.slice A3 n3 c3)] agg68 sz68 rfl hB184 rfl) rfl ⟨Frm.refl _ _, ?_⟩)
                have h185 := (hN3.frmB hR183 q3)
                refine dOp 6 rfl rfl (by kernel_rfl) (oCall rfl call96 (unidiv_power h185 (xn := n1 - n2 - 1) (by omega) (by omega) (by omega)) rfl ?_)
                rintro _ w187 ⟨gr_186, Ar_186, nr_186, cr_186, dr_186, rfl, hE188, hr_186, v_186, cn_186, le_186⟩
                refine ⟨(Frm.of_ext hE188), ?_⟩
                have hz189 := hE188.size
                have ⟨lr_186, kr_186, mr_186⟩ := hr_186.lkm
                have hz66 : zval gr_186 dr_186 ≠ 0 := by rw [v_186]; exact Int.pow_ne_zero hs0
                have h191 := (hr_178.ext hE188)
                refine dOp 7 rfl rfl (by kernel_rfl) (oCall rfl call88 (division_Quo h191 hr_186 (by omega) (by omega) (by omega)) rfl ?_)
                rintro _ w193 ⟨gq_192, Aq_192, nq_192, cq_192, dq_192, gr_192, Ar_192, nr_192, cr_192, dr_192, xe_192, rfl, hE194, hq_192, hr_192, v_192, m_192, cnq_192, cnr_192, ok_192, leq_192, ler_192⟩
                refine ⟨(Frm.of_ext hE194), ?_⟩
                have hz195 := hE194.size
                have ⟨lq_192, kq_192, mq_192⟩ := hq_192.lkm
                have ⟨lr_192, kr_192, mr_192⟩ := hr_192.lkm
                have hs1 : zval gq_192 dq_192 = ((-ldP (zs l2)) ^ ((trimZ (zs l1)).length - (trimZ (zs l2)).length)).tdiv (zval g3 d3 ^ ((trimZ (zs l1)).length - (trimZ (zs l2)).length - 1)) := by rw [v_192, v_178, v_186, v_154, show zval _ _ = ldP (zs l2) from v_149, hta, htb]
                have hs2 : nq_192 ≤ 60000 := Nat.le_trans (int_tight (K := capZ) cnq_192 lq_192 (hR.sizeSZ (by omega) hs1 hca hcb (by omega) (by omega) (by omega) (by omega))) cap_le
                refine dV 8 rfl (v := (.tuple #[(.agg #[(.bool gq_192), (.slice Aq_192 nq_192 cq_192)]), (.agg #[(.bool gr_192), (.slice Ar_192 nr_192 cr_192)]), (.int .i64 (xe_192))])) (fun _ _ => rfl) (dV 9 rfl (v := (.agg #[(.bool gq_192), (.slice Aq_192 nq_192 cq_192)])) (fun _ _ => rfl) (dV 10 rfl (v := (.agg #[(.bool gr_192), (.slice Ar_192 nr_192 cr_192)])) (fun _ _ => rfl) (dV 11 rfl (v := (.int .i64 (xe_192))) (fun _ _ => rfl) ?_)))
                have hR198 := hE188.trans hE194
                have hB199 := (hB184.ext hR198)
                refine dOp 12 rfl rfl (by kernel_rfl) (oStore [(.bool gq_192), (.slice Aq_192 nq_192 cq_192)] rfl rfl rfl sz68 rfl hB199 (Nat.le_of_ble_eq_true rfl) (fun w200 hU201 hz202 hB203 => ?_))
                replace hB203 : Blk w200 g53 68 [(.bool gq_192), (.slice Aq_192 nq_192 cq_192)] := hB203
                refine ⟨hU201, dDone (by kernel_rfl) (xN (hK169 _ _ (rS fun K204 hK204 => sMs rfl (sMs rfl (sAs rfl (sAs rfl (sK hK204 (rS fun K205 hK205 => sMs rfl (sV (evLen Tryz.underlying32 rfl) (sMs rfl (sV (evLen Tryz.underlying32 rfl) (sV (evSub (((n2 - nr_129 : Nat) : Int)) rfl rfl (wI64 (by omega))) (sAi rfl (sK hK205 (dBegin (fun b => b = g72) mixed (fun w206 hE207 hz208 => ?_))))))))))))))))⟩
                have hR209 := (((hE180.trans hE188).trans hE194).rx hU201).xr hE207
                have hB210 := (hB175.frm hR209 q1)
                refine dV 0 rfl (fun _ hf => evLoadAB [(.bool gr_154), (.slice Ar_154 nr_154 cr_154)] agg68 sz68 rfl (hB210.frm hf q1) rfl) ?_
                have hB211 := (hB203.ext hE207)
                refine dV 1 rfl (fun _ hf => evLoadAB [(.bool gq_192), (.slice Aq_192 nq_192 cq_192)] agg68 sz68 rfl (hB211.frm hf q1) rfl) (dMi 2 rfl rfl ?_)
                have hR212 := hU201.xr hE207
                have h213 := (hq_192.frmB hR212 q3)
                refine dOp 3 rfl rfl (by kernel_rfl) (oCall rfl call96 (unidiv_power h213 (xn := n2 - nr_129) (by omega) (by omega) (by omega)) rfl ?_)
                rintro _ w215 ⟨gr_214, Ar_214, nr_214, cr_214, dr_214, rfl, hE216, hr_214, v_214, cn_214, le_214⟩
                refine ⟨(Frm.of_ext hE216), ?_⟩
                have hz217 := hE216.size
                have ⟨lr_214, kr_214, mr_214⟩ := hr_214.lkm
                have hR219 := hR209.xr hE216
                have h220 := (h177.frmB hR219 q3)
                refine dOp 4 rfl rfl (by kernel_rfl) (oCall rfl call60 (integer_Mul h220 hr_214 (by omega)) rfl ?_)
                rintro _ w222 ⟨gr_221, Ar_221, nr_221, cr_221, dr_221, rfl, hE223, hr_221, v_221, cn_221, le_221⟩
                refine ⟨(Frm.of_ext hE223), ?_⟩
                have hz224 := hE223.size
                have ⟨lr_221, kr_221, mr_221⟩ := hr_221.lkm
                have hR226 := ((((((((((((hE131.rx hF140).xr hE151).xr hE156).xr hE162).tr hU166).xr hE173).xr hE180).xr hE188).xr hE194).tr hU201).xr hE207).xr hE216).xr hE223
                have hB227 := (hB127.frm hR226 q1)
                refine dOp 5 rfl rfl (by kernel_rfl) (oStore [(.bool gr_221), (.slice Ar_221 nr_221 cr_221)] rfl rfl rfl sz68 rfl hB227 (Nat.le_of_ble_eq_true rfl) (fun w228 hU229 hz230 hB231 => ?_))
                replace hB231 : Blk w228 g72 68 [(.bool gr_221), (.slice Ar_221 nr_221 cr_221)] := hB231
                refine ⟨hU229, dDone (by kernel_rfl) (bN ?_)⟩
                have hR232 := ((((((hR183.xr hE188).xr hE194).tr hU201).xr hE207).xr hE216).xr hE223).tr hU229
                have hR233 := (hE216.trans hE223).rx hU229
                have hB234 := (hB211.frm hR233 q1)
                have hR236 := (((((((((((hE151.trans hE156).trans hE162).rx hU166).xr hE173).xr hE180).xr hE188).xr hE194).tr hU201).xr hE207).xr hE216).xr hE223).tr hU229
                have hl235 := (hR236.block l (Array.getElem?_eq_some_iff.1 hl140).1 (by (try dsimp only); omega)).trans hl140; have hD235 := (hR236.block D (Array.getElem?_eq_some_iff.1 hD140).1 (by (try dsimp only); omega)).trans hD140
                have B8235 := B8140.frm hR236 q1
                have h237 := (h148.frmB hR236 q3)
                have hR238 := ((((((((((((hF140.xr hE151).xr hE156).xr hE162).tr hU166).xr hE173).xr hE180).xr hE188).xr hE194).tr hU201).xr hE207).xr hE216).xr hE223).tr hU229
                have h239 := (hT134.frmB hR238 q3)
                have h240 := (h213.frmB hR233 q3)
                have h241 := (hr_221.frmB hU229 q3)
                refine again ((nr_129)) (by omega) ⟨(A2), (n2), (c2), (l2), (Ar_129), (nr_129), (cr_129), (lr_129), (gq_192), (Aq_192), (nq_192), (cq_192), (dq_192), (gr_221), (Ar_221), (nr_221), (cr_221), (dr_221), (-ldP (zs l2)), rfl, rfl, rfl, rfl, cI, rfl, rfl, (Frm.mono (hF101.tr hR232) q4), ?_, ?_, ?_, ?_, ?_, ?_, ?_, ?_, ?_, ?_, ?_, ?_, ?_, ?_, ?_⟩
                · exact hB234
                · exact hB231
                · exact hl235
                · exact hD235
                · exact B8235
                · exact PolyR.sub h237 q5
                · exact PolyR.sub h239 q5
                · exact NatR.sub h240 q5
                · exact NatR.sub h241 q5
                · exact htb
                · exact htr
                · exact hR.next hp e_129 (by rw [zlen]; omega) (.inr ⟨by omega, hs1⟩) (by rw [v_221, v_154, show zval _ _ = ldP (zs l2) from v_149, v_214, htr, htb])
                · omega
                · omega
                · omega
              · have hR242 := ((((hR147.xr hE151).xr hE156).xr hE162).tr hU166).xr hE173
                have hB243 := (hB102.frm hR242 q1)
                refine dWp (i := 3) rfl rfl (oEv (v := (.agg #[(.bool g3), (.slice A3 n3 c3)])) (evLoadAB [(.bool g3), (.slice A3 n3 c3)] agg68 sz68 rfl hB243 rfl) rfl ⟨Frm.refl _ _, ?_⟩)
                have hR244 := (hE162.rx hU166).xr hE173
                have h245 := (hr_154.frmB hR244 q3)
                refine dOp 2 rfl rfl (by kernel_rfl) (oCall rfl call96 (unidiv_power h245 (xn := n1 - n2) (by omega) (by omega) (by omega)) rfl ?_)
                rintro _ w247 ⟨gr_246, Ar_246, nr_246, cr_246, dr_246, rfl, hE248, hr_246, v_246, cn_246, le_246⟩
                refine ⟨(Frm.of_ext hE248), ?_⟩
                have hz249 := hE248.size
                have ⟨lr_246, kr_246, mr_246⟩ := hr_246.lkm
                have hR251 := hR242.xr hE248
                have h252 := (hN3.frmB hR251 q3)
                refine dOp 6 rfl rfl (by kernel_rfl) (oCall rfl call96 (unidiv_power h252 (xn := n1 - n2 - 1) (by omega) (by omega) (by omega)) rfl ?_)
                rintro _ w254 ⟨gr_253, Ar_253, nr_253, cr_253, dr_253, rfl, hE255, hr_253, v_253, cn_253, le_253⟩
                refine ⟨(Frm.of_ext hE255), ?_⟩
                have hz256 := hE255.size
                have ⟨lr_253, kr_253, mr_253⟩ := hr_253.lkm
                have hz66 : zval gr_253 dr_253 ≠ 0 := by rw [v_253]; exact Int.pow_ne_zero hs0
                have h258 := (hr_246.ext hE255)
                refine dOp 7 rfl rfl (by kernel_rfl) (oCall rfl call88 (division_Quo h258 hr_253 (by omega) (by omega) (by omega)) rfl ?_)
                rintro _ w260 ⟨gq_259, Aq_259, nq_259, cq_259, dq_259, gr_259, Ar_259, nr_259, cr_259, dr_259, xe_259, rfl, hE261, hq_259, hr_259, v_259, m_259, cnq_259, cnr_259, ok_259, leq_259, ler_259⟩
                refine ⟨(Frm.of_ext hE261), ?_⟩
                have hz262 := hE261.size
                have ⟨lq_259, kq_259, mq_259⟩ := hq_259.lkm
                have ⟨lr_259, kr_259, mr_259⟩ := hr_259.lkm
                have hs1 : zval gq_259 dq_259 = ((-ldP (zs l2)) ^ ((trimZ (zs l1)).length - (trimZ (zs l2)).length)).tdiv (zval g3 d3 ^ ((trimZ (zs l1)).length - (trimZ (zs l2)).length - 1)) := by rw [v_259, v_246, v_253, v_154, show zval _ _ = ldP (zs l2) from v_149, hta, htb]
                have hs2 : nq_259 ≤ 60000 := Nat.le_trans (int_tight (K := capZ) cnq_259 lq_259 (hR.sizeSZ (by omega) hs1 hca hcb (by omega) (by omega) (by omega) (by omega))) cap_le
                refine dV 8 rfl (v := (.tuple #[(.agg #[(.bool gq_259), (.slice Aq_259 nq_259 cq_259)]), (.agg #[(.bool gr_259), (.slice Ar_259 nr_259 cr_259)]), (.int .i64 (xe_259))])) (fun _ _ => rfl) (dV 9 rfl (v := (.agg #[(.bool gq_259), (.slice Aq_259 nq_259 cq_259)])) (fun _ _ => rfl) (dV 10 rfl (v := (.agg #[(.bool gr_259), (.slice Ar_259 nr_259 cr_259)])) (fun _ _ => rfl) (dV 11 rfl (v := (.int .i64 (xe_259))) (fun _ _ => rfl) ?_)))
                have hR265 := (hE248.trans hE255).trans hE261
                have hB266 := (hB243.ext hR265)
                refine dOp 12 rfl rfl (by kernel_rfl) (oStore [(.bool gq_259), (.slice Aq_259 nq_259 cq_259)] rfl rfl rfl sz68 rfl hB266 (Nat.le_of_ble_eq_true rfl) (fun w267 hU268 hz269 hB270 => ?_))
                replace hB270 : Blk w267 g53 68 [(.bool gq_259), (.slice Aq_259 nq_259 cq_259)] := hB270
                refine ⟨hU268, dDone (by kernel_rfl) (xN (hK169 _ _ (rS fun K271 hK271 => sMs rfl (sMs rfl (sAs rfl (sAs rfl (sK hK271 (rS fun K272 hK272 => sMs rfl (sV (evLen Tryz.underlying32 rfl) (sMs rfl (sV (evLen Tryz.underlying32 rfl) (sV (evSub (((n2 - nr_129 : Nat) : Int)) rfl rfl (wI64 (by omega))) (sAi rfl (sK hK272 (dBegin (fun b => b = g72) mixed (fun w273 hE274 hz275 => ?_))))))))))))))))⟩
                have hR276 := (hR265.rx hU268).xr hE274
                have hB277 := (hB175.frm hR276 q1)
                refine dV 0 rfl (fun _ hf => evLoadAB [(.bool gr_154), (.slice Ar_154 nr_154 cr_154)] agg68 sz68 rfl (hB277.frm hf q1) rfl) ?_
                have hB278 := (hB270.ext hE274)
                refine dV 1 rfl (fun _ hf => evLoadAB [(.bool gq_259), (.slice Aq_259 nq_259 cq_259)] agg68 sz68 rfl (hB278.frm hf q1) rfl) (dMi 2 rfl rfl ?_)
                have hR279 := hU268.xr hE274
                have h280 := (hq_259.frmB hR279 q3)
                refine dOp 3 rfl rfl (by kernel_rfl) (oCall rfl call96 (unidiv_power h280 (xn := n2 - nr_129) (by omega) (by omega) (by omega)) rfl ?_)
                rintro _ w282 ⟨gr_281, Ar_281, nr_281, cr_281, dr_281, rfl, hE283, hr_281, v_281, cn_281, le_281⟩
                refine ⟨(Frm.of_ext hE283), ?_⟩
                have hz284 := hE283.size
                have ⟨lr_281, kr_281, mr_281⟩ := hr_281.lkm
                have hR286 := hR276.xr hE283
                have h287 := (h245.frmB hR286 q3)
                refine dOp 4 rfl rfl (by kernel_rfl) (oCall rfl call60 (integer_Mul h287 hr_281 (by omega)) rfl ?_)
                rintro _ w289 ⟨gr_288, Ar_288, nr_288, cr_288, dr_288, rfl, hE290, hr_288, v_288, cn_288, le_288⟩
                refine ⟨(Frm.of_ext hE290), ?_⟩
                have hz291 := hE290.size
                have ⟨lr_288, kr_288, mr_288⟩ := hr_288.lkm
                have hR293 := ((((((((((((hE131.rx hF140).xr hE151).xr hE156).xr hE162).tr hU166).xr hE173).xr hE248).xr hE255).xr hE261).tr hU268).xr hE274).xr hE283).xr hE290
                have hB294 := (hB127.frm hR293 q1)
                refine dOp 5 rfl rfl (by kernel_rfl) (oStore [(.bool gr_288), (.slice Ar_288 nr_288 cr_288)] rfl rfl rfl sz68 rfl hB294 (Nat.le_of_ble_eq_true rfl) (fun w295 hU296 hz297 hB298 => ?_))
                replace hB298 : Blk w295 g72 68 [(.bool gr_288), (.slice Ar_288 nr_288 cr_288)] := hB298
                refine ⟨hU296, dDone (by kernel_rfl) (bN ?_)⟩
                have hR299 := ((((((hR251.xr hE255).xr hE261).tr hU268).xr hE274).xr hE283).xr hE290).tr hU296
                have hR300 := (hE283.trans hE290).rx hU296
                have hB301 := (hB278.frm hR300 q1)
                have hR303 := (((((((((((hE151.trans hE156).trans hE162).rx hU166).xr hE173).xr hE248).xr hE255).xr hE261).tr hU268).xr hE274).xr hE283).xr hE290).tr hU296
                have hl302 := (hR303.block l (Array.getElem?_eq_some_iff.1 hl140).1 (by (try dsimp only); omega)).trans hl140; have hD302 := (hR303.block D (Array.getElem?_eq_some_iff.1 hD140).1 (by (try dsimp only); omega)).trans hD140
                have B8302 := B8140.frm hR303 q1
                have h304 := (h148.frmB hR303 q3)
                have hR305 := ((((((((((((hF140.xr hE151).xr hE156).xr hE162).tr hU166).xr hE173).xr hE248).xr hE255).xr hE261).tr hU268).xr hE274).xr hE283).xr hE290).tr hU296
                have h306 := (hT134.frmB hR305 q3)
                have h307 := (h280.frmB hR300 q3)
                have h308 := (hr_288.frmB hU296 q3)
                refine again ((nr_129)) (by omega) ⟨(A2), (n2), (c2), (l2), (Ar_129), (nr_129), (cr_129), (lr_129), (gq_259), (Aq_259), (nq_259), (cq_259), (dq_259), (gr_288), (Ar_288), (nr_288), (cr_288), (dr_288), (-ldP (zs l2)), rfl, rfl, rfl, rfl, cI, rfl, rfl, (Frm.mono (hF101.tr hR299) q4), ?_, ?_, ?_, ?_, ?_, ?_, ?_, ?_, ?_, ?_, ?_, ?_, ?_, ?_, ?_⟩
                · exact hB301
                · exact hB298
                · exact hl302
                · exact hD302
                · exact B8302
                · exact PolyR.sub h304 q5
                · exact PolyR.sub h306 q5
                · exact NatR.sub h307 q5
                · exact NatR.sub h308 q5
                · exact htb
                · exact htr
                · exact hR.next hp e_129 (by rw [zlen]; omega) (.inr ⟨by omega, hs1⟩) (by rw [v_288, v_154, show zval _ _ = ldP (zs l2) from v_149, v_281, htr, htb])
                · omega
                · omega
                · omega
            · refine sV (evGtr false rfl rfl (dF hc171)) (sK hK170 (cF rfl (wp_skip (xN (hK169 _ _ (rS fun K309 hK309 => sMs rfl (sMs rfl (sAs rfl (sAs rfl (sK hK309 (rS fun K310 hK310 => sMs rfl (sV (evLen Tryz.underlying32 rfl) (sMs rfl (sV (evLen Tryz.underlying32 rfl) (sV (evSub (((n2 - nr_129 : Nat) : Int)) rfl rfl (wI64 (by omega))) (sAi rfl (sK hK310 (dBegin (fun b => b = g72) mixed (fun w311 hE312 hz313 => ?_)))))))))))))))))))
              have hB314 := (hB168.ext hE312)
              refine dV 0 rfl (fun _ hf => evLoadAB [(.bool gr_154), (.slice Ar_154 nr_154 cr_154)] agg68 sz68 rfl (hB314.frm hf q1) rfl) ?_
              have hR315 := ((((hR147.xr hE151).xr hE156).xr hE162).tr hU166).xr hE312
              have hB316 := (hB102.frm hR315 q1)
              refine dV 1 rfl (fun _ hf => evLoadAB [(.bool g3), (.slice A3 n3 c3)] agg68 sz68 rfl (hB316.frm hf q1) rfl) (dMi 2 rfl rfl ?_)
              have h317 := (hN3.frmB hR315 q3)
              refine dOp 3 rfl rfl (by kernel_rfl) (oCall rfl call96 (unidiv_power h317 (xn := n2 - nr_129) (by omega) (by omega) (by omega)) rfl ?_)
              rintro _ w319 ⟨gr_318, Ar_318, nr_318, cr_318, dr_318, rfl, hE320, hr_318, v_318, cn_318, le_318⟩
              refine ⟨(Frm.of_ext hE320), ?_⟩
              have hz321 := hE320.size
              have ⟨lr_318, kr_318, mr_318⟩ := hr_318.lkm
              have hR323 := ((hE162.rx hU166).xr hE312).xr hE320
              have h324 := (hr_154.frmB hR323 q3)
              refine dOp 4 rfl rfl (by kernel_rfl) (oCall rfl call60 (integer_Mul h324 hr_318 (by omega)) rfl ?_)
              rintro _ w326 ⟨gr_325, Ar_325, nr_325, cr_325, dr_325, rfl, hE327, hr_325, v_325, cn_325, le_325⟩
              refine ⟨(Frm.of_ext hE327), ?_⟩
              have hz328 := hE327.size
              have ⟨lr_325, kr_325, mr_325⟩ := hr_325.lkm
              have hR330 := (((((((hE131.rx hF140).xr hE151).xr hE156).xr hE162).tr hU166).xr hE312).xr hE320).xr hE327
              have hB331 := (hB127.frm hR330 q1)
              refine dOp 5 rfl rfl (by kernel_rfl) (oStore [(.bool gr_325), (.slice Ar_325 nr_325 cr_325)] rfl rfl rfl sz68 rfl hB331 (Nat.le_of_ble_eq_true rfl) (fun w332 hU333 hz334 hB335 => ?_))
              replace hB335 : Blk w332 g72 68 [(.bool gr_325), (.slice Ar_325 nr_325 cr_325)] := hB335
              refine ⟨hU333, dDone (by kernel_rfl) (bN ?_)⟩
              have hR336 := ((hR315.xr hE320).xr hE327).tr hU333
              have hR337 := (hE320.trans hE327).rx hU333
              have hB338 := (hB316.frm hR337 q1)
              have hR340 := ((((((hE151.trans hE156).trans hE162).rx hU166).xr hE312).xr hE320).xr hE327).tr hU333
              have hl339 := (hR340.block l (Array.getElem?_eq_some_iff.1 hl140).1 (by (try dsimp only); omega)).trans hl140; have hD339 := (hR340.block D (Array.getElem?_eq_some_iff.1 hD140).1 (by (try dsimp only); omega)).trans hD140
              have B8339 := B8140.frm hR340 q1
              have h341 := (h148.frmB hR340 q3)
              have hR342 := (((((((hF140.xr hE151).xr hE156).xr hE162).tr hU166).xr hE312).xr hE320).xr hE327).tr hU333
              have h343 := (hT134.frmB hR342 q3)
              have h344 := (h317.frmB hR337 q3)
              have h345 := (hr_325.frmB hU333 q3)
              refine again ((nr_129)) (by omega) ⟨(A2), (n2), (c2), (l2), (Ar_129), (nr_129), (cr_129), (lr_129), (g3), (A3), (n3), (c3), (d3), (gr_325), (Ar_325), (nr_325), (cr_325), (dr_325), (-ldP (zs l2)), rfl, rfl, rfl, rfl, cI, rfl, rfl, (Frm.mono (hF101.tr hR336) q4), ?_, ?_, ?_, ?_, ?_, ?_, ?_, ?_, ?_, ?_, ?_, ?_, ?_, ?_, ?_⟩
              · exact hB338
              · exact hB335
              · exact hl339
              · exact hD339
              · exact B8339
              · exact PolyR.sub h341 q5
              · exact PolyR.sub h343 q5
              · exact NatR.sub h344 q5
              · exact NatR.sub h345 q5
              · exact htb
              · exact htr
              · exact hR.next hp e_129 (by rw [zlen]; omega) (.inl ⟨by omega, rfl⟩) (by rw [v_325, v_154, show zval _ _ = ldP (zs l2) from v_149, v_318, htr, htb])
              · omega
              · omega
              · omega
end Go.Proofs.YtbniolgfaeiedaaGreat
