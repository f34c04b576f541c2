/-
  Walk of package unidiv: the remainders of x^2 and x.
-/
import Derived.Test.YteiagkehhlpidaaSq3
import Derived.Test.YteiagkehhlpidaaRange
namespace Go.Proofs.Yteiagkehhlpidaa
open Go.RowKit Go.Gx
set_option maxHeartbeats 4000000 in
theorem unidiv_remainders1 {w : World} {l D b8 : Nat} {rc : Loop} {v8 : Value} {pf : Nat} {Af : Option Addr} {nf cf Mf : Nat} {lf : List RI} {pg : Nat} {Ag : Option Addr} {ng cg Mg : Nat} {lg : List RI} (hl : w.heap[l]? = some (.loop rc)) (hD : w.heap[D]? = some (.deferred (some []))) (B8 : Blk w b8 27 [v8]) (hY : ∀ (W : World) (A : Option Addr) (n c : Nat) (ll : List RI) (v : Value), Frm (fun b => b = l ∨ b = b8) w W → W.heap[l]? = some (.loop rc) → W.heap[D]? = some (.deferred (some [])) → Blk W b8 27 [v] → PolyR W (fun b => w.heap.size ≤ b) A n c ll 8 → n ≤ 8 → 2 ≤ (trimZ (zs ll)).length → Yd Try.prog l #[.slice A n c] W (Ret fun r W2 => r = .bool true ∧ Frm (fun b => b = l ∨ b = b8) W W2 ∧ W2.heap[l]? = some (.loop rc) ∧ W2.heap[D]? = some (.deferred (some [])) ∧ Blk W2 b8 27 [.slice A n c])) (Bf : Blk w pf 27 [.slice Af nf cf]) (hf : PolyR w (fun b => b ≠ l ∧ b ≠ b8) Af nf cf lf Mf) (df : pf ≠ b8) (Bg : Blk w pg 27 [.slice Ag ng cg]) (hg : PolyR w (fun b => b ≠ l ∧ b ≠ b8) Ag ng cg lg Mg) (dg : pg ≠ b8) (hnf : nf ≤ 8) (hng : ng ≤ 8) (hMf : Mf ≤ 8) (hMg : Mg ≤ 8) (hzf : zs lf = [0, 0, 1]) (hzg : zs lg = [0, 1]) : Calls Try.prog 64 #[(.func (.yield l) #[] #[]), (.pointer (some ⟨pf, 0, none⟩)), (.pointer (some ⟨pg, 0, none⟩))] w (Ret fun v w' => ∃ (Al : Option Addr) (nl : Nat) (cl : Nat) (ll : List RI), v = (.tuple #[]) ∧ Frm (fun b => b = l ∨ b = b8) w w' ∧ (w'.heap[l]? = some (.loop rc)) ∧ (w'.heap[D]? = some (.deferred (some []))) ∧ (Blk w' b8 27 [.slice Al nl cl]) ∧ (PolyR w' (fun b => w.heap.size ≤ b) Al nl cl ll 8) ∧ (zs ll = [0, 1])) := by
  have ltl := (Array.getElem?_eq_some_iff.1 hl).1; have ltD := (Array.getElem?_eq_some_iff.1 hD).1; have lt8 := B8.lt
  have nlD : D ≠ l := by rintro rfl; rw [hl] at hD; cases hD
  have nl8 : b8 ≠ l := by rintro rfl; unfold Blk at B8; rw [hl] at B8; cases B8
  have nD8 : b8 ≠ D := by rintro rfl; unfold Blk at B8; rw [hD] at B8; cases B8
  have ⟨kf, jf, mf⟩ := hf.lkm; have ltf := Bf.lt; have nef : pf ≠ l := by rintro rfl; unfold Blk at Bf; rw [hl] at Bf; cases Bf
  replace hf := hf.sub (S' := fun b => b ≠ l ∧ b ≠ b8 ∧ b < w.heap.size) fun _ hb hs => ⟨hs.1, hs.2, hb⟩
  have ⟨kg, jg, mg⟩ := hg.lkm; have ltg := Bg.lt; have neg : pg ≠ l := by rintro rfl; unfold Blk at Bg; rw [hl] at Bg; cases Bg
  replace hg := hg.sub (S' := fun b => b ≠ l ∧ b ≠ b8 ∧ b < w.heap.size) fun _ hb hs => ⟨hs.1, hs.2, hb⟩
  refine enter Try.func64 rfl Try.ntmps64 rfl (wp_seq_k fun K1 hK1 => dBegin (fun _ => False) mixed (fun w2 hE3 hz4 => ?_))
  have hB5 := (Bf.ext hE3)
  refine dV 0 rfl (fun _ hf => evLoadB one27 rfl (hB5.ext hf) rfl) ?_
  have hB6 := (Bg.ext hE3)
  refine dV 2 rfl (fun _ hf => evLoadB one27 rfl (hB6.ext hf) rfl) ?_
  have h7 := (hf.ext hE3)
  refine dOp 1 rfl rfl (by kernel_rfl) (oCall rfl call22 (unipoly_Normal h7 (by omega) (by omega)) rfl ?_)
  rintro _ w9 ⟨qr_8, nr_8, lr_8, rfl, hE10, hgr_8, Br_8, hAr_8, kr_8, mr_8, e_8, ln_8, cn_8⟩
  refine ⟨(Frm.of_ext hE10), ?_⟩
  have hz11 := hE10.size
  have hhr_8 : w2.heap.size ≤ qr_8 := hgr_8; have ltr_8 := Br_8.lt
  have h13 := hAr_8.sub (S' := fun b => (qr_8 < b) ∧ b < w9.heap.size) fun _ hb hs => ⟨hs, hb⟩
  have hza : zs lr_8 = [0, 0, 1] := by rw [e_8, hzf]; decide
  have hna : nr_8 = 3 := by have h := congrArg List.length hza; rw [zlen] at h; simp at h; omega
  have hR14 := hE3.trans hE10
  have h15 := (hg.ext hR14)
  refine dOp 3 rfl rfl (by kernel_rfl) (oCall rfl call22 (unipoly_Normal h15 (by omega) (by omega)) rfl ?_)
  rintro _ w17 ⟨qr_16, nr_16, lr_16, rfl, hE18, hgr_16, Br_16, hAr_16, kr_16, mr_16, e_16, ln_16, cn_16⟩
  refine ⟨(Frm.of_ext hE18), ?_⟩
  have hz19 := hE18.size
  have hhr_16 : w9.heap.size ≤ qr_16 := hgr_16; have ltr_16 := Br_16.lt
  have h21 := hAr_16.sub (S' := fun b => (qr_16 < b) ∧ b < w17.heap.size) fun _ hb hs => ⟨hs, hb⟩
  have hzb : zs lr_16 = [0, 1] := by rw [e_16, hzg]; decide
  have hnb : nr_16 = 2 := by have h := congrArg List.length hzb; rw [zlen] at h; simp at h; omega
  have hgl : ldP (zs lr_16) ≠ 0 := by rw [hzb]; decide
  refine dAs 4 rfl rfl (dAs 5 rfl rfl (dDone (by kernel_rfl) (xN (hK1 _ _ (wp_seq_k fun K22 hK22 => wp_seq_k fun K23 hK23 => iRegion (iEv (v := (.func (.yield l) #[] #[])) (by intro c h; cases h) (rfl) rfl rfl (iEv (v := (.slice (some ⟨qr_8, 0, none⟩) nr_8 nr_8)) (by intro c h; cases h) (rfl) rfl rfl ?_)))))))
  have hR25 := hR14.trans hE18
  have hl24 := (hR25.block l ltl (fun h => h)).trans hl; have hD24 := (hR25.block D ltD (fun h => h)).trans hD
  have B824 := B8.ext hR25
  have hB26 := (Br_8.ext hE18)
  have h28 := (h13.ext hE18)
  have h27 : PolyR w17 (fun b => w.heap.size ≤ b ∧ b < w9.heap.size) (some ⟨qr_8, 0, none⟩) nr_8 nr_8 (lr_8) ((Mf)) := PolyR.of_blk hB26 (AllN.sub h28 q5) (by (try dsimp only); omega) (by exact lq) (by omega) (by unfold CapMax; omega)
  refine iYield rfl rfl rfl (hY _ _ _ _ _ _ (Frm.of_ext hR25) hl24 hD24 B824 (PolyR.le (PolyR.sub h27 q5) (by omega)) (by omega) (by rw [hza]; decide)) ?_
  rintro _ w30 ⟨rfl, hF29, hl29, hD29, B829⟩
  have hz31 := hF29.size
  have hR32 := hR25.rx hF29
  have ltl29 := Nat.lt_of_lt_of_le ltl (hR32.size); have ltD29 := Nat.lt_of_lt_of_le ltD (hR32.size)
  refine iEv (v := (.bool false)) (by intro c h; cases h) (evNot _ rfl rfl) rfl rfl (iEv (v := (.bool false)) (by intro c h; cases h) (rfl) rfl rfl (iEv (v := (.func (.yield l) #[] #[])) (by intro c h; cases h) (rfl) rfl rfl (iEv (v := (.slice (some ⟨qr_16, 0, none⟩) nr_16 nr_16)) (by intro c h; cases h) (rfl) rfl rfl ?_)))
  have hB34 := (Br_16.frm hF29 q1)
  have h36 := (h21.frmB hF29 q3)
  have h35 : PolyR w30 (fun b => w.heap.size ≤ b ∧ b < w17.heap.size) (some ⟨qr_16, 0, none⟩) nr_16 nr_16 (lr_16) ((Mg)) := PolyR.of_blk hB34 (AllN.sub h36 q5) (by (try dsimp only); omega) (by exact lq) (by omega) (by unfold CapMax; omega)
  refine iYield rfl rfl rfl (hY _ _ _ _ _ _ hR32 hl29 hD29 B829 (PolyR.le (PolyR.sub h35 q5) (by omega)) (by omega) (by rw [hzb]; decide)) ?_
  rintro _ w38 ⟨rfl, hF37, hl37, hD37, B837⟩
  have hz39 := hF37.size
  have hR40 := hR32.trans hF37
  have ltl37 := Nat.lt_of_lt_of_le ltl (hR40.size); have ltD37 := Nat.lt_of_lt_of_le ltD (hR40.size)
  refine iEv (v := (.bool false)) (by intro c h; cases h) (evNot _ rfl rfl) rfl rfl (iEv (v := (.bool false)) (by intro c h; cases h) (rfl) rfl rfl (iDone (xN (hK23 _ _ (cF rfl (wp_skip (xN (hK22 _ _ (rS fun K41 hK41 => sMs rfl (sV (evLen Try.underlying27 rfl) (sMs rfl (sV (evLen Try.underlying27 rfl) (sV (evSub (((nr_8 : Int)) - ((nr_16 : Int))) rfl rfl wI) (sAi rfl (sK hK41 (rS fun K42 hK42 => sO (oCall rfl call9 (integer_Of (by omega)) rfl ?_)))))))))))))))))
  rintro _ w44 ⟨gr_43, Ar_43, nr_43, cr_43, dr_43, rfl, hE45, hr_43, v_43, cn_43, le_43⟩
  have hz46 := hE45.size
  have ⟨lr_43, kr_43, mr_43⟩ := hr_43.lkm
  refine sO (oAlloc [(.bool false), (.slice none 0 0)] zero34 rfl (fun g48 w49 hg50 hE51 hz52 hB53 => sO (oStore [(.bool gr_43), (.slice Ar_43 nr_43 cr_43)] rfl rfl rfl sz34 rfl hB53 (Nat.le_of_ble_eq_true rfl) (fun w54 hU55 hz56 hB57 => ?_))))
  replace hB57 : Blk w54 g48 34 [(.bool gr_43), (.slice Ar_43 nr_43 cr_43)] := hB57
  refine sK hK42 (rS fun K58 hK58 => sV (evLoadAB [(.bool gr_43), (.slice Ar_43 nr_43 cr_43)] agg34 sz34 rfl hB57 rfl) (sMi rfl (sV (evAdd ((((nr_8 : Int)) - ((nr_16 : Int))) + 1) rfl rfl wI) ?_)))
  have hR59 := hE51.rx hU55
  have h60 := (hr_43.frmB hR59 q3)
  refine sO (oCall rfl call65 (unidiv_power h60 (xn := (nr_8 - nr_16) + 1) (by omega) (by omega) (by omega)) (by rw [show ((((nr_8 : Int)) - ((nr_16 : Int))) + 1 : Int) = (((nr_8 - nr_16) + 1 : Nat) : Int) by omega]; rfl) ?_)
  rintro _ w62 ⟨gr_61, Ar_61, nr_61, cr_61, dr_61, rfl, hE63, hr_61, v_61, cn_61, le_61⟩
  have hz64 := hE63.size
  have ⟨lr_61, kr_61, mr_61⟩ := hr_61.lkm
  refine sO (oAlloc [(.bool false), (.slice none 0 0)] zero34 rfl (fun g66 w67 hg68 hE69 hz70 hB71 => sO (oStore [(.bool gr_61), (.slice Ar_61 nr_61 cr_61)] rfl rfl rfl sz34 rfl hB71 (Nat.le_of_ble_eq_true rfl) (fun w72 hU73 hz74 hB75 => ?_))))
  replace hB75 : Blk w72 g66 34 [(.bool gr_61), (.slice Ar_61 nr_61 cr_61)] := hB75
  refine sK hK58 (wp_block ?_)
  refine lLoop (fun m e w_ => m = 0 ∧ e 0 = (.func (.yield l) #[] #[]) ∧ e 4 = (.slice (some ⟨qr_8, 0, none⟩) nr_8 nr_8) ∧ e 5 = (.slice (some ⟨qr_16, 0, none⟩) nr_16 nr_16) ∧ e 6 = (.int .i64 (((nr_8 : Int)) - ((nr_16 : Int)))) ∧ e 7 = (.pointer (some ⟨g48, 0, none⟩)) ∧ e 8 = (.pointer (some ⟨g66, 0, none⟩)) ∧ Frm (fun b => False) w72 w_) (0) ?_ ?_
  · refine ⟨rfl, rfl, rfl, rfl, rfl, rfl, rfl, (Frm.refl _ _)⟩
  · rintro m76 e86 w77 ⟨hm85, hs78, hs79, hs80, hs81, hs82, hs83, hF84⟩
    obtain ⟨r87, rfl⟩ := sq (e := e86) (t := 0) hs78
    obtain ⟨r88, rfl⟩ := sq (e := r87) (t := 4) hs79
    obtain ⟨r89, rfl⟩ := sq (e := r88) (t := 5) hs80
    obtain ⟨r90, rfl⟩ := sq (e := r89) (t := 6) hs81
    obtain ⟨r91, rfl⟩ := sq (e := r90) (t := 7) hs82
    obtain ⟨r92, rfl⟩ := sq (e := r91) (t := 8) hs83
    have hz93 := hF84.size
    refine wp_block (rS fun K94 hK94 => sMs rfl (sMs rfl ?_))
    have hR95 := (((((((hF29.trans hF37).xr hE45).xr hE51).tr hU55).xr hE63).xr hE69).tr hU73).xr hF84
    have hB96 := (hB26.frm hR95 q1)
    have h98 := (h28.frmB hR95 q3)
    have h97 : PolyR w77 (fun b => w.heap.size ≤ b ∧ b < w9.heap.size) (some ⟨qr_8, 0, none⟩) nr_8 nr_8 (lr_8) ((Mf)) := PolyR.of_blk hB96 (AllN.sub h98 q5) (by (try dsimp only); omega) (by exact lq) (by omega) (by unfold CapMax; omega)
    have hR99 := ((((((hF37.xr hE45).xr hE51).tr hU55).xr hE63).xr hE69).tr hU73).xr hF84
    have hB100 := (hB34.frm hR99 q1)
    have h102 := (h36.frmB hR99 q3)
    have h101 : PolyR w77 (fun b => w.heap.size ≤ b ∧ b < w17.heap.size) (some ⟨qr_16, 0, none⟩) nr_16 nr_16 (lr_16) ((Mg)) := PolyR.of_blk hB100 (AllN.sub h102 q5) (by (try dsimp only); omega) (by exact lq) (by omega) (by unfold CapMax; omega)
    refine sO (oCall rfl call29 (unidiv_Pseudo h97 h101 (by omega) (by omega) (by omega) (by omega) (by assumption)) rfl ?_)
    rintro _ w104 ⟨Aq_103, nq_103, cq_103, lq_103, Ar_103, nr_103, cr_103, lr_103, xe_103, rfl, hE105, hq_103, hr_103, ok_103, id_103, lt_103, tr_103, lnq_103, lnr_103⟩
    have hz106 := hE105.size
    have ⟨kq_103, jq_103, mq_103⟩ := hq_103.lkm
    have ⟨kr_103, jr_103, mr_103⟩ := hr_103.lkm
    have hr0 : nr_103 = 0 := by have h := rest_none (q := zs lq_103) (r := zs lr_103) (L := ((ldP (zs lr_16) : Int) : Rat)) (fun x => by have h := id_103 x; rw [hza] at h; rw [hzb] at h ⊢; exact h) (by rw [zlen]; have h := lt_103; rw [hzb] at h; have h2 : (trimZ [(0 : Int), 1]).length = 2 := (by decide); omega) tr_103; rw [zlen] at h; omega
    refine sV (v := (.tuple #[(.slice Aq_103 nq_103 cq_103), (.slice Ar_103 nr_103 cr_103), (.int .i64 (xe_103))])) (rfl) (sV (v := (.slice Aq_103 nq_103 cq_103)) (rfl) (sV (v := (.slice Ar_103 nr_103 cr_103)) (rfl) (sV (v := (.int .i64 (xe_103))) (rfl) (sAs rfl (sAs rfl (sAi rfl (sK hK94 (wp_seq_k fun K109 hK109 => rS fun K110 hK110 => sMs rfl (sV (evLen Try.underlying27 rfl) (sV (evEql true rfl rfl (dT (by omega))) (sK hK110 (cT rfl (wp_ret (xR (bR (xR (bR (ret0 Try.results64 ?_))))))))))))))))))
    have hR111 := ((((((hE45.trans hE51).rx hU55).xr hE63).xr hE69).tr hU73).xr hF84).xr hE105
    have hB112 := (hB100.ext hE105)
    have h114 := (h102.ext hE105)
    have h113 : PolyR w104 (fun b => w.heap.size ≤ b ∧ b < w17.heap.size) (some ⟨qr_16, 0, none⟩) nr_16 nr_16 (lr_16) ((Mg)) := PolyR.of_blk hB112 (AllN.sub h114 q5) (by (try dsimp only); omega) (by exact lq) (by omega) (by unfold CapMax; omega)
    have hR115 := (((((((hR40.xr hE45).xr hE51).tr hU55).xr hE63).xr hE69).tr hU73).xr hF84).xr hE105
    exact ⟨_, _, _, _, rfl, (Frm.mono hR115 q4), ((hR111.block l ltl37 (by (try dsimp only); omega)).trans hl37), ((hR111.block D ltD37 (by (try dsimp only); omega)).trans hD37), (B837.frm hR111 q1), (PolyR.le (PolyR.sub h113 q5) (by omega)), hzb⟩

end Go.Proofs.Yteiagkehhlpidaa
