/-
  Walk of package division: the extended Euclidean algorithm.
-/
import Derived.Test.YtneolcopompkaaaGreatDoorHen1
import Derived.Test.YtneolcopompkaaaGreatDoorLibA
namespace Go.Proofs.YtneolcopompkaaaGreatDoor
open Go.RowKit Go.Gx
set_option maxHeartbeats 4000000 in
theorem division_Xgcd {w : World} {ga : Bool} {Sa : Nat → Prop} {Aa : Option Addr} {na ca : Nat} {da : List Nat} {gb : Bool} {Sb : Nat → Prop} {Ab : Option Addr} {nb cb : Nat} {db : List Nat} (ha : NatR w Sa Aa na ca da) (hb : NatR w Sb Ab nb cb db) (hna : na ≤ 1048576) (hnb : nb ≤ 1048576) (hb0 : zval gb db ≠ 0) (hco : Int.gcd (zval ga da) (zval gb db) = 1) : Calls Tryz.prog 99 #[(.agg #[(.bool ga), (.slice Aa na ca)]), (.agg #[(.bool gb), (.slice Ab nb cb)])] w (Ret fun v w' => ∃ (gt : Bool) (At : Option Addr) (nt : Nat) (ct : Nat) (dt : List Nat) (gx : Bool) (Ax : Option Addr) (nx : Nat) (cx : Nat) (dx : List Nat) (gy : Bool) (Ay : Option Addr) (ny : Nat) (cy : Nat) (dy : List Nat), v = (.tuple #[(.agg #[(.bool gt), (.slice At nt ct)]), (.agg #[(.bool gx), (.slice Ax nx cx)]), (.agg #[(.bool gy), (.slice Ay ny cy)])]) ∧ Ext w w' ∧ NatR w' (fun b => w.heap.size ≤ b) At nt ct dt ∧ NatR w' (fun b => w.heap.size ≤ b) Ax nx cx dx ∧ NatR w' (fun b => w.heap.size ≤ b) Ay ny cy dy ∧ (∃ k : Int, zval gx dx * zval ga da = 1 + zval gb db * k) ∧ (zval gx dx = symZ (zval gb db).natAbs (zval gx dx)) ∧ (nx ≤ nb + 4)) := by
  have ⟨la, ka, ma⟩ := ha.lkm
  replace ha := ha.low
  have ⟨lb, kb, mb⟩ := hb.lkm
  replace hb := hb.low
  refine enter Tryz.func99 rfl Tryz.ntmps99 rfl (rS fun K1 hK1 => sO (oBox [(.bool ga), (.slice Aa na ca)] rfl rfl (fun g2 w3 hg4 hE5 hz6 hB7 => sO (oBox [(.bool gb), (.slice Ab nb cb)] rfl rfl (fun g8 w9 hg10 hE11 hz12 hB13 => sO (oAlloc [(.bool false), (.slice none 0 0)] zero25 rfl (fun g14 w15 hg16 hE17 hz18 hB19 => sO (oAlloc [(.bool false), (.slice none 0 0)] zero25 rfl (fun g20 w21 hg22 hE23 hz24 hB25 => sO (oAlloc [(.bool false), (.slice none 0 0)] zero25 rfl (fun g26 w27 hg28 hE29 hz30 hB31 => sK hK1 (wp_seq_k fun K32 hK32 => rS fun K33 hK33 => ?_))))))))))))
  have hR34 := (hE17.trans hE23).trans hE29
  have hB35 := (hB13.ext hR34)
  refine sV (evLoadAB [(.bool gb), (.slice Ab nb cb)] agg25 sz25 rfl hB35 rfl) ?_
  have hR36 := (((hE5.trans hE11).trans hE17).trans hE23).trans hE29
  have h37 := (hb.ext hR36)
  refine sO (oCall rfl call108 (division_isZero h37) rfl ?_)
  rintro _ w39 ⟨gr_38, rfl, hE40, e_38⟩
  have hz41 := hE40.size
  obtain rfl : gr_38 = false := by rw [e_38]; exact decide_eq_false hb0
  refine sK hK33 (cF rfl (wp_skip (xN (hK32 _ _ (wp_seq_k fun K42 hK42 => ?_)))))
  have hR43 := (((hE11.trans hE17).trans hE23).trans hE29).trans hE40
  have hB44 := (hB7.ext hR43)
  have hB45 := (hB35.ext hE40)
  have hR46 := (hE23.trans hE29).trans hE40
  have hB47 := (hB19.ext hR46)
  have hR48 := hE29.trans hE40
  have hB49 := (hB25.ext hR48)
  have hB50 := (hB31.ext hE40)
  refine wpJoin (dfs := []) (n := 82) (fun e w_ => ∃ (b7 : Nat) (b8 : Nat) (gi : Bool) (Ai : Option Addr) (ni : Nat) (ci : Nat) (di : List Nat) (gj : Bool) (Aj : Option Addr) (nj : Nat) (cj : Nat) (dj : List Nat), e 2 = (.pointer (some ⟨g2, 0, none⟩)) ∧ e 3 = (.pointer (some ⟨g8, 0, none⟩)) ∧ e 4 = (.pointer (some ⟨g14, 0, none⟩)) ∧ e 5 = (.pointer (some ⟨g20, 0, none⟩)) ∧ e 6 = (.pointer (some ⟨g26, 0, none⟩)) ∧ e 7 = (.pointer (some ⟨b7, 0, none⟩)) ∧ e 8 = (.pointer (some ⟨b8, 0, none⟩)) ∧ Frm (fun _ => False) w39 w_ ∧ Blk w_ b7 25 ([.bool gi, .slice Ai ni ci]) ∧ Blk w_ b8 25 ([.bool gj, .slice Aj nj cj]) ∧ (w39.heap.size ≤ b7 ∧ w39.heap.size ≤ b8 ∧ b7 ≠ b8) ∧ (NatR w_ (fun b => w39.heap.size ≤ b ∧ b ≠ b7 ∧ b ≠ b8) Ai ni ci di) ∧ (NatR w_ (fun b => w39.heap.size ≤ b ∧ b ≠ b7 ∧ b ≠ b8) Aj nj cj dj) ∧ (zval gi di = zval ga da) ∧ (zval gj dj = zval gb db) ∧ (ni ≤ na + nb ∧ nj ≤ na + nb)) ?_ ?_
  · refine dBegin (fun b => w39.heap.size ≤ b) mixed (fun w51 hE52 hz53 => ?_)
    have hB54 := (hB44.ext hE52)
    refine dV 0 rfl (fun _ hf => evLoadAB [(.bool ga), (.slice Aa na ca)] agg25 sz25 rfl (hB54.frm hf q1) rfl) ?_
    have hB55 := (hB45.ext hE52)
    refine dV 2 rfl (fun _ hf => evLoadAB [(.bool gb), (.slice Ab nb cb)] agg25 sz25 rfl (hB55.frm hf q1) rfl) (wAl2 (fun k => bif Nat.beq k 4 then (7, 25, [(.bool false), (.slice none 0 0)]) else (8, 25, [(.bool false), (.slice none 0 0)])) 4 5 (alOp rfl rfl zero25 rfl) (alOp rfl rfl zero25 rfl) rfl fun F56 => wOp F56 1 (by kernel_rfl) fun fl57 w58 hE59 => ?_)
    have hz60 := hE59.size
    have hR61 := ((hR36.trans hE40).trans hE52).trans hE59
    have h62 := (ha.ext hR61)
    refine dWp (i := 1) rfl rfl (oCall rfl call85 (integer_Normal h62 (by omega)) rfl ?_)
    rintro _ w64 ⟨gr_63, Ar_63, nr_63, cr_63, dr_63, rfl, hE65, hr_63, v_63, cn_63, le_63⟩
    refine ⟨hE65, wNext rfl ?_⟩
    have hz66 := hE65.size
    have ⟨lr_63, kr_63, mr_63⟩ := hr_63.lkm
    have h68 := hr_63.sub (S' := fun b => w58.heap.size ≤ b ∧ b < w64.heap.size) fun _ hb hs => ⟨hs, hb⟩
    refine wOp F56 3 (by kernel_rfl) fun fl69 w70 hE71 => ?_
    have hz72 := hE71.size
    have hR73 := (((hE40.trans hE52).trans hE59).trans hE65).trans hE71
    have h74 := (h37.ext hR73)
    refine dWp (i := 3) rfl rfl (oCall rfl call85 (integer_Normal h74 (by omega)) rfl ?_)
    rintro _ w76 ⟨gr_75, Ar_75, nr_75, cr_75, dr_75, rfl, hE77, hr_75, v_75, cn_75, le_75⟩
    refine ⟨hE77, wNext rfl ?_⟩
    have hz78 := hE77.size
    have ⟨lr_75, kr_75, mr_75⟩ := hr_75.lkm
    have h80 := hr_75.sub (S' := fun b => w70.heap.size ≤ b ∧ b < w76.heap.size) fun _ hb hs => ⟨hs, hb⟩
    refine wEnd2 F56 #[true, true, true, true, true, true, false, false] (by kernel_rfl) fun g81 g82 w83 hE84 hb85 hb86 hne91 hB87 hB88 ho89 ho90 => ?_
    have hz92 := hE84.size
    have lt93 := hB87.lt
    have lt94 := hB88.lt
    have hR95 := (hE71.trans hE77).trans hE84
    have h96 := (h68.ext hR95)
    have h97 := h96.sub (S' := fun b => (w58.heap.size ≤ b ∧ b < w64.heap.size) ∧ b ≠ g81 ∧ b ≠ g82) fun b _ hs => ⟨hs, ho89.ne w58.heap.size w64.heap.size (by simp) b hs.1 hs.2, ho90.ne w58.heap.size w64.heap.size (by simp) b hs.1 hs.2⟩
    have h98 := (h80.ext hE84)
    have h99 := h98.sub (S' := fun b => (w70.heap.size ≤ b ∧ b < w76.heap.size) ∧ b ≠ g81 ∧ b ≠ g82) fun b _ hs => ⟨hs, ho89.ne w70.heap.size w76.heap.size (by simp) b hs.1 hs.2, ho90.ne w70.heap.size w76.heap.size (by simp) b hs.1 hs.2⟩
    refine dOp 6 rfl rfl (by kernel_rfl) (oStore [(.bool gr_63), (.slice Ar_63 nr_63 cr_63)] rfl rfl rfl sz25 rfl hB87 (Nat.le_of_ble_eq_true rfl) (fun w100 hU101 hz102 hB103 => ?_))
    replace hB103 : Blk w100 g81 25 [(.bool gr_63), (.slice Ar_63 nr_63 cr_63)] := hB103
    refine ⟨(hU101.mono q4), ?_⟩
    have hB104 := (hB88.frm hU101 q1)
    refine dOp 7 rfl rfl (by kernel_rfl) (oStore [(.bool gr_75), (.slice Ar_75 nr_75 cr_75)] rfl rfl rfl sz25 rfl hB104 (Nat.le_of_ble_eq_true rfl) (fun w105 hU106 hz107 hB108 => ?_))
    replace hB108 : Blk w105 g82 25 [(.bool gr_75), (.slice Ar_75 nr_75 cr_75)] := hB108
    refine ⟨(hU106.mono q4), dDone (by kernel_rfl) ?_⟩
    have hB109 := (hB103.frm hU106 q1)
    have hR110 := hU101.tr hU106
    have h111 := (h97.frmB hR110 q3)
    have h112 := (h99.frmB hR110 q3)
    have hR113 := ((((((hE52.trans hE59).trans hE65).trans hE71).trans hE77).trans hE84).rx hU101).tr hU106
    exact ⟨rfl, _, rfl, (g81), (g82), (gr_63), (Ar_63), (nr_63), (cr_63), (dr_63), (gr_75), (Ar_75), (nr_75), (cr_75), (dr_75), rfl, rfl, rfl, rfl, rfl, rfl, rfl, (Frm.mono hR113 q4), hB109, hB108, (by omega), (NatR.sub h111 q5), (NatR.sub h112 q5), (v_63), (v_75), (by omega)⟩
  · rintro e115 w114 ⟨b7, b8, gi, Ai, ni, ci, di, gj, Aj, nj, cj, dj, hs117, hs118, hs119, hs120, hs121, hs122, hs123, hF116, hB124, hB125, h78, hi, hj, hvi, hvj, hll⟩
    obtain ⟨r126, rfl⟩ := sq (e := e115) (t := 2) hs117
    obtain ⟨r127, rfl⟩ := sq (e := r126) (t := 3) hs118
    obtain ⟨r128, rfl⟩ := sq (e := r127) (t := 4) hs119
    obtain ⟨r129, rfl⟩ := sq (e := r128) (t := 5) hs120
    obtain ⟨r130, rfl⟩ := sq (e := r129) (t := 6) hs121
    obtain ⟨r131, rfl⟩ := sq (e := r130) (t := 7) hs122
    obtain ⟨r132, rfl⟩ := sq (e := r131) (t := 8) hs123
    have hz133 := hF116.size
    have ⟨li, ki, mi⟩ := hi.lkm; have ⟨lj, kj, mj⟩ := hj.lkm; have hb7 := hB124.lt; have hb8 := hB125.lt
    have h134 := hi.sub (S' := fun b => (w39.heap.size ≤ b ∧ b ≠ b7 ∧ b ≠ b8) ∧ b < w114.heap.size) fun _ hb hs => ⟨hs, hb⟩
    have h135 := hj.sub (S' := fun b => (w39.heap.size ≤ b ∧ b ≠ b7 ∧ b ≠ b8) ∧ b < w114.heap.size) fun _ hb hs => ⟨hs, hb⟩
    refine xN (hK42 _ _ (rS fun K136 hK136 => sO (oCall rfl call35 (integer_Of (by omega)) rfl ?_)))
    rintro _ w138 ⟨gr_137, Ar_137, nr_137, cr_137, dr_137, rfl, hE139, hr_137, v_137, cn_137, le_137⟩
    have hz140 := hE139.size
    have ⟨lr_137, kr_137, mr_137⟩ := hr_137.lkm
    have h142 := hr_137.sub (S' := fun b => (w114.heap.size ≤ b) ∧ b < w138.heap.size) fun _ hb hs => ⟨hs, hb⟩
    refine sO (oCall rfl call35 (integer_Of (by omega)) rfl ?_)
    rintro _ w144 ⟨gr_143, Ar_143, nr_143, cr_143, dr_143, rfl, hE145, hr_143, v_143, cn_143, le_143⟩
    have hz146 := hE145.size
    have ⟨lr_143, kr_143, mr_143⟩ := hr_143.lkm
    have h148 := hr_143.sub (S' := fun b => (w138.heap.size ≤ b) ∧ b < w144.heap.size) fun _ hb hs => ⟨hs, hb⟩
    refine sO (oAlloc [(.bool false), (.slice none 0 0)] zero25 rfl (fun g149 w150 hg151 hE152 hz153 hB154 => ?_))
    have hR155 := ((hF116.trans hE139).trans hE145).trans hE152
    have hB156 := (hB49.ext hR155)
    refine sO (oStore [(.bool gr_137), (.slice Ar_137 nr_137 cr_137)] rfl rfl rfl sz25 rfl hB156 (Nat.le_of_ble_eq_true rfl) (fun w157 hU158 hz159 hB160 => ?_))
    replace hB160 : Blk w157 g20 25 [(.bool gr_137), (.slice Ar_137 nr_137 cr_137)] := hB160
    have hB161 := (hB154.frm hU158 q1)
    refine sO (oStore [(.bool gr_143), (.slice Ar_143 nr_143 cr_143)] rfl rfl rfl sz25 rfl hB161 (Nat.le_of_ble_eq_true rfl) (fun w162 hU163 hz164 hB165 => ?_))
    replace hB165 : Blk w162 g149 25 [(.bool gr_143), (.slice Ar_143 nr_143 cr_143)] := hB165
    refine sK hK136 (wp_seq_k fun K166 hK166 => wp_block ?_)
    have hR168 := (((hE139.trans hE145).trans hE152).rx hU158).tr hU163
    have hB169 := (hB124.frm hR168 q1)
    have hB170 := (hB125.frm hR168 q1)
    have hB171 := (hB160.frm hU163 q1)
    have h172 := (h134.frmB hR168 q3)
    have h173 := (h135.frmB hR168 q3)
    have hR174 := ((hE145.trans hE152).rx hU158).tr hU163
    have h175 := (h142.frmB hR174 q3)
    have hR176 := (hE152.rx hU158).tr hU163
    have h177 := (h148.frmB hR176 q3)
    refine lLoop (fun m e w_ => ∃ (gi : Bool) (Ai : Option Addr) (ni : Nat) (ci : Nat) (di : List Nat) (gj : Bool) (Aj : Option Addr) (nj : Nat) (cj : Nat) (dj : List Nat) (gk : Bool) (Ak : Option Addr) (nk : Nat) (ck : Nat) (dk : List Nat) (gl : Bool) (Al : Option Addr) (nl : Nat) (cl : Nat) (dl : List Nat), m = (zval gj dj).natAbs ∧ e 2 = (.pointer (some ⟨g2, 0, none⟩)) ∧ e 3 = (.pointer (some ⟨g8, 0, none⟩)) ∧ e 4 = (.pointer (some ⟨g14, 0, none⟩)) ∧ e 5 = (.pointer (some ⟨g20, 0, none⟩)) ∧ e 6 = (.pointer (some ⟨g26, 0, none⟩)) ∧ e 7 = (.pointer (some ⟨b7, 0, none⟩)) ∧ e 8 = (.pointer (some ⟨b8, 0, none⟩)) ∧ e 9 = (.pointer (some ⟨g149, 0, none⟩)) ∧ Frm (fun b => b = b7 ∨ b = b8 ∨ b = g20 ∨ b = g149) w162 w_ ∧ Blk w_ b7 25 ([.bool gi, .slice Ai ni ci]) ∧ Blk w_ b8 25 ([.bool gj, .slice Aj nj cj]) ∧ Blk w_ g20 25 ([.bool gk, .slice Ak nk ck]) ∧ Blk w_ g149 25 ([.bool gl, .slice Al nl cl]) ∧ (NatR w_ (fun b => w39.heap.size ≤ b ∧ b ≠ b7 ∧ b ≠ b8 ∧ b ≠ g149) Ai ni ci di) ∧ (NatR w_ (fun b => w39.heap.size ≤ b ∧ b ≠ b7 ∧ b ≠ b8 ∧ b ≠ g149) Aj nj cj dj) ∧ (NatR w_ (fun b => w39.heap.size ≤ b ∧ b ≠ b7 ∧ b ≠ b8 ∧ b ≠ g149) Ak nk ck dk) ∧ (NatR w_ (fun b => w39.heap.size ≤ b ∧ b ≠ b7 ∧ b ≠ b8 ∧ b ≠ g149) Al nl cl dl) ∧ (ni ≤ na + nb ∧ nj ≤ na + nb) ∧ (ICan gk dk) ∧ (ICan gl dl) ∧ (XgI (zval ga da) (zval gb db) (zval gi di) (zval gj dj) (zval gk dk) (zval gl dl))) ((zval (gj) (dj)).natAbs) ?_ ?_
    · refine ⟨(gi), (Ai), (ni), (ci), (di), (gj), (Aj), (nj), (cj), (dj), (gr_137), (Ar_137), (nr_137), (cr_137), (dr_137), (gr_143), (Ar_143), (nr_143), (cr_143), (dr_143), rfl, rfl, rfl, rfl, rfl, rfl, rfl, rfl, rfl, (Frm.refl _ _), ?_, ?_, ?_, ?_, ?_, ?_, ?_, ?_, ?_, ?_, ?_, ?_⟩
      · exact hB169
      · exact hB170
      · exact hB171
      · exact hB165
      · exact NatR.sub h172 q5
      · exact NatR.sub h173 q5
      · exact NatR.sub h175 q5
      · exact NatR.sub h177 q5
      · omega
      · exact cn_137
      · exact cn_143
      · rw [hvi, hvj, v_137, v_143]; exact XgI.start hb0 hco
    · rintro m167 e193 w178 ⟨gi, Ai, ni, ci, di, gj, Aj, nj, cj, dj, gk, Ak, nk, ck, dk, gl, Al, nl, cl, dl, hm192, hs179, hs180, hs181, hs182, hs183, hs184, hs185, hs186, hF187, hB188, hB189, hB190, hB191, hi, hj, hk, hl, hll2, hck, hcl, hXg⟩
      obtain ⟨r194, rfl⟩ := sq (e := e193) (t := 2) hs179
      obtain ⟨r195, rfl⟩ := sq (e := r194) (t := 3) hs180
      obtain ⟨r196, rfl⟩ := sq (e := r195) (t := 4) hs181
      obtain ⟨r197, rfl⟩ := sq (e := r196) (t := 5) hs182
      obtain ⟨r198, rfl⟩ := sq (e := r197) (t := 6) hs183
      obtain ⟨r199, rfl⟩ := sq (e := r198) (t := 7) hs184
      obtain ⟨r200, rfl⟩ := sq (e := r199) (t := 8) hs185
      obtain ⟨r201, rfl⟩ := sq (e := r200) (t := 9) hs186
      have hz202 := hF187.size
      have ⟨li, ki, mi⟩ := hi.lkm; have ⟨lj, kj, mj⟩ := hj.lkm; have ⟨lk, kk, mk⟩ := hk.lkm; have ⟨ll, kl, ml⟩ := hl.lkm; have hnk := canon_le_len hck.1 hb.2 (by rw [natAbs_val gk dk, natAbs_val gb db]; exact hXg.bx); have hnl := canon_le_len hcl.1 hb.2 (by rw [natAbs_val gl dl, natAbs_val gb db]; exact hXg.by_)
      refine wp_seq_k fun K203 hK203 => rS fun K204 hK204 => sV (evLoadAB [(.bool gj), (.slice Aj nj cj)] agg25 sz25 rfl hB189 rfl) (sO (oCall rfl call108 (division_isZero hj) rfl ?_))
      rintro _ w206 ⟨gr_205, rfl, hE207, e_205⟩
      have hz208 := hE207.size
      refine sV (evNot _ rfl rfl) (sK hK204 ?_)
      cases gr_205
      · refine cT rfl (wp_skip (xN (hK203 _ _ (wp_block (wp_seq_k fun K209 hK209 => ?_)))))
        have hS0 : zval gj dj ≠ 0 := of_decide_eq_false e_205.symm
        refine wp_region_lit ?_
        have hB210 := (hB188.ext hE207)
        refine sV (evLoadAB [(.bool gi), (.slice Ai ni ci)] agg25 sz25 rfl hB210 rfl) ?_
        have hB211 := (hB189.ext hE207)
        refine sV (evLoadAB [(.bool gj), (.slice Aj nj cj)] agg25 sz25 rfl hB211 rfl) ?_
        have h212 := (hi.ext hE207)
        have h213 := (hj.ext hE207)
        refine sO (oCall rfl call109 (division_Quo h212 h213 (by omega) (by omega) (by omega)) rfl ?_)
        rintro _ w215 ⟨gq_214, Aq_214, nq_214, cq_214, dq_214, gr_214, Ar_214, nr_214, cr_214, dr_214, xe_214, rfl, hE216, hq_214, hr_214, v_214, m_214, cnq_214, cnr_214, ok_214, leq_214, ler_214⟩
        have hz217 := hE216.size
        have ⟨lq_214, kq_214, mq_214⟩ := hq_214.lkm
        have ⟨lr_214, kr_214, mr_214⟩ := hr_214.lkm
        have h220 := hq_214.sub (S' := fun b => (w206.heap.size ≤ b) ∧ b < w215.heap.size) fun _ hb hs => ⟨hs, hb⟩
        have h221 := hr_214.sub (S' := fun b => (w206.heap.size ≤ b) ∧ b < w215.heap.size) fun _ hb hs => ⟨hs, hb⟩
        have hms := tmod_lt m_214 hS0
        refine sV (v := (.tuple #[(.agg #[(.bool gq_214), (.slice Aq_214 nq_214 cq_214)]), (.agg #[(.bool gr_214), (.slice Ar_214 nr_214 cr_214)]), (.int .i64 (xe_214))])) (rfl) (sV (v := (.agg #[(.bool gq_214), (.slice Aq_214 nq_214 cq_214)])) (rfl) (sV (v := (.agg #[(.bool gr_214), (.slice Ar_214 nr_214 cr_214)])) (rfl) (sV (v := (.int .i64 (xe_214))) (rfl) (sO (oAlloc [(.bool false), (.slice none 0 0)] zero25 rfl (fun g222 w223 hg224 hE225 hz226 hB227 => sO (oAlloc [(.bool false), (.slice none 0 0)] zero25 rfl (fun g228 w229 hg230 hE231 hz232 hB233 => ?_))))))))
        have hB234 := (hB227.ext hE231)
        refine sO (oStore [(.bool gq_214), (.slice Aq_214 nq_214 cq_214)] rfl rfl rfl sz25 rfl hB234 (Nat.le_of_ble_eq_true rfl) (fun w235 hU236 hz237 hB238 => ?_))
        replace hB238 : Blk w235 g222 25 [(.bool gq_214), (.slice Aq_214 nq_214 cq_214)] := hB238
        have hB239 := (hB233.frm hU236 q1)
        refine sO (oStore [(.bool gr_214), (.slice Ar_214 nr_214 cr_214)] rfl rfl rfl sz25 rfl hB239 (Nat.le_of_ble_eq_true rfl) (fun w240 hU241 hz242 hB243 => ?_))
        replace hB243 : Blk w240 g228 25 [(.bool gr_214), (.slice Ar_214 nr_214 cr_214)] := hB243
        refine sAi rfl (sK hK209 (wp_seq_k fun K244 hK244 => dBegin (fun b => b = b7 ∨ b = b8) mixed (fun w245 hE246 hz247 => ?_)))
        have hB248 := (hB243.ext hE246)
        refine dV 1 rfl (fun _ hf => evLoadAB [(.bool gr_214), (.slice Ar_214 nr_214 cr_214)] agg25 sz25 rfl (hB248.frm hf q1) rfl) ?_
        have hR249 := ((((hE216.trans hE225).trans hE231).rx hU236).tr hU241).xr hE246
        have hB250 := (hB211.frm hR249 q1)
        refine dOp 0 rfl rfl (by kernel_rfl) (oEv (v := (.agg #[(.bool gj), (.slice Aj nj cj)])) (evLoadAB [(.bool gj), (.slice Aj nj cj)] agg25 sz25 rfl hB250 rfl) rfl ⟨Frm.refl _ _, ?_⟩)
        have hB251 := (hB210.frm hR249 q1)
        refine dOp 2 rfl rfl (by kernel_rfl) (oStore [(.bool gj), (.slice Aj nj cj)] rfl rfl rfl sz25 rfl hB251 (Nat.le_of_ble_eq_true rfl) (fun w252 hU253 hz254 hB255 => ?_))
        replace hB255 : Blk w252 b7 25 [(.bool gj), (.slice Aj nj cj)] := hB255
        refine ⟨(hU253.mono q4), ?_⟩
        have hB256 := (hB250.frm hU253 q1)
        refine dOp 3 rfl rfl (by kernel_rfl) (oStore [(.bool gr_214), (.slice Ar_214 nr_214 cr_214)] rfl rfl rfl sz25 rfl hB256 (Nat.le_of_ble_eq_true rfl) (fun w257 hU258 hz259 hB260 => ?_))
        replace hB260 : Blk w257 b8 25 [(.bool gr_214), (.slice Ar_214 nr_214 cr_214)] := hB260
        refine ⟨(hU258.mono q4), dDone (by kernel_rfl) (xN (hK244 _ _ ?_))⟩
        have hR261 := (((((((((((hR155.rx hU158).tr hU163).tr hF187).xr hE207).xr hE216).xr hE225).xr hE231).tr hU236).tr hU241).xr hE246).tr hU253).tr hU258
        have hB262 := (hB44.frm hR261 q1)
        have hB263 := (hB45.frm hR261 q1)
        have hB264 := (hB47.frm hR261 q1)
        have hR265 := (((((((hE207.trans hE216).trans hE225).trans hE231).rx hU236).tr hU241).xr hE246).tr hU253).tr hU258
        have hB266 := (hB190.frm hR265 q1)
        have hB267 := (hB50.frm hR261 q1)
        have hB268 := (hB255.frm hU258 q1)
        have hB269 := (hB191.frm hR265 q1)
        have hR270 := ((hU241.xr hE246).tr hU253).tr hU258
        have hB271 := (hB238.frm hR270 q1)
        have hR272 := hU253.tr hU258
        have hB273 := (hB248.frm hR272 q1)
        refine wpJoin (dfs := []) (n := 82) (fun e w_ => ∃ (gm : Bool) (Am : Option Addr) (nm : Nat) (cm : Nat) (dm : List Nat), e 2 = (.pointer (some ⟨g2, 0, none⟩)) ∧ e 3 = (.pointer (some ⟨g8, 0, none⟩)) ∧ e 4 = (.pointer (some ⟨g14, 0, none⟩)) ∧ e 5 = (.pointer (some ⟨g20, 0, none⟩)) ∧ e 6 = (.pointer (some ⟨g26, 0, none⟩)) ∧ e 7 = (.pointer (some ⟨b7, 0, none⟩)) ∧ e 8 = (.pointer (some ⟨b8, 0, none⟩)) ∧ e 9 = (.pointer (some ⟨g149, 0, none⟩)) ∧ Frm (fun b => b = g20 ∨ b = g149) w257 w_ ∧ Blk w_ g20 25 ([.bool gl, .slice Al nl cl]) ∧ Blk w_ g149 25 ([.bool gm, .slice Am nm cm]) ∧ (NatR w_ (fun b => w257.heap.size ≤ b) Am nm cm dm) ∧ (zval gm dm = zval gk dk - (zval gi di).tdiv (zval gj dj) * zval gl dl) ∧ (ICan gm dm)) ?_ ?_
        · refine dBegin (fun b => b = g149 ∨ b = g20) mixed (fun w274 hE275 hz276 => ?_)
          have hB277 := (hB271.ext hE275)
          refine dV 2 rfl (fun _ hf => evLoadAB [(.bool gq_214), (.slice Aq_214 nq_214 cq_214)] agg25 sz25 rfl (hB277.frm hf q1) rfl) (dThree 0 1 3 (by kernel_rfl) ?_ ?_ ?_)
          · have hB278 := (hB269.ext hE275)
            refine dWp (i := 0) rfl rfl (oEv (v := (.agg #[(.bool gl), (.slice Al nl cl)])) (evLoadAB [(.bool gl), (.slice Al nl cl)] agg25 sz25 rfl hB278 rfl) rfl ⟨Frm.refl _ _, dTwo 1 3 (by kernel_rfl) ?_ ?_⟩)
            · have hB279 := (hB266.ext hE275)
              refine dWp (i := 1) rfl rfl (oEv (v := (.agg #[(.bool gk), (.slice Ak nk ck)])) (evLoadAB [(.bool gk), (.slice Ak nk ck)] agg25 sz25 rfl hB279 rfl) rfl ⟨Frm.refl _ _, dOp 3 rfl rfl (by kernel_rfl) (oEv (v := (.agg #[(.bool gl), (.slice Al nl cl)])) (evLoadAB [(.bool gl), (.slice Al nl cl)] agg25 sz25 rfl hB278 rfl) rfl ⟨Frm.refl _ _, ?_⟩)⟩)
              have hR280 := ((((((hE225.trans hE231).rx hU236).tr hU241).xr hE246).tr hU253).tr hU258).xr hE275
              have h281 := (h220.frmB hR280 q3)
              have hR282 := hR265.xr hE275
              have h283 := (hl.frmB hR282 q3)
              refine dOp 4 rfl rfl (by kernel_rfl) (oCall rfl call33 (integer_Mul h281 h283 (by omega)) rfl ?_)
              rintro _ w285 ⟨gr_284, Ar_284, nr_284, cr_284, dr_284, rfl, hE286, hr_284, v_284, cn_284, le_284⟩
              refine ⟨(Frm.of_ext hE286), ?_⟩
              have hz287 := hE286.size
              have ⟨lr_284, kr_284, mr_284⟩ := hr_284.lkm
              have hR289 := hR282.xr hE286
              have h290 := (hk.frmB hR289 q3)
              refine dOp 5 rfl rfl (by kernel_rfl) (oCall rfl call106 (integer_Sub h290 hr_284 (by omega) (by omega)) rfl ?_)
              rintro _ w292 ⟨gr_291, Ar_291, nr_291, cr_291, dr_291, rfl, hE293, hr_291, v_291, cn_291, le_291⟩
              refine ⟨(Frm.of_ext hE293), ?_⟩
              have hz294 := hE293.size
              have ⟨lr_291, kr_291, mr_291⟩ := hr_291.lkm
              have hR296 := hE286.trans hE293
              have hB297 := (hB279.ext hR296)
              refine dOp 6 rfl rfl (by kernel_rfl) (oStore [(.bool gl), (.slice Al nl cl)] rfl rfl rfl sz25 rfl hB297 (Nat.le_of_ble_eq_true rfl) (fun w298 hU299 hz300 hB301 => ?_))
              replace hB301 : Blk w298 g20 25 [(.bool gl), (.slice Al nl cl)] := hB301
              refine ⟨(hU299.mono q4), ?_⟩
              have hR302 := hR296.rx hU299
              have hB303 := (hB278.frm hR302 q1)
              refine dOp 7 rfl rfl (by kernel_rfl) (oStore [(.bool gr_291), (.slice Ar_291 nr_291 cr_291)] rfl rfl rfl sz25 rfl hB303 (Nat.le_of_ble_eq_true rfl) (fun w304 hU305 hz306 hB307 => ?_))
              replace hB307 : Blk w304 g149 25 [(.bool gr_291), (.slice Ar_291 nr_291 cr_291)] := hB307
              refine ⟨(hU305.mono q4), dDone (by kernel_rfl) ?_⟩
              have hB308 := (hB301.frm hU305 q1)
              have hR309 := hU299.tr hU305
              have h310 := (hr_291.frmB hR309 q3)
              have hR311 := (((hE275.trans hE286).trans hE293).rx hU299).tr hU305
              exact ⟨rfl, _, rfl, (gr_291), (Ar_291), (nr_291), (cr_291), (dr_291), rfl, rfl, rfl, rfl, rfl, rfl, rfl, rfl, (Frm.mono hR311 q4), hB308, hB307, (NatR.sub h310 q5), (by rw [v_291, v_284, v_214]), (cn_291)⟩
            · refine dWp (i := 3) rfl rfl (oEv (v := (.agg #[(.bool gl), (.slice Al nl cl)])) (evLoadAB [(.bool gl), (.slice Al nl cl)] agg25 sz25 rfl hB278 rfl) rfl ⟨Frm.refl _ _, dTwo 1 4 (by kernel_rfl) ?_ ?_⟩)
              · have hB312 := (hB266.ext hE275)
                refine dWp (i := 1) rfl rfl (oEv (v := (.agg #[(.bool gk), (.slice Ak nk ck)])) (evLoadAB [(.bool gk), (.slice Ak nk ck)] agg25 sz25 rfl hB312 rfl) rfl ⟨Frm.refl _ _, ?_⟩)
                have hR313 := ((((((hE225.trans hE231).rx hU236).tr hU241).xr hE246).tr hU253).tr hU258).xr hE275
                have h314 := (h220.frmB hR313 q3)
                have hR315 := hR265.xr hE275
                have h316 := (hl.frmB hR315 q3)
                refine dOp 4 rfl rfl (by kernel_rfl) (oCall rfl call33 (integer_Mul h314 h316 (by omega)) rfl ?_)
                rintro _ w318 ⟨gr_317, Ar_317, nr_317, cr_317, dr_317, rfl, hE319, hr_317, v_317, cn_317, le_317⟩
                refine ⟨(Frm.of_ext hE319), ?_⟩
                have hz320 := hE319.size
                have ⟨lr_317, kr_317, mr_317⟩ := hr_317.lkm
                have hR322 := hR315.xr hE319
                have h323 := (hk.frmB hR322 q3)
                refine dOp 5 rfl rfl (by kernel_rfl) (oCall rfl call106 (integer_Sub h323 hr_317 (by omega) (by omega)) rfl ?_)
                rintro _ w325 ⟨gr_324, Ar_324, nr_324, cr_324, dr_324, rfl, hE326, hr_324, v_324, cn_324, le_324⟩
                refine ⟨(Frm.of_ext hE326), ?_⟩
                have hz327 := hE326.size
                have ⟨lr_324, kr_324, mr_324⟩ := hr_324.lkm
                have hR329 := hE319.trans hE326
                have hB330 := (hB312.ext hR329)
                refine dOp 6 rfl rfl (by kernel_rfl) (oStore [(.bool gl), (.slice Al nl cl)] rfl rfl rfl sz25 rfl hB330 (Nat.le_of_ble_eq_true rfl) (fun w331 hU332 hz333 hB334 => ?_))
                replace hB334 : Blk w331 g20 25 [(.bool gl), (.slice Al nl cl)] := hB334
                refine ⟨(hU332.mono q4), ?_⟩
                have hR335 := hR329.rx hU332
                have hB336 := (hB278.frm hR335 q1)
                refine dOp 7 rfl rfl (by kernel_rfl) (oStore [(.bool gr_324), (.slice Ar_324 nr_324 cr_324)] rfl rfl rfl sz25 rfl hB336 (Nat.le_of_ble_eq_true rfl) (fun w337 hU338 hz339 hB340 => ?_))
                replace hB340 : Blk w337 g149 25 [(.bool gr_324), (.slice Ar_324 nr_324 cr_324)] := hB340
                refine ⟨(hU338.mono q4), dDone (by kernel_rfl) ?_⟩
                have hB341 := (hB334.frm hU338 q1)
                have hR342 := hU332.tr hU338
                have h343 := (hr_324.frmB hR342 q3)
                have hR344 := (((hE275.trans hE319).trans hE326).rx hU332).tr hU338
                exact ⟨rfl, _, rfl, (gr_324), (Ar_324), (nr_324), (cr_324), (dr_324), rfl, rfl, rfl, rfl, rfl, rfl, rfl, rfl, (Frm.mono hR344 q4), hB341, hB340, (NatR.sub h343 q5), (by rw [v_324, v_317, v_214]), (cn_324)⟩
              · have hR345 := ((((((hE225.trans hE231).rx hU236).tr hU241).xr hE246).tr hU253).tr hU258).xr hE275
                have h346 := (h220.frmB hR345 q3)
                have hR347 := hR265.xr hE275
                have h348 := (hl.frmB hR347 q3)
                refine dWp (i := 4) rfl rfl (oCall rfl call33 (integer_Mul h346 h348 (by omega)) rfl ?_)
                rintro _ w350 ⟨gr_349, Ar_349, nr_349, cr_349, dr_349, rfl, hE351, hr_349, v_349, cn_349, le_349⟩
                refine ⟨(Frm.of_ext hE351), ?_⟩
                have hz352 := hE351.size
                have ⟨lr_349, kr_349, mr_349⟩ := hr_349.lkm
                have hR354 := hE275.trans hE351
                have hB355 := (hB266.ext hR354)
                refine dOp 1 rfl rfl (by kernel_rfl) (oEv (v := (.agg #[(.bool gk), (.slice Ak nk ck)])) (evLoadAB [(.bool gk), (.slice Ak nk ck)] agg25 sz25 rfl hB355 rfl) rfl ⟨Frm.refl _ _, ?_⟩)
                have hR356 := hR347.xr hE351
                have h357 := (hk.frmB hR356 q3)
                refine dOp 5 rfl rfl (by kernel_rfl) (oCall rfl call106 (integer_Sub h357 hr_349 (by omega) (by omega)) rfl ?_)
                rintro _ w359 ⟨gr_358, Ar_358, nr_358, cr_358, dr_358, rfl, hE360, hr_358, v_358, cn_358, le_358⟩
                refine ⟨(Frm.of_ext hE360), ?_⟩
                have hz361 := hE360.size
                have ⟨lr_358, kr_358, mr_358⟩ := hr_358.lkm
                have hB363 := (hB355.ext hE360)
                refine dOp 6 rfl rfl (by kernel_rfl) (oStore [(.bool gl), (.slice Al nl cl)] rfl rfl rfl sz25 rfl hB363 (Nat.le_of_ble_eq_true rfl) (fun w364 hU365 hz366 hB367 => ?_))
                replace hB367 : Blk w364 g20 25 [(.bool gl), (.slice Al nl cl)] := hB367
                refine ⟨(hU365.mono q4), ?_⟩
                have hR368 := (hE351.trans hE360).rx hU365
                have hB369 := (hB278.frm hR368 q1)
                refine dOp 7 rfl rfl (by kernel_rfl) (oStore [(.bool gr_358), (.slice Ar_358 nr_358 cr_358)] rfl rfl rfl sz25 rfl hB369 (Nat.le_of_ble_eq_true rfl) (fun w370 hU371 hz372 hB373 => ?_))
                replace hB373 : Blk w370 g149 25 [(.bool gr_358), (.slice Ar_358 nr_358 cr_358)] := hB373
                refine ⟨(hU371.mono q4), dDone (by kernel_rfl) ?_⟩
                have hB374 := (hB367.frm hU371 q1)
                have hR375 := hU365.tr hU371
                have h376 := (hr_358.frmB hR375 q3)
                have hR377 := ((hR354.trans hE360).rx hU365).tr hU371
                exact ⟨rfl, _, rfl, (gr_358), (Ar_358), (nr_358), (cr_358), (dr_358), rfl, rfl, rfl, rfl, rfl, rfl, rfl, rfl, (Frm.mono hR377 q4), hB374, hB373, (NatR.sub h376 q5), (by rw [v_358, v_349, v_214]), (cn_358)⟩
          · have hB378 := (hB266.ext hE275)
            refine dWp (i := 1) rfl rfl (oEv (v := (.agg #[(.bool gk), (.slice Ak nk ck)])) (evLoadAB [(.bool gk), (.slice Ak nk ck)] agg25 sz25 rfl hB378 rfl) rfl ⟨Frm.refl _ _, dTwo 0 3 (by kernel_rfl) ?_ ?_⟩)
            · have hB379 := (hB269.ext hE275)
              refine dWp (i := 0) rfl rfl (oEv (v := (.agg #[(.bool gl), (.slice Al nl cl)])) (evLoadAB [(.bool gl), (.slice Al nl cl)] agg25 sz25 rfl hB379 rfl) rfl ⟨Frm.refl _ _, dOp 3 rfl rfl (by kernel_rfl) (oEv (v := (.agg #[(.bool gl), (.slice Al nl cl)])) (evLoadAB [(.bool gl), (.slice Al nl cl)] agg25 sz25 rfl hB379 rfl) rfl ⟨Frm.refl _ _, ?_⟩)⟩)
              have hR380 := ((((((hE225.trans hE231).rx hU236).tr hU241).xr hE246).tr hU253).tr hU258).xr hE275
              have h381 := (h220.frmB hR380 q3)
              have hR382 := hR265.xr hE275
              have h383 := (hl.frmB hR382 q3)
              refine dOp 4 rfl rfl (by kernel_rfl) (oCall rfl call33 (integer_Mul h381 h383 (by omega)) rfl ?_)
              rintro _ w385 ⟨gr_384, Ar_384, nr_384, cr_384, dr_384, rfl, hE386, hr_384, v_384, cn_384, le_384⟩
              refine ⟨(Frm.of_ext hE386), ?_⟩
              have hz387 := hE386.size
              have ⟨lr_384, kr_384, mr_384⟩ := hr_384.lkm
              have hR389 := hR382.xr hE386
              have h390 := (hk.frmB hR389 q3)
              refine dOp 5 rfl rfl (by kernel_rfl) (oCall rfl call106 (integer_Sub h390 hr_384 (by omega) (by omega)) rfl ?_)
              rintro _ w392 ⟨gr_391, Ar_391, nr_391, cr_391, dr_391, rfl, hE393, hr_391, v_391, cn_391, le_391⟩
              refine ⟨(Frm.of_ext hE393), ?_⟩
              have hz394 := hE393.size
              have ⟨lr_391, kr_391, mr_391⟩ := hr_391.lkm
              have hR396 := hE386.trans hE393
              have hB397 := (hB378.ext hR396)
              refine dOp 6 rfl rfl (by kernel_rfl) (oStore [(.bool gl), (.slice Al nl cl)] rfl rfl rfl sz25 rfl hB397 (Nat.le_of_ble_eq_true rfl) (fun w398 hU399 hz400 hB401 => ?_))
              replace hB401 : Blk w398 g20 25 [(.bool gl), (.slice Al nl cl)] := hB401
              refine ⟨(hU399.mono q4), ?_⟩
              have hR402 := hR396.rx hU399
              have hB403 := (hB379.frm hR402 q1)
              refine dOp 7 rfl rfl (by kernel_rfl) (oStore [(.bool gr_391), (.slice Ar_391 nr_391 cr_391)] rfl rfl rfl sz25 rfl hB403 (Nat.le_of_ble_eq_true rfl) (fun w404 hU405 hz406 hB407 => ?_))
              replace hB407 : Blk w404 g149 25 [(.bool gr_391), (.slice Ar_391 nr_391 cr_391)] := hB407
              refine ⟨(hU405.mono q4), dDone (by kernel_rfl) ?_⟩
              have hB408 := (hB401.frm hU405 q1)
              have hR409 := hU399.tr hU405
              have h410 := (hr_391.frmB hR409 q3)
              have hR411 := (((hE275.trans hE386).trans hE393).rx hU399).tr hU405
              exact ⟨rfl, _, rfl, (gr_391), (Ar_391), (nr_391), (cr_391), (dr_391), rfl, rfl, rfl, rfl, rfl, rfl, rfl, rfl, (Frm.mono hR411 q4), hB408, hB407, (NatR.sub h410 q5), (by rw [v_391, v_384, v_214]), (cn_391)⟩
            · have hB412 := (hB269.ext hE275)
              refine dWp (i := 3) rfl rfl (oEv (v := (.agg #[(.bool gl), (.slice Al nl cl)])) (evLoadAB [(.bool gl), (.slice Al nl cl)] agg25 sz25 rfl hB412 rfl) rfl ⟨Frm.refl _ _, dTwo 0 4 (by kernel_rfl) ?_ ?_⟩)
              · refine dWp (i := 0) rfl rfl (oEv (v := (.agg #[(.bool gl), (.slice Al nl cl)])) (evLoadAB [(.bool gl), (.slice Al nl cl)] agg25 sz25 rfl hB412 rfl) rfl ⟨Frm.refl _ _, ?_⟩)
                have hR413 := ((((((hE225.trans hE231).rx hU236).tr hU241).xr hE246).tr hU253).tr hU258).xr hE275
                have h414 := (h220.frmB hR413 q3)
                have hR415 := hR265.xr hE275
                have h416 := (hl.frmB hR415 q3)
                refine dOp 4 rfl rfl (by kernel_rfl) (oCall rfl call33 (integer_Mul h414 h416 (by omega)) rfl ?_)
                rintro _ w418 ⟨gr_417, Ar_417, nr_417, cr_417, dr_417, rfl, hE419, hr_417, v_417, cn_417, le_417⟩
                refine ⟨(Frm.of_ext hE419), ?_⟩
                have hz420 := hE419.size
                have ⟨lr_417, kr_417, mr_417⟩ := hr_417.lkm
                have hR422 := hR415.xr hE419
                have h423 := (hk.frmB hR422 q3)
                refine dOp 5 rfl rfl (by kernel_rfl) (oCall rfl call106 (integer_Sub h423 hr_417 (by omega) (by omega)) rfl ?_)
                rintro _ w425 ⟨gr_424, Ar_424, nr_424, cr_424, dr_424, rfl, hE426, hr_424, v_424, cn_424, le_424⟩
                refine ⟨(Frm.of_ext hE426), ?_⟩
                have hz427 := hE426.size
                have ⟨lr_424, kr_424, mr_424⟩ := hr_424.lkm
                have hR429 := hE419.trans hE426
                have hB430 := (hB378.ext hR429)
                refine dOp 6 rfl rfl (by kernel_rfl) (oStore [(.bool gl), (.slice Al nl cl)] rfl rfl rfl sz25 rfl hB430 (Nat.le_of_ble_eq_true rfl) (fun w431 hU432 hz433 hB434 => ?_))
                replace hB434 : Blk w431 g20 25 [(.bool gl), (.slice Al nl cl)] := hB434
                refine ⟨(hU432.mono q4), ?_⟩
                have hR435 := hR429.rx hU432
                have hB436 := (hB412.frm hR435 q1)
                refine dOp 7 rfl rfl (by kernel_rfl) (oStore [(.bool gr_424), (.slice Ar_424 nr_424 cr_424)] rfl rfl rfl sz25 rfl hB436 (Nat.le_of_ble_eq_true rfl) (fun w437 hU438 hz439 hB440 => ?_))
                replace hB440 : Blk w437 g149 25 [(.bool gr_424), (.slice Ar_424 nr_424 cr_424)] := hB440
                refine ⟨(hU438.mono q4), dDone (by kernel_rfl) ?_⟩
                have hB441 := (hB434.frm hU438 q1)
                have hR442 := hU432.tr hU438
                have h443 := (hr_424.frmB hR442 q3)
                have hR444 := (((hE275.trans hE419).trans hE426).rx hU432).tr hU438
                exact ⟨rfl, _, rfl, (gr_424), (Ar_424), (nr_424), (cr_424), (dr_424), rfl, rfl, rfl, rfl, rfl, rfl, rfl, rfl, (Frm.mono hR444 q4), hB441, hB440, (NatR.sub h443 q5), (by rw [v_424, v_417, v_214]), (cn_424)⟩
              · have hR445 := ((((((hE225.trans hE231).rx hU236).tr hU241).xr hE246).tr hU253).tr hU258).xr hE275
                have h446 := (h220.frmB hR445 q3)
                have hR447 := hR265.xr hE275
                have h448 := (hl.frmB hR447 q3)
                refine dWp (i := 4) rfl rfl (oCall rfl call33 (integer_Mul h446 h448 (by omega)) rfl ?_)
                rintro _ w450 ⟨gr_449, Ar_449, nr_449, cr_449, dr_449, rfl, hE451, hr_449, v_449, cn_449, le_449⟩
                refine ⟨(Frm.of_ext hE451), ?_⟩
                have hz452 := hE451.size
                have ⟨lr_449, kr_449, mr_449⟩ := hr_449.lkm
                refine dTwo 0 5 (by kernel_rfl) ?_ ?_
                · have hB454 := (hB412.ext hE451)
                  refine dWp (i := 0) rfl rfl (oEv (v := (.agg #[(.bool gl), (.slice Al nl cl)])) (evLoadAB [(.bool gl), (.slice Al nl cl)] agg25 sz25 rfl hB454 rfl) rfl ⟨Frm.refl _ _, ?_⟩)
                  have hR455 := hR447.xr hE451
                  have h456 := (hk.frmB hR455 q3)
                  refine dOp 5 rfl rfl (by kernel_rfl) (oCall rfl call106 (integer_Sub h456 hr_449 (by omega) (by omega)) rfl ?_)
                  rintro _ w458 ⟨gr_457, Ar_457, nr_457, cr_457, dr_457, rfl, hE459, hr_457, v_457, cn_457, le_457⟩
                  refine ⟨(Frm.of_ext hE459), ?_⟩
                  have hz460 := hE459.size
                  have ⟨lr_457, kr_457, mr_457⟩ := hr_457.lkm
                  have hR462 := hE451.trans hE459
                  have hB463 := (hB378.ext hR462)
                  refine dOp 6 rfl rfl (by kernel_rfl) (oStore [(.bool gl), (.slice Al nl cl)] rfl rfl rfl sz25 rfl hB463 (Nat.le_of_ble_eq_true rfl) (fun w464 hU465 hz466 hB467 => ?_))
                  replace hB467 : Blk w464 g20 25 [(.bool gl), (.slice Al nl cl)] := hB467
                  refine ⟨(hU465.mono q4), ?_⟩
                  have hR468 := hE459.rx hU465
                  have hB469 := (hB454.frm hR468 q1)
                  refine dOp 7 rfl rfl (by kernel_rfl) (oStore [(.bool gr_457), (.slice Ar_457 nr_457 cr_457)] rfl rfl rfl sz25 rfl hB469 (Nat.le_of_ble_eq_true rfl) (fun w470 hU471 hz472 hB473 => ?_))
                  replace hB473 : Blk w470 g149 25 [(.bool gr_457), (.slice Ar_457 nr_457 cr_457)] := hB473
                  refine ⟨(hU471.mono q4), dDone (by kernel_rfl) ?_⟩
                  have hB474 := (hB467.frm hU471 q1)
                  have hR475 := hU465.tr hU471
                  have h476 := (hr_457.frmB hR475 q3)
                  have hR477 := (((hE275.trans hE451).trans hE459).rx hU465).tr hU471
                  exact ⟨rfl, _, rfl, (gr_457), (Ar_457), (nr_457), (cr_457), (dr_457), rfl, rfl, rfl, rfl, rfl, rfl, rfl, rfl, (Frm.mono hR477 q4), hB474, hB473, (NatR.sub h476 q5), (by rw [v_457, v_449, v_214]), (cn_457)⟩
                · have hR478 := hR447.xr hE451
                  have h479 := (hk.frmB hR478 q3)
                  refine dWp (i := 5) rfl rfl (oCall rfl call106 (integer_Sub h479 hr_449 (by omega) (by omega)) rfl ?_)
                  rintro _ w481 ⟨gr_480, Ar_480, nr_480, cr_480, dr_480, rfl, hE482, hr_480, v_480, cn_480, le_480⟩
                  refine ⟨(Frm.of_ext hE482), ?_⟩
                  have hz483 := hE482.size
                  have ⟨lr_480, kr_480, mr_480⟩ := hr_480.lkm
                  have hR485 := hE451.trans hE482
                  have hB486 := (hB412.ext hR485)
                  refine dOp 0 rfl rfl (by kernel_rfl) (oEv (v := (.agg #[(.bool gl), (.slice Al nl cl)])) (evLoadAB [(.bool gl), (.slice Al nl cl)] agg25 sz25 rfl hB486 rfl) rfl ⟨Frm.refl _ _, ?_⟩)
                  have hB487 := (hB378.ext hR485)
                  refine dOp 6 rfl rfl (by kernel_rfl) (oStore [(.bool gl), (.slice Al nl cl)] rfl rfl rfl sz25 rfl hB487 (Nat.le_of_ble_eq_true rfl) (fun w488 hU489 hz490 hB491 => ?_))
                  replace hB491 : Blk w488 g20 25 [(.bool gl), (.slice Al nl cl)] := hB491
                  refine ⟨(hU489.mono q4), ?_⟩
                  have hB492 := (hB486.frm hU489 q1)
                  refine dOp 7 rfl rfl (by kernel_rfl) (oStore [(.bool gr_480), (.slice Ar_480 nr_480 cr_480)] rfl rfl rfl sz25 rfl hB492 (Nat.le_of_ble_eq_true rfl) (fun w493 hU494 hz495 hB496 => ?_))
                  replace hB496 : Blk w493 g149 25 [(.bool gr_480), (.slice Ar_480 nr_480 cr_480)] := hB496
                  refine ⟨(hU494.mono q4), dDone (by kernel_rfl) ?_⟩
                  have hB497 := (hB491.frm hU494 q1)
                  have hR498 := hU489.tr hU494
                  have h499 := (hr_480.frmB hR498 q3)
                  have hR500 := (((hE275.trans hE451).trans hE482).rx hU489).tr hU494
                  exact ⟨rfl, _, rfl, (gr_480), (Ar_480), (nr_480), (cr_480), (dr_480), rfl, rfl, rfl, rfl, rfl, rfl, rfl, rfl, (Frm.mono hR500 q4), hB497, hB496, (NatR.sub h499 q5), (by rw [v_480, v_449, v_214]), (cn_480)⟩
          · have hB501 := (hB269.ext hE275)
            refine dWp (i := 3) rfl rfl (oEv (v := (.agg #[(.bool gl), (.slice Al nl cl)])) (evLoadAB [(.bool gl), (.slice Al nl cl)] agg25 sz25 rfl hB501 rfl) rfl ⟨Frm.refl _ _, dThree 0 1 4 (by kernel_rfl) ?_ ?_ ?_⟩)
            · refine dWp (i := 0) rfl rfl (oEv (v := (.agg #[(.bool gl), (.slice Al nl cl)])) (evLoadAB [(.bool gl), (.slice Al nl cl)] agg25 sz25 rfl hB501 rfl) rfl ⟨Frm.refl _ _, dTwo 1 4 (by kernel_rfl) ?_ ?_⟩)
              · have hB502 := (hB266.ext hE275)
                refine dWp (i := 1) rfl rfl (oEv (v := (.agg #[(.bool gk), (.slice Ak nk ck)])) (evLoadAB [(.bool gk), (.slice Ak nk ck)] agg25 sz25 rfl hB502 rfl) rfl ⟨Frm.refl _ _, ?_⟩)
                have hR503 := ((((((hE225.trans hE231).rx hU236).tr hU241).xr hE246).tr hU253).tr hU258).xr hE275
                have h504 := (h220.frmB hR503 q3)
                have hR505 := hR265.xr hE275
                have h506 := (hl.frmB hR505 q3)
                refine dOp 4 rfl rfl (by kernel_rfl) (oCall rfl call33 (integer_Mul h504 h506 (by omega)) rfl ?_)
                rintro _ w508 ⟨gr_507, Ar_507, nr_507, cr_507, dr_507, rfl, hE509, hr_507, v_507, cn_507, le_507⟩
                refine ⟨(Frm.of_ext hE509), ?_⟩
                have hz510 := hE509.size
                have ⟨lr_507, kr_507, mr_507⟩ := hr_507.lkm
                have hR512 := hR505.xr hE509
                have h513 := (hk.frmB hR512 q3)
                refine dOp 5 rfl rfl (by kernel_rfl) (oCall rfl call106 (integer_Sub h513 hr_507 (by omega) (by omega)) rfl ?_)
                rintro _ w515 ⟨gr_514, Ar_514, nr_514, cr_514, dr_514, rfl, hE516, hr_514, v_514, cn_514, le_514⟩
                refine ⟨(Frm.of_ext hE516), ?_⟩
                have hz517 := hE516.size
                have ⟨lr_514, kr_514, mr_514⟩ := hr_514.lkm
                have hR519 := hE509.trans hE516
                have hB520 := (hB502.ext hR519)
                refine dOp 6 rfl rfl (by kernel_rfl) (oStore [(.bool gl), (.slice Al nl cl)] rfl rfl rfl sz25 rfl hB520 (Nat.le_of_ble_eq_true rfl) (fun w521 hU522 hz523 hB524 => ?_))
                replace hB524 : Blk w521 g20 25 [(.bool gl), (.slice Al nl cl)] := hB524
                refine ⟨(hU522.mono q4), ?_⟩
                have hR525 := hR519.rx hU522
                have hB526 := (hB501.frm hR525 q1)
                refine dOp 7 rfl rfl (by kernel_rfl) (oStore [(.bool gr_514), (.slice Ar_514 nr_514 cr_514)] rfl rfl rfl sz25 rfl hB526 (Nat.le_of_ble_eq_true rfl) (fun w527 hU528 hz529 hB530 => ?_))
                replace hB530 : Blk w527 g149 25 [(.bool gr_514), (.slice Ar_514 nr_514 cr_514)] := hB530
                refine ⟨(hU528.mono q4), dDone (by kernel_rfl) ?_⟩
                have hB531 := (hB524.frm hU528 q1)
                have hR532 := hU522.tr hU528
                have h533 := (hr_514.frmB hR532 q3)
                have hR534 := (((hE275.trans hE509).trans hE516).rx hU522).tr hU528
                exact ⟨rfl, _, rfl, (gr_514), (Ar_514), (nr_514), (cr_514), (dr_514), rfl, rfl, rfl, rfl, rfl, rfl, rfl, rfl, (Frm.mono hR534 q4), hB531, hB530, (NatR.sub h533 q5), (by rw [v_514, v_507, v_214]), (cn_514)⟩
              · have hR535 := ((((((hE225.trans hE231).rx hU236).tr hU241).xr hE246).tr hU253).tr hU258).xr hE275
                have h536 := (h220.frmB hR535 q3)
                have hR537 := hR265.xr hE275
                have h538 := (hl.frmB hR537 q3)
                refine dWp (i := 4) rfl rfl (oCall rfl call33 (integer_Mul h536 h538 (by omega)) rfl ?_)
                rintro _ w540 ⟨gr_539, Ar_539, nr_539, cr_539, dr_539, rfl, hE541, hr_539, v_539, cn_539, le_539⟩
                refine ⟨(Frm.of_ext hE541), ?_⟩
                have hz542 := hE541.size
                have ⟨lr_539, kr_539, mr_539⟩ := hr_539.lkm
                have hR544 := hE275.trans hE541
                have hB545 := (hB266.ext hR544)
                refine dOp 1 rfl rfl (by kernel_rfl) (oEv (v := (.agg #[(.bool gk), (.slice Ak nk ck)])) (evLoadAB [(.bool gk), (.slice Ak nk ck)] agg25 sz25 rfl hB545 rfl) rfl ⟨Frm.refl _ _, ?_⟩)
                have hR546 := hR537.xr hE541
                have h547 := (hk.frmB hR546 q3)
                refine dOp 5 rfl rfl (by kernel_rfl) (oCall rfl call106 (integer_Sub h547 hr_539 (by omega) (by omega)) rfl ?_)
                rintro _ w549 ⟨gr_548, Ar_548, nr_548, cr_548, dr_548, rfl, hE550, hr_548, v_548, cn_548, le_548⟩
                refine ⟨(Frm.of_ext hE550), ?_⟩
                have hz551 := hE550.size
                have ⟨lr_548, kr_548, mr_548⟩ := hr_548.lkm
                have hB553 := (hB545.ext hE550)
                refine dOp 6 rfl rfl (by kernel_rfl) (oStore [(.bool gl), (.slice Al nl cl)] rfl rfl rfl sz25 rfl hB553 (Nat.le_of_ble_eq_true rfl) (fun w554 hU555 hz556 hB557 => ?_))
                replace hB557 : Blk w554 g20 25 [(.bool gl), (.slice Al nl cl)] := hB557
                refine ⟨(hU555.mono q4), ?_⟩
                have hR558 := (hE541.trans hE550).rx hU555
                have hB559 := (hB501.frm hR558 q1)
                refine dOp 7 rfl rfl (by kernel_rfl) (oStore [(.bool gr_548), (.slice Ar_548 nr_548 cr_548)] rfl rfl rfl sz25 rfl hB559 (Nat.le_of_ble_eq_true rfl) (fun w560 hU561 hz562 hB563 => ?_))
                replace hB563 : Blk w560 g149 25 [(.bool gr_548), (.slice Ar_548 nr_548 cr_548)] := hB563
                refine ⟨(hU561.mono q4), dDone (by kernel_rfl) ?_⟩
                have hB564 := (hB557.frm hU561 q1)
                have hR565 := hU555.tr hU561
                have h566 := (hr_548.frmB hR565 q3)
                have hR567 := ((hR544.trans hE550).rx hU555).tr hU561
                exact ⟨rfl, _, rfl, (gr_548), (Ar_548), (nr_548), (cr_548), (dr_548), rfl, rfl, rfl, rfl, rfl, rfl, rfl, rfl, (Frm.mono hR567 q4), hB564, hB563, (NatR.sub h566 q5), (by rw [v_548, v_539, v_214]), (cn_548)⟩
            · have hB568 := (hB266.ext hE275)
              refine dWp (i := 1) rfl rfl (oEv (v := (.agg #[(.bool gk), (.slice Ak nk ck)])) (evLoadAB [(.bool gk), (.slice Ak nk ck)] agg25 sz25 rfl hB568 rfl) rfl ⟨Frm.refl _ _, dTwo 0 4 (by kernel_rfl) ?_ ?_⟩)
              · refine dWp (i := 0) rfl rfl (oEv (v := (.agg #[(.bool gl), (.slice Al nl cl)])) (evLoadAB [(.bool gl), (.slice Al nl cl)] agg25 sz25 rfl hB501 rfl) rfl ⟨Frm.refl _ _, ?_⟩)
                have hR569 := ((((((hE225.trans hE231).rx hU236).tr hU241).xr hE246).tr hU253).tr hU258).xr hE275
                have h570 := (h220.frmB hR569 q3)
                have hR571 := hR265.xr hE275
                have h572 := (hl.frmB hR571 q3)
                refine dOp 4 rfl rfl (by kernel_rfl) (oCall rfl call33 (integer_Mul h570 h572 (by omega)) rfl ?_)
                rintro _ w574 ⟨gr_573, Ar_573, nr_573, cr_573, dr_573, rfl, hE575, hr_573, v_573, cn_573, le_573⟩
                refine ⟨(Frm.of_ext hE575), ?_⟩
                have hz576 := hE575.size
                have ⟨lr_573, kr_573, mr_573⟩ := hr_573.lkm
                have hR578 := hR571.xr hE575
                have h579 := (hk.frmB hR578 q3)
                refine dOp 5 rfl rfl (by kernel_rfl) (oCall rfl call106 (integer_Sub h579 hr_573 (by omega) (by omega)) rfl ?_)
                rintro _ w581 ⟨gr_580, Ar_580, nr_580, cr_580, dr_580, rfl, hE582, hr_580, v_580, cn_580, le_580⟩
                refine ⟨(Frm.of_ext hE582), ?_⟩
                have hz583 := hE582.size
                have ⟨lr_580, kr_580, mr_580⟩ := hr_580.lkm
                have hR585 := hE575.trans hE582
                have hB586 := (hB568.ext hR585)
                refine dOp 6 rfl rfl (by kernel_rfl) (oStore [(.bool gl), (.slice Al nl cl)] rfl rfl rfl sz25 rfl hB586 (Nat.le_of_ble_eq_true rfl) (fun w587 hU588 hz589 hB590 => ?_))
                replace hB590 : Blk w587 g20 25 [(.bool gl), (.slice Al nl cl)] := hB590
                refine ⟨(hU588.mono q4), ?_⟩
                have hR591 := hR585.rx hU588
                have hB592 := (hB501.frm hR591 q1)
                refine dOp 7 rfl rfl (by kernel_rfl) (oStore [(.bool gr_580), (.slice Ar_580 nr_580 cr_580)] rfl rfl rfl sz25 rfl hB592 (Nat.le_of_ble_eq_true rfl) (fun w593 hU594 hz595 hB596 => ?_))
                replace hB596 : Blk w593 g149 25 [(.bool gr_580), (.slice Ar_580 nr_580 cr_580)] := hB596
                refine ⟨(hU594.mono q4), dDone (by kernel_rfl) ?_⟩
                have hB597 := (hB590.frm hU594 q1)
                have hR598 := hU588.tr hU594
                have h599 := (hr_580.frmB hR598 q3)
                have hR600 := (((hE275.trans hE575).trans hE582).rx hU588).tr hU594
                exact ⟨rfl, _, rfl, (gr_580), (Ar_580), (nr_580), (cr_580), (dr_580), rfl, rfl, rfl, rfl, rfl, rfl, rfl, rfl, (Frm.mono hR600 q4), hB597, hB596, (NatR.sub h599 q5), (by rw [v_580, v_573, v_214]), (cn_580)⟩
              · have hR601 := ((((((hE225.trans hE231).rx hU236).tr hU241).xr hE246).tr hU253).tr hU258).xr hE275
                have h602 := (h220.frmB hR601 q3)
                have hR603 := hR265.xr hE275
                have h604 := (hl.frmB hR603 q3)
                refine dWp (i := 4) rfl rfl (oCall rfl call33 (integer_Mul h602 h604 (by omega)) rfl ?_)
                rintro _ w606 ⟨gr_605, Ar_605, nr_605, cr_605, dr_605, rfl, hE607, hr_605, v_605, cn_605, le_605⟩
                refine ⟨(Frm.of_ext hE607), ?_⟩
                have hz608 := hE607.size
                have ⟨lr_605, kr_605, mr_605⟩ := hr_605.lkm
                refine dTwo 0 5 (by kernel_rfl) ?_ ?_
                · have hB610 := (hB501.ext hE607)
                  refine dWp (i := 0) rfl rfl (oEv (v := (.agg #[(.bool gl), (.slice Al nl cl)])) (evLoadAB [(.bool gl), (.slice Al nl cl)] agg25 sz25 rfl hB610 rfl) rfl ⟨Frm.refl _ _, ?_⟩)
                  have hR611 := hR603.xr hE607
                  have h612 := (hk.frmB hR611 q3)
                  refine dOp 5 rfl rfl (by kernel_rfl) (oCall rfl call106 (integer_Sub h612 hr_605 (by omega) (by omega)) rfl ?_)
                  rintro _ w614 ⟨gr_613, Ar_613, nr_613, cr_613, dr_613, rfl, hE615, hr_613, v_613, cn_613, le_613⟩
                  refine ⟨(Frm.of_ext hE615), ?_⟩
                  have hz616 := hE615.size
                  have ⟨lr_613, kr_613, mr_613⟩ := hr_613.lkm
                  have hR618 := hE607.trans hE615
                  have hB619 := (hB568.ext hR618)
                  refine dOp 6 rfl rfl (by kernel_rfl) (oStore [(.bool gl), (.slice Al nl cl)] rfl rfl rfl sz25 rfl hB619 (Nat.le_of_ble_eq_true rfl) (fun w620 hU621 hz622 hB623 => ?_))
                  replace hB623 : Blk w620 g20 25 [(.bool gl), (.slice Al nl cl)] := hB623
                  refine ⟨(hU621.mono q4), ?_⟩
                  have hR624 := hE615.rx hU621
                  have hB625 := (hB610.frm hR624 q1)
                  refine dOp 7 rfl rfl (by kernel_rfl) (oStore [(.bool gr_613), (.slice Ar_613 nr_613 cr_613)] rfl rfl rfl sz25 rfl hB625 (Nat.le_of_ble_eq_true rfl) (fun w626 hU627 hz628 hB629 => ?_))
                  replace hB629 : Blk w626 g149 25 [(.bool gr_613), (.slice Ar_613 nr_613 cr_613)] := hB629
                  refine ⟨(hU627.mono q4), dDone (by kernel_rfl) ?_⟩
                  have hB630 := (hB623.frm hU627 q1)
                  have hR631 := hU621.tr hU627
                  have h632 := (hr_613.frmB hR631 q3)
                  have hR633 := (((hE275.trans hE607).trans hE615).rx hU621).tr hU627
                  exact ⟨rfl, _, rfl, (gr_613), (Ar_613), (nr_613), (cr_613), (dr_613), rfl, rfl, rfl, rfl, rfl, rfl, rfl, rfl, (Frm.mono hR633 q4), hB630, hB629, (NatR.sub h632 q5), (by rw [v_613, v_605, v_214]), (cn_613)⟩
                · have hR634 := hR603.xr hE607
                  have h635 := (hk.frmB hR634 q3)
                  refine dWp (i := 5) rfl rfl (oCall rfl call106 (integer_Sub h635 hr_605 (by omega) (by omega)) rfl ?_)
                  rintro _ w637 ⟨gr_636, Ar_636, nr_636, cr_636, dr_636, rfl, hE638, hr_636, v_636, cn_636, le_636⟩
                  refine ⟨(Frm.of_ext hE638), ?_⟩
                  have hz639 := hE638.size
                  have ⟨lr_636, kr_636, mr_636⟩ := hr_636.lkm
                  have hR641 := hE607.trans hE638
                  have hB642 := (hB501.ext hR641)
                  refine dOp 0 rfl rfl (by kernel_rfl) (oEv (v := (.agg #[(.bool gl), (.slice Al nl cl)])) (evLoadAB [(.bool gl), (.slice Al nl cl)] agg25 sz25 rfl hB642 rfl) rfl ⟨Frm.refl _ _, ?_⟩)
                  have hB643 := (hB568.ext hR641)
                  refine dOp 6 rfl rfl (by kernel_rfl) (oStore [(.bool gl), (.slice Al nl cl)] rfl rfl rfl sz25 rfl hB643 (Nat.le_of_ble_eq_true rfl) (fun w644 hU645 hz646 hB647 => ?_))
                  replace hB647 : Blk w644 g20 25 [(.bool gl), (.slice Al nl cl)] := hB647
                  refine ⟨(hU645.mono q4), ?_⟩
                  have hB648 := (hB642.frm hU645 q1)
                  refine dOp 7 rfl rfl (by kernel_rfl) (oStore [(.bool gr_636), (.slice Ar_636 nr_636 cr_636)] rfl rfl rfl sz25 rfl hB648 (Nat.le_of_ble_eq_true rfl) (fun w649 hU650 hz651 hB652 => ?_))
                  replace hB652 : Blk w649 g149 25 [(.bool gr_636), (.slice Ar_636 nr_636 cr_636)] := hB652
                  refine ⟨(hU650.mono q4), dDone (by kernel_rfl) ?_⟩
                  have hB653 := (hB647.frm hU650 q1)
                  have hR654 := hU645.tr hU650
                  have h655 := (hr_636.frmB hR654 q3)
                  have hR656 := (((hE275.trans hE607).trans hE638).rx hU645).tr hU650
                  exact ⟨rfl, _, rfl, (gr_636), (Ar_636), (nr_636), (cr_636), (dr_636), rfl, rfl, rfl, rfl, rfl, rfl, rfl, rfl, (Frm.mono hR656 q4), hB653, hB652, (NatR.sub h655 q5), (by rw [v_636, v_605, v_214]), (cn_636)⟩
            · have hR657 := ((((((hE225.trans hE231).rx hU236).tr hU241).xr hE246).tr hU253).tr hU258).xr hE275
              have h658 := (h220.frmB hR657 q3)
              have hR659 := hR265.xr hE275
              have h660 := (hl.frmB hR659 q3)
              refine dWp (i := 4) rfl rfl (oCall rfl call33 (integer_Mul h658 h660 (by omega)) rfl ?_)
              rintro _ w662 ⟨gr_661, Ar_661, nr_661, cr_661, dr_661, rfl, hE663, hr_661, v_661, cn_661, le_661⟩
              refine ⟨(Frm.of_ext hE663), ?_⟩
              have hz664 := hE663.size
              have ⟨lr_661, kr_661, mr_661⟩ := hr_661.lkm
              refine dTwo 0 1 (by kernel_rfl) ?_ ?_
              · have hB666 := (hB501.ext hE663)
                refine dWp (i := 0) rfl rfl (oEv (v := (.agg #[(.bool gl), (.slice Al nl cl)])) (evLoadAB [(.bool gl), (.slice Al nl cl)] agg25 sz25 rfl hB666 rfl) rfl ⟨Frm.refl _ _, ?_⟩)
                have hR667 := hE275.trans hE663
                have hB668 := (hB266.ext hR667)
                refine dOp 1 rfl rfl (by kernel_rfl) (oEv (v := (.agg #[(.bool gk), (.slice Ak nk ck)])) (evLoadAB [(.bool gk), (.slice Ak nk ck)] agg25 sz25 rfl hB668 rfl) rfl ⟨Frm.refl _ _, ?_⟩)
                have hR669 := hR659.xr hE663
                have h670 := (hk.frmB hR669 q3)
                refine dOp 5 rfl rfl (by kernel_rfl) (oCall rfl call106 (integer_Sub h670 hr_661 (by omega) (by omega)) rfl ?_)
                rintro _ w672 ⟨gr_671, Ar_671, nr_671, cr_671, dr_671, rfl, hE673, hr_671, v_671, cn_671, le_671⟩
                refine ⟨(Frm.of_ext hE673), ?_⟩
                have hz674 := hE673.size
                have ⟨lr_671, kr_671, mr_671⟩ := hr_671.lkm
                have hB676 := (hB668.ext hE673)
                refine dOp 6 rfl rfl (by kernel_rfl) (oStore [(.bool gl), (.slice Al nl cl)] rfl rfl rfl sz25 rfl hB676 (Nat.le_of_ble_eq_true rfl) (fun w677 hU678 hz679 hB680 => ?_))
                replace hB680 : Blk w677 g20 25 [(.bool gl), (.slice Al nl cl)] := hB680
                refine ⟨(hU678.mono q4), ?_⟩
                have hR681 := hE673.rx hU678
                have hB682 := (hB666.frm hR681 q1)
                refine dOp 7 rfl rfl (by kernel_rfl) (oStore [(.bool gr_671), (.slice Ar_671 nr_671 cr_671)] rfl rfl rfl sz25 rfl hB682 (Nat.le_of_ble_eq_true rfl) (fun w683 hU684 hz685 hB686 => ?_))
                replace hB686 : Blk w683 g149 25 [(.bool gr_671), (.slice Ar_671 nr_671 cr_671)] := hB686
                refine ⟨(hU684.mono q4), dDone (by kernel_rfl) ?_⟩
                have hB687 := (hB680.frm hU684 q1)
                have hR688 := hU678.tr hU684
                have h689 := (hr_671.frmB hR688 q3)
                have hR690 := ((hR667.trans hE673).rx hU678).tr hU684
                exact ⟨rfl, _, rfl, (gr_671), (Ar_671), (nr_671), (cr_671), (dr_671), rfl, rfl, rfl, rfl, rfl, rfl, rfl, rfl, (Frm.mono hR690 q4), hB687, hB686, (NatR.sub h689 q5), (by rw [v_671, v_661, v_214]), (cn_671)⟩
              · have hR691 := hE275.trans hE663
                have hB692 := (hB266.ext hR691)
                refine dWp (i := 1) rfl rfl (oEv (v := (.agg #[(.bool gk), (.slice Ak nk ck)])) (evLoadAB [(.bool gk), (.slice Ak nk ck)] agg25 sz25 rfl hB692 rfl) rfl ⟨Frm.refl _ _, dTwo 0 5 (by kernel_rfl) ?_ ?_⟩)
                · have hB693 := (hB501.ext hE663)
                  refine dWp (i := 0) rfl rfl (oEv (v := (.agg #[(.bool gl), (.slice Al nl cl)])) (evLoadAB [(.bool gl), (.slice Al nl cl)] agg25 sz25 rfl hB693 rfl) rfl ⟨Frm.refl _ _, ?_⟩)
                  have hR694 := hR659.xr hE663
                  have h695 := (hk.frmB hR694 q3)
                  refine dOp 5 rfl rfl (by kernel_rfl) (oCall rfl call106 (integer_Sub h695 hr_661 (by omega) (by omega)) rfl ?_)
                  rintro _ w697 ⟨gr_696, Ar_696, nr_696, cr_696, dr_696, rfl, hE698, hr_696, v_696, cn_696, le_696⟩
                  refine ⟨(Frm.of_ext hE698), ?_⟩
                  have hz699 := hE698.size
                  have ⟨lr_696, kr_696, mr_696⟩ := hr_696.lkm
                  have hB701 := (hB692.ext hE698)
                  refine dOp 6 rfl rfl (by kernel_rfl) (oStore [(.bool gl), (.slice Al nl cl)] rfl rfl rfl sz25 rfl hB701 (Nat.le_of_ble_eq_true rfl) (fun w702 hU703 hz704 hB705 => ?_))
                  replace hB705 : Blk w702 g20 25 [(.bool gl), (.slice Al nl cl)] := hB705
                  refine ⟨(hU703.mono q4), ?_⟩
                  have hR706 := hE698.rx hU703
                  have hB707 := (hB693.frm hR706 q1)
                  refine dOp 7 rfl rfl (by kernel_rfl) (oStore [(.bool gr_696), (.slice Ar_696 nr_696 cr_696)] rfl rfl rfl sz25 rfl hB707 (Nat.le_of_ble_eq_true rfl) (fun w708 hU709 hz710 hB711 => ?_))
                  replace hB711 : Blk w708 g149 25 [(.bool gr_696), (.slice Ar_696 nr_696 cr_696)] := hB711
                  refine ⟨(hU709.mono q4), dDone (by kernel_rfl) ?_⟩
                  have hB712 := (hB705.frm hU709 q1)
                  have hR713 := hU703.tr hU709
                  have h714 := (hr_696.frmB hR713 q3)
                  have hR715 := ((hR691.trans hE698).rx hU703).tr hU709
                  exact ⟨rfl, _, rfl, (gr_696), (Ar_696), (nr_696), (cr_696), (dr_696), rfl, rfl, rfl, rfl, rfl, rfl, rfl, rfl, (Frm.mono hR715 q4), hB712, hB711, (NatR.sub h714 q5), (by rw [v_696, v_661, v_214]), (cn_696)⟩
                · have hR716 := hR659.xr hE663
                  have h717 := (hk.frmB hR716 q3)
                  refine dWp (i := 5) rfl rfl (oCall rfl call106 (integer_Sub h717 hr_661 (by omega) (by omega)) rfl ?_)
                  rintro _ w719 ⟨gr_718, Ar_718, nr_718, cr_718, dr_718, rfl, hE720, hr_718, v_718, cn_718, le_718⟩
                  refine ⟨(Frm.of_ext hE720), ?_⟩
                  have hz721 := hE720.size
                  have ⟨lr_718, kr_718, mr_718⟩ := hr_718.lkm
                  have hR723 := hE663.trans hE720
                  have hB724 := (hB501.ext hR723)
                  refine dOp 0 rfl rfl (by kernel_rfl) (oEv (v := (.agg #[(.bool gl), (.slice Al nl cl)])) (evLoadAB [(.bool gl), (.slice Al nl cl)] agg25 sz25 rfl hB724 rfl) rfl ⟨Frm.refl _ _, ?_⟩)
                  have hB725 := (hB692.ext hE720)
                  refine dOp 6 rfl rfl (by kernel_rfl) (oStore [(.bool gl), (.slice Al nl cl)] rfl rfl rfl sz25 rfl hB725 (Nat.le_of_ble_eq_true rfl) (fun w726 hU727 hz728 hB729 => ?_))
                  replace hB729 : Blk w726 g20 25 [(.bool gl), (.slice Al nl cl)] := hB729
                  refine ⟨(hU727.mono q4), ?_⟩
                  have hB730 := (hB724.frm hU727 q1)
                  refine dOp 7 rfl rfl (by kernel_rfl) (oStore [(.bool gr_718), (.slice Ar_718 nr_718 cr_718)] rfl rfl rfl sz25 rfl hB730 (Nat.le_of_ble_eq_true rfl) (fun w731 hU732 hz733 hB734 => ?_))
                  replace hB734 : Blk w731 g149 25 [(.bool gr_718), (.slice Ar_718 nr_718 cr_718)] := hB734
                  refine ⟨(hU732.mono q4), dDone (by kernel_rfl) ?_⟩
                  have hB735 := (hB729.frm hU732 q1)
                  have hR736 := hU727.tr hU732
                  have h737 := (hr_718.frmB hR736 q3)
                  have hR738 := ((hR691.trans hE720).rx hU727).tr hU732
                  exact ⟨rfl, _, rfl, (gr_718), (Ar_718), (nr_718), (cr_718), (dr_718), rfl, rfl, rfl, rfl, rfl, rfl, rfl, rfl, (Frm.mono hR738 q4), hB735, hB734, (NatR.sub h737 q5), (by rw [v_718, v_661, v_214]), (cn_718)⟩
        · rintro e740 w739 ⟨gm, Am, nm, cm, dm, hs742, hs743, hs744, hs745, hs746, hs747, hs748, hs749, hF741, hB750, hB751, hmN, hvm, hcm⟩
          obtain ⟨r752, rfl⟩ := sq (e := e740) (t := 2) hs742
          obtain ⟨r753, rfl⟩ := sq (e := r752) (t := 3) hs743
          obtain ⟨r754, rfl⟩ := sq (e := r753) (t := 4) hs744
          obtain ⟨r755, rfl⟩ := sq (e := r754) (t := 5) hs745
          obtain ⟨r756, rfl⟩ := sq (e := r755) (t := 6) hs746
          obtain ⟨r757, rfl⟩ := sq (e := r756) (t := 7) hs747
          obtain ⟨r758, rfl⟩ := sq (e := r757) (t := 8) hs748
          obtain ⟨r759, rfl⟩ := sq (e := r758) (t := 9) hs749
          have hz760 := hF741.size
          have ⟨lm, km, mm⟩ := hmN.lkm
          refine bN ?_
          have hR761 := hR265.tr hF741
          have hB762 := (hB268.frm hF741 q1)
          have hB763 := (hB260.frm hF741 q1)
          have hR764 := ((hR249.tr hU253).tr hU258).tr hF741
          have h765 := (h213.frmB hR764 q3)
          have hR766 := ((((((hE225.trans hE231).rx hU236).tr hU241).xr hE246).tr hU253).tr hU258).tr hF741
          have h767 := (h221.frmB hR766 q3)
          have h768 := (hl.frmB hR761 q3)
          refine again ((zval (gr_214) (dr_214)).natAbs) (by omega) ⟨(gj), (Aj), (nj), (cj), (dj), (gr_214), (Ar_214), (nr_214), (cr_214), (dr_214), (gl), (Al), (nl), (cl), (dl), (gm), (Am), (nm), (cm), (dm), rfl, rfl, rfl, rfl, rfl, rfl, rfl, rfl, rfl, (Frm.mono (hF187.tr hR761) q4), ?_, ?_, ?_, ?_, ?_, ?_, ?_, ?_, ?_, ?_, ?_, ?_⟩
          · exact hB762
          · exact hB763
          · exact hB750
          · exact hB751
          · exact NatR.sub h765 q5
          · exact NatR.sub h767 q5
          · exact NatR.sub h768 q5
          · exact NatR.sub hmN q5
          · omega
          · exact hcl
          · exact hcm
          · rw [m_214, hvm]; exact hXg.step hS0
      · refine cF rfl (wp_exit (xE (xE (bE (xN (hK166 _ _ (wp_seq_k fun K769 hK769 => wp_seq_k fun K770 hK770 => ?_)))))))
        have hS1 : zval gj dj = 0 := of_decide_eq_true e_205.symm
        have hR1 : (zval gi di).natAbs = 1 := (hS1 ▸ hXg).done
        refine wp_region_lit ?_
        have hB771 := (hB188.ext hE207)
        refine sV (evLoadAB [(.bool gi), (.slice Ai ni ci)] agg25 sz25 rfl hB771 rfl) ?_
        have h772 := (hi.ext hE207)
        refine sO (oCall rfl call29 (integer_Sign h772) rfl ?_)
        rintro _ w774 ⟨xr_773, rfl, hE775, e_773⟩
        have hz776 := hE775.size
        have hsg := sgn_rng e_773
        by_cases hc777 : xr_773 < 0
        · refine sV (evLss true rfl rfl (dT hc777)) (sK hK770 (cT rfl ?_))
          have hR778 := ((((hR155.rx hU158).tr hU163).tr hF187).xr hE207).xr hE775
          have hB779 := (hB44.frm hR778 q1)
          have hB780 := (hB45.frm hR778 q1)
          have hB781 := (hB47.frm hR778 q1)
          have hR782 := hE207.trans hE775
          have hB783 := (hB190.ext hR782)
          have hB784 := (hB50.frm hR778 q1)
          have hB785 := (hB771.ext hE775)
          have hB786 := (hB189.ext hR782)
          have hB787 := (hB191.ext hR782)
          refine wpJoin (dfs := []) (n := 82) (fun e w_ => ∃ (gm : Bool) (Am : Option Addr) (nm : Nat) (cm : Nat) (dm : List Nat) (gp : Bool) (Ap : Option Addr) (np : Nat) (cp : Nat) (dp : List Nat), e 2 = (.pointer (some ⟨g2, 0, none⟩)) ∧ e 3 = (.pointer (some ⟨g8, 0, none⟩)) ∧ e 4 = (.pointer (some ⟨g14, 0, none⟩)) ∧ e 5 = (.pointer (some ⟨g20, 0, none⟩)) ∧ e 6 = (.pointer (some ⟨g26, 0, none⟩)) ∧ e 7 = (.pointer (some ⟨b7, 0, none⟩)) ∧ Frm (fun b => b = b7 ∨ b = g20) w774 w_ ∧ Blk w_ b7 25 ([.bool gm, .slice Am nm cm]) ∧ Blk w_ g20 25 ([.bool gp, .slice Ap np cp]) ∧ (NatR w_ (fun b => w774.heap.size ≤ b) Am nm cm dm) ∧ (NatR w_ (fun b => w774.heap.size ≤ b) Ap np cp dp) ∧ (zval gm dm = -zval gi di) ∧ (zval gp dp = -zval gk dk) ∧ (nm ≤ ni + 1 ∧ np ≤ nk + 1)) ?_ ?_
          · refine dBegin (fun b => b = b7 ∨ b = g20) mixed (fun w788 hE789 hz790 => dTwo 0 2 (by kernel_rfl) ?_ ?_)
            · have hB791 := (hB785.ext hE789)
              refine dWp (i := 0) rfl rfl (oEv (v := (.agg #[(.bool gi), (.slice Ai ni ci)])) (evLoadAB [(.bool gi), (.slice Ai ni ci)] agg25 sz25 rfl hB791 rfl) rfl ⟨Frm.refl _ _, dTwo 1 2 (by kernel_rfl) ?_ ?_⟩)
              · have hR792 := hE775.trans hE789
                have h793 := (h772.ext hR792)
                refine dWp (i := 1) rfl rfl (oCall rfl call123 (integer_Neg h793 (by omega)) rfl ?_)
                rintro _ w795 ⟨gr_794, Ar_794, nr_794, cr_794, dr_794, rfl, hE796, hr_794, v_794, cn_794, le_794⟩
                refine ⟨(Frm.of_ext hE796), ?_⟩
                have hz797 := hE796.size
                have ⟨lr_794, kr_794, mr_794⟩ := hr_794.lkm
                have hR799 := hE789.trans hE796
                have hB800 := (hB783.ext hR799)
                refine dOp 2 rfl rfl (by kernel_rfl) (oEv (v := (.agg #[(.bool gk), (.slice Ak nk ck)])) (evLoadAB [(.bool gk), (.slice Ak nk ck)] agg25 sz25 rfl hB800 rfl) rfl ⟨Frm.refl _ _, ?_⟩)
                have hR801 := (hR782.trans hE789).trans hE796
                have h802 := (hk.ext hR801)
                refine dOp 3 rfl rfl (by kernel_rfl) (oCall rfl call123 (integer_Neg h802 (by omega)) rfl ?_)
                rintro _ w804 ⟨gr_803, Ar_803, nr_803, cr_803, dr_803, rfl, hE805, hr_803, v_803, cn_803, le_803⟩
                refine ⟨(Frm.of_ext hE805), ?_⟩
                have hz806 := hE805.size
                have ⟨lr_803, kr_803, mr_803⟩ := hr_803.lkm
                have hR808 := hE796.trans hE805
                have hB809 := (hB791.ext hR808)
                refine dOp 4 rfl rfl (by kernel_rfl) (oStore [(.bool gr_794), (.slice Ar_794 nr_794 cr_794)] rfl rfl rfl sz25 rfl hB809 (Nat.le_of_ble_eq_true rfl) (fun w810 hU811 hz812 hB813 => ?_))
                replace hB813 : Blk w810 b7 25 [(.bool gr_794), (.slice Ar_794 nr_794 cr_794)] := hB813
                refine ⟨(hU811.mono q4), ?_⟩
                have hR814 := hE805.rx hU811
                have hB815 := (hB800.frm hR814 q1)
                refine dOp 5 rfl rfl (by kernel_rfl) (oStore [(.bool gr_803), (.slice Ar_803 nr_803 cr_803)] rfl rfl rfl sz25 rfl hB815 (Nat.le_of_ble_eq_true rfl) (fun w816 hU817 hz818 hB819 => ?_))
                replace hB819 : Blk w816 g20 25 [(.bool gr_803), (.slice Ar_803 nr_803 cr_803)] := hB819
                refine ⟨(hU817.mono q4), dDone (by kernel_rfl) ?_⟩
                have hB820 := (hB813.frm hU817 q1)
                have hR821 := hR814.tr hU817
                have h822 := (hr_794.frmB hR821 q3)
                have hR823 := hU811.tr hU817
                have h824 := (hr_803.frmB hR823 q3)
                have hR825 := ((hR799.trans hE805).rx hU811).tr hU817
                exact ⟨rfl, _, rfl, (gr_794), (Ar_794), (nr_794), (cr_794), (dr_794), (gr_803), (Ar_803), (nr_803), (cr_803), (dr_803), rfl, rfl, rfl, rfl, rfl, rfl, (Frm.mono hR825 q4), hB820, hB819, (NatR.sub h822 q5), (NatR.sub h824 q5), (v_794), (v_803), (by omega)⟩
              · have hB826 := (hB783.ext hE789)
                refine dWp (i := 2) rfl rfl (oEv (v := (.agg #[(.bool gk), (.slice Ak nk ck)])) (evLoadAB [(.bool gk), (.slice Ak nk ck)] agg25 sz25 rfl hB826 rfl) rfl ⟨Frm.refl _ _, ?_⟩)
                have hR827 := hE775.trans hE789
                have h828 := (h772.ext hR827)
                refine dOp 1 rfl rfl (by kernel_rfl) (oCall rfl call123 (integer_Neg h828 (by omega)) rfl ?_)
                rintro _ w830 ⟨gr_829, Ar_829, nr_829, cr_829, dr_829, rfl, hE831, hr_829, v_829, cn_829, le_829⟩
                refine ⟨(Frm.of_ext hE831), ?_⟩
                have hz832 := hE831.size
                have ⟨lr_829, kr_829, mr_829⟩ := hr_829.lkm
                have hR834 := (hR782.trans hE789).trans hE831
                have h835 := (hk.ext hR834)
                refine dOp 3 rfl rfl (by kernel_rfl) (oCall rfl call123 (integer_Neg h835 (by omega)) rfl ?_)
                rintro _ w837 ⟨gr_836, Ar_836, nr_836, cr_836, dr_836, rfl, hE838, hr_836, v_836, cn_836, le_836⟩
                refine ⟨(Frm.of_ext hE838), ?_⟩
                have hz839 := hE838.size
                have ⟨lr_836, kr_836, mr_836⟩ := hr_836.lkm
                have hR841 := hE831.trans hE838
                have hB842 := (hB791.ext hR841)
                refine dOp 4 rfl rfl (by kernel_rfl) (oStore [(.bool gr_829), (.slice Ar_829 nr_829 cr_829)] rfl rfl rfl sz25 rfl hB842 (Nat.le_of_ble_eq_true rfl) (fun w843 hU844 hz845 hB846 => ?_))
                replace hB846 : Blk w843 b7 25 [(.bool gr_829), (.slice Ar_829 nr_829 cr_829)] := hB846
                refine ⟨(hU844.mono q4), ?_⟩
                have hR847 := hR841.rx hU844
                have hB848 := (hB826.frm hR847 q1)
                refine dOp 5 rfl rfl (by kernel_rfl) (oStore [(.bool gr_836), (.slice Ar_836 nr_836 cr_836)] rfl rfl rfl sz25 rfl hB848 (Nat.le_of_ble_eq_true rfl) (fun w849 hU850 hz851 hB852 => ?_))
                replace hB852 : Blk w849 g20 25 [(.bool gr_836), (.slice Ar_836 nr_836 cr_836)] := hB852
                refine ⟨(hU850.mono q4), dDone (by kernel_rfl) ?_⟩
                have hB853 := (hB846.frm hU850 q1)
                have hR854 := (hE838.rx hU844).tr hU850
                have h855 := (hr_829.frmB hR854 q3)
                have hR856 := hU844.tr hU850
                have h857 := (hr_836.frmB hR856 q3)
                have hR858 := (((hE789.trans hE831).trans hE838).rx hU844).tr hU850
                exact ⟨rfl, _, rfl, (gr_829), (Ar_829), (nr_829), (cr_829), (dr_829), (gr_836), (Ar_836), (nr_836), (cr_836), (dr_836), rfl, rfl, rfl, rfl, rfl, rfl, (Frm.mono hR858 q4), hB853, hB852, (NatR.sub h855 q5), (NatR.sub h857 q5), (v_829), (v_836), (by omega)⟩
            · have hB859 := (hB783.ext hE789)
              refine dWp (i := 2) rfl rfl (oEv (v := (.agg #[(.bool gk), (.slice Ak nk ck)])) (evLoadAB [(.bool gk), (.slice Ak nk ck)] agg25 sz25 rfl hB859 rfl) rfl ⟨Frm.refl _ _, ?_⟩)
              have hB860 := (hB785.ext hE789)
              refine dOp 0 rfl rfl (by kernel_rfl) (oEv (v := (.agg #[(.bool gi), (.slice Ai ni ci)])) (evLoadAB [(.bool gi), (.slice Ai ni ci)] agg25 sz25 rfl hB860 rfl) rfl ⟨Frm.refl _ _, ?_⟩)
              have hR861 := hE775.trans hE789
              have h862 := (h772.ext hR861)
              refine dOp 1 rfl rfl (by kernel_rfl) (oCall rfl call123 (integer_Neg h862 (by omega)) rfl ?_)
              rintro _ w864 ⟨gr_863, Ar_863, nr_863, cr_863, dr_863, rfl, hE865, hr_863, v_863, cn_863, le_863⟩
              refine ⟨(Frm.of_ext hE865), ?_⟩
              have hz866 := hE865.size
              have ⟨lr_863, kr_863, mr_863⟩ := hr_863.lkm
              have hR868 := (hR782.trans hE789).trans hE865
              have h869 := (hk.ext hR868)
              refine dOp 3 rfl rfl (by kernel_rfl) (oCall rfl call123 (integer_Neg h869 (by omega)) rfl ?_)
              rintro _ w871 ⟨gr_870, Ar_870, nr_870, cr_870, dr_870, rfl, hE872, hr_870, v_870, cn_870, le_870⟩
              refine ⟨(Frm.of_ext hE872), ?_⟩
              have hz873 := hE872.size
              have ⟨lr_870, kr_870, mr_870⟩ := hr_870.lkm
              have hR875 := hE865.trans hE872
              have hB876 := (hB860.ext hR875)
              refine dOp 4 rfl rfl (by kernel_rfl) (oStore [(.bool gr_863), (.slice Ar_863 nr_863 cr_863)] rfl rfl rfl sz25 rfl hB876 (Nat.le_of_ble_eq_true rfl) (fun w877 hU878 hz879 hB880 => ?_))
              replace hB880 : Blk w877 b7 25 [(.bool gr_863), (.slice Ar_863 nr_863 cr_863)] := hB880
              refine ⟨(hU878.mono q4), ?_⟩
              have hR881 := hR875.rx hU878
              have hB882 := (hB859.frm hR881 q1)
              refine dOp 5 rfl rfl (by kernel_rfl) (oStore [(.bool gr_870), (.slice Ar_870 nr_870 cr_870)] rfl rfl rfl sz25 rfl hB882 (Nat.le_of_ble_eq_true rfl) (fun w883 hU884 hz885 hB886 => ?_))
              replace hB886 : Blk w883 g20 25 [(.bool gr_870), (.slice Ar_870 nr_870 cr_870)] := hB886
              refine ⟨(hU884.mono q4), dDone (by kernel_rfl) ?_⟩
              have hB887 := (hB880.frm hU884 q1)
              have hR888 := (hE872.rx hU878).tr hU884
              have h889 := (hr_863.frmB hR888 q3)
              have hR890 := hU878.tr hU884
              have h891 := (hr_870.frmB hR890 q3)
              have hR892 := (((hE789.trans hE865).trans hE872).rx hU878).tr hU884
              exact ⟨rfl, _, rfl, (gr_863), (Ar_863), (nr_863), (cr_863), (dr_863), (gr_870), (Ar_870), (nr_870), (cr_870), (dr_870), rfl, rfl, rfl, rfl, rfl, rfl, (Frm.mono hR892 q4), hB887, hB886, (NatR.sub h889 q5), (NatR.sub h891 q5), (v_863), (v_870), (by omega)⟩
          · rintro e894 w893 ⟨gm, Am, nm, cm, dm, gp, Ap, np, cp, dp, hs896, hs897, hs898, hs899, hs900, hs901, hF895, hB902, hB903, hmN, hpN, hvm, hvp, hlm⟩
            obtain ⟨r904, rfl⟩ := sq (e := e894) (t := 2) hs896
            obtain ⟨r905, rfl⟩ := sq (e := r904) (t := 3) hs897
            obtain ⟨r906, rfl⟩ := sq (e := r905) (t := 4) hs898
            obtain ⟨r907, rfl⟩ := sq (e := r906) (t := 5) hs899
            obtain ⟨r908, rfl⟩ := sq (e := r907) (t := 6) hs900
            obtain ⟨r909, rfl⟩ := sq (e := r908) (t := 7) hs901
            have hz910 := hF895.size
            have ⟨lm, km, mm⟩ := hmN.lkm; have ⟨lp, kp, mp⟩ := hpN.lkm
            refine xN (hK769 _ _ (wp_seq_k fun K911 hK911 => ?_))
            have ⟨hr1, hx1⟩ := xg_neg hXg.cx hR1 (by omega) hvm hvp
            refine wp_region_lit ?_
            have hB912 := (hB780.frm hF895 q1)
            refine sV (evLoadAB [(.bool gb), (.slice Ab nb cb)] agg25 sz25 rfl hB912 rfl) (sV (evLoadAB [(.bool gm), (.slice Am nm cm)] agg25 sz25 rfl hB902 rfl) ?_)
            have hR913 := (((((((((hE40.trans hF116).trans hE139).trans hE145).trans hE152).rx hU158).tr hU163).tr hF187).xr hE207).xr hE775).tr hF895
            have h914 := (h37.frmB hR913 q3)
            refine sO (oCall rfl call109 (division_Quo h914 hmN (by omega) (by omega) (by omega)) rfl ?_)
            rintro _ w916 ⟨gq_915, Aq_915, nq_915, cq_915, dq_915, gr_915, Ar_915, nr_915, cr_915, dr_915, xe_915, rfl, hE917, hq_915, hr_915, v_915, m_915, cnq_915, cnr_915, ok_915, leq_915, ler_915⟩
            have hz918 := hE917.size
            have ⟨lq_915, kq_915, mq_915⟩ := hq_915.lkm
            have ⟨lr_915, kr_915, mr_915⟩ := hr_915.lkm
            have h921 := hq_915.sub (S' := fun b => (w893.heap.size ≤ b) ∧ b < w916.heap.size) fun _ hb hs => ⟨hs, hb⟩
            have h922 := hr_915.sub (S' := fun b => (w893.heap.size ≤ b) ∧ b < w916.heap.size) fun _ hb hs => ⟨hs, hb⟩
            have hpe : zval gq_915 dq_915 = (zval gb db).tdiv 1 := by rw [v_915, hr1]
            have hpz : zval gq_915 dq_915 ≠ 0 := by rw [hpe, Int.tdiv_one]; exact hb0
            refine sV (v := (.tuple #[(.agg #[(.bool gq_915), (.slice Aq_915 nq_915 cq_915)]), (.agg #[(.bool gr_915), (.slice Ar_915 nr_915 cr_915)]), (.int .i64 (xe_915))])) (rfl) (sV (v := (.agg #[(.bool gq_915), (.slice Aq_915 nq_915 cq_915)])) (rfl) (sV (v := (.agg #[(.bool gr_915), (.slice Ar_915 nr_915 cr_915)])) (rfl) (sV (v := (.int .i64 (xe_915))) (rfl) (sO (oAlloc [(.bool false), (.slice none 0 0)] zero25 rfl (fun g923 w924 hg925 hE926 hz927 hB928 => sO (oAlloc [(.bool false), (.slice none 0 0)] zero25 rfl (fun g929 w930 hg931 hE932 hz933 hB934 => ?_))))))))
            have hB935 := (hB928.ext hE932)
            refine sO (oStore [(.bool gq_915), (.slice Aq_915 nq_915 cq_915)] rfl rfl rfl sz25 rfl hB935 (Nat.le_of_ble_eq_true rfl) (fun w936 hU937 hz938 hB939 => ?_))
            replace hB939 : Blk w936 g923 25 [(.bool gq_915), (.slice Aq_915 nq_915 cq_915)] := hB939
            have hB940 := (hB934.frm hU937 q1)
            refine sO (oStore [(.bool gr_915), (.slice Ar_915 nr_915 cr_915)] rfl rfl rfl sz25 rfl hB940 (Nat.le_of_ble_eq_true rfl) (fun w941 hU942 hz943 hB944 => ?_))
            replace hB944 : Blk w941 g929 25 [(.bool gr_915), (.slice Ar_915 nr_915 cr_915)] := hB944
            refine sAi rfl (sK hK911 (rS fun K945 hK945 => ?_))
            have hR946 := (((hE917.trans hE926).trans hE932).rx hU937).tr hU942
            have hB947 := (hB903.frm hR946 q1)
            refine sV (evLoadAB [(.bool gp), (.slice Ap np cp)] agg25 sz25 rfl hB947 rfl) ?_
            have hB948 := (hB939.frm hU942 q1)
            refine sV (evLoadAB [(.bool gq_915), (.slice Aq_915 nq_915 cq_915)] agg25 sz25 rfl hB948 rfl) ?_
            have h949 := (hpN.frmB hR946 q3)
            have hR950 := ((hE926.trans hE932).rx hU937).tr hU942
            have h951 := (h921.frmB hR950 q3)
            refine sO (oCall rfl call70 (division_Symmetric h949 h951 (by omega) (by omega) (by omega)) rfl ?_)
            rintro _ w953 ⟨gr_952, Ar_952, nr_952, cr_952, dr_952, xo_952, rfl, hE954, hr_952, v_952, cn_952, ok_952, le_952⟩
            have hz955 := hE954.size
            have ⟨lr_952, kr_952, mr_952⟩ := hr_952.lkm
            have ⟨hxx, hxs⟩ := (xg_fin hpe hx1 v_952).resolve_right hb0
            refine sV (v := (.tuple #[(.agg #[(.bool gr_952), (.slice Ar_952 nr_952 cr_952)]), (.int .i64 (xo_952))])) (rfl) (sV (v := (.agg #[(.bool gr_952), (.slice Ar_952 nr_952 cr_952)])) (rfl) (sV (v := (.int .i64 (xo_952))) (rfl) ?_))
            have hB957 := (hB947.ext hE954)
            refine sO (oStore [(.bool gr_952), (.slice Ar_952 nr_952 cr_952)] rfl rfl rfl sz25 rfl hB957 (Nat.le_of_ble_eq_true rfl) (fun w958 hU959 hz960 hB961 => ?_))
            replace hB961 : Blk w958 g20 25 [(.bool gr_952), (.slice Ar_952 nr_952 cr_952)] := hB961
            refine sK hK945 (wp_seq_k fun K962 hK962 => dBegin (fun b => b = g26) mixed (fun w963 hE964 hz965 => ?_))
            have hR966 := ((hR946.xr hE954).tr hU959).xr hE964
            have hB967 := (hB902.frm hR966 q1)
            refine dV 0 rfl (fun _ hf => evLoadAB [(.bool gm), (.slice Am nm cm)] agg25 sz25 rfl (hB967.frm hf q1) rfl) ?_
            have hB968 := (hB961.ext hE964)
            refine dV 1 rfl (fun _ hf => evLoadAB [(.bool gr_952), (.slice Ar_952 nr_952 cr_952)] agg25 sz25 rfl (hB968.frm hf q1) rfl) ?_
            have hR969 := (((((((hF895.xr hE917).xr hE926).xr hE932).tr hU937).tr hU942).xr hE954).tr hU959).xr hE964
            have hB970 := (hB779.frm hR969 q1)
            refine dV 2 rfl (fun _ hf => evLoadAB [(.bool ga), (.slice Aa na ca)] agg25 sz25 rfl (hB970.frm hf q1) rfl) ?_
            have hB971 := (hB912.frm hR966 q1)
            refine dV 5 rfl (fun _ hf => evLoadAB [(.bool gb), (.slice Ab nb cb)] agg25 sz25 rfl (hB971.frm hf q1) rfl) ?_
            have hR972 := hU959.xr hE964
            have h973 := (hr_952.frmB hR972 q3)
            have hR974 := ((((((((((((((((((hR36.trans hE40).trans hF116).trans hE139).trans hE145).trans hE152).rx hU158).tr hU163).tr hF187).xr hE207).xr hE775).tr hF895).xr hE917).xr hE926).xr hE932).tr hU937).tr hU942).xr hE954).tr hU959).xr hE964
            have h975 := (ha.frmB hR974 q3)
            refine dOp 3 rfl rfl (by kernel_rfl) (oCall rfl call33 (integer_Mul h973 h975 (by omega)) rfl ?_)
            rintro _ w977 ⟨gr_976, Ar_976, nr_976, cr_976, dr_976, rfl, hE978, hr_976, v_976, cn_976, le_976⟩
            refine ⟨(Frm.of_ext hE978), ?_⟩
            have hz979 := hE978.size
            have ⟨lr_976, kr_976, mr_976⟩ := hr_976.lkm
            have hR981 := hR966.xr hE978
            have h982 := (hmN.frmB hR981 q3)
            refine dOp 4 rfl rfl (by kernel_rfl) (oCall rfl call106 (integer_Sub h982 hr_976 (by omega) (by omega)) rfl ?_)
            rintro _ w984 ⟨gr_983, Ar_983, nr_983, cr_983, dr_983, rfl, hE985, hr_983, v_983, cn_983, le_983⟩
            refine ⟨(Frm.of_ext hE985), ?_⟩
            have hz986 := hE985.size
            have ⟨lr_983, kr_983, mr_983⟩ := hr_983.lkm
            have hR988 := hR981.xr hE985
            have h989 := (h914.frmB hR988 q3)
            refine dOp 6 rfl rfl (by kernel_rfl) (oCall rfl call109 (division_Quo hr_983 h989 (by omega) (by omega) (by omega)) rfl ?_)
            rintro _ w991 ⟨gq_990, Aq_990, nq_990, cq_990, dq_990, gr_990, Ar_990, nr_990, cr_990, dr_990, xe_990, rfl, hE992, hq_990, hr_990, v_990, m_990, cnq_990, cnr_990, ok_990, leq_990, ler_990⟩
            refine ⟨(Frm.of_ext hE992), ?_⟩
            have hz993 := hE992.size
            have ⟨lq_990, kq_990, mq_990⟩ := hq_990.lkm
            have ⟨lr_990, kr_990, mr_990⟩ := hr_990.lkm
            refine dV 7 rfl (v := (.tuple #[(.agg #[(.bool gq_990), (.slice Aq_990 nq_990 cq_990)]), (.agg #[(.bool gr_990), (.slice Ar_990 nr_990 cr_990)]), (.int .i64 (xe_990))])) (fun _ _ => rfl) (dV 8 rfl (v := (.agg #[(.bool gq_990), (.slice Aq_990 nq_990 cq_990)])) (fun _ _ => rfl) (dV 9 rfl (v := (.agg #[(.bool gr_990), (.slice Ar_990 nr_990 cr_990)])) (fun _ _ => rfl) (dV 10 rfl (v := (.int .i64 (xe_990))) (fun _ _ => rfl) ?_)))
            have hR996 := ((hR969.xr hE978).xr hE985).xr hE992
            have hB997 := (hB784.frm hR996 q1)
            refine dOp 11 rfl rfl (by kernel_rfl) (oStore [(.bool gq_990), (.slice Aq_990 nq_990 cq_990)] rfl rfl rfl sz25 rfl hB997 (Nat.le_of_ble_eq_true rfl) (fun w998 hU999 hz1000 hB1001 => ?_))
            replace hB1001 : Blk w998 g26 25 [(.bool gq_990), (.slice Aq_990 nq_990 cq_990)] := hB1001
            refine ⟨hU999, dDone (by kernel_rfl) (xN (hK962 _ _ (wp_seq_k fun K1002 hK1002 => ?_)))⟩
            have hR1003 := hR996.tr hU999
            have hB1004 := (hB781.frm hR1003 q1)
            have hR1005 := ((hE978.trans hE985).trans hE992).rx hU999
            have hB1006 := (hB968.frm hR1005 q1)
            have hB1007 := (hB967.frm hR1005 q1)
            have hB1008 := (hB970.frm hR1005 q1)
            have hB1009 := (hB971.frm hR1005 q1)
            have hB1010 := (hB786.frm hR1003 q1)
            have hB1011 := (hB787.frm hR1003 q1)
            have hR1012 := (((((hE954.rx hU959).xr hE964).xr hE978).xr hE985).xr hE992).tr hU999
            have hB1013 := (hB948.frm hR1012 q1)
            have hB1014 := (hB944.frm hR1012 q1)
            refine wpJoin (dfs := []) (n := 82) (fun e w_ => e 4 = (.pointer (some ⟨g14, 0, none⟩)) ∧ e 5 = (.pointer (some ⟨g20, 0, none⟩)) ∧ e 6 = (.pointer (some ⟨g26, 0, none⟩)) ∧ Frm (fun b => b = g14 ∨ b = g20 ∨ b = g26) w998 w_ ∧ Blk w_ g14 25 ([(.bool gm), (.slice Am nm cm)]) ∧ Blk w_ g20 25 ([(.bool gr_952), (.slice Ar_952 nr_952 cr_952)]) ∧ Blk w_ g26 25 ([(.bool gq_990), (.slice Aq_990 nq_990 cq_990)])) ?_ ?_
            · refine dBegin (fun b => b = g14 ∨ b = g20 ∨ b = g26) mixed (fun w1015 hE1016 hz1017 => ?_)
              have hB1018 := (hB1007.ext hE1016)
              refine dV 0 rfl (fun _ hf => evLoadAB [(.bool gm), (.slice Am nm cm)] agg25 sz25 rfl (hB1018.frm hf q1) rfl) (dThree 1 2 3 (by kernel_rfl) ?_ ?_ ?_)
              · have hB1019 := (hB1006.ext hE1016)
                refine dWp (i := 1) rfl rfl (oEv (v := (.agg #[(.bool gr_952), (.slice Ar_952 nr_952 cr_952)])) (evLoadAB [(.bool gr_952), (.slice Ar_952 nr_952 cr_952)] agg25 sz25 rfl hB1019 rfl) rfl ⟨Frm.refl _ _, dTwo 2 3 (by kernel_rfl) ?_ ?_⟩)
                · have hB1020 := (hB1001.ext hE1016)
                  refine dWp (i := 2) rfl rfl (oEv (v := (.agg #[(.bool gq_990), (.slice Aq_990 nq_990 cq_990)])) (evLoadAB [(.bool gq_990), (.slice Aq_990 nq_990 cq_990)] agg25 sz25 rfl hB1020 rfl) rfl ⟨Frm.refl _ _, ?_⟩)
                  have hB1021 := (hB1004.ext hE1016)
                  refine dOp 3 rfl rfl (by kernel_rfl) (oStore [(.bool gm), (.slice Am nm cm)] rfl rfl rfl sz25 rfl hB1021 (Nat.le_of_ble_eq_true rfl) (fun w1022 hU1023 hz1024 hB1025 => ?_))
                  replace hB1025 : Blk w1022 g14 25 [(.bool gm), (.slice Am nm cm)] := hB1025
                  refine ⟨(hU1023.mono q4), ?_⟩
                  have hB1026 := (hB1019.frm hU1023 q1)
                  refine dOp 4 rfl rfl (by kernel_rfl) (oStore [(.bool gr_952), (.slice Ar_952 nr_952 cr_952)] rfl rfl rfl sz25 rfl hB1026 (Nat.le_of_ble_eq_true rfl) (fun w1027 hU1028 hz1029 hB1030 => ?_))
                  replace hB1030 : Blk w1027 g20 25 [(.bool gr_952), (.slice Ar_952 nr_952 cr_952)] := hB1030
                  refine ⟨(hU1028.mono q4), ?_⟩
                  have hR1031 := hU1023.tr hU1028
                  have hB1032 := (hB1020.frm hR1031 q1)
                  refine dOp 5 rfl rfl (by kernel_rfl) (oStore [(.bool gq_990), (.slice Aq_990 nq_990 cq_990)] rfl rfl rfl sz25 rfl hB1032 (Nat.le_of_ble_eq_true rfl) (fun w1033 hU1034 hz1035 hB1036 => ?_))
                  replace hB1036 : Blk w1033 g26 25 [(.bool gq_990), (.slice Aq_990 nq_990 cq_990)] := hB1036
                  refine ⟨(hU1034.mono q4), dDone (by kernel_rfl) ?_⟩
                  have hR1037 := hU1028.tr hU1034
                  have hB1038 := (hB1025.frm hR1037 q1)
                  have hB1039 := (hB1030.frm hU1034 q1)
                  have hR1040 := ((hE1016.rx hU1023).tr hU1028).tr hU1034
                  exact ⟨rfl, _, rfl, rfl, rfl, rfl, (Frm.mono hR1040 q4), hB1038, hB1039, hB1036⟩
                · have hB1041 := (hB1004.ext hE1016)
                  refine dWp (i := 3) rfl rfl (oStore [(.bool gm), (.slice Am nm cm)] rfl rfl rfl sz25 rfl hB1041 (Nat.le_of_ble_eq_true rfl) (fun w1042 hU1043 hz1044 hB1045 => ?_))
                  replace hB1045 : Blk w1042 g14 25 [(.bool gm), (.slice Am nm cm)] := hB1045
                  refine ⟨(hU1043.mono q4), dTwo 2 4 (by kernel_rfl) ?_ ?_⟩
                  · have hR1046 := hE1016.rx hU1043
                    have hB1047 := (hB1001.frm hR1046 q1)
                    refine dWp (i := 2) rfl rfl (oEv (v := (.agg #[(.bool gq_990), (.slice Aq_990 nq_990 cq_990)])) (evLoadAB [(.bool gq_990), (.slice Aq_990 nq_990 cq_990)] agg25 sz25 rfl hB1047 rfl) rfl ⟨Frm.refl _ _, ?_⟩)
                    have hB1048 := (hB1019.frm hU1043 q1)
                    refine dOp 4 rfl rfl (by kernel_rfl) (oStore [(.bool gr_952), (.slice Ar_952 nr_952 cr_952)] rfl rfl rfl sz25 rfl hB1048 (Nat.le_of_ble_eq_true rfl) (fun w1049 hU1050 hz1051 hB1052 => ?_))
                    replace hB1052 : Blk w1049 g20 25 [(.bool gr_952), (.slice Ar_952 nr_952 cr_952)] := hB1052
                    refine ⟨(hU1050.mono q4), ?_⟩
                    have hB1053 := (hB1047.frm hU1050 q1)
                    refine dOp 5 rfl rfl (by kernel_rfl) (oStore [(.bool gq_990), (.slice Aq_990 nq_990 cq_990)] rfl rfl rfl sz25 rfl hB1053 (Nat.le_of_ble_eq_true rfl) (fun w1054 hU1055 hz1056 hB1057 => ?_))
                    replace hB1057 : Blk w1054 g26 25 [(.bool gq_990), (.slice Aq_990 nq_990 cq_990)] := hB1057
                    refine ⟨(hU1055.mono q4), dDone (by kernel_rfl) ?_⟩
                    have hR1058 := hU1050.tr hU1055
                    have hB1059 := (hB1045.frm hR1058 q1)
                    have hB1060 := (hB1052.frm hU1055 q1)
                    have hR1061 := (hR1046.tr hU1050).tr hU1055
                    exact ⟨rfl, _, rfl, rfl, rfl, rfl, (Frm.mono hR1061 q4), hB1059, hB1060, hB1057⟩
                  · have hB1062 := (hB1019.frm hU1043 q1)
                    refine dWp (i := 4) rfl rfl (oStore [(.bool gr_952), (.slice Ar_952 nr_952 cr_952)] rfl rfl rfl sz25 rfl hB1062 (Nat.le_of_ble_eq_true rfl) (fun w1063 hU1064 hz1065 hB1066 => ?_))
                    replace hB1066 : Blk w1063 g20 25 [(.bool gr_952), (.slice Ar_952 nr_952 cr_952)] := hB1066
                    refine ⟨(hU1064.mono q4), ?_⟩
                    have hR1067 := (hE1016.rx hU1043).tr hU1064
                    have hB1068 := (hB1001.frm hR1067 q1)
                    refine dOp 2 rfl rfl (by kernel_rfl) (oEv (v := (.agg #[(.bool gq_990), (.slice Aq_990 nq_990 cq_990)])) (evLoadAB [(.bool gq_990), (.slice Aq_990 nq_990 cq_990)] agg25 sz25 rfl hB1068 rfl) rfl ⟨Frm.refl _ _, dOp 5 rfl rfl (by kernel_rfl) (oStore [(.bool gq_990), (.slice Aq_990 nq_990 cq_990)] rfl rfl rfl sz25 rfl hB1068 (Nat.le_of_ble_eq_true rfl) (fun w1069 hU1070 hz1071 hB1072 => ?_))⟩)
                    replace hB1072 : Blk w1069 g26 25 [(.bool gq_990), (.slice Aq_990 nq_990 cq_990)] := hB1072
                    refine ⟨(hU1070.mono q4), dDone (by kernel_rfl) ?_⟩
                    have hR1073 := hU1064.tr hU1070
                    have hB1074 := (hB1045.frm hR1073 q1)
                    have hB1075 := (hB1066.frm hU1070 q1)
                    have hR1076 := hR1067.tr hU1070
                    exact ⟨rfl, _, rfl, rfl, rfl, rfl, (Frm.mono hR1076 q4), hB1074, hB1075, hB1072⟩
              · have hB1077 := (hB1001.ext hE1016)
                refine dWp (i := 2) rfl rfl (oEv (v := (.agg #[(.bool gq_990), (.slice Aq_990 nq_990 cq_990)])) (evLoadAB [(.bool gq_990), (.slice Aq_990 nq_990 cq_990)] agg25 sz25 rfl hB1077 rfl) rfl ⟨Frm.refl _ _, dTwo 1 3 (by kernel_rfl) ?_ ?_⟩)
                · have hB1078 := (hB1006.ext hE1016)
                  refine dWp (i := 1) rfl rfl (oEv (v := (.agg #[(.bool gr_952), (.slice Ar_952 nr_952 cr_952)])) (evLoadAB [(.bool gr_952), (.slice Ar_952 nr_952 cr_952)] agg25 sz25 rfl hB1078 rfl) rfl ⟨Frm.refl _ _, ?_⟩)
                  have hB1079 := (hB1004.ext hE1016)
                  refine dOp 3 rfl rfl (by kernel_rfl) (oStore [(.bool gm), (.slice Am nm cm)] rfl rfl rfl sz25 rfl hB1079 (Nat.le_of_ble_eq_true rfl) (fun w1080 hU1081 hz1082 hB1083 => ?_))
                  replace hB1083 : Blk w1080 g14 25 [(.bool gm), (.slice Am nm cm)] := hB1083
                  refine ⟨(hU1081.mono q4), ?_⟩
                  have hB1084 := (hB1078.frm hU1081 q1)
                  refine dOp 4 rfl rfl (by kernel_rfl) (oStore [(.bool gr_952), (.slice Ar_952 nr_952 cr_952)] rfl rfl rfl sz25 rfl hB1084 (Nat.le_of_ble_eq_true rfl) (fun w1085 hU1086 hz1087 hB1088 => ?_))
                  replace hB1088 : Blk w1085 g20 25 [(.bool gr_952), (.slice Ar_952 nr_952 cr_952)] := hB1088
                  refine ⟨(hU1086.mono q4), ?_⟩
                  have hR1089 := hU1081.tr hU1086
                  have hB1090 := (hB1077.frm hR1089 q1)
                  refine dOp 5 rfl rfl (by kernel_rfl) (oStore [(.bool gq_990), (.slice Aq_990 nq_990 cq_990)] rfl rfl rfl sz25 rfl hB1090 (Nat.le_of_ble_eq_true rfl) (fun w1091 hU1092 hz1093 hB1094 => ?_))
                  replace hB1094 : Blk w1091 g26 25 [(.bool gq_990), (.slice Aq_990 nq_990 cq_990)] := hB1094
                  refine ⟨(hU1092.mono q4), dDone (by kernel_rfl) ?_⟩
                  have hR1095 := hU1086.tr hU1092
                  have hB1096 := (hB1083.frm hR1095 q1)
                  have hB1097 := (hB1088.frm hU1092 q1)
                  have hR1098 := ((hE1016.rx hU1081).tr hU1086).tr hU1092
                  exact ⟨rfl, _, rfl, rfl, rfl, rfl, (Frm.mono hR1098 q4), hB1096, hB1097, hB1094⟩
                · have hB1099 := (hB1004.ext hE1016)
                  refine dWp (i := 3) rfl rfl (oStore [(.bool gm), (.slice Am nm cm)] rfl rfl rfl sz25 rfl hB1099 (Nat.le_of_ble_eq_true rfl) (fun w1100 hU1101 hz1102 hB1103 => ?_))
                  replace hB1103 : Blk w1100 g14 25 [(.bool gm), (.slice Am nm cm)] := hB1103
                  refine ⟨(hU1101.mono q4), ?_⟩
                  have hR1104 := hE1016.rx hU1101
                  have hB1105 := (hB1006.frm hR1104 q1)
                  refine dOp 1 rfl rfl (by kernel_rfl) (oEv (v := (.agg #[(.bool gr_952), (.slice Ar_952 nr_952 cr_952)])) (evLoadAB [(.bool gr_952), (.slice Ar_952 nr_952 cr_952)] agg25 sz25 rfl hB1105 rfl) rfl ⟨Frm.refl _ _, dOp 4 rfl rfl (by kernel_rfl) (oStore [(.bool gr_952), (.slice Ar_952 nr_952 cr_952)] rfl rfl rfl sz25 rfl hB1105 (Nat.le_of_ble_eq_true rfl) (fun w1106 hU1107 hz1108 hB1109 => ?_))⟩)
                  replace hB1109 : Blk w1106 g20 25 [(.bool gr_952), (.slice Ar_952 nr_952 cr_952)] := hB1109
                  refine ⟨(hU1107.mono q4), ?_⟩
                  have hR1110 := hU1101.tr hU1107
                  have hB1111 := (hB1077.frm hR1110 q1)
                  refine dOp 5 rfl rfl (by kernel_rfl) (oStore [(.bool gq_990), (.slice Aq_990 nq_990 cq_990)] rfl rfl rfl sz25 rfl hB1111 (Nat.le_of_ble_eq_true rfl) (fun w1112 hU1113 hz1114 hB1115 => ?_))
                  replace hB1115 : Blk w1112 g26 25 [(.bool gq_990), (.slice Aq_990 nq_990 cq_990)] := hB1115
                  refine ⟨(hU1113.mono q4), dDone (by kernel_rfl) ?_⟩
                  have hR1116 := hU1107.tr hU1113
                  have hB1117 := (hB1103.frm hR1116 q1)
                  have hB1118 := (hB1109.frm hU1113 q1)
                  have hR1119 := (hR1104.tr hU1107).tr hU1113
                  exact ⟨rfl, _, rfl, rfl, rfl, rfl, (Frm.mono hR1119 q4), hB1117, hB1118, hB1115⟩
              · have hB1120 := (hB1004.ext hE1016)
                refine dWp (i := 3) rfl rfl (oStore [(.bool gm), (.slice Am nm cm)] rfl rfl rfl sz25 rfl hB1120 (Nat.le_of_ble_eq_true rfl) (fun w1121 hU1122 hz1123 hB1124 => ?_))
                replace hB1124 : Blk w1121 g14 25 [(.bool gm), (.slice Am nm cm)] := hB1124
                refine ⟨(hU1122.mono q4), dTwo 1 2 (by kernel_rfl) ?_ ?_⟩
                · have hR1125 := hE1016.rx hU1122
                  have hB1126 := (hB1006.frm hR1125 q1)
                  refine dWp (i := 1) rfl rfl (oEv (v := (.agg #[(.bool gr_952), (.slice Ar_952 nr_952 cr_952)])) (evLoadAB [(.bool gr_952), (.slice Ar_952 nr_952 cr_952)] agg25 sz25 rfl hB1126 rfl) rfl ⟨Frm.refl _ _, dTwo 2 4 (by kernel_rfl) ?_ ?_⟩)
                  · have hB1127 := (hB1001.frm hR1125 q1)
                    refine dWp (i := 2) rfl rfl (oEv (v := (.agg #[(.bool gq_990), (.slice Aq_990 nq_990 cq_990)])) (evLoadAB [(.bool gq_990), (.slice Aq_990 nq_990 cq_990)] agg25 sz25 rfl hB1127 rfl) rfl ⟨Frm.refl _ _, dOp 4 rfl rfl (by kernel_rfl) (oStore [(.bool gr_952), (.slice Ar_952 nr_952 cr_952)] rfl rfl rfl sz25 rfl hB1126 (Nat.le_of_ble_eq_true rfl) (fun w1128 hU1129 hz1130 hB1131 => ?_))⟩)
                    replace hB1131 : Blk w1128 g20 25 [(.bool gr_952), (.slice Ar_952 nr_952 cr_952)] := hB1131
                    refine ⟨(hU1129.mono q4), ?_⟩
                    have hB1132 := (hB1127.frm hU1129 q1)
                    refine dOp 5 rfl rfl (by kernel_rfl) (oStore [(.bool gq_990), (.slice Aq_990 nq_990 cq_990)] rfl rfl rfl sz25 rfl hB1132 (Nat.le_of_ble_eq_true rfl) (fun w1133 hU1134 hz1135 hB1136 => ?_))
                    replace hB1136 : Blk w1133 g26 25 [(.bool gq_990), (.slice Aq_990 nq_990 cq_990)] := hB1136
                    refine ⟨(hU1134.mono q4), dDone (by kernel_rfl) ?_⟩
                    have hR1137 := hU1129.tr hU1134
                    have hB1138 := (hB1124.frm hR1137 q1)
                    have hB1139 := (hB1131.frm hU1134 q1)
                    have hR1140 := (hR1125.tr hU1129).tr hU1134
                    exact ⟨rfl, _, rfl, rfl, rfl, rfl, (Frm.mono hR1140 q4), hB1138, hB1139, hB1136⟩
                  · refine dWp (i := 4) rfl rfl (oStore [(.bool gr_952), (.slice Ar_952 nr_952 cr_952)] rfl rfl rfl sz25 rfl hB1126 (Nat.le_of_ble_eq_true rfl) (fun w1141 hU1142 hz1143 hB1144 => ?_))
                    replace hB1144 : Blk w1141 g20 25 [(.bool gr_952), (.slice Ar_952 nr_952 cr_952)] := hB1144
                    refine ⟨(hU1142.mono q4), ?_⟩
                    have hR1145 := hR1125.tr hU1142
                    have hB1146 := (hB1001.frm hR1145 q1)
                    refine dOp 2 rfl rfl (by kernel_rfl) (oEv (v := (.agg #[(.bool gq_990), (.slice Aq_990 nq_990 cq_990)])) (evLoadAB [(.bool gq_990), (.slice Aq_990 nq_990 cq_990)] agg25 sz25 rfl hB1146 rfl) rfl ⟨Frm.refl _ _, dOp 5 rfl rfl (by kernel_rfl) (oStore [(.bool gq_990), (.slice Aq_990 nq_990 cq_990)] rfl rfl rfl sz25 rfl hB1146 (Nat.le_of_ble_eq_true rfl) (fun w1147 hU1148 hz1149 hB1150 => ?_))⟩)
                    replace hB1150 : Blk w1147 g26 25 [(.bool gq_990), (.slice Aq_990 nq_990 cq_990)] := hB1150
                    refine ⟨(hU1148.mono q4), dDone (by kernel_rfl) ?_⟩
                    have hR1151 := hU1142.tr hU1148
                    have hB1152 := (hB1124.frm hR1151 q1)
                    have hB1153 := (hB1144.frm hU1148 q1)
                    have hR1154 := hR1145.tr hU1148
                    exact ⟨rfl, _, rfl, rfl, rfl, rfl, (Frm.mono hR1154 q4), hB1152, hB1153, hB1150⟩
                · have hR1155 := hE1016.rx hU1122
                  have hB1156 := (hB1001.frm hR1155 q1)
                  refine dWp (i := 2) rfl rfl (oEv (v := (.agg #[(.bool gq_990), (.slice Aq_990 nq_990 cq_990)])) (evLoadAB [(.bool gq_990), (.slice Aq_990 nq_990 cq_990)] agg25 sz25 rfl hB1156 rfl) rfl ⟨Frm.refl _ _, ?_⟩)
                  have hB1157 := (hB1006.frm hR1155 q1)
                  refine dOp 1 rfl rfl (by kernel_rfl) (oEv (v := (.agg #[(.bool gr_952), (.slice Ar_952 nr_952 cr_952)])) (evLoadAB [(.bool gr_952), (.slice Ar_952 nr_952 cr_952)] agg25 sz25 rfl hB1157 rfl) rfl ⟨Frm.refl _ _, dOp 4 rfl rfl (by kernel_rfl) (oStore [(.bool gr_952), (.slice Ar_952 nr_952 cr_952)] rfl rfl rfl sz25 rfl hB1157 (Nat.le_of_ble_eq_true rfl) (fun w1158 hU1159 hz1160 hB1161 => ?_))⟩)
                  replace hB1161 : Blk w1158 g20 25 [(.bool gr_952), (.slice Ar_952 nr_952 cr_952)] := hB1161
                  refine ⟨(hU1159.mono q4), ?_⟩
                  have hB1162 := (hB1156.frm hU1159 q1)
                  refine dOp 5 rfl rfl (by kernel_rfl) (oStore [(.bool gq_990), (.slice Aq_990 nq_990 cq_990)] rfl rfl rfl sz25 rfl hB1162 (Nat.le_of_ble_eq_true rfl) (fun w1163 hU1164 hz1165 hB1166 => ?_))
                  replace hB1166 : Blk w1163 g26 25 [(.bool gq_990), (.slice Aq_990 nq_990 cq_990)] := hB1166
                  refine ⟨(hU1164.mono q4), dDone (by kernel_rfl) ?_⟩
                  have hR1167 := hU1159.tr hU1164
                  have hB1168 := (hB1124.frm hR1167 q1)
                  have hB1169 := (hB1161.frm hU1164 q1)
                  have hR1170 := (hR1155.tr hU1159).tr hU1164
                  exact ⟨rfl, _, rfl, rfl, rfl, rfl, (Frm.mono hR1170 q4), hB1168, hB1169, hB1166⟩
            · rintro e1172 w1171 ⟨hs1174, hs1175, hs1176, hF1173, hB1177, hB1178, hB1179⟩
              obtain ⟨r1180, rfl⟩ := sq (e := e1172) (t := 4) hs1174
              obtain ⟨r1181, rfl⟩ := sq (e := r1180) (t := 5) hs1175
              obtain ⟨r1182, rfl⟩ := sq (e := r1181) (t := 6) hs1176
              have hz1183 := hF1173.size
              refine xN (hK1002 _ _ (wp_ret (ret3 (.agg #[(.bool gm), (.slice Am nm cm)]) (.agg #[(.bool gr_952), (.slice Ar_952 nr_952 cr_952)]) (.agg #[(.bool gq_990), (.slice Aq_990 nq_990 cq_990)]) Tryz.results99 (resB [(.bool gm), (.slice Am nm cm)] agg25 sz25 rfl hB1177) (resB [(.bool gr_952), (.slice Ar_952 nr_952 cr_952)] agg25 sz25 rfl hB1178) (resB [(.bool gq_990), (.slice Aq_990 nq_990 cq_990)] agg25 sz25 rfl hB1179) ?_)))
              have hR1184 := ((hE985.trans hE992).rx hU999).tr hF1173
              have h1185 := (h982.frmB hR1184 q3)
              have hR1186 := hR1005.tr hF1173
              have h1187 := (h973.frmB hR1186 q3)
              have hR1188 := hU999.tr hF1173
              have h1189 := (hq_990.frmB hR1188 q3)
              have hR1190 := ((((hR974.xr hE978).xr hE985).xr hE992).tr hU999).tr hF1173
              exact ⟨gm, Am, nm, cm, dm, gr_952, Ar_952, nr_952, cr_952, dr_952, gq_990, Aq_990, nq_990, cq_990, dq_990, rfl, (Frm.mono hR1190 q4), (NatR.sub h1185 q5), (NatR.sub h1187 q5), (NatR.sub h1189 q5), hxx, hxs, (by omega)⟩
        · refine sV (evLss false rfl rfl (dF hc777)) (sK hK770 (cF rfl (wp_skip (xN (hK769 _ _ (wp_seq_k fun K1191 hK1191 => ?_))))))
          have ⟨hr1, hx1⟩ := xg_pos hXg.cx hR1 (by omega)
          refine wp_region_lit ?_
          have hR1192 := ((((hR155.rx hU158).tr hU163).tr hF187).xr hE207).xr hE775
          have hB1193 := (hB45.frm hR1192 q1)
          refine sV (evLoadAB [(.bool gb), (.slice Ab nb cb)] agg25 sz25 rfl hB1193 rfl) ?_
          have hB1194 := (hB771.ext hE775)
          refine sV (evLoadAB [(.bool gi), (.slice Ai ni ci)] agg25 sz25 rfl hB1194 rfl) ?_
          have hR1195 := ((((((((hE40.trans hF116).trans hE139).trans hE145).trans hE152).rx hU158).tr hU163).tr hF187).xr hE207).xr hE775
          have h1196 := (h37.frmB hR1195 q3)
          have h1197 := (h772.ext hE775)
          refine sO (oCall rfl call109 (division_Quo h1196 h1197 (by omega) (by omega) (by omega)) rfl ?_)
          rintro _ w1199 ⟨gq_1198, Aq_1198, nq_1198, cq_1198, dq_1198, gr_1198, Ar_1198, nr_1198, cr_1198, dr_1198, xe_1198, rfl, hE1200, hq_1198, hr_1198, v_1198, m_1198, cnq_1198, cnr_1198, ok_1198, leq_1198, ler_1198⟩
          have hz1201 := hE1200.size
          have ⟨lq_1198, kq_1198, mq_1198⟩ := hq_1198.lkm
          have ⟨lr_1198, kr_1198, mr_1198⟩ := hr_1198.lkm
          have h1204 := hq_1198.sub (S' := fun b => (w774.heap.size ≤ b) ∧ b < w1199.heap.size) fun _ hb hs => ⟨hs, hb⟩
          have h1205 := hr_1198.sub (S' := fun b => (w774.heap.size ≤ b) ∧ b < w1199.heap.size) fun _ hb hs => ⟨hs, hb⟩
          have hpe : zval gq_1198 dq_1198 = (zval gb db).tdiv 1 := by rw [v_1198, hr1]
          have hpz : zval gq_1198 dq_1198 ≠ 0 := by rw [hpe, Int.tdiv_one]; exact hb0
          refine sV (v := (.tuple #[(.agg #[(.bool gq_1198), (.slice Aq_1198 nq_1198 cq_1198)]), (.agg #[(.bool gr_1198), (.slice Ar_1198 nr_1198 cr_1198)]), (.int .i64 (xe_1198))])) (rfl) (sV (v := (.agg #[(.bool gq_1198), (.slice Aq_1198 nq_1198 cq_1198)])) (rfl) (sV (v := (.agg #[(.bool gr_1198), (.slice Ar_1198 nr_1198 cr_1198)])) (rfl) (sV (v := (.int .i64 (xe_1198))) (rfl) (sO (oAlloc [(.bool false), (.slice none 0 0)] zero25 rfl (fun g1206 w1207 hg1208 hE1209 hz1210 hB1211 => sO (oAlloc [(.bool false), (.slice none 0 0)] zero25 rfl (fun g1212 w1213 hg1214 hE1215 hz1216 hB1217 => ?_))))))))
          have hB1218 := (hB1211.ext hE1215)
          refine sO (oStore [(.bool gq_1198), (.slice Aq_1198 nq_1198 cq_1198)] rfl rfl rfl sz25 rfl hB1218 (Nat.le_of_ble_eq_true rfl) (fun w1219 hU1220 hz1221 hB1222 => ?_))
          replace hB1222 : Blk w1219 g1206 25 [(.bool gq_1198), (.slice Aq_1198 nq_1198 cq_1198)] := hB1222
          have hB1223 := (hB1217.frm hU1220 q1)
          refine sO (oStore [(.bool gr_1198), (.slice Ar_1198 nr_1198 cr_1198)] rfl rfl rfl sz25 rfl hB1223 (Nat.le_of_ble_eq_true rfl) (fun w1224 hU1225 hz1226 hB1227 => ?_))
          replace hB1227 : Blk w1224 g1212 25 [(.bool gr_1198), (.slice Ar_1198 nr_1198 cr_1198)] := hB1227
          refine sAi rfl (sK hK1191 (rS fun K1228 hK1228 => ?_))
          have hR1229 := (((((hE207.trans hE775).trans hE1200).trans hE1209).trans hE1215).rx hU1220).tr hU1225
          have hB1230 := (hB190.frm hR1229 q1)
          refine sV (evLoadAB [(.bool gk), (.slice Ak nk ck)] agg25 sz25 rfl hB1230 rfl) ?_
          have hB1231 := (hB1222.frm hU1225 q1)
          refine sV (evLoadAB [(.bool gq_1198), (.slice Aq_1198 nq_1198 cq_1198)] agg25 sz25 rfl hB1231 rfl) ?_
          have h1232 := (hk.frmB hR1229 q3)
          have hR1233 := ((hE1209.trans hE1215).rx hU1220).tr hU1225
          have h1234 := (h1204.frmB hR1233 q3)
          refine sO (oCall rfl call70 (division_Symmetric h1232 h1234 (by omega) (by omega) (by omega)) rfl ?_)
          rintro _ w1236 ⟨gr_1235, Ar_1235, nr_1235, cr_1235, dr_1235, xo_1235, rfl, hE1237, hr_1235, v_1235, cn_1235, ok_1235, le_1235⟩
          have hz1238 := hE1237.size
          have ⟨lr_1235, kr_1235, mr_1235⟩ := hr_1235.lkm
          have ⟨hxx, hxs⟩ := (xg_fin hpe hx1 v_1235).resolve_right hb0
          refine sV (v := (.tuple #[(.agg #[(.bool gr_1235), (.slice Ar_1235 nr_1235 cr_1235)]), (.int .i64 (xo_1235))])) (rfl) (sV (v := (.agg #[(.bool gr_1235), (.slice Ar_1235 nr_1235 cr_1235)])) (rfl) (sV (v := (.int .i64 (xo_1235))) (rfl) ?_))
          have hB1240 := (hB1230.ext hE1237)
          refine sO (oStore [(.bool gr_1235), (.slice Ar_1235 nr_1235 cr_1235)] rfl rfl rfl sz25 rfl hB1240 (Nat.le_of_ble_eq_true rfl) (fun w1241 hU1242 hz1243 hB1244 => ?_))
          replace hB1244 : Blk w1241 g20 25 [(.bool gr_1235), (.slice Ar_1235 nr_1235 cr_1235)] := hB1244
          refine sK hK1228 (wp_seq_k fun K1245 hK1245 => dBegin (fun b => b = g26) mixed (fun w1246 hE1247 hz1248 => ?_))
          have hR1249 := ((((((hE1200.trans hE1209).trans hE1215).rx hU1220).tr hU1225).xr hE1237).tr hU1242).xr hE1247
          have hB1250 := (hB1194.frm hR1249 q1)
          refine dV 0 rfl (fun _ hf => evLoadAB [(.bool gi), (.slice Ai ni ci)] agg25 sz25 rfl (hB1250.frm hf q1) rfl) ?_
          have hB1251 := (hB1244.ext hE1247)
          refine dV 1 rfl (fun _ hf => evLoadAB [(.bool gr_1235), (.slice Ar_1235 nr_1235 cr_1235)] agg25 sz25 rfl (hB1251.frm hf q1) rfl) ?_
          have hR1252 := (((((((hR1192.xr hE1200).xr hE1209).xr hE1215).tr hU1220).tr hU1225).xr hE1237).tr hU1242).xr hE1247
          have hB1253 := (hB44.frm hR1252 q1)
          refine dV 2 rfl (fun _ hf => evLoadAB [(.bool ga), (.slice Aa na ca)] agg25 sz25 rfl (hB1253.frm hf q1) rfl) ?_
          have hB1254 := (hB1193.frm hR1249 q1)
          refine dV 5 rfl (fun _ hf => evLoadAB [(.bool gb), (.slice Ab nb cb)] agg25 sz25 rfl (hB1254.frm hf q1) rfl) ?_
          have hR1255 := hU1242.xr hE1247
          have h1256 := (hr_1235.frmB hR1255 q3)
          have hR1257 := (((((((((((((((((hR36.trans hE40).trans hF116).trans hE139).trans hE145).trans hE152).rx hU158).tr hU163).tr hF187).xr hE207).xr hE775).xr hE1200).xr hE1209).xr hE1215).tr hU1220).tr hU1225).xr hE1237).tr hU1242).xr hE1247
          have h1258 := (ha.frmB hR1257 q3)
          refine dOp 3 rfl rfl (by kernel_rfl) (oCall rfl call33 (integer_Mul h1256 h1258 (by omega)) rfl ?_)
          rintro _ w1260 ⟨gr_1259, Ar_1259, nr_1259, cr_1259, dr_1259, rfl, hE1261, hr_1259, v_1259, cn_1259, le_1259⟩
          refine ⟨(Frm.of_ext hE1261), ?_⟩
          have hz1262 := hE1261.size
          have ⟨lr_1259, kr_1259, mr_1259⟩ := hr_1259.lkm
          have hR1264 := hR1249.xr hE1261
          have h1265 := (h1197.frmB hR1264 q3)
          refine dOp 4 rfl rfl (by kernel_rfl) (oCall rfl call106 (integer_Sub h1265 hr_1259 (by omega) (by omega)) rfl ?_)
          rintro _ w1267 ⟨gr_1266, Ar_1266, nr_1266, cr_1266, dr_1266, rfl, hE1268, hr_1266, v_1266, cn_1266, le_1266⟩
          refine ⟨(Frm.of_ext hE1268), ?_⟩
          have hz1269 := hE1268.size
          have ⟨lr_1266, kr_1266, mr_1266⟩ := hr_1266.lkm
          have hR1271 := hR1264.xr hE1268
          have h1272 := (h1196.frmB hR1271 q3)
          refine dOp 6 rfl rfl (by kernel_rfl) (oCall rfl call109 (division_Quo hr_1266 h1272 (by omega) (by omega) (by omega)) rfl ?_)
          rintro _ w1274 ⟨gq_1273, Aq_1273, nq_1273, cq_1273, dq_1273, gr_1273, Ar_1273, nr_1273, cr_1273, dr_1273, xe_1273, rfl, hE1275, hq_1273, hr_1273, v_1273, m_1273, cnq_1273, cnr_1273, ok_1273, leq_1273, ler_1273⟩
          refine ⟨(Frm.of_ext hE1275), ?_⟩
          have hz1276 := hE1275.size
          have ⟨lq_1273, kq_1273, mq_1273⟩ := hq_1273.lkm
          have ⟨lr_1273, kr_1273, mr_1273⟩ := hr_1273.lkm
          refine dV 7 rfl (v := (.tuple #[(.agg #[(.bool gq_1273), (.slice Aq_1273 nq_1273 cq_1273)]), (.agg #[(.bool gr_1273), (.slice Ar_1273 nr_1273 cr_1273)]), (.int .i64 (xe_1273))])) (fun _ _ => rfl) (dV 8 rfl (v := (.agg #[(.bool gq_1273), (.slice Aq_1273 nq_1273 cq_1273)])) (fun _ _ => rfl) (dV 9 rfl (v := (.agg #[(.bool gr_1273), (.slice Ar_1273 nr_1273 cr_1273)])) (fun _ _ => rfl) (dV 10 rfl (v := (.int .i64 (xe_1273))) (fun _ _ => rfl) ?_)))
          have hR1279 := ((hR1252.xr hE1261).xr hE1268).xr hE1275
          have hB1280 := (hB50.frm hR1279 q1)
          refine dOp 11 rfl rfl (by kernel_rfl) (oStore [(.bool gq_1273), (.slice Aq_1273 nq_1273 cq_1273)] rfl rfl rfl sz25 rfl hB1280 (Nat.le_of_ble_eq_true rfl) (fun w1281 hU1282 hz1283 hB1284 => ?_))
          replace hB1284 : Blk w1281 g26 25 [(.bool gq_1273), (.slice Aq_1273 nq_1273 cq_1273)] := hB1284
          refine ⟨hU1282, dDone (by kernel_rfl) (xN (hK1245 _ _ (wp_seq_k fun K1285 hK1285 => ?_)))⟩
          have hR1286 := hR1279.tr hU1282
          have hB1287 := (hB47.frm hR1286 q1)
          have hR1288 := ((hE1261.trans hE1268).trans hE1275).rx hU1282
          have hB1289 := (hB1251.frm hR1288 q1)
          have hB1290 := (hB1250.frm hR1288 q1)
          have hB1291 := (hB1253.frm hR1288 q1)
          have hB1292 := (hB1254.frm hR1288 q1)
          have hR1293 := ((((((hR1229.xr hE1237).tr hU1242).xr hE1247).xr hE1261).xr hE1268).xr hE1275).tr hU1282
          have hB1294 := (hB189.frm hR1293 q1)
          have hB1295 := (hB191.frm hR1293 q1)
          have hR1296 := (((((hE1237.rx hU1242).xr hE1247).xr hE1261).xr hE1268).xr hE1275).tr hU1282
          have hB1297 := (hB1231.frm hR1296 q1)
          have hB1298 := (hB1227.frm hR1296 q1)
          refine wpJoin (dfs := []) (n := 82) (fun e w_ => e 4 = (.pointer (some ⟨g14, 0, none⟩)) ∧ e 5 = (.pointer (some ⟨g20, 0, none⟩)) ∧ e 6 = (.pointer (some ⟨g26, 0, none⟩)) ∧ Frm (fun b => b = g14 ∨ b = g20 ∨ b = g26) w1281 w_ ∧ Blk w_ g14 25 ([(.bool gi), (.slice Ai ni ci)]) ∧ Blk w_ g20 25 ([(.bool gr_1235), (.slice Ar_1235 nr_1235 cr_1235)]) ∧ Blk w_ g26 25 ([(.bool gq_1273), (.slice Aq_1273 nq_1273 cq_1273)])) ?_ ?_
          · refine dBegin (fun b => b = g14 ∨ b = g20 ∨ b = g26) mixed (fun w1299 hE1300 hz1301 => ?_)
            have hB1302 := (hB1290.ext hE1300)
            refine dV 0 rfl (fun _ hf => evLoadAB [(.bool gi), (.slice Ai ni ci)] agg25 sz25 rfl (hB1302.frm hf q1) rfl) (dThree 1 2 3 (by kernel_rfl) ?_ ?_ ?_)
            · have hB1303 := (hB1289.ext hE1300)
              refine dWp (i := 1) rfl rfl (oEv (v := (.agg #[(.bool gr_1235), (.slice Ar_1235 nr_1235 cr_1235)])) (evLoadAB [(.bool gr_1235), (.slice Ar_1235 nr_1235 cr_1235)] agg25 sz25 rfl hB1303 rfl) rfl ⟨Frm.refl _ _, dTwo 2 3 (by kernel_rfl) ?_ ?_⟩)
              · have hB1304 := (hB1284.ext hE1300)
                refine dWp (i := 2) rfl rfl (oEv (v := (.agg #[(.bool gq_1273), (.slice Aq_1273 nq_1273 cq_1273)])) (evLoadAB [(.bool gq_1273), (.slice Aq_1273 nq_1273 cq_1273)] agg25 sz25 rfl hB1304 rfl) rfl ⟨Frm.refl _ _, ?_⟩)
                have hB1305 := (hB1287.ext hE1300)
                refine dOp 3 rfl rfl (by kernel_rfl) (oStore [(.bool gi), (.slice Ai ni ci)] rfl rfl rfl sz25 rfl hB1305 (Nat.le_of_ble_eq_true rfl) (fun w1306 hU1307 hz1308 hB1309 => ?_))
                replace hB1309 : Blk w1306 g14 25 [(.bool gi), (.slice Ai ni ci)] := hB1309
                refine ⟨(hU1307.mono q4), ?_⟩
                have hB1310 := (hB1303.frm hU1307 q1)
                refine dOp 4 rfl rfl (by kernel_rfl) (oStore [(.bool gr_1235), (.slice Ar_1235 nr_1235 cr_1235)] rfl rfl rfl sz25 rfl hB1310 (Nat.le_of_ble_eq_true rfl) (fun w1311 hU1312 hz1313 hB1314 => ?_))
                replace hB1314 : Blk w1311 g20 25 [(.bool gr_1235), (.slice Ar_1235 nr_1235 cr_1235)] := hB1314
                refine ⟨(hU1312.mono q4), ?_⟩
                have hR1315 := hU1307.tr hU1312
                have hB1316 := (hB1304.frm hR1315 q1)
                refine dOp 5 rfl rfl (by kernel_rfl) (oStore [(.bool gq_1273), (.slice Aq_1273 nq_1273 cq_1273)] rfl rfl rfl sz25 rfl hB1316 (Nat.le_of_ble_eq_true rfl) (fun w1317 hU1318 hz1319 hB1320 => ?_))
                replace hB1320 : Blk w1317 g26 25 [(.bool gq_1273), (.slice Aq_1273 nq_1273 cq_1273)] := hB1320
                refine ⟨(hU1318.mono q4), dDone (by kernel_rfl) ?_⟩
                have hR1321 := hU1312.tr hU1318
                have hB1322 := (hB1309.frm hR1321 q1)
                have hB1323 := (hB1314.frm hU1318 q1)
                have hR1324 := ((hE1300.rx hU1307).tr hU1312).tr hU1318
                exact ⟨rfl, _, rfl, rfl, rfl, rfl, (Frm.mono hR1324 q4), hB1322, hB1323, hB1320⟩
              · have hB1325 := (hB1287.ext hE1300)
                refine dWp (i := 3) rfl rfl (oStore [(.bool gi), (.slice Ai ni ci)] rfl rfl rfl sz25 rfl hB1325 (Nat.le_of_ble_eq_true rfl) (fun w1326 hU1327 hz1328 hB1329 => ?_))
                replace hB1329 : Blk w1326 g14 25 [(.bool gi), (.slice Ai ni ci)] := hB1329
                refine ⟨(hU1327.mono q4), dTwo 2 4 (by kernel_rfl) ?_ ?_⟩
                · have hR1330 := hE1300.rx hU1327
                  have hB1331 := (hB1284.frm hR1330 q1)
                  refine dWp (i := 2) rfl rfl (oEv (v := (.agg #[(.bool gq_1273), (.slice Aq_1273 nq_1273 cq_1273)])) (evLoadAB [(.bool gq_1273), (.slice Aq_1273 nq_1273 cq_1273)] agg25 sz25 rfl hB1331 rfl) rfl ⟨Frm.refl _ _, ?_⟩)
                  have hB1332 := (hB1303.frm hU1327 q1)
                  refine dOp 4 rfl rfl (by kernel_rfl) (oStore [(.bool gr_1235), (.slice Ar_1235 nr_1235 cr_1235)] rfl rfl rfl sz25 rfl hB1332 (Nat.le_of_ble_eq_true rfl) (fun w1333 hU1334 hz1335 hB1336 => ?_))
                  replace hB1336 : Blk w1333 g20 25 [(.bool gr_1235), (.slice Ar_1235 nr_1235 cr_1235)] := hB1336
                  refine ⟨(hU1334.mono q4), ?_⟩
                  have hB1337 := (hB1331.frm hU1334 q1)
                  refine dOp 5 rfl rfl (by kernel_rfl) (oStore [(.bool gq_1273), (.slice Aq_1273 nq_1273 cq_1273)] rfl rfl rfl sz25 rfl hB1337 (Nat.le_of_ble_eq_true rfl) (fun w1338 hU1339 hz1340 hB1341 => ?_))
                  replace hB1341 : Blk w1338 g26 25 [(.bool gq_1273), (.slice Aq_1273 nq_1273 cq_1273)] := hB1341
                  refine ⟨(hU1339.mono q4), dDone (by kernel_rfl) ?_⟩
                  have hR1342 := hU1334.tr hU1339
                  have hB1343 := (hB1329.frm hR1342 q1)
                  have hB1344 := (hB1336.frm hU1339 q1)
                  have hR1345 := (hR1330.tr hU1334).tr hU1339
                  exact ⟨rfl, _, rfl, rfl, rfl, rfl, (Frm.mono hR1345 q4), hB1343, hB1344, hB1341⟩
                · have hB1346 := (hB1303.frm hU1327 q1)
                  refine dWp (i := 4) rfl rfl (oStore [(.bool gr_1235), (.slice Ar_1235 nr_1235 cr_1235)] rfl rfl rfl sz25 rfl hB1346 (Nat.le_of_ble_eq_true rfl) (fun w1347 hU1348 hz1349 hB1350 => ?_))
                  replace hB1350 : Blk w1347 g20 25 [(.bool gr_1235), (.slice Ar_1235 nr_1235 cr_1235)] := hB1350
                  refine ⟨(hU1348.mono q4), ?_⟩
                  have hR1351 := (hE1300.rx hU1327).tr hU1348
                  have hB1352 := (hB1284.frm hR1351 q1)
                  refine dOp 2 rfl rfl (by kernel_rfl) (oEv (v := (.agg #[(.bool gq_1273), (.slice Aq_1273 nq_1273 cq_1273)])) (evLoadAB [(.bool gq_1273), (.slice Aq_1273 nq_1273 cq_1273)] agg25 sz25 rfl hB1352 rfl) rfl ⟨Frm.refl _ _, dOp 5 rfl rfl (by kernel_rfl) (oStore [(.bool gq_1273), (.slice Aq_1273 nq_1273 cq_1273)] rfl rfl rfl sz25 rfl hB1352 (Nat.le_of_ble_eq_true rfl) (fun w1353 hU1354 hz1355 hB1356 => ?_))⟩)
                  replace hB1356 : Blk w1353 g26 25 [(.bool gq_1273), (.slice Aq_1273 nq_1273 cq_1273)] := hB1356
                  refine ⟨(hU1354.mono q4), dDone (by kernel_rfl) ?_⟩
                  have hR1357 := hU1348.tr hU1354
                  have hB1358 := (hB1329.frm hR1357 q1)
                  have hB1359 := (hB1350.frm hU1354 q1)
                  have hR1360 := hR1351.tr hU1354
                  exact ⟨rfl, _, rfl, rfl, rfl, rfl, (Frm.mono hR1360 q4), hB1358, hB1359, hB1356⟩
            · have hB1361 := (hB1284.ext hE1300)
              refine dWp (i := 2) rfl rfl (oEv (v := (.agg #[(.bool gq_1273), (.slice Aq_1273 nq_1273 cq_1273)])) (evLoadAB [(.bool gq_1273), (.slice Aq_1273 nq_1273 cq_1273)] agg25 sz25 rfl hB1361 rfl) rfl ⟨Frm.refl _ _, dTwo 1 3 (by kernel_rfl) ?_ ?_⟩)
              · have hB1362 := (hB1289.ext hE1300)
                refine dWp (i := 1) rfl rfl (oEv (v := (.agg #[(.bool gr_1235), (.slice Ar_1235 nr_1235 cr_1235)])) (evLoadAB [(.bool gr_1235), (.slice Ar_1235 nr_1235 cr_1235)] agg25 sz25 rfl hB1362 rfl) rfl ⟨Frm.refl _ _, ?_⟩)
                have hB1363 := (hB1287.ext hE1300)
                refine dOp 3 rfl rfl (by kernel_rfl) (oStore [(.bool gi), (.slice Ai ni ci)] rfl rfl rfl sz25 rfl hB1363 (Nat.le_of_ble_eq_true rfl) (fun w1364 hU1365 hz1366 hB1367 => ?_))
                replace hB1367 : Blk w1364 g14 25 [(.bool gi), (.slice Ai ni ci)] := hB1367
                refine ⟨(hU1365.mono q4), ?_⟩
                have hB1368 := (hB1362.frm hU1365 q1)
                refine dOp 4 rfl rfl (by kernel_rfl) (oStore [(.bool gr_1235), (.slice Ar_1235 nr_1235 cr_1235)] rfl rfl rfl sz25 rfl hB1368 (Nat.le_of_ble_eq_true rfl) (fun w1369 hU1370 hz1371 hB1372 => ?_))
                replace hB1372 : Blk w1369 g20 25 [(.bool gr_1235), (.slice Ar_1235 nr_1235 cr_1235)] := hB1372
                refine ⟨(hU1370.mono q4), ?_⟩
                have hR1373 := hU1365.tr hU1370
                have hB1374 := (hB1361.frm hR1373 q1)
                refine dOp 5 rfl rfl (by kernel_rfl) (oStore [(.bool gq_1273), (.slice Aq_1273 nq_1273 cq_1273)] rfl rfl rfl sz25 rfl hB1374 (Nat.le_of_ble_eq_true rfl) (fun w1375 hU1376 hz1377 hB1378 => ?_))
                replace hB1378 : Blk w1375 g26 25 [(.bool gq_1273), (.slice Aq_1273 nq_1273 cq_1273)] := hB1378
                refine ⟨(hU1376.mono q4), dDone (by kernel_rfl) ?_⟩
                have hR1379 := hU1370.tr hU1376
                have hB1380 := (hB1367.frm hR1379 q1)
                have hB1381 := (hB1372.frm hU1376 q1)
                have hR1382 := ((hE1300.rx hU1365).tr hU1370).tr hU1376
                exact ⟨rfl, _, rfl, rfl, rfl, rfl, (Frm.mono hR1382 q4), hB1380, hB1381, hB1378⟩
              · have hB1383 := (hB1287.ext hE1300)
                refine dWp (i := 3) rfl rfl (oStore [(.bool gi), (.slice Ai ni ci)] rfl rfl rfl sz25 rfl hB1383 (Nat.le_of_ble_eq_true rfl) (fun w1384 hU1385 hz1386 hB1387 => ?_))
                replace hB1387 : Blk w1384 g14 25 [(.bool gi), (.slice Ai ni ci)] := hB1387
                refine ⟨(hU1385.mono q4), ?_⟩
                have hR1388 := hE1300.rx hU1385
                have hB1389 := (hB1289.frm hR1388 q1)
                refine dOp 1 rfl rfl (by kernel_rfl) (oEv (v := (.agg #[(.bool gr_1235), (.slice Ar_1235 nr_1235 cr_1235)])) (evLoadAB [(.bool gr_1235), (.slice Ar_1235 nr_1235 cr_1235)] agg25 sz25 rfl hB1389 rfl) rfl ⟨Frm.refl _ _, dOp 4 rfl rfl (by kernel_rfl) (oStore [(.bool gr_1235), (.slice Ar_1235 nr_1235 cr_1235)] rfl rfl rfl sz25 rfl hB1389 (Nat.le_of_ble_eq_true rfl) (fun w1390 hU1391 hz1392 hB1393 => ?_))⟩)
                replace hB1393 : Blk w1390 g20 25 [(.bool gr_1235), (.slice Ar_1235 nr_1235 cr_1235)] := hB1393
                refine ⟨(hU1391.mono q4), ?_⟩
                have hR1394 := hU1385.tr hU1391
                have hB1395 := (hB1361.frm hR1394 q1)
                refine dOp 5 rfl rfl (by kernel_rfl) (oStore [(.bool gq_1273), (.slice Aq_1273 nq_1273 cq_1273)] rfl rfl rfl sz25 rfl hB1395 (Nat.le_of_ble_eq_true rfl) (fun w1396 hU1397 hz1398 hB1399 => ?_))
                replace hB1399 : Blk w1396 g26 25 [(.bool gq_1273), (.slice Aq_1273 nq_1273 cq_1273)] := hB1399
                refine ⟨(hU1397.mono q4), dDone (by kernel_rfl) ?_⟩
                have hR1400 := hU1391.tr hU1397
                have hB1401 := (hB1387.frm hR1400 q1)
                have hB1402 := (hB1393.frm hU1397 q1)
                have hR1403 := (hR1388.tr hU1391).tr hU1397
                exact ⟨rfl, _, rfl, rfl, rfl, rfl, (Frm.mono hR1403 q4), hB1401, hB1402, hB1399⟩
            · have hB1404 := (hB1287.ext hE1300)
              refine dWp (i := 3) rfl rfl (oStore [(.bool gi), (.slice Ai ni ci)] rfl rfl rfl sz25 rfl hB1404 (Nat.le_of_ble_eq_true rfl) (fun w1405 hU1406 hz1407 hB1408 => ?_))
              replace hB1408 : Blk w1405 g14 25 [(.bool gi), (.slice Ai ni ci)] := hB1408
              refine ⟨(hU1406.mono q4), dTwo 1 2 (by kernel_rfl) ?_ ?_⟩
              · have hR1409 := hE1300.rx hU1406
                have hB1410 := (hB1289.frm hR1409 q1)
                refine dWp (i := 1) rfl rfl (oEv (v := (.agg #[(.bool gr_1235), (.slice Ar_1235 nr_1235 cr_1235)])) (evLoadAB [(.bool gr_1235), (.slice Ar_1235 nr_1235 cr_1235)] agg25 sz25 rfl hB1410 rfl) rfl ⟨Frm.refl _ _, dTwo 2 4 (by kernel_rfl) ?_ ?_⟩)
                · have hB1411 := (hB1284.frm hR1409 q1)
                  refine dWp (i := 2) rfl rfl (oEv (v := (.agg #[(.bool gq_1273), (.slice Aq_1273 nq_1273 cq_1273)])) (evLoadAB [(.bool gq_1273), (.slice Aq_1273 nq_1273 cq_1273)] agg25 sz25 rfl hB1411 rfl) rfl ⟨Frm.refl _ _, dOp 4 rfl rfl (by kernel_rfl) (oStore [(.bool gr_1235), (.slice Ar_1235 nr_1235 cr_1235)] rfl rfl rfl sz25 rfl hB1410 (Nat.le_of_ble_eq_true rfl) (fun w1412 hU1413 hz1414 hB1415 => ?_))⟩)
                  replace hB1415 : Blk w1412 g20 25 [(.bool gr_1235), (.slice Ar_1235 nr_1235 cr_1235)] := hB1415
                  refine ⟨(hU1413.mono q4), ?_⟩
                  have hB1416 := (hB1411.frm hU1413 q1)
                  refine dOp 5 rfl rfl (by kernel_rfl) (oStore [(.bool gq_1273), (.slice Aq_1273 nq_1273 cq_1273)] rfl rfl rfl sz25 rfl hB1416 (Nat.le_of_ble_eq_true rfl) (fun w1417 hU1418 hz1419 hB1420 => ?_))
                  replace hB1420 : Blk w1417 g26 25 [(.bool gq_1273), (.slice Aq_1273 nq_1273 cq_1273)] := hB1420
                  refine ⟨(hU1418.mono q4), dDone (by kernel_rfl) ?_⟩
                  have hR1421 := hU1413.tr hU1418
                  have hB1422 := (hB1408.frm hR1421 q1)
                  have hB1423 := (hB1415.frm hU1418 q1)
                  have hR1424 := (hR1409.tr hU1413).tr hU1418
                  exact ⟨rfl, _, rfl, rfl, rfl, rfl, (Frm.mono hR1424 q4), hB1422, hB1423, hB1420⟩
                · refine dWp (i := 4) rfl rfl (oStore [(.bool gr_1235), (.slice Ar_1235 nr_1235 cr_1235)] rfl rfl rfl sz25 rfl hB1410 (Nat.le_of_ble_eq_true rfl) (fun w1425 hU1426 hz1427 hB1428 => ?_))
                  replace hB1428 : Blk w1425 g20 25 [(.bool gr_1235), (.slice Ar_1235 nr_1235 cr_1235)] := hB1428
                  refine ⟨(hU1426.mono q4), ?_⟩
                  have hR1429 := hR1409.tr hU1426
                  have hB1430 := (hB1284.frm hR1429 q1)
                  refine dOp 2 rfl rfl (by kernel_rfl) (oEv (v := (.agg #[(.bool gq_1273), (.slice Aq_1273 nq_1273 cq_1273)])) (evLoadAB [(.bool gq_1273), (.slice Aq_1273 nq_1273 cq_1273)] agg25 sz25 rfl hB1430 rfl) rfl ⟨Frm.refl _ _, dOp 5 rfl rfl (by kernel_rfl) (oStore [(.bool gq_1273), (.slice Aq_1273 nq_1273 cq_1273)] rfl rfl rfl sz25 rfl hB1430 (Nat.le_of_ble_eq_true rfl) (fun w1431 hU1432 hz1433 hB1434 => ?_))⟩)
                  replace hB1434 : Blk w1431 g26 25 [(.bool gq_1273), (.slice Aq_1273 nq_1273 cq_1273)] := hB1434
                  refine ⟨(hU1432.mono q4), dDone (by kernel_rfl) ?_⟩
                  have hR1435 := hU1426.tr hU1432
                  have hB1436 := (hB1408.frm hR1435 q1)
                  have hB1437 := (hB1428.frm hU1432 q1)
                  have hR1438 := hR1429.tr hU1432
                  exact ⟨rfl, _, rfl, rfl, rfl, rfl, (Frm.mono hR1438 q4), hB1436, hB1437, hB1434⟩
              · have hR1439 := hE1300.rx hU1406
                have hB1440 := (hB1284.frm hR1439 q1)
                refine dWp (i := 2) rfl rfl (oEv (v := (.agg #[(.bool gq_1273), (.slice Aq_1273 nq_1273 cq_1273)])) (evLoadAB [(.bool gq_1273), (.slice Aq_1273 nq_1273 cq_1273)] agg25 sz25 rfl hB1440 rfl) rfl ⟨Frm.refl _ _, ?_⟩)
                have hB1441 := (hB1289.frm hR1439 q1)
                refine dOp 1 rfl rfl (by kernel_rfl) (oEv (v := (.agg #[(.bool gr_1235), (.slice Ar_1235 nr_1235 cr_1235)])) (evLoadAB [(.bool gr_1235), (.slice Ar_1235 nr_1235 cr_1235)] agg25 sz25 rfl hB1441 rfl) rfl ⟨Frm.refl _ _, dOp 4 rfl rfl (by kernel_rfl) (oStore [(.bool gr_1235), (.slice Ar_1235 nr_1235 cr_1235)] rfl rfl rfl sz25 rfl hB1441 (Nat.le_of_ble_eq_true rfl) (fun w1442 hU1443 hz1444 hB1445 => ?_))⟩)
                replace hB1445 : Blk w1442 g20 25 [(.bool gr_1235), (.slice Ar_1235 nr_1235 cr_1235)] := hB1445
                refine ⟨(hU1443.mono q4), ?_⟩
                have hB1446 := (hB1440.frm hU1443 q1)
                refine dOp 5 rfl rfl (by kernel_rfl) (oStore [(.bool gq_1273), (.slice Aq_1273 nq_1273 cq_1273)] rfl rfl rfl sz25 rfl hB1446 (Nat.le_of_ble_eq_true rfl) (fun w1447 hU1448 hz1449 hB1450 => ?_))
                replace hB1450 : Blk w1447 g26 25 [(.bool gq_1273), (.slice Aq_1273 nq_1273 cq_1273)] := hB1450
                refine ⟨(hU1448.mono q4), dDone (by kernel_rfl) ?_⟩
                have hR1451 := hU1443.tr hU1448
                have hB1452 := (hB1408.frm hR1451 q1)
                have hB1453 := (hB1445.frm hU1448 q1)
                have hR1454 := (hR1439.tr hU1443).tr hU1448
                exact ⟨rfl, _, rfl, rfl, rfl, rfl, (Frm.mono hR1454 q4), hB1452, hB1453, hB1450⟩
          · rintro e1456 w1455 ⟨hs1458, hs1459, hs1460, hF1457, hB1461, hB1462, hB1463⟩
            obtain ⟨r1464, rfl⟩ := sq (e := e1456) (t := 4) hs1458
            obtain ⟨r1465, rfl⟩ := sq (e := r1464) (t := 5) hs1459
            obtain ⟨r1466, rfl⟩ := sq (e := r1465) (t := 6) hs1460
            have hz1467 := hF1457.size
            refine xN (hK1285 _ _ (wp_ret (ret3 (.agg #[(.bool gi), (.slice Ai ni ci)]) (.agg #[(.bool gr_1235), (.slice Ar_1235 nr_1235 cr_1235)]) (.agg #[(.bool gq_1273), (.slice Aq_1273 nq_1273 cq_1273)]) Tryz.results99 (resB [(.bool gi), (.slice Ai ni ci)] agg25 sz25 rfl hB1461) (resB [(.bool gr_1235), (.slice Ar_1235 nr_1235 cr_1235)] agg25 sz25 rfl hB1462) (resB [(.bool gq_1273), (.slice Aq_1273 nq_1273 cq_1273)] agg25 sz25 rfl hB1463) ?_)))
            have hR1468 := ((hE1268.trans hE1275).rx hU1282).tr hF1457
            have h1469 := (h1265.frmB hR1468 q3)
            have hR1470 := hR1288.tr hF1457
            have h1471 := (h1256.frmB hR1470 q3)
            have hR1472 := hU1282.tr hF1457
            have h1473 := (hq_1273.frmB hR1472 q3)
            have hR1474 := ((((hR1257.xr hE1261).xr hE1268).xr hE1275).tr hU1282).tr hF1457
            exact ⟨gi, Ai, ni, ci, di, gr_1235, Ar_1235, nr_1235, cr_1235, dr_1235, gq_1273, Aq_1273, nq_1273, cq_1273, dq_1273, rfl, (Frm.mono hR1474 q4), (NatR.sub h1469 q5), (NatR.sub h1471 q5), (NatR.sub h1473 q5), hxx, hxs, (by omega)⟩
end Go.Proofs.YtneolcopompkaaaGreatDoor
