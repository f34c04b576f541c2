/-
  Walk of package division: the extended Euclidean algorithm.
-/
import Derived.Test.YtneolcopompkaaaGreatDoorHen1
import Derived.Test.YtneolcopompkaaaGreatDoorLibA
namespace Go.Proofs.YtneolcopompkaaaGreatDoor
open Go.RowKit Go.Gx Tryz
set_option maxHeartbeats 4000000 in
theorem division_Xgcd {w : World} {ga : Bool} {Sa : Nat → Prop} {Aa : Option Addr} {na ca : Nat} {da : List Nat} {gb : Bool} {Sb : Nat → Prop} {Ab : Option Addr} {nb cb : Nat} {db : List Nat} (ha : NatR w Sa Aa na ca da) (hb : NatR w Sb Ab nb cb db) (hna : na ≤ 1048576) (hnb : nb ≤ 1048576) (hb0 : zval gb db ≠ 0) (hco : Int.gcd (zval ga da) (zval gb db) = 1) : Calls Tryz.prog 99 #[(.agg #[(.bool ga), (.slice Aa na ca)]), (.agg #[(.bool gb), (.slice Ab nb cb)])] w (Ret fun v w' => ∃ (gt : Bool) (At : Option Addr) (nt : Nat) (ct : Nat) (dt : List Nat) (gx : Bool) (Ax : Option Addr) (nx : Nat) (cx : Nat) (dx : List Nat) (gy : Bool) (Ay : Option Addr) (ny : Nat) (cy : Nat) (dy : List Nat), v = (.tuple #[(.agg #[(.bool gt), (.slice At nt ct)]), (.agg #[(.bool gx), (.slice Ax nx cx)]), (.agg #[(.bool gy), (.slice Ay ny cy)])]) ∧ Ext w w' ∧ NatR w' (fun b => w.heap.size ≤ b) At nt ct dt ∧ NatR w' (fun b => w.heap.size ≤ b) Ax nx cx dx ∧ NatR w' (fun b => w.heap.size ≤ b) Ay ny cy dy ∧ (∃ k : Int, zval gx dx * zval ga da = 1 + zval gb db * k) ∧ (zval gx dx = symZ (zval gb db).natAbs (zval gx dx)) ∧ (nx ≤ nb + 4)) := by
 have ⟨la, ka, ma⟩ := ha.lkm
 replace ha := ha.low
 have ⟨lb, kb, mb⟩ := hb.lkm
 replace hb := hb.low
 refine enter func99 rfl ntmps99 rfl (rS fun K1 sw => sO (oBox [(.bool ga), (.slice Aa na ca)] rfl rfl (fun g2 w3 Ee sx Ef sy => sO (oBox [(.bool gb), (.slice Ab nb cb)] rfl rfl (fun g8 w9 Cs cA Ct ok => sO (oAlloc [(.bool false), (.slice none 0 0)] zero25 rfl (fun Q Eg Cu ax Cv ol => sO (oAlloc [(.bool false), (.slice none 0 0)] zero25 rfl (fun z Eh Cw L2 Cx om => sO (oAlloc [(.bool false), (.slice none 0 0)] zero25 rfl (fun F Ei Cy t9 Cz on => sK sw (wp_seq_k fun Ej oo => rS fun Ek op => ?_))))))))))))
 have oq := (ax.trans L2).trans t9
 have cB := (ok.ext oq)
 refine sV (evLoadAB [(.bool gb), (.slice Ab nb cb)] agg25 sz25 rfl cB rfl) ?_
 have L3 := (((sx.trans cA).trans ax).trans L2).trans t9
 have aC := (hb.ext L3)
 refine sO (oCall rfl call108 (division_isZero aC) rfl ?_)
 rintro _ d3 ⟨hg, rfl, a7, os⟩
 have CA := a7.size
 obtain rfl : hg = false := by rw [os]; exact decide_eq_false hb0
 refine sK op (cF rfl (wp_skip (xN (oo _ _ (wp_seq_k fun El ot => ?_)))))
 have ou := (((cA.trans ax).trans L2).trans t9).trans a7
 have L4 := (sy.ext ou)
 have L5 := (cB.ext a7)
 have ov := (L2.trans t9).trans a7
 have ay := (ol.ext ov)
 have ow := t9.trans a7
 have ox := (om.ext ow)
 have az := (on.ext a7)
 refine wpJoin (dfs := []) (n := 82) (fun e w_ => ∃ (b7 : Nat) (b8 : Nat) (gi : Bool) (Ai : Option Addr) (ni : Nat) (ci : Nat) (di : List Nat) (gj : Bool) (Aj : Option Addr) (nj : Nat) (cj : Nat) (dj : List Nat), e 2 = (.pointer (some ⟨g2, 0, none⟩)) ∧ e 3 = (.pointer (some ⟨g8, 0, none⟩)) ∧ e 4 = (.pointer (some ⟨Q, 0, none⟩)) ∧ e 5 = (.pointer (some ⟨z, 0, none⟩)) ∧ e 6 = (.pointer (some ⟨F, 0, none⟩)) ∧ e 7 = (.pointer (some ⟨b7, 0, none⟩)) ∧ e 8 = (.pointer (some ⟨b8, 0, none⟩)) ∧ Frm (fun _ => False) d3 w_ ∧ Blk w_ b7 25 ([.bool gi, .slice Ai ni ci]) ∧ Blk w_ b8 25 ([.bool gj, .slice Aj nj cj]) ∧ (d3.heap.size ≤ b7 ∧ d3.heap.size ≤ b8 ∧ b7 ≠ b8) ∧ (NatR w_ (fun b => d3.heap.size ≤ b ∧ b ≠ b7 ∧ b ≠ b8) Ai ni ci di) ∧ (NatR w_ (fun b => d3.heap.size ≤ b ∧ b ≠ b7 ∧ b ≠ b8) Aj nj cj dj) ∧ (zval gi di = zval ga da) ∧ (zval gj dj = zval gb db) ∧ (ni ≤ na + nb ∧ nj ≤ na + nb)) ?_ ?_
 ·refine dBegin (fun b => d3.heap.size ≤ b) mixed (fun Em u0 CB => ?_)
  have oy := (L4.ext u0)
  refine dV 0 rfl (fun _ hf => evLoadAB [(.bool ga), (.slice Aa na ca)] agg25 sz25 rfl (oy.frm hf q1) rfl) ?_
  have oz := (L5.ext u0)
  refine dV 2 rfl (fun _ hf => evLoadAB [(.bool gb), (.slice Ab nb cb)] agg25 sz25 rfl (oz.frm hf q1) rfl) (wAl2 (fun k => bif Nat.beq k 4 then (7, 25, [(.bool false), (.slice none 0 0)]) else (8, 25, [(.bool false), (.slice none 0 0)])) 4 5 (alOp rfl rfl zero25 rfl) (alOp rfl rfl zero25 rfl) rfl fun cC => wOp cC 1 (by kernel_rfl) fun CC aD L6 => ?_)
  have CD := L6.size
  have oA := ((L3.trans a7).trans u0).trans L6
  have sz := (ha.ext oA)
  refine dWp (i := 1) rfl rfl (oCall rfl call85 (integer_Normal sz Qo) rfl ?_)
  rintro _ aE ⟨L7, L8, L9, M0, hh, rfl, M1, aF, oB, zn, zo⟩
  refine ⟨M1, wNext rfl ?_⟩
  have CE := M1.size
  have ⟨zp, zq, zr⟩ := aF.lkm
  have sA := aF.sub (S' := fun b => aD.heap.size ≤ b ∧ b < aE.heap.size) fun _ hb hs => ⟨hs, hb⟩
  refine wOp cC 3 (by kernel_rfl) fun CF aG M2 => ?_
  have CG := M2.size
  have oC := (((a7.trans u0).trans L6).trans M1).trans M2
  have sB := (aC.ext oC)
  refine dWp (i := 3) rfl rfl (oCall rfl call85 (integer_Normal sB Qo) rfl ?_)
  rintro _ aH ⟨M3, M4, M5, M6, hm, rfl, M7, aI, oD, zs, zt⟩
  refine ⟨M7, wNext rfl ?_⟩
  have CH := M7.size
  have ⟨zu, zv, zw⟩ := aI.lkm
  have sC := aI.sub (S' := fun b => aG.heap.size ≤ b ∧ b < aH.heap.size) fun _ hb hs => ⟨hs, hb⟩
  refine wEnd2 cC #[true, true, true, true, true, true, false, false] (by kernel_rfl) fun aJ aK En M8 CI CJ zx cD cE cG cH => ?_
  have CK := M8.size
  have CL := cD.lt
  have CM := cE.lt
  have oE := (M2.trans M7).trans M8
  have sD := (sA.ext oE)
  have sE := sD.sub (S' := fun b => (aD.heap.size ≤ b ∧ b < aE.heap.size) ∧ b ≠ aJ ∧ b ≠ aK) fun b _ hs => ⟨hs, cG.ne aD.heap.size aE.heap.size (by simp) b hs.1 hs.2, cH.ne aD.heap.size aE.heap.size (by simp) b hs.1 hs.2⟩
  have sF := (sC.ext M8)
  have sG := sF.sub (S' := fun b => (aG.heap.size ≤ b ∧ b < aH.heap.size) ∧ b ≠ aJ ∧ b ≠ aK) fun b _ hs => ⟨hs, cG.ne aG.heap.size aH.heap.size (by simp) b hs.1 hs.2, cH.ne aG.heap.size aH.heap.size (by simp) b hs.1 hs.2⟩
  refine dOp 6 rfl rfl (by kernel_rfl) (oStore [(.bool L7), (.slice L8 L9 M0)] rfl rfl rfl sz25 rfl cD Qn (fun oF o3 zy M9 => ?_))
  replace M9 : Blk oF aJ 25 [(.bool L7), (.slice L8 L9 M0)] := M9
  refine ⟨(o3.mono q4), ?_⟩
  have hn := (cE.frm o3 q1)
  refine dOp 7 rfl rfl (by kernel_rfl) (oStore [(.bool M3), (.slice M4 M5 M6)] rfl rfl rfl sz25 rfl hn Qn (fun oG o4 zz N0 => ?_))
  replace N0 : Blk oG aK 25 [(.bool M3), (.slice M4 M5 M6)] := N0
  refine ⟨(o4.mono q4), dDone (by kernel_rfl) ?_⟩
  have ho := (M9.frm o4 q1)
  have aL := o3.tr o4
  have oH := (sE.frmB aL q3)
  have oI := (sG.frmB aL q3)
  have hp := ((((((u0.trans L6).trans M1).trans M2).trans M7).trans M8).rx o3).tr o4
  exact ⟨rfl, _, rfl, (aJ), (aK), (L7), (L8), (L9), (M0), (hh), (M3), (M4), (M5), (M6), (hm), rfl, rfl, rfl, rfl, rfl, rfl, rfl, (Frm.mono hp q4), ho, N0, Qo, (NatR.sub oH q5), (NatR.sub oI q5), (oB), (oD), Qo⟩
 ·rintro CN aA ⟨b7, b8, gi, Ai, ni, ci, di, gj, Aj, nj, cj, dj, hq, hr, ht, hu, hv, hw, hx, f5, aM, aN, Eo, hi, hj, hvi, hvj, hll⟩
  obtain ⟨CO, rfl⟩ := sq7 hq hr ht hu hv hw hx
  have zA := f5.size
  have ⟨li, ki, mi⟩ := hi.lkm; have ⟨lj, kj, mj⟩ := hj.lkm; have Ep := aM.lt; have Eq := aN.lt
  have oJ := hi.sub (S' := fun b => (d3.heap.size ≤ b ∧ b ≠ b7 ∧ b ≠ b8) ∧ b < aA.heap.size) fun _ hb hs => ⟨hs, hb⟩
  have oK := hj.sub (S' := fun b => (d3.heap.size ≤ b ∧ b ≠ b7 ∧ b ≠ b8) ∧ b < aA.heap.size) fun _ hb hs => ⟨hs, hb⟩
  refine xN (ot _ _ (rS fun CP hy => sO (oCall rfl call35 (integer_Of Qo) rfl ?_)))
  rintro _ cI ⟨u1, u2, u3, u4, cJ, rfl, c9, T0, hz, cK, sH⟩
  have zB := c9.size
  have ⟨sI, sJ, sL⟩ := T0.lkm
  have oL := T0.sub (S' := fun b => (aA.heap.size ≤ b) ∧ b < cI.heap.size) fun _ hb hs => ⟨hs, hb⟩
  refine sO (oCall rfl call35 (integer_Of Qo) rfl ?_)
  rintro _ oM ⟨u5, u6, u7, u8, cL, rfl, b6, T1, hA, cM, sM⟩
  have zC := b6.size
  have ⟨sN, sP, sQ⟩ := T1.lkm
  have oN := T1.sub (S' := fun b => (cI.heap.size ≤ b) ∧ b < oM.heap.size) fun _ hb hs => ⟨hs, hb⟩
  refine sO (oAlloc [(.bool false), (.slice none 0 0)] zero25 rfl (fun A CQ zD b9 zE hB => ?_))
  have o5 := ((f5.trans c9).trans b6).trans b9
  have hC := (ox.ext o5)
  refine sO (oStore [(.bool u1), (.slice u2 u3 u4)] rfl rfl rfl sz25 rfl hC Qn (fun oO R zF N1 => ?_))
  replace N1 : Blk oO z 25 [(.bool u1), (.slice u2 u3 u4)] := N1
  have hD := (hB.frm R q1)
  refine sO (oStore [(.bool u5), (.slice u6 u7 u8)] rfl rfl rfl sz25 rfl hD Qn (fun cN S zG N2 => ?_))
  replace N2 : Blk cN A 25 [(.bool u5), (.slice u6 u7 u8)] := N2
  refine sK hy (wp_seq_k fun CR hE => wp_block ?_)
  have o6 := (((c9.trans b6).trans b9).rx R).tr S
  have hF := (aM.frm o6 q1)
  have hG := (aN.frm o6 q1)
  have hH := (N1.frm S q1)
  have oP := (oJ.frmB o6 q3)
  have oQ := (oK.frmB o6 q3)
  have hI := ((b6.trans b9).rx R).tr S
  have oR := (oL.frmB hI q3)
  have hJ := (b9.rx R).tr S
  have oS := (oN.frmB hJ q3)
  refine lLoop (fun m e w_ => ∃ (gi : Bool) (Ai : Option Addr) (ni : Nat) (ci : Nat) (di : List Nat) (gj : Bool) (Aj : Option Addr) (nj : Nat) (cj : Nat) (dj : List Nat) (gk : Bool) (Ak : Option Addr) (nk : Nat) (ck : Nat) (dk : List Nat) (gl : Bool) (Al : Option Addr) (nl : Nat) (cl : Nat) (dl : List Nat), m = (zval gj dj).natAbs ∧ e 2 = (.pointer (some ⟨g2, 0, none⟩)) ∧ e 3 = (.pointer (some ⟨g8, 0, none⟩)) ∧ e 4 = (.pointer (some ⟨Q, 0, none⟩)) ∧ e 5 = (.pointer (some ⟨z, 0, none⟩)) ∧ e 6 = (.pointer (some ⟨F, 0, none⟩)) ∧ e 7 = (.pointer (some ⟨b7, 0, none⟩)) ∧ e 8 = (.pointer (some ⟨b8, 0, none⟩)) ∧ e 9 = (.pointer (some ⟨A, 0, none⟩)) ∧ Frm (fun b => b = b7 ∨ b = b8 ∨ b = z ∨ b = A) cN w_ ∧ Blk w_ b7 25 ([.bool gi, .slice Ai ni ci]) ∧ Blk w_ b8 25 ([.bool gj, .slice Aj nj cj]) ∧ Blk w_ z 25 ([.bool gk, .slice Ak nk ck]) ∧ Blk w_ A 25 ([.bool gl, .slice Al nl cl]) ∧ (NatR w_ (fun b => d3.heap.size ≤ b ∧ b ≠ b7 ∧ b ≠ b8 ∧ b ≠ A) Ai ni ci di) ∧ (NatR w_ (fun b => d3.heap.size ≤ b ∧ b ≠ b7 ∧ b ≠ b8 ∧ b ≠ A) Aj nj cj dj) ∧ (NatR w_ (fun b => d3.heap.size ≤ b ∧ b ≠ b7 ∧ b ≠ b8 ∧ b ≠ A) Ak nk ck dk) ∧ (NatR w_ (fun b => d3.heap.size ≤ b ∧ b ≠ b7 ∧ b ≠ b8 ∧ b ≠ A) Al nl cl dl) ∧ (ni ≤ na + nb ∧ nj ≤ na + nb) ∧ (ICan gk dk) ∧ (ICan gl dl) ∧ (XgI (zval ga da) (zval gb db) (zval gi di) (zval gj dj) (zval gk dk) (zval gl dl))) ((zval (gj) (dj)).natAbs) ?_ ?_
  ·refine ⟨(gi), (Ai), (ni), (ci), (di), (gj), (Aj), (nj), (cj), (dj), (u1), (u2), (u3), (u4), (cJ), (u5), (u6), (u7), (u8), (cL), rfl, rfl, rfl, rfl, rfl, rfl, rfl, rfl, rfl, (Frm.refl _ _), ?_, ?_, ?_, ?_, ?_, ?_, ?_, ?_, ?_, ?_, ?_, ?_⟩
   ·exact hF
   ·exact hG
   ·exact hH
   ·exact N2
   ·exact NatR.sub oP q5
   ·exact NatR.sub oQ q5
   ·exact NatR.sub oR q5
   ·exact NatR.sub oS q5
   ·omega
   ·exact cK
   ·exact cM
   ·rw [hvi, hvj, hz, hA]; exact XgI.start hb0 hco
  ·rintro CS CT CU ⟨gi, Ai, ni, ci, di, gj, Aj, nj, cj, dj, gk, Ak, nk, ck, dk, gl, Al, nl, cl, dl, zH, hK, hL, hM, hN, hO, hP, hQ, hR, a8, aO, o7, N3, N4, hi, hj, hk, hl, CV, hck, hcl, hXg⟩
   obtain ⟨CW, rfl⟩ := sq8 hK hL hM hN hO hP hQ hR
   have zI := a8.size
   have ⟨li, ki, mi⟩ := hi.lkm; have ⟨lj, kj, mj⟩ := hj.lkm; have ⟨lk, kk, mk⟩ := hk.lkm; have ⟨ll, kl, ml⟩ := hl.lkm; have hnk := canon_le_len hck.1 hb.2 (by rw [natAbs_val gk dk, natAbs_val gb db]; exact hXg.bx); have hnl := canon_le_len hcl.1 hb.2 (by rw [natAbs_val gl dl, natAbs_val gb db]; exact hXg.by_)
   refine wp_seq_k fun CX hS => rS fun CY hT => sV (evLoadAB [(.bool gj), (.slice Aj nj cj)] agg25 sz25 rfl o7 rfl) (sO (oCall rfl call108 (division_isZero hj) rfl ?_))
   rintro _ cO ⟨cP, rfl, G, aP⟩
   have zJ := G.size
   refine sV (evNot _ rfl rfl) (sK hT ?_)
   cases cP
   ·refine cT rfl (wp_skip (xN (hS _ _ (wp_block (wp_seq_k fun CZ hU => ?_)))))
    have oi : zval gj dj ≠ 0 := of_decide_eq_false aP.symm
    refine wp_region_lit ?_
    have aQ := (aO.ext G)
    refine sV (evLoadAB [(.bool gi), (.slice Ai ni ci)] agg25 sz25 rfl aQ rfl) ?_
    have aR := (o7.ext G)
    refine sV (evLoadAB [(.bool gj), (.slice Aj nj cj)] agg25 sz25 rfl aR rfl) ?_
    have oT := (hi.ext G)
    have cQ := (hj.ext G)
    refine sO (oCall rfl call109 (division_Quo oT cQ Qo Qo Qo) rfl ?_)
    rintro _ cR ⟨d4, d5, d6, d7, sR, T, a1, a2, a3, T2, T3, rfl, o8, T4, T5, L, aS, rr, rs, sS, rt, ru⟩
    have zK := o8.size
    have ⟨sT, sU, sW⟩ := T4.lkm
    have ⟨sX, sY, sZ⟩ := T5.lkm
    have b2 := T4.sub (S' := fun b => (cO.heap.size ≤ b) ∧ b < cR.heap.size) fun _ hb hs => ⟨hs, hb⟩
    have oU := T5.sub (S' := fun b => (cO.heap.size ≤ b) ∧ b < cR.heap.size) fun _ hb hs => ⟨hs, hb⟩
    have hms := tmod_lt aS oi
    refine sV (v := (.tuple #[(.agg #[(.bool d4), (.slice d5 d6 d7)]), (.agg #[(.bool T), (.slice a1 a2 a3)]), (.int .i64 (T3))])) (rfl) (sV (v := (.agg #[(.bool d4), (.slice d5 d6 d7)])) (rfl) (sV (v := (.agg #[(.bool T), (.slice a1 a2 a3)])) (rfl) (sV (v := (.int .i64 (T3))) (rfl) (sO (oAlloc [(.bool false), (.slice none 0 0)] zero25 rfl (fun oV Da zL M zM hV => sO (oAlloc [(.bool false), (.slice none 0 0)] zero25 rfl (fun oW Db zN I zO hW => ?_))))))))
    have hX := (hV.ext I)
    refine sO (oStore [(.bool d4), (.slice d5 d6 d7)] rfl rfl rfl sz25 rfl hX Qn (fun oX J zP N5 => ?_))
    replace N5 : Blk oX oV 25 [(.bool d4), (.slice d5 d6 d7)] := N5
    have hY := (hW.frm J q1)
    refine sO (oStore [(.bool T), (.slice a1 a2 a3)] rfl rfl rfl sz25 rfl hY Qn (fun oY K zQ N6 => ?_))
    replace N6 : Blk oY oW 25 [(.bool T), (.slice a1 a2 a3)] := N6
    refine sAi rfl (sK hU (wp_seq_k fun Dc hZ => dBegin (fun b => b = b7 ∨ b = b8) mixed (fun Dd H zR => ?_)))
    have aT := (N6.ext H)
    refine dV 1 rfl (fun _ hf => evLoadAB [(.bool T), (.slice a1 a2 a3)] agg25 sz25 rfl (aT.frm hf q1) rfl) ?_
    have N7 := ((((o8.trans M).trans I).rx J).tr K).xr H
    have aU := (aR.frm N7 q1)
    refine dOp 0 rfl rfl (by kernel_rfl) (oEv (v := (.agg #[(.bool gj), (.slice Aj nj cj)])) (evLoadAB [(.bool gj), (.slice Aj nj cj)] agg25 sz25 rfl aU rfl) rfl ⟨Frm.refl _ _, ?_⟩)
    have ia := (aQ.frm N7 q1)
    refine dOp 2 rfl rfl (by kernel_rfl) (oStore [(.bool gj), (.slice Aj nj cj)] rfl rfl rfl sz25 rfl ia Qn (fun oZ D zS N8 => ?_))
    replace N8 : Blk oZ b7 25 [(.bool gj), (.slice Aj nj cj)] := N8
    refine ⟨(D.mono q4), ?_⟩
    have ib := (aU.frm D q1)
    refine dOp 3 rfl rfl (by kernel_rfl) (oStore [(.bool T), (.slice a1 a2 a3)] rfl rfl rfl sz25 rfl ib Qn (fun aB E zT N9 => ?_))
    replace N9 : Blk aB b8 25 [(.bool T), (.slice a1 a2 a3)] := N9
    refine ⟨(E.mono q4), dDone (by kernel_rfl) (xN (hZ _ _ ?_))⟩
    have o9 := (((((((((((o5.rx R).tr S).tr a8).xr G).xr o8).xr M).xr I).tr J).tr K).xr H).tr D).tr E
    have zU := (L4.frm o9 q1)
    have zV := (L5.frm o9 q1)
    have zW := (ay.frm o9 q1)
    have O := (((((((G.trans o8).trans M).trans I).rx J).tr K).xr H).tr D).tr E
    have a9 := (N3.frm O q1)
    have zX := (az.frm o9 q1)
    have ic := (N8.frm E q1)
    have p0 := (N4.frm O q1)
    have id := ((K.xr H).tr D).tr E
    have ie := (N5.frm id q1)
    have ig := D.tr E
    have zY := (aT.frm ig q1)
    refine wpJoin (dfs := []) (n := 82) (fun e w_ => ∃ (gm : Bool) (Am : Option Addr) (nm : Nat) (cm : Nat) (dm : List Nat), e 2 = (.pointer (some ⟨g2, 0, none⟩)) ∧ e 3 = (.pointer (some ⟨g8, 0, none⟩)) ∧ e 4 = (.pointer (some ⟨Q, 0, none⟩)) ∧ e 5 = (.pointer (some ⟨z, 0, none⟩)) ∧ e 6 = (.pointer (some ⟨F, 0, none⟩)) ∧ e 7 = (.pointer (some ⟨b7, 0, none⟩)) ∧ e 8 = (.pointer (some ⟨b8, 0, none⟩)) ∧ e 9 = (.pointer (some ⟨A, 0, none⟩)) ∧ Frm (fun b => b = z ∨ b = A) aB w_ ∧ Blk w_ z 25 ([.bool gl, .slice Al nl cl]) ∧ Blk w_ A 25 ([.bool gm, .slice Am nm cm]) ∧ (NatR w_ (fun b => aB.heap.size ≤ b) Am nm cm dm) ∧ (zval gm dm = zval gk dk - (zval gi di).tdiv (zval gj dj) * zval gl dl) ∧ (ICan gm dm)) ?_ ?_
    ·refine dBegin (fun b => b = A ∨ b = z) mixed (fun De o zZ => ?_)
     have ih := (ie.ext o)
     refine dV 2 rfl (fun _ hf => evLoadAB [(.bool d4), (.slice d5 d6 d7)] agg25 sz25 rfl (ih.frm hf q1) rfl) (dThree 0 1 3 (by kernel_rfl) ?_ ?_ ?_)
     ·have f6 := (p0.ext o)
      refine dWp (i := 0) rfl rfl (oEv (v := (.agg #[(.bool gl), (.slice Al nl cl)])) (evLoadAB [(.bool gl), (.slice Al nl cl)] agg25 sz25 rfl f6 rfl) rfl ⟨Frm.refl _ _, dTwo 1 3 (by kernel_rfl) ?_ ?_⟩)
      ·have aV := (a9.ext o)
       refine dWp (i := 1) rfl rfl (oEv (v := (.agg #[(.bool gk), (.slice Ak nk ck)])) (evLoadAB [(.bool gk), (.slice Ak nk ck)] agg25 sz25 rfl aV rfl) rfl ⟨Frm.refl _ _, dOp 3 rfl rfl (by kernel_rfl) (oEv (v := (.agg #[(.bool gl), (.slice Al nl cl)])) (evLoadAB [(.bool gl), (.slice Al nl cl)] agg25 sz25 rfl f6 rfl) rfl ⟨Frm.refl _ _, ?_⟩)⟩)
       have ii := ((((((M.trans I).rx J).tr K).xr H).tr D).tr E).xr o
       have pa := (b2.frmB ii q3)
       have aW := O.xr o
       have pb := (hl.frmB aW q3)
       refine dOp 4 rfl rfl (by kernel_rfl) (oCall rfl call33 (integer_Mul pa pb Qo) rfl ?_)
       rintro _ Df ⟨ta, tb, tc, td, te, rfl, g6, T6, ij, tf, tg⟩
       refine ⟨(Frm.of_ext g6), ?_⟩
       have Ac := g6.size
       have ⟨th, ti, tj⟩ := T6.lkm
       have ik := aW.xr g6
       have pc := (hk.frmB ik q3)
       refine dOp 5 rfl rfl (by kernel_rfl) (oCall rfl call106 (integer_Sub pc T6 Qo Qo) rfl ?_)
       rintro _ Dg ⟨u9, v0, v1, v2, cS, rfl, p1, T7, il, cU, tk⟩
       refine ⟨(Frm.of_ext p1), ?_⟩
       have Ad := p1.size
       have ⟨tl, tm, tn⟩ := T7.lkm
       have aX := g6.trans p1
       have im := (aV.ext aX)
       refine dOp 6 rfl rfl (by kernel_rfl) (oStore [(.bool gl), (.slice Al nl cl)] rfl rfl rfl sz25 rfl im Qn (fun pd p2 Ae O0 => ?_))
       replace O0 : Blk pd z 25 [(.bool gl), (.slice Al nl cl)] := O0
       refine ⟨(p2.mono q4), ?_⟩
       have io := aX.rx p2
       have ip := (f6.frm io q1)
       refine dOp 7 rfl rfl (by kernel_rfl) (oStore [(.bool u9), (.slice v0 v1 v2)] rfl rfl rfl sz25 rfl ip Qn (fun pe p3 Af O1 => ?_))
       replace O1 : Blk pe A 25 [(.bool u9), (.slice v0 v1 v2)] := O1
       refine ⟨(p3.mono q4), dDone (by kernel_rfl) ?_⟩
       have iq := (O0.frm p3 q1)
       have ir := p2.tr p3
       have pf := (T7.frmB ir q3)
       have it := (((o.trans g6).trans p1).rx p2).tr p3
       exact ⟨rfl, _, rfl, (u9), (v0), (v1), (v2), (cS), rfl, rfl, rfl, rfl, rfl, rfl, rfl, rfl, (Frm.mono it q4), iq, O1, (NatR.sub pf q5), (by rw [il, ij, L]), (cU)⟩
      ·refine dWp (i := 3) rfl rfl (oEv (v := (.agg #[(.bool gl), (.slice Al nl cl)])) (evLoadAB [(.bool gl), (.slice Al nl cl)] agg25 sz25 rfl f6 rfl) rfl ⟨Frm.refl _ _, dTwo 1 4 (by kernel_rfl) ?_ ?_⟩)
       ·have aY := (a9.ext o)
        refine dWp (i := 1) rfl rfl (oEv (v := (.agg #[(.bool gk), (.slice Ak nk ck)])) (evLoadAB [(.bool gk), (.slice Ak nk ck)] agg25 sz25 rfl aY rfl) rfl ⟨Frm.refl _ _, ?_⟩)
        have iu := ((((((M.trans I).rx J).tr K).xr H).tr D).tr E).xr o
        have pg := (b2.frmB iu q3)
        have aZ := O.xr o
        have ph := (hl.frmB aZ q3)
        refine dOp 4 rfl rfl (by kernel_rfl) (oCall rfl call33 (integer_Mul pg ph Qo) rfl ?_)
        rintro _ Dh ⟨to, tp, tq, ts, tt, rfl, g7, T8, iv, tu, tv⟩
        refine ⟨(Frm.of_ext g7), ?_⟩
        have Ag := g7.size
        have ⟨tw, tx, ty⟩ := T8.lkm
        have iw := aZ.xr g7
        have pi := (hk.frmB iw q3)
        refine dOp 5 rfl rfl (by kernel_rfl) (oCall rfl call106 (integer_Sub pi T8 Qo Qo) rfl ?_)
        rintro _ Di ⟨v3, v4, v5, v6, cV, rfl, p4, T9, ix, cW, tz⟩
        refine ⟨(Frm.of_ext p4), ?_⟩
        have Ah := p4.size
        have ⟨tA, tB, tC⟩ := T9.lkm
        have ba := g7.trans p4
        have iy := (aY.ext ba)
        refine dOp 6 rfl rfl (by kernel_rfl) (oStore [(.bool gl), (.slice Al nl cl)] rfl rfl rfl sz25 rfl iy Qn (fun pj p5 An O2 => ?_))
        replace O2 : Blk pj z 25 [(.bool gl), (.slice Al nl cl)] := O2
        refine ⟨(p5.mono q4), ?_⟩
        have iz := ba.rx p5
        have iA := (f6.frm iz q1)
        refine dOp 7 rfl rfl (by kernel_rfl) (oStore [(.bool v3), (.slice v4 v5 v6)] rfl rfl rfl sz25 rfl iA Qn (fun pk p6 Ao O3 => ?_))
        replace O3 : Blk pk A 25 [(.bool v3), (.slice v4 v5 v6)] := O3
        refine ⟨(p6.mono q4), dDone (by kernel_rfl) ?_⟩
        have iB := (O2.frm p6 q1)
        have iC := p5.tr p6
        have pl := (T9.frmB iC q3)
        have iD := (((o.trans g7).trans p4).rx p5).tr p6
        exact ⟨rfl, _, rfl, (v3), (v4), (v5), (v6), (cV), rfl, rfl, rfl, rfl, rfl, rfl, rfl, rfl, (Frm.mono iD q4), iB, O3, (NatR.sub pl q5), (by rw [ix, iv, L]), (cW)⟩
       ·have iE := ((((((M.trans I).rx J).tr K).xr H).tr D).tr E).xr o
        have pm := (b2.frmB iE q3)
        have bb := O.xr o
        have pn := (hl.frmB bb q3)
        refine dWp (i := 4) rfl rfl (oCall rfl call33 (integer_Mul pm pn Qo) rfl ?_)
        rintro _ Dj ⟨tD, tE, tF, tG, tH, rfl, g9, U0, iF, tI, tJ⟩
        refine ⟨(Frm.of_ext g9), ?_⟩
        have Aq := g9.size
        have ⟨tK, tL, tM⟩ := U0.lkm
        have bc := o.trans g9
        have bd := (a9.ext bc)
        refine dOp 1 rfl rfl (by kernel_rfl) (oEv (v := (.agg #[(.bool gk), (.slice Ak nk ck)])) (evLoadAB [(.bool gk), (.slice Ak nk ck)] agg25 sz25 rfl bd rfl) rfl ⟨Frm.refl _ _, ?_⟩)
        have iG := bb.xr g9
        have po := (hk.frmB iG q3)
        refine dOp 5 rfl rfl (by kernel_rfl) (oCall rfl call106 (integer_Sub po U0 Qo Qo) rfl ?_)
        rintro _ Dk ⟨v7, v8, v9, w0, cX, rfl, h0, U1, iH, cY, tN⟩
        refine ⟨(Frm.of_ext h0), ?_⟩
        have Ar := h0.size
        have ⟨tO, tP, tQ⟩ := U1.lkm
        have iI := (bd.ext h0)
        refine dOp 6 rfl rfl (by kernel_rfl) (oStore [(.bool gl), (.slice Al nl cl)] rfl rfl rfl sz25 rfl iI Qn (fun pp p7 As O4 => ?_))
        replace O4 : Blk pp z 25 [(.bool gl), (.slice Al nl cl)] := O4
        refine ⟨(p7.mono q4), ?_⟩
        have iJ := (g9.trans h0).rx p7
        have iK := (f6.frm iJ q1)
        refine dOp 7 rfl rfl (by kernel_rfl) (oStore [(.bool v7), (.slice v8 v9 w0)] rfl rfl rfl sz25 rfl iK Qn (fun pq p8 Au O5 => ?_))
        replace O5 : Blk pq A 25 [(.bool v7), (.slice v8 v9 w0)] := O5
        refine ⟨(p8.mono q4), dDone (by kernel_rfl) ?_⟩
        have iL := (O4.frm p8 q1)
        have iM := p7.tr p8
        have pr := (U1.frmB iM q3)
        have iN := ((bc.trans h0).rx p7).tr p8
        exact ⟨rfl, _, rfl, (v7), (v8), (v9), (w0), (cX), rfl, rfl, rfl, rfl, rfl, rfl, rfl, rfl, (Frm.mono iN q4), iL, O5, (NatR.sub pr q5), (by rw [iH, iF, L]), (cY)⟩
     ·have h1 := (a9.ext o)
      refine dWp (i := 1) rfl rfl (oEv (v := (.agg #[(.bool gk), (.slice Ak nk ck)])) (evLoadAB [(.bool gk), (.slice Ak nk ck)] agg25 sz25 rfl h1 rfl) rfl ⟨Frm.refl _ _, dTwo 0 3 (by kernel_rfl) ?_ ?_⟩)
      ·have O6 := (p0.ext o)
       refine dWp (i := 0) rfl rfl (oEv (v := (.agg #[(.bool gl), (.slice Al nl cl)])) (evLoadAB [(.bool gl), (.slice Al nl cl)] agg25 sz25 rfl O6 rfl) rfl ⟨Frm.refl _ _, dOp 3 rfl rfl (by kernel_rfl) (oEv (v := (.agg #[(.bool gl), (.slice Al nl cl)])) (evLoadAB [(.bool gl), (.slice Al nl cl)] agg25 sz25 rfl O6 rfl) rfl ⟨Frm.refl _ _, ?_⟩)⟩)
       have iO := ((((((M.trans I).rx J).tr K).xr H).tr D).tr E).xr o
       have ps := (b2.frmB iO q3)
       have be := O.xr o
       have pt := (hl.frmB be q3)
       refine dOp 4 rfl rfl (by kernel_rfl) (oCall rfl call33 (integer_Mul ps pt Qo) rfl ?_)
       rintro _ Dl ⟨tR, tS, tT, tU, tV, rfl, h2, U2, iP, tW, tX⟩
       refine ⟨(Frm.of_ext h2), ?_⟩
       have Av := h2.size
       have ⟨tY, tZ, ua⟩ := U2.lkm
       have iQ := be.xr h2
       have pu := (hk.frmB iQ q3)
       refine dOp 5 rfl rfl (by kernel_rfl) (oCall rfl call106 (integer_Sub pu U2 Qo Qo) rfl ?_)
       rintro _ Dm ⟨w1, w2, w4, w5, cZ, rfl, p9, U3, iR, dc, ub⟩
       refine ⟨(Frm.of_ext p9), ?_⟩
       have Aw := p9.size
       have ⟨uc, ud, ue⟩ := U3.lkm
       have bf := h2.trans p9
       have iS := (h1.ext bf)
       refine dOp 6 rfl rfl (by kernel_rfl) (oStore [(.bool gl), (.slice Al nl cl)] rfl rfl rfl sz25 rfl iS Qn (fun pv q0 Az O7 => ?_))
       replace O7 : Blk pv z 25 [(.bool gl), (.slice Al nl cl)] := O7
       refine ⟨(q0.mono q4), ?_⟩
       have iT := bf.rx q0
       have iU := (O6.frm iT q1)
       refine dOp 7 rfl rfl (by kernel_rfl) (oStore [(.bool w1), (.slice w2 w4 w5)] rfl rfl rfl sz25 rfl iU Qn (fun pw q2 AA O8 => ?_))
       replace O8 : Blk pw A 25 [(.bool w1), (.slice w2 w4 w5)] := O8
       refine ⟨(q2.mono q4), dDone (by kernel_rfl) ?_⟩
       have iV := (O7.frm q2 q1)
       have iW := q0.tr q2
       have px := (U3.frmB iW q3)
       have iX := (((o.trans h2).trans p9).rx q0).tr q2
       exact ⟨rfl, _, rfl, (w1), (w2), (w4), (w5), (cZ), rfl, rfl, rfl, rfl, rfl, rfl, rfl, rfl, (Frm.mono iX q4), iV, O8, (NatR.sub px q5), (by rw [iR, iP, L]), (dc)⟩
      ·have h3 := (p0.ext o)
       refine dWp (i := 3) rfl rfl (oEv (v := (.agg #[(.bool gl), (.slice Al nl cl)])) (evLoadAB [(.bool gl), (.slice Al nl cl)] agg25 sz25 rfl h3 rfl) rfl ⟨Frm.refl _ _, dTwo 0 4 (by kernel_rfl) ?_ ?_⟩)
       ·refine dWp (i := 0) rfl rfl (oEv (v := (.agg #[(.bool gl), (.slice Al nl cl)])) (evLoadAB [(.bool gl), (.slice Al nl cl)] agg25 sz25 rfl h3 rfl) rfl ⟨Frm.refl _ _, ?_⟩)
        have iY := ((((((M.trans I).rx J).tr K).xr H).tr D).tr E).xr o
        have py := (b2.frmB iY q3)
        have bg := O.xr o
        have pz := (hl.frmB bg q3)
        refine dOp 4 rfl rfl (by kernel_rfl) (oCall rfl call33 (integer_Mul py pz Qo) rfl ?_)
        rintro _ Dn ⟨uf, ug, uh, ui, uj, rfl, h4, U4, iZ, uk, ul⟩
        refine ⟨(Frm.of_ext h4), ?_⟩
        have AB := h4.size
        have ⟨um, un, uo⟩ := U4.lkm
        have ja := bg.xr h4
        have pA := (hk.frmB ja q3)
        refine dOp 5 rfl rfl (by kernel_rfl) (oCall rfl call106 (integer_Sub pA U4 Qo Qo) rfl ?_)
        rintro _ Do ⟨w6, w7, w8, x0, dd, rfl, q6, U5, jb, de, up⟩
        refine ⟨(Frm.of_ext q6), ?_⟩
        have AC := q6.size
        have ⟨uq, ur, us⟩ := U5.lkm
        have bh := h4.trans q6
        have jc := (h1.ext bh)
        refine dOp 6 rfl rfl (by kernel_rfl) (oStore [(.bool gl), (.slice Al nl cl)] rfl rfl rfl sz25 rfl jc Qn (fun pB q7 AD O9 => ?_))
        replace O9 : Blk pB z 25 [(.bool gl), (.slice Al nl cl)] := O9
        refine ⟨(q7.mono q4), ?_⟩
        have jd := bh.rx q7
        have je := (h3.frm jd q1)
        refine dOp 7 rfl rfl (by kernel_rfl) (oStore [(.bool w6), (.slice w7 w8 x0)] rfl rfl rfl sz25 rfl je Qn (fun pC q8 AE P0 => ?_))
        replace P0 : Blk pC A 25 [(.bool w6), (.slice w7 w8 x0)] := P0
        refine ⟨(q8.mono q4), dDone (by kernel_rfl) ?_⟩
        have jf := (O9.frm q8 q1)
        have jg := q7.tr q8
        have pD := (U5.frmB jg q3)
        have jh := (((o.trans h4).trans q6).rx q7).tr q8
        exact ⟨rfl, _, rfl, (w6), (w7), (w8), (x0), (dd), rfl, rfl, rfl, rfl, rfl, rfl, rfl, rfl, (Frm.mono jh q4), jf, P0, (NatR.sub pD q5), (by rw [jb, iZ, L]), (de)⟩
       ·have ji := ((((((M.trans I).rx J).tr K).xr H).tr D).tr E).xr o
        have pE := (b2.frmB ji q3)
        have P1 := O.xr o
        have pF := (hl.frmB P1 q3)
        refine dWp (i := 4) rfl rfl (oCall rfl call33 (integer_Mul pE pF Qo) rfl ?_)
        rintro _ Dp ⟨ut, uu, uv, uw, ux, rfl, b0, x1, bi, uy, uz⟩
        refine ⟨(Frm.of_ext b0), ?_⟩
        have AF := b0.size
        have ⟨uA, uB, uC⟩ := x1.lkm
        refine dTwo 0 5 (by kernel_rfl) ?_ ?_
        ·have bj := (h3.ext b0)
         refine dWp (i := 0) rfl rfl (oEv (v := (.agg #[(.bool gl), (.slice Al nl cl)])) (evLoadAB [(.bool gl), (.slice Al nl cl)] agg25 sz25 rfl bj rfl) rfl ⟨Frm.refl _ _, ?_⟩)
         have jj := P1.xr b0
         have pG := (hk.frmB jj q3)
         refine dOp 5 rfl rfl (by kernel_rfl) (oCall rfl call106 (integer_Sub pG x1 Qo Qo) rfl ?_)
         rintro _ Dq ⟨x2, x3, x4, x5, df, rfl, h5, U6, jk, dg, uD⟩
         refine ⟨(Frm.of_ext h5), ?_⟩
         have AG := h5.size
         have ⟨uE, uF, uG⟩ := U6.lkm
         have jl := b0.trans h5
         have jm := (h1.ext jl)
         refine dOp 6 rfl rfl (by kernel_rfl) (oStore [(.bool gl), (.slice Al nl cl)] rfl rfl rfl sz25 rfl jm Qn (fun pH q9 AH P2 => ?_))
         replace P2 : Blk pH z 25 [(.bool gl), (.slice Al nl cl)] := P2
         refine ⟨(q9.mono q4), ?_⟩
         have jn := h5.rx q9
         have jo := (bj.frm jn q1)
         refine dOp 7 rfl rfl (by kernel_rfl) (oStore [(.bool x2), (.slice x3 x4 x5)] rfl rfl rfl sz25 rfl jo Qn (fun pI r0 AI P3 => ?_))
         replace P3 : Blk pI A 25 [(.bool x2), (.slice x3 x4 x5)] := P3
         refine ⟨(r0.mono q4), dDone (by kernel_rfl) ?_⟩
         have jp := (P2.frm r0 q1)
         have jq := q9.tr r0
         have pJ := (U6.frmB jq q3)
         have jr := (((o.trans b0).trans h5).rx q9).tr r0
         exact ⟨rfl, _, rfl, (x2), (x3), (x4), (x5), (df), rfl, rfl, rfl, rfl, rfl, rfl, rfl, rfl, (Frm.mono jr q4), jp, P3, (NatR.sub pJ q5), (by rw [jk, bi, L]), (dg)⟩
        ·have js := P1.xr b0
         have pK := (hk.frmB js q3)
         refine dWp (i := 5) rfl rfl (oCall rfl call106 (integer_Sub pK x1 Qo Qo) rfl ?_)
         rintro _ Dr ⟨x6, x7, x8, x9, dh, rfl, r1, U7, jt, dn, uH⟩
         refine ⟨(Frm.of_ext r1), ?_⟩
         have AJ := r1.size
         have ⟨uI, uJ, uK⟩ := U7.lkm
         have bk := b0.trans r1
         have bl := (h3.ext bk)
         refine dOp 0 rfl rfl (by kernel_rfl) (oEv (v := (.agg #[(.bool gl), (.slice Al nl cl)])) (evLoadAB [(.bool gl), (.slice Al nl cl)] agg25 sz25 rfl bl rfl) rfl ⟨Frm.refl _ _, ?_⟩)
         have ju := (h1.ext bk)
         refine dOp 6 rfl rfl (by kernel_rfl) (oStore [(.bool gl), (.slice Al nl cl)] rfl rfl rfl sz25 rfl ju Qn (fun pL r2 AK P4 => ?_))
         replace P4 : Blk pL z 25 [(.bool gl), (.slice Al nl cl)] := P4
         refine ⟨(r2.mono q4), ?_⟩
         have jv := (bl.frm r2 q1)
         refine dOp 7 rfl rfl (by kernel_rfl) (oStore [(.bool x6), (.slice x7 x8 x9)] rfl rfl rfl sz25 rfl jv Qn (fun pM r3 AL P5 => ?_))
         replace P5 : Blk pM A 25 [(.bool x6), (.slice x7 x8 x9)] := P5
         refine ⟨(r3.mono q4), dDone (by kernel_rfl) ?_⟩
         have jw := (P4.frm r3 q1)
         have jx := r2.tr r3
         have pN := (U7.frmB jx q3)
         have jy := (((o.trans b0).trans r1).rx r2).tr r3
         exact ⟨rfl, _, rfl, (x6), (x7), (x8), (x9), (dh), rfl, rfl, rfl, rfl, rfl, rfl, rfl, rfl, (Frm.mono jy q4), jw, P5, (NatR.sub pN q5), (by rw [jt, bi, L]), (dn)⟩
     ·have U := (p0.ext o)
      refine dWp (i := 3) rfl rfl (oEv (v := (.agg #[(.bool gl), (.slice Al nl cl)])) (evLoadAB [(.bool gl), (.slice Al nl cl)] agg25 sz25 rfl U rfl) rfl ⟨Frm.refl _ _, dThree 0 1 4 (by kernel_rfl) ?_ ?_ ?_⟩)
      ·refine dWp (i := 0) rfl rfl (oEv (v := (.agg #[(.bool gl), (.slice Al nl cl)])) (evLoadAB [(.bool gl), (.slice Al nl cl)] agg25 sz25 rfl U rfl) rfl ⟨Frm.refl _ _, dTwo 1 4 (by kernel_rfl) ?_ ?_⟩)
       ·have bm := (a9.ext o)
        refine dWp (i := 1) rfl rfl (oEv (v := (.agg #[(.bool gk), (.slice Ak nk ck)])) (evLoadAB [(.bool gk), (.slice Ak nk ck)] agg25 sz25 rfl bm rfl) rfl ⟨Frm.refl _ _, ?_⟩)
        have jz := ((((((M.trans I).rx J).tr K).xr H).tr D).tr E).xr o
        have pO := (b2.frmB jz q3)
        have bn := O.xr o
        have pP := (hl.frmB bn q3)
        refine dOp 4 rfl rfl (by kernel_rfl) (oCall rfl call33 (integer_Mul pO pP Qo) rfl ?_)
        rintro _ Ds ⟨uL, uM, uN, uO, uP, rfl, h6, U8, jA, uQ, uR⟩
        refine ⟨(Frm.of_ext h6), ?_⟩
        have AM := h6.size
        have ⟨uS, uT, uU⟩ := U8.lkm
        have jB := bn.xr h6
        have pQ := (hk.frmB jB q3)
        refine dOp 5 rfl rfl (by kernel_rfl) (oCall rfl call106 (integer_Sub pQ U8 Qo Qo) rfl ?_)
        rintro _ Dt ⟨y0, y1, y2, y3, dq, rfl, r4, U9, jC, dr, uV⟩
        refine ⟨(Frm.of_ext r4), ?_⟩
        have AN := r4.size
        have ⟨uW, uX, uY⟩ := U9.lkm
        have bo := h6.trans r4
        have jD := (bm.ext bo)
        refine dOp 6 rfl rfl (by kernel_rfl) (oStore [(.bool gl), (.slice Al nl cl)] rfl rfl rfl sz25 rfl jD Qn (fun pR r5 AO P6 => ?_))
        replace P6 : Blk pR z 25 [(.bool gl), (.slice Al nl cl)] := P6
        refine ⟨(r5.mono q4), ?_⟩
        have jE := bo.rx r5
        have jF := (U.frm jE q1)
        refine dOp 7 rfl rfl (by kernel_rfl) (oStore [(.bool y0), (.slice y1 y2 y3)] rfl rfl rfl sz25 rfl jF Qn (fun pS r6 AP P7 => ?_))
        replace P7 : Blk pS A 25 [(.bool y0), (.slice y1 y2 y3)] := P7
        refine ⟨(r6.mono q4), dDone (by kernel_rfl) ?_⟩
        have jG := (P6.frm r6 q1)
        have jH := r5.tr r6
        have pT := (U9.frmB jH q3)
        have jI := (((o.trans h6).trans r4).rx r5).tr r6
        exact ⟨rfl, _, rfl, (y0), (y1), (y2), (y3), (dq), rfl, rfl, rfl, rfl, rfl, rfl, rfl, rfl, (Frm.mono jI q4), jG, P7, (NatR.sub pT q5), (by rw [jC, jA, L]), (dr)⟩
       ·have jJ := ((((((M.trans I).rx J).tr K).xr H).tr D).tr E).xr o
        have pU := (b2.frmB jJ q3)
        have bp := O.xr o
        have pV := (hl.frmB bp q3)
        refine dWp (i := 4) rfl rfl (oCall rfl call33 (integer_Mul pU pV Qo) rfl ?_)
        rintro _ Du ⟨uZ, va, vb, vc, vd, rfl, h7, V0, jK, ve, vf⟩
        refine ⟨(Frm.of_ext h7), ?_⟩
        have AQ := h7.size
        have ⟨vg, vh, vi⟩ := V0.lkm
        have bq := o.trans h7
        have br := (a9.ext bq)
        refine dOp 1 rfl rfl (by kernel_rfl) (oEv (v := (.agg #[(.bool gk), (.slice Ak nk ck)])) (evLoadAB [(.bool gk), (.slice Ak nk ck)] agg25 sz25 rfl br rfl) rfl ⟨Frm.refl _ _, ?_⟩)
        have jL := bp.xr h7
        have pW := (hk.frmB jL q3)
        refine dOp 5 rfl rfl (by kernel_rfl) (oCall rfl call106 (integer_Sub pW V0 Qo Qo) rfl ?_)
        rintro _ Dv ⟨y4, y5, y6, y7, ds, rfl, h8, V1, jM, du, vj⟩
        refine ⟨(Frm.of_ext h8), ?_⟩
        have AR := h8.size
        have ⟨vk, vl, vm⟩ := V1.lkm
        have jN := (br.ext h8)
        refine dOp 6 rfl rfl (by kernel_rfl) (oStore [(.bool gl), (.slice Al nl cl)] rfl rfl rfl sz25 rfl jN Qn (fun pX r7 AS P8 => ?_))
        replace P8 : Blk pX z 25 [(.bool gl), (.slice Al nl cl)] := P8
        refine ⟨(r7.mono q4), ?_⟩
        have jO := (h7.trans h8).rx r7
        have jP := (U.frm jO q1)
        refine dOp 7 rfl rfl (by kernel_rfl) (oStore [(.bool y4), (.slice y5 y6 y7)] rfl rfl rfl sz25 rfl jP Qn (fun pY r8 AT P9 => ?_))
        replace P9 : Blk pY A 25 [(.bool y4), (.slice y5 y6 y7)] := P9
        refine ⟨(r8.mono q4), dDone (by kernel_rfl) ?_⟩
        have jQ := (P8.frm r8 q1)
        have jR := r7.tr r8
        have pZ := (V1.frmB jR q3)
        have jS := ((bq.trans h8).rx r7).tr r8
        exact ⟨rfl, _, rfl, (y4), (y5), (y6), (y7), (ds), rfl, rfl, rfl, rfl, rfl, rfl, rfl, rfl, (Frm.mono jS q4), jQ, P9, (NatR.sub pZ q5), (by rw [jM, jK, L]), (du)⟩
      ·have r9 := (a9.ext o)
       refine dWp (i := 1) rfl rfl (oEv (v := (.agg #[(.bool gk), (.slice Ak nk ck)])) (evLoadAB [(.bool gk), (.slice Ak nk ck)] agg25 sz25 rfl r9 rfl) rfl ⟨Frm.refl _ _, dTwo 0 4 (by kernel_rfl) ?_ ?_⟩)
       ·refine dWp (i := 0) rfl rfl (oEv (v := (.agg #[(.bool gl), (.slice Al nl cl)])) (evLoadAB [(.bool gl), (.slice Al nl cl)] agg25 sz25 rfl U rfl) rfl ⟨Frm.refl _ _, ?_⟩)
        have jT := ((((((M.trans I).rx J).tr K).xr H).tr D).tr E).xr o
        have qa := (b2.frmB jT q3)
        have bs := O.xr o
        have qb := (hl.frmB bs q3)
        refine dOp 4 rfl rfl (by kernel_rfl) (oCall rfl call33 (integer_Mul qa qb Qo) rfl ?_)
        rintro _ Dw ⟨vn, vo, vp, vq, vr, rfl, h9, V2, jU, vs, vt⟩
        refine ⟨(Frm.of_ext h9), ?_⟩
        have AU := h9.size
        have ⟨vu, vv, vw⟩ := V2.lkm
        have jV := bs.xr h9
        have qc := (hk.frmB jV q3)
        refine dOp 5 rfl rfl (by kernel_rfl) (oCall rfl call106 (integer_Sub qc V2 Qo Qo) rfl ?_)
        rintro _ Dx ⟨y8, y9, z0, z1, dv, rfl, s0, V3, jW, dw, vx⟩
        refine ⟨(Frm.of_ext s0), ?_⟩
        have AV := s0.size
        have ⟨vy, vz, vA⟩ := V3.lkm
        have bt := h9.trans s0
        have jX := (r9.ext bt)
        refine dOp 6 rfl rfl (by kernel_rfl) (oStore [(.bool gl), (.slice Al nl cl)] rfl rfl rfl sz25 rfl jX Qn (fun qd s1 AW Q0 => ?_))
        replace Q0 : Blk qd z 25 [(.bool gl), (.slice Al nl cl)] := Q0
        refine ⟨(s1.mono q4), ?_⟩
        have jY := bt.rx s1
        have jZ := (U.frm jY q1)
        refine dOp 7 rfl rfl (by kernel_rfl) (oStore [(.bool y8), (.slice y9 z0 z1)] rfl rfl rfl sz25 rfl jZ Qn (fun qe s2 AX Q1 => ?_))
        replace Q1 : Blk qe A 25 [(.bool y8), (.slice y9 z0 z1)] := Q1
        refine ⟨(s2.mono q4), dDone (by kernel_rfl) ?_⟩
        have kc := (Q0.frm s2 q1)
        have kd := s1.tr s2
        have qf := (V3.frmB kd q3)
        have ke := (((o.trans h9).trans s0).rx s1).tr s2
        exact ⟨rfl, _, rfl, (y8), (y9), (z0), (z1), (dv), rfl, rfl, rfl, rfl, rfl, rfl, rfl, rfl, (Frm.mono ke q4), kc, Q1, (NatR.sub qf q5), (by rw [jW, jU, L]), (dw)⟩
       ·have kf := ((((((M.trans I).rx J).tr K).xr H).tr D).tr E).xr o
        have qg := (b2.frmB kf q3)
        have Q2 := O.xr o
        have qh := (hl.frmB Q2 q3)
        refine dWp (i := 4) rfl rfl (oCall rfl call33 (integer_Mul qg qh Qo) rfl ?_)
        rintro _ Dy ⟨vB, vC, vD, vE, vF, rfl, b1, z2, bu, vG, vH⟩
        refine ⟨(Frm.of_ext b1), ?_⟩
        have AY := b1.size
        have ⟨vI, vJ, vK⟩ := z2.lkm
        refine dTwo 0 5 (by kernel_rfl) ?_ ?_
        ·have bv := (U.ext b1)
         refine dWp (i := 0) rfl rfl (oEv (v := (.agg #[(.bool gl), (.slice Al nl cl)])) (evLoadAB [(.bool gl), (.slice Al nl cl)] agg25 sz25 rfl bv rfl) rfl ⟨Frm.refl _ _, ?_⟩)
         have kg := Q2.xr b1
         have qi := (hk.frmB kg q3)
         refine dOp 5 rfl rfl (by kernel_rfl) (oCall rfl call106 (integer_Sub qi z2 Qo Qo) rfl ?_)
         rintro _ Dz ⟨z3, z4, z5, z6, dz, rfl, i0, V4, kh, dA, vL⟩
         refine ⟨(Frm.of_ext i0), ?_⟩
         have AZ := i0.size
         have ⟨vM, vN, vO⟩ := V4.lkm
         have kn := b1.trans i0
         have ko := (r9.ext kn)
         refine dOp 6 rfl rfl (by kernel_rfl) (oStore [(.bool gl), (.slice Al nl cl)] rfl rfl rfl sz25 rfl ko Qn (fun qj s3 Ba Q3 => ?_))
         replace Q3 : Blk qj z 25 [(.bool gl), (.slice Al nl cl)] := Q3
         refine ⟨(s3.mono q4), ?_⟩
         have kq := i0.rx s3
         have kr := (bv.frm kq q1)
         refine dOp 7 rfl rfl (by kernel_rfl) (oStore [(.bool z3), (.slice z4 z5 z6)] rfl rfl rfl sz25 rfl kr Qn (fun qk s4 Bb Q4 => ?_))
         replace Q4 : Blk qk A 25 [(.bool z3), (.slice z4 z5 z6)] := Q4
         refine ⟨(s4.mono q4), dDone (by kernel_rfl) ?_⟩
         have ks := (Q3.frm s4 q1)
         have kt := s3.tr s4
         have ql := (V4.frmB kt q3)
         have ku := (((o.trans b1).trans i0).rx s3).tr s4
         exact ⟨rfl, _, rfl, (z3), (z4), (z5), (z6), (dz), rfl, rfl, rfl, rfl, rfl, rfl, rfl, rfl, (Frm.mono ku q4), ks, Q4, (NatR.sub ql q5), (by rw [kh, bu, L]), (dA)⟩
        ·have kv := Q2.xr b1
         have qm := (hk.frmB kv q3)
         refine dWp (i := 5) rfl rfl (oCall rfl call106 (integer_Sub qm z2 Qo Qo) rfl ?_)
         rintro _ DA ⟨z7, z8, z9, A0, dB, rfl, s5, V5, kw, dC, vP⟩
         refine ⟨(Frm.of_ext s5), ?_⟩
         have Bc := s5.size
         have ⟨vQ, vR, vS⟩ := V5.lkm
         have bw := b1.trans s5
         have bz := (U.ext bw)
         refine dOp 0 rfl rfl (by kernel_rfl) (oEv (v := (.agg #[(.bool gl), (.slice Al nl cl)])) (evLoadAB [(.bool gl), (.slice Al nl cl)] agg25 sz25 rfl bz rfl) rfl ⟨Frm.refl _ _, ?_⟩)
         have kx := (r9.ext bw)
         refine dOp 6 rfl rfl (by kernel_rfl) (oStore [(.bool gl), (.slice Al nl cl)] rfl rfl rfl sz25 rfl kx Qn (fun qn s6 Bd Q5 => ?_))
         replace Q5 : Blk qn z 25 [(.bool gl), (.slice Al nl cl)] := Q5
         refine ⟨(s6.mono q4), ?_⟩
         have ky := (bz.frm s6 q1)
         refine dOp 7 rfl rfl (by kernel_rfl) (oStore [(.bool z7), (.slice z8 z9 A0)] rfl rfl rfl sz25 rfl ky Qn (fun qo s7 Be Q6 => ?_))
         replace Q6 : Blk qo A 25 [(.bool z7), (.slice z8 z9 A0)] := Q6
         refine ⟨(s7.mono q4), dDone (by kernel_rfl) ?_⟩
         have kz := (Q5.frm s7 q1)
         have kA := s6.tr s7
         have qp := (V5.frmB kA q3)
         have kB := (((o.trans b1).trans s5).rx s6).tr s7
         exact ⟨rfl, _, rfl, (z7), (z8), (z9), (A0), (dB), rfl, rfl, rfl, rfl, rfl, rfl, rfl, rfl, (Frm.mono kB q4), kz, Q6, (NatR.sub qp q5), (by rw [kw, bu, L]), (dC)⟩
      ·have kC := ((((((M.trans I).rx J).tr K).xr H).tr D).tr E).xr o
       have qq := (b2.frmB kC q3)
       have s8 := O.xr o
       have qr := (hl.frmB s8 q3)
       refine dWp (i := 4) rfl rfl (oCall rfl call33 (integer_Mul qq qr Qo) rfl ?_)
       rintro _ DB ⟨vT, vU, vV, vW, vX, rfl, Z, i1, Q7, vY, vZ⟩
       refine ⟨(Frm.of_ext Z), ?_⟩
       have Bf := Z.size
       have ⟨wa, wb, wc⟩ := i1.lkm
       refine dTwo 0 1 (by kernel_rfl) ?_ ?_
       ·have bA := (U.ext Z)
        refine dWp (i := 0) rfl rfl (oEv (v := (.agg #[(.bool gl), (.slice Al nl cl)])) (evLoadAB [(.bool gl), (.slice Al nl cl)] agg25 sz25 rfl bA rfl) rfl ⟨Frm.refl _ _, ?_⟩)
        have bB := o.trans Z
        have bC := (a9.ext bB)
        refine dOp 1 rfl rfl (by kernel_rfl) (oEv (v := (.agg #[(.bool gk), (.slice Ak nk ck)])) (evLoadAB [(.bool gk), (.slice Ak nk ck)] agg25 sz25 rfl bC rfl) rfl ⟨Frm.refl _ _, ?_⟩)
        have kD := s8.xr Z
        have qs := (hk.frmB kD q3)
        refine dOp 5 rfl rfl (by kernel_rfl) (oCall rfl call106 (integer_Sub qs i1 Qo Qo) rfl ?_)
        rintro _ DC ⟨A1, A2, A3, A4, dD, rfl, i2, V6, kE, dE, wd⟩
        refine ⟨(Frm.of_ext i2), ?_⟩
        have Bg := i2.size
        have ⟨we, wf, wg⟩ := V6.lkm
        have kF := (bC.ext i2)
        refine dOp 6 rfl rfl (by kernel_rfl) (oStore [(.bool gl), (.slice Al nl cl)] rfl rfl rfl sz25 rfl kF Qn (fun qt s9 Bh Q8 => ?_))
        replace Q8 : Blk qt z 25 [(.bool gl), (.slice Al nl cl)] := Q8
        refine ⟨(s9.mono q4), ?_⟩
        have kG := i2.rx s9
        have kH := (bA.frm kG q1)
        refine dOp 7 rfl rfl (by kernel_rfl) (oStore [(.bool A1), (.slice A2 A3 A4)] rfl rfl rfl sz25 rfl kH Qn (fun qu t0 Bi Q9 => ?_))
        replace Q9 : Blk qu A 25 [(.bool A1), (.slice A2 A3 A4)] := Q9
        refine ⟨(t0.mono q4), dDone (by kernel_rfl) ?_⟩
        have kI := (Q8.frm t0 q1)
        have kJ := s9.tr t0
        have qv := (V6.frmB kJ q3)
        have kK := ((bB.trans i2).rx s9).tr t0
        exact ⟨rfl, _, rfl, (A1), (A2), (A3), (A4), (dD), rfl, rfl, rfl, rfl, rfl, rfl, rfl, rfl, (Frm.mono kK q4), kI, Q9, (NatR.sub qv q5), (by rw [kE, Q7, L]), (dE)⟩
       ·have R0 := o.trans Z
        have R1 := (a9.ext R0)
        refine dWp (i := 1) rfl rfl (oEv (v := (.agg #[(.bool gk), (.slice Ak nk ck)])) (evLoadAB [(.bool gk), (.slice Ak nk ck)] agg25 sz25 rfl R1 rfl) rfl ⟨Frm.refl _ _, dTwo 0 5 (by kernel_rfl) ?_ ?_⟩)
        ·have bD := (U.ext Z)
         refine dWp (i := 0) rfl rfl (oEv (v := (.agg #[(.bool gl), (.slice Al nl cl)])) (evLoadAB [(.bool gl), (.slice Al nl cl)] agg25 sz25 rfl bD rfl) rfl ⟨Frm.refl _ _, ?_⟩)
         have kL := s8.xr Z
         have qw := (hk.frmB kL q3)
         refine dOp 5 rfl rfl (by kernel_rfl) (oCall rfl call106 (integer_Sub qw i1 Qo Qo) rfl ?_)
         rintro _ DD ⟨A5, A6, A7, A8, dG, rfl, i3, V7, kM, dH, wh⟩
         refine ⟨(Frm.of_ext i3), ?_⟩
         have Bj := i3.size
         have ⟨wi, wj, wk⟩ := V7.lkm
         have kN := (R1.ext i3)
         refine dOp 6 rfl rfl (by kernel_rfl) (oStore [(.bool gl), (.slice Al nl cl)] rfl rfl rfl sz25 rfl kN Qn (fun qx t1 Bk R2 => ?_))
         replace R2 : Blk qx z 25 [(.bool gl), (.slice Al nl cl)] := R2
         refine ⟨(t1.mono q4), ?_⟩
         have kO := i3.rx t1
         have kP := (bD.frm kO q1)
         refine dOp 7 rfl rfl (by kernel_rfl) (oStore [(.bool A5), (.slice A6 A7 A8)] rfl rfl rfl sz25 rfl kP Qn (fun qy t2 Bl R3 => ?_))
         replace R3 : Blk qy A 25 [(.bool A5), (.slice A6 A7 A8)] := R3
         refine ⟨(t2.mono q4), dDone (by kernel_rfl) ?_⟩
         have kQ := (R2.frm t2 q1)
         have kR := t1.tr t2
         have qz := (V7.frmB kR q3)
         have kS := ((R0.trans i3).rx t1).tr t2
         exact ⟨rfl, _, rfl, (A5), (A6), (A7), (A8), (dG), rfl, rfl, rfl, rfl, rfl, rfl, rfl, rfl, (Frm.mono kS q4), kQ, R3, (NatR.sub qz q5), (by rw [kM, Q7, L]), (dH)⟩
        ·have kT := s8.xr Z
         have qA := (hk.frmB kT q3)
         refine dWp (i := 5) rfl rfl (oCall rfl call106 (integer_Sub qA i1 Qo Qo) rfl ?_)
         rintro _ DE ⟨A9, B0, B1, B2, dI, rfl, i4, V8, kU, dJ, wl⟩
         refine ⟨(Frm.of_ext i4), ?_⟩
         have Bm := i4.size
         have ⟨wm, wn, wo⟩ := V8.lkm
         have kV := Z.trans i4
         have bF := (U.ext kV)
         refine dOp 0 rfl rfl (by kernel_rfl) (oEv (v := (.agg #[(.bool gl), (.slice Al nl cl)])) (evLoadAB [(.bool gl), (.slice Al nl cl)] agg25 sz25 rfl bF rfl) rfl ⟨Frm.refl _ _, ?_⟩)
         have kW := (R1.ext i4)
         refine dOp 6 rfl rfl (by kernel_rfl) (oStore [(.bool gl), (.slice Al nl cl)] rfl rfl rfl sz25 rfl kW Qn (fun qB t3 Bn R4 => ?_))
         replace R4 : Blk qB z 25 [(.bool gl), (.slice Al nl cl)] := R4
         refine ⟨(t3.mono q4), ?_⟩
         have kX := (bF.frm t3 q1)
         refine dOp 7 rfl rfl (by kernel_rfl) (oStore [(.bool A9), (.slice B0 B1 B2)] rfl rfl rfl sz25 rfl kX Qn (fun qC t4 Bo R5 => ?_))
         replace R5 : Blk qC A 25 [(.bool A9), (.slice B0 B1 B2)] := R5
         refine ⟨(t4.mono q4), dDone (by kernel_rfl) ?_⟩
         have kY := (R4.frm t4 q1)
         have kZ := t3.tr t4
         have qD := (V8.frmB kZ q3)
         have lc := ((R0.trans i4).rx t3).tr t4
         exact ⟨rfl, _, rfl, (A9), (B0), (B1), (B2), (dI), rfl, rfl, rfl, rfl, rfl, rfl, rfl, rfl, (Frm.mono lc q4), kY, R5, (NatR.sub qD q5), (by rw [kU, Q7, L]), (dJ)⟩
    ·rintro DF DG ⟨gm, Am, nm, cm, dm, ld, le, lf, lg, lh, ln, lo, lq, f7, lr, ls, hmN, hvm, hcm⟩
     obtain ⟨DH, rfl⟩ := sq8 ld le lf lg lh ln lo lq
     have Bp := f7.size
     have ⟨lm, km, mm⟩ := hmN.lkm
     refine bN ?_
     have bG := O.tr f7
     have lu := (ic.frm f7 q1)
     have lv := (N9.frm f7 q1)
     have lw := ((N7.tr D).tr E).tr f7
     have qE := (cQ.frmB lw q3)
     have lx := ((((((M.trans I).rx J).tr K).xr H).tr D).tr E).tr f7
     have qF := (oU.frmB lx q3)
     have qG := (hl.frmB bG q3)
     refine again ((zval (T) (T2)).natAbs) Qo ⟨(gj), (Aj), (nj), (cj), (dj), (T), (a1), (a2), (a3), (T2), (gl), (Al), (nl), (cl), (dl), (gm), (Am), (nm), (cm), (dm), rfl, rfl, rfl, rfl, rfl, rfl, rfl, rfl, rfl, (Frm.mono (a8.tr bG) q4), ?_, ?_, ?_, ?_, ?_, ?_, ?_, ?_, ?_, ?_, ?_, ?_⟩
     ·exact lu
     ·exact lv
     ·exact lr
     ·exact ls
     ·exact NatR.sub qE q5
     ·exact NatR.sub qF q5
     ·exact NatR.sub qG q5
     ·exact NatR.sub hmN q5
     ·omega
     ·exact hcl
     ·exact hcm
     ·rw [aS, hvm]; exact hXg.step oi
   ·refine cF rfl (wp_exit (xE (xE (bE (xN (hE _ _ (wp_seq_k fun DI bH => wp_seq_k fun DJ bI => ?_)))))))
    have wp : zval gj dj = 0 := of_decide_eq_true aP.symm
    have oj : (zval gi di).natAbs = 1 := (wp ▸ hXg).done
    refine wp_region_lit ?_
    have R6 := (aO.ext G)
    refine sV (evLoadAB [(.bool gi), (.slice Ai ni ci)] agg25 sz25 rfl R6 rfl) ?_
    have B3 := (hi.ext G)
    refine sO (oCall rfl call29 (integer_Sign B3) rfl ?_)
    rintro _ B4 ⟨dK, rfl, N, ly⟩
    have Bq := N.size
    have hsg := sgn_rng ly
    by_cases bJ : dK < 0
    ·refine sV (evLss true rfl rfl (dT bJ)) (sK bI (cT rfl ?_))
     have t5 := ((((o5.rx R).tr S).tr a8).xr G).xr N
     have lz := (L4.frm t5 q1)
     have lA := (L5.frm t5 q1)
     have lB := (ay.frm t5 q1)
     have f8 := G.trans N
     have R7 := (N3.ext f8)
     have lC := (az.frm t5 q1)
     have bK := (R6.ext N)
     have lD := (o7.ext f8)
     have lE := (N4.ext f8)
     refine wpJoin (dfs := []) (n := 82) (fun e w_ => ∃ (gm : Bool) (Am : Option Addr) (nm : Nat) (cm : Nat) (dm : List Nat) (gp : Bool) (Ap : Option Addr) (np : Nat) (cp : Nat) (dp : List Nat), e 2 = (.pointer (some ⟨g2, 0, none⟩)) ∧ e 3 = (.pointer (some ⟨g8, 0, none⟩)) ∧ e 4 = (.pointer (some ⟨Q, 0, none⟩)) ∧ e 5 = (.pointer (some ⟨z, 0, none⟩)) ∧ e 6 = (.pointer (some ⟨F, 0, none⟩)) ∧ e 7 = (.pointer (some ⟨b7, 0, none⟩)) ∧ Frm (fun b => b = b7 ∨ b = z) B4 w_ ∧ Blk w_ b7 25 ([.bool gm, .slice Am nm cm]) ∧ Blk w_ z 25 ([.bool gp, .slice Ap np cp]) ∧ (NatR w_ (fun b => B4.heap.size ≤ b) Am nm cm dm) ∧ (NatR w_ (fun b => B4.heap.size ≤ b) Ap np cp dp) ∧ (zval gm dm = -zval gi di) ∧ (zval gp dp = -zval gk dk) ∧ (nm ≤ ni + 1 ∧ np ≤ nk + 1)) ?_ ?_
     ·refine dBegin (fun b => b = b7 ∨ b = z) mixed (fun DK P Br => dTwo 0 2 (by kernel_rfl) ?_ ?_)
      ·have R8 := (bK.ext P)
       refine dWp (i := 0) rfl rfl (oEv (v := (.agg #[(.bool gi), (.slice Ai ni ci)])) (evLoadAB [(.bool gi), (.slice Ai ni ci)] agg25 sz25 rfl R8 rfl) rfl ⟨Frm.refl _ _, dTwo 1 2 (by kernel_rfl) ?_ ?_⟩)
       ·have lF := N.trans P
        have qH := (B3.ext lF)
        refine dWp (i := 1) rfl rfl (oCall rfl call123 (integer_Neg qH Qo) rfl ?_)
        rintro _ DL ⟨B5, B6, B7, B8, dL, rfl, i5, V9, lG, wq, wr⟩
        refine ⟨(Frm.of_ext i5), ?_⟩
        have Bs := i5.size
        have ⟨ws, wt, wu⟩ := V9.lkm
        have bL := P.trans i5
        have bM := (R7.ext bL)
        refine dOp 2 rfl rfl (by kernel_rfl) (oEv (v := (.agg #[(.bool gk), (.slice Ak nk ck)])) (evLoadAB [(.bool gk), (.slice Ak nk ck)] agg25 sz25 rfl bM rfl) rfl ⟨Frm.refl _ _, ?_⟩)
        have lH := (f8.trans P).trans i5
        have qI := (hk.ext lH)
        refine dOp 3 rfl rfl (by kernel_rfl) (oCall rfl call123 (integer_Neg qI Qo) rfl ?_)
        rintro _ DM ⟨B9, C0, C1, C2, dM, rfl, i6, W0, lI, wv, ww⟩
        refine ⟨(Frm.of_ext i6), ?_⟩
        have Bt := i6.size
        have ⟨wx, wy, wz⟩ := W0.lkm
        have lJ := i5.trans i6
        have lK := (R8.ext lJ)
        refine dOp 4 rfl rfl (by kernel_rfl) (oStore [(.bool B5), (.slice B6 B7 B8)] rfl rfl rfl sz25 rfl lK Qn (fun qJ t6 Bu R9 => ?_))
        replace R9 : Blk qJ b7 25 [(.bool B5), (.slice B6 B7 B8)] := R9
        refine ⟨(t6.mono q4), ?_⟩
        have bO := i6.rx t6
        have lL := (bM.frm bO q1)
        refine dOp 5 rfl rfl (by kernel_rfl) (oStore [(.bool B9), (.slice C0 C1 C2)] rfl rfl rfl sz25 rfl lL Qn (fun qK i7 Bv S0 => ?_))
        replace S0 : Blk qK z 25 [(.bool B9), (.slice C0 C1 C2)] := S0
        refine ⟨(i7.mono q4), dDone (by kernel_rfl) ?_⟩
        have lM := (R9.frm i7 q1)
        have lN := bO.tr i7
        have qL := (V9.frmB lN q3)
        have lO := t6.tr i7
        have qM := (W0.frmB lO q3)
        have lP := ((bL.trans i6).rx t6).tr i7
        exact ⟨rfl, _, rfl, (B5), (B6), (B7), (B8), (dL), (B9), (C0), (C1), (C2), (dM), rfl, rfl, rfl, rfl, rfl, rfl, (Frm.mono lP q4), lM, S0, (NatR.sub qL q5), (NatR.sub qM q5), (lG), (lI), Qo⟩
       ·have bP := (R7.ext P)
        refine dWp (i := 2) rfl rfl (oEv (v := (.agg #[(.bool gk), (.slice Ak nk ck)])) (evLoadAB [(.bool gk), (.slice Ak nk ck)] agg25 sz25 rfl bP rfl) rfl ⟨Frm.refl _ _, ?_⟩)
        have lQ := N.trans P
        have qN := (B3.ext lQ)
        refine dOp 1 rfl rfl (by kernel_rfl) (oCall rfl call123 (integer_Neg qN Qo) rfl ?_)
        rintro _ DN ⟨C3, C4, C5, C6, dN, rfl, i8, W1, lR, wA, wB⟩
        refine ⟨(Frm.of_ext i8), ?_⟩
        have Bw := i8.size
        have ⟨wC, wD, wE⟩ := W1.lkm
        have lS := (f8.trans P).trans i8
        have qO := (hk.ext lS)
        refine dOp 3 rfl rfl (by kernel_rfl) (oCall rfl call123 (integer_Neg qO Qo) rfl ?_)
        rintro _ DO ⟨C7, C8, C9, D0, dO, rfl, i9, W2, lT, wF, wG⟩
        refine ⟨(Frm.of_ext i9), ?_⟩
        have Bx := i9.size
        have ⟨wH, wI, wJ⟩ := W2.lkm
        have bQ := i8.trans i9
        have lU := (R8.ext bQ)
        refine dOp 4 rfl rfl (by kernel_rfl) (oStore [(.bool C3), (.slice C4 C5 C6)] rfl rfl rfl sz25 rfl lU Qn (fun qP j0 By S1 => ?_))
        replace S1 : Blk qP b7 25 [(.bool C3), (.slice C4 C5 C6)] := S1
        refine ⟨(j0.mono q4), ?_⟩
        have lV := bQ.rx j0
        have lW := (bP.frm lV q1)
        refine dOp 5 rfl rfl (by kernel_rfl) (oStore [(.bool C7), (.slice C8 C9 D0)] rfl rfl rfl sz25 rfl lW Qn (fun qQ j1 Bz S2 => ?_))
        replace S2 : Blk qQ z 25 [(.bool C7), (.slice C8 C9 D0)] := S2
        refine ⟨(j1.mono q4), dDone (by kernel_rfl) ?_⟩
        have lX := (S1.frm j1 q1)
        have lY := (i9.rx j0).tr j1
        have qR := (W1.frmB lY q3)
        have lZ := j0.tr j1
        have qS := (W2.frmB lZ q3)
        have mc := (((P.trans i8).trans i9).rx j0).tr j1
        exact ⟨rfl, _, rfl, (C3), (C4), (C5), (C6), (dN), (C7), (C8), (C9), (D0), (dO), rfl, rfl, rfl, rfl, rfl, rfl, (Frm.mono mc q4), lX, S2, (NatR.sub qR q5), (NatR.sub qS q5), (lR), (lT), Qo⟩
      ·have bR := (R7.ext P)
       refine dWp (i := 2) rfl rfl (oEv (v := (.agg #[(.bool gk), (.slice Ak nk ck)])) (evLoadAB [(.bool gk), (.slice Ak nk ck)] agg25 sz25 rfl bR rfl) rfl ⟨Frm.refl _ _, ?_⟩)
       have bS := (bK.ext P)
       refine dOp 0 rfl rfl (by kernel_rfl) (oEv (v := (.agg #[(.bool gi), (.slice Ai ni ci)])) (evLoadAB [(.bool gi), (.slice Ai ni ci)] agg25 sz25 rfl bS rfl) rfl ⟨Frm.refl _ _, ?_⟩)
       have md := N.trans P
       have qT := (B3.ext md)
       refine dOp 1 rfl rfl (by kernel_rfl) (oCall rfl call123 (integer_Neg qT Qo) rfl ?_)
       rintro _ DP ⟨D1, D2, D3, D4, dP, rfl, j2, W3, me, wK, wL⟩
       refine ⟨(Frm.of_ext j2), ?_⟩
       have BA := j2.size
       have ⟨wM, wN, wO⟩ := W3.lkm
       have mf := (f8.trans P).trans j2
       have qU := (hk.ext mf)
       refine dOp 3 rfl rfl (by kernel_rfl) (oCall rfl call123 (integer_Neg qU Qo) rfl ?_)
       rintro _ DQ ⟨D5, D6, D7, D8, dQ, rfl, j3, W4, mg, wP, wQ⟩
       refine ⟨(Frm.of_ext j3), ?_⟩
       have BB := j3.size
       have ⟨wR, wS, wT⟩ := W4.lkm
       have bT := j2.trans j3
       have mh := (bS.ext bT)
       refine dOp 4 rfl rfl (by kernel_rfl) (oStore [(.bool D1), (.slice D2 D3 D4)] rfl rfl rfl sz25 rfl mh Qn (fun qV j4 BC S3 => ?_))
       replace S3 : Blk qV b7 25 [(.bool D1), (.slice D2 D3 D4)] := S3
       refine ⟨(j4.mono q4), ?_⟩
       have mn := bT.rx j4
       have mo := (bR.frm mn q1)
       refine dOp 5 rfl rfl (by kernel_rfl) (oStore [(.bool D5), (.slice D6 D7 D8)] rfl rfl rfl sz25 rfl mo Qn (fun qW j5 BD S4 => ?_))
       replace S4 : Blk qW z 25 [(.bool D5), (.slice D6 D7 D8)] := S4
       refine ⟨(j5.mono q4), dDone (by kernel_rfl) ?_⟩
       have mq := (S3.frm j5 q1)
       have mr := (j3.rx j4).tr j5
       have qX := (W3.frmB mr q3)
       have ms := j4.tr j5
       have qY := (W4.frmB ms q3)
       have mt := (((P.trans j2).trans j3).rx j4).tr j5
       exact ⟨rfl, _, rfl, (D1), (D2), (D3), (D4), (dP), (D5), (D6), (D7), (D8), (dQ), rfl, rfl, rfl, rfl, rfl, rfl, (Frm.mono mt q4), mq, S4, (NatR.sub qX q5), (NatR.sub qY q5), (me), (mg), Qo⟩
     ·rintro DR dR ⟨gm, Am, nm, cm, dm, gp, Ap, np, cp, dp, mu, mv, mw, mx, my, mz, j6, bU, mA, hmN, hpN, hvm, hvp, hlm⟩
      obtain ⟨DS, rfl⟩ := sq6 mu mv mw mx my mz
      have BE := j6.size
      have ⟨lm, km, mm⟩ := hmN.lkm; have ⟨lp, kp, mp⟩ := hpN.lkm
      refine xN (bH _ _ (wp_seq_k fun DT mB => ?_))
      have ⟨dS, dU⟩ := xg_neg hXg.cx oj Qo hvm hvp
      refine wp_region_lit ?_
      have bV := (lA.frm j6 q1)
      refine sV (evLoadAB [(.bool gb), (.slice Ab nb cb)] agg25 sz25 rfl bV rfl) (sV (evLoadAB [(.bool gm), (.slice Am nm cm)] agg25 sz25 rfl bU rfl) ?_)
      have mC := (((((((((a7.trans f5).trans c9).trans b6).trans b9).rx R).tr S).tr a8).xr G).xr N).tr j6
      have dW := (aC.frmB mC q3)
      refine sO (oCall rfl call109 (division_Quo dW hmN Qo Qo Qo) rfl ?_)
      rintro _ dX ⟨b3, d8, d9, e0, W5, j7, j8, j9, k0, wU, W6, rfl, t7, W7, W8, mD, BF, rv, ry, wV, rz, rA⟩
      have BG := t7.size
      have ⟨wW, wX, wY⟩ := W7.lkm
      have ⟨wZ, xa, xb⟩ := W8.lkm
      have qZ := W7.sub (S' := fun b => (dR.heap.size ≤ b) ∧ b < dX.heap.size) fun _ hb hs => ⟨hs, hb⟩
      have DU := W8.sub (S' := fun b => (dR.heap.size ≤ b) ∧ b < dX.heap.size) fun _ hb hs => ⟨hs, hb⟩
      have hpe : zval b3 W5 = (zval gb db).tdiv 1 := by rw [mD, dS]
      have hpz : zval b3 W5 ≠ 0 := by rw [hpe, Int.tdiv_one]; exact hb0
      refine sV (v := (.tuple #[(.agg #[(.bool b3), (.slice d8 d9 e0)]), (.agg #[(.bool j7), (.slice j8 j9 k0)]), (.int .i64 (W6))])) (rfl) (sV (v := (.agg #[(.bool b3), (.slice d8 d9 e0)])) (rfl) (sV (v := (.agg #[(.bool j7), (.slice j8 j9 k0)])) (rfl) (sV (v := (.int .i64 (W6))) (rfl) (sO (oAlloc [(.bool false), (.slice none 0 0)] zero25 rfl (fun ra DV BH t8 BI mE => sO (oAlloc [(.bool false), (.slice none 0 0)] zero25 rfl (fun rb DW BJ k1 BK mF => ?_))))))))
      have mG := (mE.ext k1)
      refine sO (oStore [(.bool b3), (.slice d8 d9 e0)] rfl rfl rfl sz25 rfl mG Qn (fun rc k2 BL S5 => ?_))
      replace S5 : Blk rc ra 25 [(.bool b3), (.slice d8 d9 e0)] := S5
      have mH := (mF.frm k2 q1)
      refine sO (oStore [(.bool j7), (.slice j8 j9 k0)] rfl rfl rfl sz25 rfl mH Qn (fun rd k3 BM S6 => ?_))
      replace S6 : Blk rd rb 25 [(.bool j7), (.slice j8 j9 k0)] := S6
      refine sAi rfl (sK mB (rS fun DX mI => ?_))
      have S7 := (((t7.trans t8).trans k1).rx k2).tr k3
      have bW := (mA.frm S7 q1)
      refine sV (evLoadAB [(.bool gp), (.slice Ap np cp)] agg25 sz25 rfl bW rfl) ?_
      have bX := (S5.frm k3 q1)
      refine sV (evLoadAB [(.bool b3), (.slice d8 d9 e0)] agg25 sz25 rfl bX rfl) ?_
      have re := (hpN.frmB S7 q3)
      have mJ := ((t8.trans k1).rx k2).tr k3
      have rf := (qZ.frmB mJ q3)
      refine sO (oCall rfl call70 (division_Symmetric re rf Qo Qo Qo) rfl ?_)
      rintro _ DY ⟨t, u, x, y, dY, W9, rfl, f9, X0, mK, xc, xd, xe⟩
      have BN := f9.size
      have ⟨xf, xg, xh⟩ := X0.lkm
      have ⟨hxx, hxs⟩ := (xg_fin hpe dU mK).resolve_right hb0
      refine sV (v := (.tuple #[(.agg #[(.bool t), (.slice u x y)]), (.int .i64 (W9))])) (rfl) (sV (v := (.agg #[(.bool t), (.slice u x y)])) (rfl) (sV (v := (.int .i64 (W9))) (rfl) ?_))
      have mL := (bW.ext f9)
      refine sO (oStore [(.bool t), (.slice u x y)] rfl rfl rfl sz25 rfl mL Qn (fun rg k4 BO S8 => ?_))
      replace S8 : Blk rg z 25 [(.bool t), (.slice u x y)] := S8
      refine sK mI (wp_seq_k fun DZ mM => dBegin (fun b => b = F) mixed (fun Ea g0 BP => ?_))
      have S9 := ((S7.xr f9).tr k4).xr g0
      have bY := (bU.frm S9 q1)
      refine dV 0 rfl (fun _ hf => evLoadAB [(.bool gm), (.slice Am nm cm)] agg25 sz25 rfl (bY.frm hf q1) rfl) ?_
      have bZ := (S8.ext g0)
      refine dV 1 rfl (fun _ hf => evLoadAB [(.bool t), (.slice u x y)] agg25 sz25 rfl (bZ.frm hf q1) rfl) ?_
      have cc := (((((((j6.xr t7).xr t8).xr k1).tr k2).tr k3).xr f9).tr k4).xr g0
      have cd := (lz.frm cc q1)
      refine dV 2 rfl (fun _ hf => evLoadAB [(.bool ga), (.slice Aa na ca)] agg25 sz25 rfl (cd.frm hf q1) rfl) ?_
      have ce := (bV.frm S9 q1)
      refine dV 5 rfl (fun _ hf => evLoadAB [(.bool gb), (.slice Ab nb cb)] agg25 sz25 rfl (ce.frm hf q1) rfl) ?_
      have mN := k4.xr g0
      have dZ := (X0.frmB mN q3)
      have cf := ((((((((((((((((((L3.trans a7).trans f5).trans c9).trans b6).trans b9).rx R).tr S).tr a8).xr G).xr N).tr j6).xr t7).xr t8).xr k1).tr k2).tr k3).xr f9).tr k4).xr g0
      have rh := (ha.frmB cf q3)
      refine dOp 3 rfl rfl (by kernel_rfl) (oCall rfl call33 (integer_Mul dZ rh Qo) rfl ?_)
      rintro _ Eb ⟨xi, xj, xk, xl, xm, rfl, d0, X1, BQ, xn, xo⟩
      refine ⟨(Frm.of_ext d0), ?_⟩
      have BR := d0.size
      have ⟨xp, xq, xs⟩ := X1.lkm
      have cg := S9.xr d0
      have ea := (hmN.frmB cg q3)
      refine dOp 4 rfl rfl (by kernel_rfl) (oCall rfl call106 (integer_Sub ea X1 Qo Qo) rfl ?_)
      rintro _ Ec ⟨xt, xu, xv, xw, xx, rfl, c0, X2, BS, xy, xz⟩
      refine ⟨(Frm.of_ext c0), ?_⟩
      have BT := c0.size
      have ⟨xA, xB, xC⟩ := X2.lkm
      have mO := cg.xr c0
      have ri := (dW.frmB mO q3)
      refine dOp 6 rfl rfl (by kernel_rfl) (oCall rfl call109 (division_Quo X2 ri Qo Qo Qo) rfl ?_)
      rintro _ Ed ⟨p, q, r, s, eb, X3, X4, X5, X6, xD, X7, rfl, d1, X8, ec, BU, BV, rB, rC, xF, rD, rE⟩
      refine ⟨(Frm.of_ext d1), ?_⟩
      have BW := d1.size
      have ⟨xG, xH, xI⟩ := X8.lkm
      have ⟨xJ, xK, xL⟩ := ec.lkm
      refine dV 7 rfl (v := (.tuple #[(.agg #[(.bool p), (.slice q r s)]), (.agg #[(.bool X3), (.slice X4 X5 X6)]), (.int .i64 (X7))])) (fun _ _ => rfl) (dV 8 rfl (v := (.agg #[(.bool p), (.slice q r s)])) (fun _ _ => rfl) (dV 9 rfl (v := (.agg #[(.bool X3), (.slice X4 X5 X6)])) (fun _ _ => rfl) (dV 10 rfl (v := (.int .i64 (X7))) (fun _ _ => rfl) ?_)))
      have ch := ((cc.xr d0).xr c0).xr d1
      have mP := (lC.frm ch q1)
      refine dOp 11 rfl rfl (by kernel_rfl) (oStore [(.bool p), (.slice q r s)] rfl rfl rfl sz25 rfl mP Qn (fun ed d2 xM V => ?_))
      replace V : Blk ed F 25 [(.bool p), (.slice q r s)] := V
      refine ⟨d2, dDone (by kernel_rfl) (xN (mM _ _ (wp_seq_k fun BX ee => ?_)))⟩
      have D9 := ch.tr d2
      have e1 := (lB.frm D9 q1)
      have e2 := ((d0.trans c0).trans d1).rx d2
      have e3 := (bZ.frm e2 q1)
      have ef := (bY.frm e2 q1)
      have xO := (cd.frm e2 q1)
      have xP := (ce.frm e2 q1)
      have xQ := (lD.frm D9 q1)
      have xR := (lE.frm D9 q1)
      have X9 := (((((f9.rx k4).xr g0).xr d0).xr c0).xr d1).tr d2
      have xS := (bX.frm X9 q1)
      have xT := (S6.frm X9 q1)
      refine wpJoin (dfs := []) (n := 82) (fun e w_ => e 4 = (.pointer (some ⟨Q, 0, none⟩)) ∧ e 5 = (.pointer (some ⟨z, 0, none⟩)) ∧ e 6 = (.pointer (some ⟨F, 0, none⟩)) ∧ Frm (fun b => b = Q ∨ b = z ∨ b = F) ed w_ ∧ Blk w_ Q 25 ([(.bool gm), (.slice Am nm cm)]) ∧ Blk w_ z 25 ([(.bool t), (.slice u x y)]) ∧ Blk w_ F 25 ([(.bool p), (.slice q r s)])) ?_ ?_
      ·refine dBegin (fun b => b = Q ∨ b = z ∨ b = F) mixed (fun BY B xU => ?_)
       have eg := (ef.ext B)
       refine dV 0 rfl (fun _ hf => evLoadAB [(.bool gm), (.slice Am nm cm)] agg25 sz25 rfl (eg.frm hf q1) rfl) (dThree 1 2 3 (by kernel_rfl) ?_ ?_ ?_)
       ·have k5 := (e3.ext B)
        refine dWp (i := 1) rfl rfl (oEv (v := (.agg #[(.bool t), (.slice u x y)])) (evLoadAB [(.bool t), (.slice u x y)] agg25 sz25 rfl k5 rfl) rfl ⟨Frm.refl _ _, dTwo 2 3 (by kernel_rfl) ?_ ?_⟩)
        ·have Y0 := (V.ext B)
         refine dWp (i := 2) rfl rfl (oEv (v := (.agg #[(.bool p), (.slice q r s)])) (evLoadAB [(.bool p), (.slice q r s)] agg25 sz25 rfl Y0 rfl) rfl ⟨Frm.refl _ _, ?_⟩)
         have eh := (e1.ext B)
         refine dOp 3 rfl rfl (by kernel_rfl) (oStore [(.bool gm), (.slice Am nm cm)] rfl rfl rfl sz25 rfl eh Qn (fun mQ k6 xV E0 => ?_))
         replace E0 : Blk mQ Q 25 [(.bool gm), (.slice Am nm cm)] := E0
         refine ⟨(k6.mono q4), ?_⟩
         have ei := (k5.frm k6 q1)
         refine dOp 4 rfl rfl (by kernel_rfl) (oStore [(.bool t), (.slice u x y)] rfl rfl rfl sz25 rfl ei Qn (fun mR k7 xW E1 => ?_))
         replace E1 : Blk mR z 25 [(.bool t), (.slice u x y)] := E1
         refine ⟨(k7.mono q4), ?_⟩
         have ej := k6.tr k7
         have ek := (Y0.frm ej q1)
         refine dOp 5 rfl rfl (by kernel_rfl) (oStore [(.bool p), (.slice q r s)] rfl rfl rfl sz25 rfl ek Qn (fun mS k8 xX E2 => ?_))
         replace E2 : Blk mS F 25 [(.bool p), (.slice q r s)] := E2
         refine ⟨(k8.mono q4), dDone (by kernel_rfl) ?_⟩
         have el := k7.tr k8
         have em := (E0.frm el q1)
         have en := (E1.frm k8 q1)
         have eo := ((B.rx k6).tr k7).tr k8
         exact ⟨rfl, _, rfl, rfl, rfl, rfl, (Frm.mono eo q4), em, en, E2⟩
        ·have ep := (e1.ext B)
         refine dWp (i := 3) rfl rfl (oStore [(.bool gm), (.slice Am nm cm)] rfl rfl rfl sz25 rfl ep Qn (fun mT e4 xY k9 => ?_))
         replace k9 : Blk mT Q 25 [(.bool gm), (.slice Am nm cm)] := k9
         refine ⟨(e4.mono q4), dTwo 2 4 (by kernel_rfl) ?_ ?_⟩
         ·have Y1 := B.rx e4
          have Y2 := (V.frm Y1 q1)
          refine dWp (i := 2) rfl rfl (oEv (v := (.agg #[(.bool p), (.slice q r s)])) (evLoadAB [(.bool p), (.slice q r s)] agg25 sz25 rfl Y2 rfl) rfl ⟨Frm.refl _ _, ?_⟩)
          have eq := (k5.frm e4 q1)
          refine dOp 4 rfl rfl (by kernel_rfl) (oStore [(.bool t), (.slice u x y)] rfl rfl rfl sz25 rfl eq Qn (fun mU l0 xZ E3 => ?_))
          replace E3 : Blk mU z 25 [(.bool t), (.slice u x y)] := E3
          refine ⟨(l0.mono q4), ?_⟩
          have er := (Y2.frm l0 q1)
          refine dOp 5 rfl rfl (by kernel_rfl) (oStore [(.bool p), (.slice q r s)] rfl rfl rfl sz25 rfl er Qn (fun mV l1 ya E4 => ?_))
          replace E4 : Blk mV F 25 [(.bool p), (.slice q r s)] := E4
          refine ⟨(l1.mono q4), dDone (by kernel_rfl) ?_⟩
          have es := l0.tr l1
          have et := (k9.frm es q1)
          have eu := (E3.frm l1 q1)
          have ev := (Y1.tr l0).tr l1
          exact ⟨rfl, _, rfl, rfl, rfl, rfl, (Frm.mono ev q4), et, eu, E4⟩
         ·have ew := (k5.frm e4 q1)
          refine dWp (i := 4) rfl rfl (oStore [(.bool t), (.slice u x y)] rfl rfl rfl sz25 rfl ew Qn (fun mW E5 yb E6 => ?_))
          replace E6 : Blk mW z 25 [(.bool t), (.slice u x y)] := E6
          refine ⟨(E5.mono q4), ?_⟩
          have Y3 := (B.rx e4).tr E5
          have Y4 := (V.frm Y3 q1)
          refine dOp 2 rfl rfl (by kernel_rfl) (oEv (v := (.agg #[(.bool p), (.slice q r s)])) (evLoadAB [(.bool p), (.slice q r s)] agg25 sz25 rfl Y4 rfl) rfl ⟨Frm.refl _ _, dOp 5 rfl rfl (by kernel_rfl) (oStore [(.bool p), (.slice q r s)] rfl rfl rfl sz25 rfl Y4 Qn (fun mX l2 yc E7 => ?_))⟩)
          replace E7 : Blk mX F 25 [(.bool p), (.slice q r s)] := E7
          refine ⟨(l2.mono q4), dDone (by kernel_rfl) ?_⟩
          have ex := E5.tr l2
          have ey := (k9.frm ex q1)
          have ez := (E6.frm l2 q1)
          have eA := Y3.tr l2
          exact ⟨rfl, _, rfl, rfl, rfl, rfl, (Frm.mono eA q4), ey, ez, E7⟩
       ·have E8 := (V.ext B)
        refine dWp (i := 2) rfl rfl (oEv (v := (.agg #[(.bool p), (.slice q r s)])) (evLoadAB [(.bool p), (.slice q r s)] agg25 sz25 rfl E8 rfl) rfl ⟨Frm.refl _ _, dTwo 1 3 (by kernel_rfl) ?_ ?_⟩)
        ·have Y5 := (e3.ext B)
         refine dWp (i := 1) rfl rfl (oEv (v := (.agg #[(.bool t), (.slice u x y)])) (evLoadAB [(.bool t), (.slice u x y)] agg25 sz25 rfl Y5 rfl) rfl ⟨Frm.refl _ _, ?_⟩)
         have eB := (e1.ext B)
         refine dOp 3 rfl rfl (by kernel_rfl) (oStore [(.bool gm), (.slice Am nm cm)] rfl rfl rfl sz25 rfl eB Qn (fun mY l3 yd E9 => ?_))
         replace E9 : Blk mY Q 25 [(.bool gm), (.slice Am nm cm)] := E9
         refine ⟨(l3.mono q4), ?_⟩
         have eC := (Y5.frm l3 q1)
         refine dOp 4 rfl rfl (by kernel_rfl) (oStore [(.bool t), (.slice u x y)] rfl rfl rfl sz25 rfl eC Qn (fun mZ l4 ye F0 => ?_))
         replace F0 : Blk mZ z 25 [(.bool t), (.slice u x y)] := F0
         refine ⟨(l4.mono q4), ?_⟩
         have eD := l3.tr l4
         have eE := (E8.frm eD q1)
         refine dOp 5 rfl rfl (by kernel_rfl) (oStore [(.bool p), (.slice q r s)] rfl rfl rfl sz25 rfl eE Qn (fun nc l5 yf F1 => ?_))
         replace F1 : Blk nc F 25 [(.bool p), (.slice q r s)] := F1
         refine ⟨(l5.mono q4), dDone (by kernel_rfl) ?_⟩
         have eF := l4.tr l5
         have eG := (E9.frm eF q1)
         have eH := (F0.frm l5 q1)
         have eI := ((B.rx l3).tr l4).tr l5
         exact ⟨rfl, _, rfl, rfl, rfl, rfl, (Frm.mono eI q4), eG, eH, F1⟩
        ·have eJ := (e1.ext B)
         refine dWp (i := 3) rfl rfl (oStore [(.bool gm), (.slice Am nm cm)] rfl rfl rfl sz25 rfl eJ Qn (fun nd F2 yg F3 => ?_))
         replace F3 : Blk nd Q 25 [(.bool gm), (.slice Am nm cm)] := F3
         refine ⟨(F2.mono q4), ?_⟩
         have Y6 := B.rx F2
         have Y7 := (e3.frm Y6 q1)
         refine dOp 1 rfl rfl (by kernel_rfl) (oEv (v := (.agg #[(.bool t), (.slice u x y)])) (evLoadAB [(.bool t), (.slice u x y)] agg25 sz25 rfl Y7 rfl) rfl ⟨Frm.refl _ _, dOp 4 rfl rfl (by kernel_rfl) (oStore [(.bool t), (.slice u x y)] rfl rfl rfl sz25 rfl Y7 Qn (fun nf l6 yh F4 => ?_))⟩)
         replace F4 : Blk nf z 25 [(.bool t), (.slice u x y)] := F4
         refine ⟨(l6.mono q4), ?_⟩
         have eK := F2.tr l6
         have eL := (E8.frm eK q1)
         refine dOp 5 rfl rfl (by kernel_rfl) (oStore [(.bool p), (.slice q r s)] rfl rfl rfl sz25 rfl eL Qn (fun ng l7 yi F5 => ?_))
         replace F5 : Blk ng F 25 [(.bool p), (.slice q r s)] := F5
         refine ⟨(l7.mono q4), dDone (by kernel_rfl) ?_⟩
         have eM := l6.tr l7
         have eN := (F3.frm eM q1)
         have eO := (F4.frm l7 q1)
         have eP := (Y6.tr l6).tr l7
         exact ⟨rfl, _, rfl, rfl, rfl, rfl, (Frm.mono eP q4), eN, eO, F5⟩
       ·have eQ := (e1.ext B)
        refine dWp (i := 3) rfl rfl (oStore [(.bool gm), (.slice Am nm cm)] rfl rfl rfl sz25 rfl eQ Qn (fun nh F6 yj e5 => ?_))
        replace e5 : Blk nh Q 25 [(.bool gm), (.slice Am nm cm)] := e5
        refine ⟨(F6.mono q4), dTwo 1 2 (by kernel_rfl) ?_ ?_⟩
        ·have l8 := B.rx F6
         have F7 := (e3.frm l8 q1)
         refine dWp (i := 1) rfl rfl (oEv (v := (.agg #[(.bool t), (.slice u x y)])) (evLoadAB [(.bool t), (.slice u x y)] agg25 sz25 rfl F7 rfl) rfl ⟨Frm.refl _ _, dTwo 2 4 (by kernel_rfl) ?_ ?_⟩)
         ·have Y8 := (V.frm l8 q1)
          refine dWp (i := 2) rfl rfl (oEv (v := (.agg #[(.bool p), (.slice q r s)])) (evLoadAB [(.bool p), (.slice q r s)] agg25 sz25 rfl Y8 rfl) rfl ⟨Frm.refl _ _, dOp 4 rfl rfl (by kernel_rfl) (oStore [(.bool t), (.slice u x y)] rfl rfl rfl sz25 rfl F7 Qn (fun nn l9 yk F8 => ?_))⟩)
          replace F8 : Blk nn z 25 [(.bool t), (.slice u x y)] := F8
          refine ⟨(l9.mono q4), ?_⟩
          have eR := (Y8.frm l9 q1)
          refine dOp 5 rfl rfl (by kernel_rfl) (oStore [(.bool p), (.slice q r s)] rfl rfl rfl sz25 rfl eR Qn (fun no m0 yl F9 => ?_))
          replace F9 : Blk no F 25 [(.bool p), (.slice q r s)] := F9
          refine ⟨(m0.mono q4), dDone (by kernel_rfl) ?_⟩
          have eS := l9.tr m0
          have eT := (e5.frm eS q1)
          have eU := (F8.frm m0 q1)
          have eV := (l8.tr l9).tr m0
          exact ⟨rfl, _, rfl, rfl, rfl, rfl, (Frm.mono eV q4), eT, eU, F9⟩
         ·refine dWp (i := 4) rfl rfl (oStore [(.bool t), (.slice u x y)] rfl rfl rfl sz25 rfl F7 Qn (fun nq G0 ym G1 => ?_))
          replace G1 : Blk nq z 25 [(.bool t), (.slice u x y)] := G1
          refine ⟨(G0.mono q4), ?_⟩
          have Y9 := l8.tr G0
          have Z0 := (V.frm Y9 q1)
          refine dOp 2 rfl rfl (by kernel_rfl) (oEv (v := (.agg #[(.bool p), (.slice q r s)])) (evLoadAB [(.bool p), (.slice q r s)] agg25 sz25 rfl Z0 rfl) rfl ⟨Frm.refl _ _, dOp 5 rfl rfl (by kernel_rfl) (oStore [(.bool p), (.slice q r s)] rfl rfl rfl sz25 rfl Z0 Qn (fun nr m1 yn G2 => ?_))⟩)
          replace G2 : Blk nr F 25 [(.bool p), (.slice q r s)] := G2
          refine ⟨(m1.mono q4), dDone (by kernel_rfl) ?_⟩
          have eW := G0.tr m1
          have eX := (e5.frm eW q1)
          have eY := (G1.frm m1 q1)
          have eZ := Y9.tr m1
          exact ⟨rfl, _, rfl, rfl, rfl, rfl, (Frm.mono eZ q4), eX, eY, G2⟩
        ·have G3 := B.rx F6
         have Z1 := (V.frm G3 q1)
         refine dWp (i := 2) rfl rfl (oEv (v := (.agg #[(.bool p), (.slice q r s)])) (evLoadAB [(.bool p), (.slice q r s)] agg25 sz25 rfl Z1 rfl) rfl ⟨Frm.refl _ _, ?_⟩)
         have Z2 := (e3.frm G3 q1)
         refine dOp 1 rfl rfl (by kernel_rfl) (oEv (v := (.agg #[(.bool t), (.slice u x y)])) (evLoadAB [(.bool t), (.slice u x y)] agg25 sz25 rfl Z2 rfl) rfl ⟨Frm.refl _ _, dOp 4 rfl rfl (by kernel_rfl) (oStore [(.bool t), (.slice u x y)] rfl rfl rfl sz25 rfl Z2 Qn (fun ns m2 yo G4 => ?_))⟩)
         replace G4 : Blk ns z 25 [(.bool t), (.slice u x y)] := G4
         refine ⟨(m2.mono q4), ?_⟩
         have fa := (Z1.frm m2 q1)
         refine dOp 5 rfl rfl (by kernel_rfl) (oStore [(.bool p), (.slice q r s)] rfl rfl rfl sz25 rfl fa Qn (fun nu m3 yp G5 => ?_))
         replace G5 : Blk nu F 25 [(.bool p), (.slice q r s)] := G5
         refine ⟨(m3.mono q4), dDone (by kernel_rfl) ?_⟩
         have fb := m2.tr m3
         have fc := (e5.frm fb q1)
         have fd := (G4.frm m3 q1)
         have fe := (G3.tr m2).tr m3
         exact ⟨rfl, _, rfl, rfl, rfl, rfl, (Frm.mono fe q4), fc, fd, G5⟩
      ·rintro BZ Ca ⟨ff, fg, fh, e6, fi, fj, fk⟩
       obtain ⟨Cb, rfl⟩ := sq3 ff fg fh
       have yq := e6.size
       refine xN (ee _ _ (wp_ret (ret3 (.agg #[(.bool gm), (.slice Am nm cm)]) (.agg #[(.bool t), (.slice u x y)]) (.agg #[(.bool p), (.slice q r s)]) results99 (resB [(.bool gm), (.slice Am nm cm)] agg25 sz25 rfl fi) (resB [(.bool t), (.slice u x y)] agg25 sz25 rfl fj) (resB [(.bool p), (.slice q r s)] agg25 sz25 rfl fk) ?_)))
       have fl := ((c0.trans d1).rx d2).tr e6
       have nv := (ea.frmB fl q3)
       have fm := e2.tr e6
       have nw := (dZ.frmB fm q3)
       have fn := d2.tr e6
       have nz := (X8.frmB fn q3)
       have fo := ((((cf.xr d0).xr c0).xr d1).tr d2).tr e6
       exact ⟨gm, Am, nm, cm, dm, t, u, x, y, dY, p, q, r, s, eb, rfl, (Frm.mono fo q4), (NatR.sub nv q5), (NatR.sub nw q5), (NatR.sub nz q5), hxx, hxs, Qo⟩
    ·refine sV (evLss false rfl rfl (dF bJ)) (sK bI (cF rfl (wp_skip (xN (bH _ _ (wp_seq_k fun Cc fp => ?_))))))
     have ⟨dS, dU⟩ := xg_pos hXg.cx oj Qo
     refine wp_region_lit ?_
     have Z3 := ((((o5.rx R).tr S).tr a8).xr G).xr N
     have Z4 := (L5.frm Z3 q1)
     refine sV (evLoadAB [(.bool gb), (.slice Ab nb cb)] agg25 sz25 rfl Z4 rfl) ?_
     have Z5 := (R6.ext N)
     refine sV (evLoadAB [(.bool gi), (.slice Ai ni ci)] agg25 sz25 rfl Z5 rfl) ?_
     have fq := ((((((((a7.trans f5).trans c9).trans b6).trans b9).rx R).tr S).tr a8).xr G).xr N
     have cn := (aC.frmB fq q3)
     have co := (B3.ext N)
     refine sO (oCall rfl call109 (division_Quo cn co Qo Qo Qo) rfl ?_)
     rintro _ cq ⟨Y, c1, c2, c3, J7, g1, g3, g4, g5, rF, J8, rfl, e7, J9, K0, fr, yr, rj, rk, rG, rl, rm⟩
     have ys := e7.size
     have ⟨rH, rI, rJ⟩ := J9.lkm
     have ⟨rK, rL, rM⟩ := K0.lkm
     have nA := J9.sub (S' := fun b => (B4.heap.size ≤ b) ∧ b < cq.heap.size) fun _ hb hs => ⟨hs, hb⟩
     have Cd := K0.sub (S' := fun b => (B4.heap.size ≤ b) ∧ b < cq.heap.size) fun _ hb hs => ⟨hs, hb⟩
     have hpe : zval Y J7 = (zval gb db).tdiv 1 := by rw [fr, dS]
     have hpz : zval Y J7 ≠ 0 := by rw [hpe, Int.tdiv_one]; exact hb0
     refine sV (v := (.tuple #[(.agg #[(.bool Y), (.slice c1 c2 c3)]), (.agg #[(.bool g1), (.slice g3 g4 g5)]), (.int .i64 (J8))])) (rfl) (sV (v := (.agg #[(.bool Y), (.slice c1 c2 c3)])) (rfl) (sV (v := (.agg #[(.bool g1), (.slice g3 g4 g5)])) (rfl) (sV (v := (.int .i64 (J8))) (rfl) (sO (oAlloc [(.bool false), (.slice none 0 0)] zero25 rfl (fun nB Ce yt e8 yu fs => sO (oAlloc [(.bool false), (.slice none 0 0)] zero25 rfl (fun nC Cf yv c4 yw ft => ?_))))))))
     have fu := (fs.ext c4)
     refine sO (oStore [(.bool Y), (.slice c1 c2 c3)] rfl rfl rfl sz25 rfl fu Qn (fun nD c5 yx G6 => ?_))
     replace G6 : Blk nD nB 25 [(.bool Y), (.slice c1 c2 c3)] := G6
     have fv := (ft.frm c5 q1)
     refine sO (oStore [(.bool g1), (.slice g3 g4 g5)] rfl rfl rfl sz25 rfl fv Qn (fun nE c6 yy G7 => ?_))
     replace G7 : Blk nE nC 25 [(.bool g1), (.slice g3 g4 g5)] := G7
     refine sAi rfl (sK fp (rS fun Cg fw => ?_))
     have G8 := (((((G.trans N).trans e7).trans e8).trans c4).rx c5).tr c6
     have Z6 := (N3.frm G8 q1)
     refine sV (evLoadAB [(.bool gk), (.slice Ak nk ck)] agg25 sz25 rfl Z6 rfl) ?_
     have Z7 := (G6.frm c6 q1)
     refine sV (evLoadAB [(.bool Y), (.slice c1 c2 c3)] agg25 sz25 rfl Z7 rfl) ?_
     have nF := (hk.frmB G8 q3)
     have fx := ((e8.trans c4).rx c5).tr c6
     have nG := (nA.frmB fx q3)
     refine sO (oCall rfl call70 (division_Symmetric nF nG Qo Qo Qo) rfl ?_)
     rintro _ Ch ⟨g, h, j, l, cv, K2, rfl, b4, K3, fy, rN, rO, rP⟩
     have yz := b4.size
     have ⟨rQ, rR, rT⟩ := K3.lkm
     have ⟨hxx, hxs⟩ := (xg_fin hpe dU fy).resolve_right hb0
     refine sV (v := (.tuple #[(.agg #[(.bool g), (.slice h j l)]), (.int .i64 (K2))])) (rfl) (sV (v := (.agg #[(.bool g), (.slice h j l)])) (rfl) (sV (v := (.int .i64 (K2))) (rfl) ?_))
     have fz := (Z6.ext b4)
     refine sO (oStore [(.bool g), (.slice h j l)] rfl rfl rfl sz25 rfl fz Qn (fun nH c7 yA G9 => ?_))
     replace G9 : Blk nH z 25 [(.bool g), (.slice h j l)] := G9
     refine sK fw (wp_seq_k fun Ci fA => dBegin (fun b => b = F) mixed (fun Cj b5 yB => ?_))
     have H0 := ((((((e7.trans e8).trans c4).rx c5).tr c6).xr b4).tr c7).xr b5
     have Z8 := (Z5.frm H0 q1)
     refine dV 0 rfl (fun _ hf => evLoadAB [(.bool gi), (.slice Ai ni ci)] agg25 sz25 rfl (Z8.frm hf q1) rfl) ?_
     have Z9 := (G9.ext b5)
     refine dV 1 rfl (fun _ hf => evLoadAB [(.bool g), (.slice h j l)] agg25 sz25 rfl (Z9.frm hf q1) rfl) ?_
     have aa := (((((((Z3.xr e7).xr e8).xr c4).tr c5).tr c6).xr b4).tr c7).xr b5
     have ab := (L4.frm aa q1)
     refine dV 2 rfl (fun _ hf => evLoadAB [(.bool ga), (.slice Aa na ca)] agg25 sz25 rfl (ab.frm hf q1) rfl) ?_
     have ac := (Z4.frm H0 q1)
     refine dV 5 rfl (fun _ hf => evLoadAB [(.bool gb), (.slice Ab nb cb)] agg25 sz25 rfl (ac.frm hf q1) rfl) ?_
     have fB := c7.xr b5
     have cr := (K3.frmB fB q3)
     have ad := (((((((((((((((((L3.trans a7).trans f5).trans c9).trans b6).trans b9).rx R).tr S).tr a8).xr G).xr N).xr e7).xr e8).xr c4).tr c5).tr c6).xr b4).tr c7).xr b5
     have nI := (ha.frmB ad q3)
     refine dOp 3 rfl rfl (by kernel_rfl) (oCall rfl call33 (integer_Mul cr nI Qo) rfl ?_)
     rintro _ Ck ⟨rU, rV, rW, rX, rY, rfl, a4, K4, yC, rZ, sa⟩
     refine ⟨(Frm.of_ext a4), ?_⟩
     have yD := a4.size
     have ⟨sb, sc, sd⟩ := K4.lkm
     have ae := H0.xr a4
     have cs := (co.frmB ae q3)
     refine dOp 4 rfl rfl (by kernel_rfl) (oCall rfl call106 (integer_Sub cs K4 Qo Qo) rfl ?_)
     rintro _ Cl ⟨se, sf, sg, sh, si, rfl, W, K5, yE, sj, sk⟩
     refine ⟨(Frm.of_ext W), ?_⟩
     have yF := W.size
     have ⟨sl, sm, sn⟩ := K5.lkm
     have fC := ae.xr W
     have nJ := (cn.frmB fC q3)
     refine dOp 6 rfl rfl (by kernel_rfl) (oCall rfl call109 (division_Quo K5 nJ Qo Qo Qo) rfl ?_)
     rintro _ Cm ⟨a, c, d, f, cw, K6, K7, K8, K9, so, L0, rfl, a5, L1, cz, yG, yH, rn, ro, sp, rp, rq⟩
     refine ⟨(Frm.of_ext a5), ?_⟩
     have yI := a5.size
     have ⟨sq, sr, ss⟩ := L1.lkm
     have ⟨st, su, sv⟩ := cz.lkm
     refine dV 7 rfl (v := (.tuple #[(.agg #[(.bool a), (.slice c d f)]), (.agg #[(.bool K6), (.slice K7 K8 K9)]), (.int .i64 (L0))])) (fun _ _ => rfl) (dV 8 rfl (v := (.agg #[(.bool a), (.slice c d f)])) (fun _ _ => rfl) (dV 9 rfl (v := (.agg #[(.bool K6), (.slice K7 K8 K9)])) (fun _ _ => rfl) (dV 10 rfl (v := (.int .i64 (L0))) (fun _ _ => rfl) ?_)))
     have af := ((aa.xr a4).xr W).xr a5
     have fD := (az.frm af q1)
     refine dOp 11 rfl rfl (by kernel_rfl) (oStore [(.bool a), (.slice c d f)] rfl rfl rfl sz25 rfl fD Qn (fun cu a6 yJ X => ?_))
     replace X : Blk cu F 25 [(.bool a), (.slice c d f)] := X
     refine ⟨a6, dDone (by kernel_rfl) (xN (fA _ _ (wp_seq_k fun Cn fE => ?_)))⟩
     have fF := af.tr a6
     have e9 := (ay.frm fF q1)
     have f0 := ((a4.trans W).trans a5).rx a6
     have f1 := (Z9.frm f0 q1)
     have fG := (Z8.frm f0 q1)
     have yK := (ab.frm f0 q1)
     have yL := (ac.frm f0 q1)
     have ag := ((((((G8.xr b4).tr c7).xr b5).xr a4).xr W).xr a5).tr a6
     have yM := (o7.frm ag q1)
     have yN := (N4.frm ag q1)
     have ah := (((((b4.rx c7).xr b5).xr a4).xr W).xr a5).tr a6
     have yO := (Z7.frm ah q1)
     have yP := (G7.frm ah q1)
     refine wpJoin (dfs := []) (n := 82) (fun e w_ => e 4 = (.pointer (some ⟨Q, 0, none⟩)) ∧ e 5 = (.pointer (some ⟨z, 0, none⟩)) ∧ e 6 = (.pointer (some ⟨F, 0, none⟩)) ∧ Frm (fun b => b = Q ∨ b = z ∨ b = F) cu w_ ∧ Blk w_ Q 25 ([(.bool gi), (.slice Ai ni ci)]) ∧ Blk w_ z 25 ([(.bool g), (.slice h j l)]) ∧ Blk w_ F 25 ([(.bool a), (.slice c d f)])) ?_ ?_
     ·refine dBegin (fun b => b = Q ∨ b = z ∨ b = F) mixed (fun Co C yQ => ?_)
      have fH := (fG.ext C)
      refine dV 0 rfl (fun _ hf => evLoadAB [(.bool gi), (.slice Ai ni ci)] agg25 sz25 rfl (fH.frm hf q1) rfl) (dThree 1 2 3 (by kernel_rfl) ?_ ?_ ?_)
      ·have m4 := (f1.ext C)
       refine dWp (i := 1) rfl rfl (oEv (v := (.agg #[(.bool g), (.slice h j l)])) (evLoadAB [(.bool g), (.slice h j l)] agg25 sz25 rfl m4 rfl) rfl ⟨Frm.refl _ _, dTwo 2 3 (by kernel_rfl) ?_ ?_⟩)
       ·have ai := (X.ext C)
        refine dWp (i := 2) rfl rfl (oEv (v := (.agg #[(.bool a), (.slice c d f)])) (evLoadAB [(.bool a), (.slice c d f)] agg25 sz25 rfl ai rfl) rfl ⟨Frm.refl _ _, ?_⟩)
        have fI := (e9.ext C)
        refine dOp 3 rfl rfl (by kernel_rfl) (oStore [(.bool gi), (.slice Ai ni ci)] rfl rfl rfl sz25 rfl fI Qn (fun nK m5 yR H1 => ?_))
        replace H1 : Blk nK Q 25 [(.bool gi), (.slice Ai ni ci)] := H1
        refine ⟨(m5.mono q4), ?_⟩
        have fJ := (m4.frm m5 q1)
        refine dOp 4 rfl rfl (by kernel_rfl) (oStore [(.bool g), (.slice h j l)] rfl rfl rfl sz25 rfl fJ Qn (fun nL m6 yS H2 => ?_))
        replace H2 : Blk nL z 25 [(.bool g), (.slice h j l)] := H2
        refine ⟨(m6.mono q4), ?_⟩
        have fK := m5.tr m6
        have fL := (ai.frm fK q1)
        refine dOp 5 rfl rfl (by kernel_rfl) (oStore [(.bool a), (.slice c d f)] rfl rfl rfl sz25 rfl fL Qn (fun nM m7 yT H3 => ?_))
        replace H3 : Blk nM F 25 [(.bool a), (.slice c d f)] := H3
        refine ⟨(m7.mono q4), dDone (by kernel_rfl) ?_⟩
        have fM := m6.tr m7
        have fN := (H1.frm fM q1)
        have fO := (H2.frm m7 q1)
        have fP := ((C.rx m5).tr m6).tr m7
        exact ⟨rfl, _, rfl, rfl, rfl, rfl, (Frm.mono fP q4), fN, fO, H3⟩
       ·have fQ := (e9.ext C)
        refine dWp (i := 3) rfl rfl (oStore [(.bool gi), (.slice Ai ni ci)] rfl rfl rfl sz25 rfl fQ Qn (fun nN f2 yU m8 => ?_))
        replace m8 : Blk nN Q 25 [(.bool gi), (.slice Ai ni ci)] := m8
        refine ⟨(f2.mono q4), dTwo 2 4 (by kernel_rfl) ?_ ?_⟩
        ·have aj := C.rx f2
         have ak := (X.frm aj q1)
         refine dWp (i := 2) rfl rfl (oEv (v := (.agg #[(.bool a), (.slice c d f)])) (evLoadAB [(.bool a), (.slice c d f)] agg25 sz25 rfl ak rfl) rfl ⟨Frm.refl _ _, ?_⟩)
         have fR := (m4.frm f2 q1)
         refine dOp 4 rfl rfl (by kernel_rfl) (oStore [(.bool g), (.slice h j l)] rfl rfl rfl sz25 rfl fR Qn (fun nO m9 yV H4 => ?_))
         replace H4 : Blk nO z 25 [(.bool g), (.slice h j l)] := H4
         refine ⟨(m9.mono q4), ?_⟩
         have fS := (ak.frm m9 q1)
         refine dOp 5 rfl rfl (by kernel_rfl) (oStore [(.bool a), (.slice c d f)] rfl rfl rfl sz25 rfl fS Qn (fun nP n0 yW H5 => ?_))
         replace H5 : Blk nP F 25 [(.bool a), (.slice c d f)] := H5
         refine ⟨(n0.mono q4), dDone (by kernel_rfl) ?_⟩
         have fT := m9.tr n0
         have fU := (m8.frm fT q1)
         have fV := (H4.frm n0 q1)
         have fW := (aj.tr m9).tr n0
         exact ⟨rfl, _, rfl, rfl, rfl, rfl, (Frm.mono fW q4), fU, fV, H5⟩
        ·have fX := (m4.frm f2 q1)
         refine dWp (i := 4) rfl rfl (oStore [(.bool g), (.slice h j l)] rfl rfl rfl sz25 rfl fX Qn (fun nQ H6 yX H7 => ?_))
         replace H7 : Blk nQ z 25 [(.bool g), (.slice h j l)] := H7
         refine ⟨(H6.mono q4), ?_⟩
         have al := (C.rx f2).tr H6
         have am := (X.frm al q1)
         refine dOp 2 rfl rfl (by kernel_rfl) (oEv (v := (.agg #[(.bool a), (.slice c d f)])) (evLoadAB [(.bool a), (.slice c d f)] agg25 sz25 rfl am rfl) rfl ⟨Frm.refl _ _, dOp 5 rfl rfl (by kernel_rfl) (oStore [(.bool a), (.slice c d f)] rfl rfl rfl sz25 rfl am Qn (fun nR n1 yY H8 => ?_))⟩)
         replace H8 : Blk nR F 25 [(.bool a), (.slice c d f)] := H8
         refine ⟨(n1.mono q4), dDone (by kernel_rfl) ?_⟩
         have fY := H6.tr n1
         have fZ := (m8.frm fY q1)
         have gc := (H7.frm n1 q1)
         have gd := al.tr n1
         exact ⟨rfl, _, rfl, rfl, rfl, rfl, (Frm.mono gd q4), fZ, gc, H8⟩
      ·have H9 := (X.ext C)
       refine dWp (i := 2) rfl rfl (oEv (v := (.agg #[(.bool a), (.slice c d f)])) (evLoadAB [(.bool a), (.slice c d f)] agg25 sz25 rfl H9 rfl) rfl ⟨Frm.refl _ _, dTwo 1 3 (by kernel_rfl) ?_ ?_⟩)
       ·have an := (f1.ext C)
        refine dWp (i := 1) rfl rfl (oEv (v := (.agg #[(.bool g), (.slice h j l)])) (evLoadAB [(.bool g), (.slice h j l)] agg25 sz25 rfl an rfl) rfl ⟨Frm.refl _ _, ?_⟩)
        have ge := (e9.ext C)
        refine dOp 3 rfl rfl (by kernel_rfl) (oStore [(.bool gi), (.slice Ai ni ci)] rfl rfl rfl sz25 rfl ge Qn (fun nS n2 yZ I0 => ?_))
        replace I0 : Blk nS Q 25 [(.bool gi), (.slice Ai ni ci)] := I0
        refine ⟨(n2.mono q4), ?_⟩
        have gf := (an.frm n2 q1)
        refine dOp 4 rfl rfl (by kernel_rfl) (oStore [(.bool g), (.slice h j l)] rfl rfl rfl sz25 rfl gf Qn (fun nT n3 za I1 => ?_))
        replace I1 : Blk nT z 25 [(.bool g), (.slice h j l)] := I1
        refine ⟨(n3.mono q4), ?_⟩
        have gg := n2.tr n3
        have gh := (H9.frm gg q1)
        refine dOp 5 rfl rfl (by kernel_rfl) (oStore [(.bool a), (.slice c d f)] rfl rfl rfl sz25 rfl gh Qn (fun nU n4 zb I2 => ?_))
        replace I2 : Blk nU F 25 [(.bool a), (.slice c d f)] := I2
        refine ⟨(n4.mono q4), dDone (by kernel_rfl) ?_⟩
        have gn := n3.tr n4
        have go := (I0.frm gn q1)
        have gq := (I1.frm n4 q1)
        have gr := ((C.rx n2).tr n3).tr n4
        exact ⟨rfl, _, rfl, rfl, rfl, rfl, (Frm.mono gr q4), go, gq, I2⟩
       ·have gs := (e9.ext C)
        refine dWp (i := 3) rfl rfl (oStore [(.bool gi), (.slice Ai ni ci)] rfl rfl rfl sz25 rfl gs Qn (fun nV I3 zc I4 => ?_))
        replace I4 : Blk nV Q 25 [(.bool gi), (.slice Ai ni ci)] := I4
        refine ⟨(I3.mono q4), ?_⟩
        have ao := C.rx I3
        have ap := (f1.frm ao q1)
        refine dOp 1 rfl rfl (by kernel_rfl) (oEv (v := (.agg #[(.bool g), (.slice h j l)])) (evLoadAB [(.bool g), (.slice h j l)] agg25 sz25 rfl ap rfl) rfl ⟨Frm.refl _ _, dOp 4 rfl rfl (by kernel_rfl) (oStore [(.bool g), (.slice h j l)] rfl rfl rfl sz25 rfl ap Qn (fun nW n5 zd I5 => ?_))⟩)
        replace I5 : Blk nW z 25 [(.bool g), (.slice h j l)] := I5
        refine ⟨(n5.mono q4), ?_⟩
        have gu := I3.tr n5
        have gv := (H9.frm gu q1)
        refine dOp 5 rfl rfl (by kernel_rfl) (oStore [(.bool a), (.slice c d f)] rfl rfl rfl sz25 rfl gv Qn (fun nX n6 ze I6 => ?_))
        replace I6 : Blk nX F 25 [(.bool a), (.slice c d f)] := I6
        refine ⟨(n6.mono q4), dDone (by kernel_rfl) ?_⟩
        have gw := n5.tr n6
        have gz := (I4.frm gw q1)
        have gA := (I5.frm n6 q1)
        have gB := (ao.tr n5).tr n6
        exact ⟨rfl, _, rfl, rfl, rfl, rfl, (Frm.mono gB q4), gz, gA, I6⟩
      ·have gC := (e9.ext C)
       refine dWp (i := 3) rfl rfl (oStore [(.bool gi), (.slice Ai ni ci)] rfl rfl rfl sz25 rfl gC Qn (fun nY I7 zf f3 => ?_))
       replace f3 : Blk nY Q 25 [(.bool gi), (.slice Ai ni ci)] := f3
       refine ⟨(I7.mono q4), dTwo 1 2 (by kernel_rfl) ?_ ?_⟩
       ·have n7 := C.rx I7
        have I8 := (f1.frm n7 q1)
        refine dWp (i := 1) rfl rfl (oEv (v := (.agg #[(.bool g), (.slice h j l)])) (evLoadAB [(.bool g), (.slice h j l)] agg25 sz25 rfl I8 rfl) rfl ⟨Frm.refl _ _, dTwo 2 4 (by kernel_rfl) ?_ ?_⟩)
        ·have aq := (X.frm n7 q1)
         refine dWp (i := 2) rfl rfl (oEv (v := (.agg #[(.bool a), (.slice c d f)])) (evLoadAB [(.bool a), (.slice c d f)] agg25 sz25 rfl aq rfl) rfl ⟨Frm.refl _ _, dOp 4 rfl rfl (by kernel_rfl) (oStore [(.bool g), (.slice h j l)] rfl rfl rfl sz25 rfl I8 Qn (fun nZ n8 zg I9 => ?_))⟩)
         replace I9 : Blk nZ z 25 [(.bool g), (.slice h j l)] := I9
         refine ⟨(n8.mono q4), ?_⟩
         have gD := (aq.frm n8 q1)
         refine dOp 5 rfl rfl (by kernel_rfl) (oStore [(.bool a), (.slice c d f)] rfl rfl rfl sz25 rfl gD Qn (fun oa n9 zh J0 => ?_))
         replace J0 : Blk oa F 25 [(.bool a), (.slice c d f)] := J0
         refine ⟨(n9.mono q4), dDone (by kernel_rfl) ?_⟩
         have gE := n8.tr n9
         have gF := (f3.frm gE q1)
         have gG := (I9.frm n9 q1)
         have gH := (n7.tr n8).tr n9
         exact ⟨rfl, _, rfl, rfl, rfl, rfl, (Frm.mono gH q4), gF, gG, J0⟩
        ·refine dWp (i := 4) rfl rfl (oStore [(.bool g), (.slice h j l)] rfl rfl rfl sz25 rfl I8 Qn (fun ob J1 zi J2 => ?_))
         replace J2 : Blk ob z 25 [(.bool g), (.slice h j l)] := J2
         refine ⟨(J1.mono q4), ?_⟩
         have ar := n7.tr J1
         have au := (X.frm ar q1)
         refine dOp 2 rfl rfl (by kernel_rfl) (oEv (v := (.agg #[(.bool a), (.slice c d f)])) (evLoadAB [(.bool a), (.slice c d f)] agg25 sz25 rfl au rfl) rfl ⟨Frm.refl _ _, dOp 5 rfl rfl (by kernel_rfl) (oStore [(.bool a), (.slice c d f)] rfl rfl rfl sz25 rfl au Qn (fun oc o0 zj J3 => ?_))⟩)
         replace J3 : Blk oc F 25 [(.bool a), (.slice c d f)] := J3
         refine ⟨(o0.mono q4), dDone (by kernel_rfl) ?_⟩
         have gI := J1.tr o0
         have gJ := (f3.frm gI q1)
         have gK := (J2.frm o0 q1)
         have gL := ar.tr o0
         exact ⟨rfl, _, rfl, rfl, rfl, rfl, (Frm.mono gL q4), gJ, gK, J3⟩
       ·have J4 := C.rx I7
        have av := (X.frm J4 q1)
        refine dWp (i := 2) rfl rfl (oEv (v := (.agg #[(.bool a), (.slice c d f)])) (evLoadAB [(.bool a), (.slice c d f)] agg25 sz25 rfl av rfl) rfl ⟨Frm.refl _ _, ?_⟩)
        have aw := (f1.frm J4 q1)
        refine dOp 1 rfl rfl (by kernel_rfl) (oEv (v := (.agg #[(.bool g), (.slice h j l)])) (evLoadAB [(.bool g), (.slice h j l)] agg25 sz25 rfl aw rfl) rfl ⟨Frm.refl _ _, dOp 4 rfl rfl (by kernel_rfl) (oStore [(.bool g), (.slice h j l)] rfl rfl rfl sz25 rfl aw Qn (fun od o1 zk J5 => ?_))⟩)
        replace J5 : Blk od z 25 [(.bool g), (.slice h j l)] := J5
        refine ⟨(o1.mono q4), ?_⟩
        have gM := (av.frm o1 q1)
        refine dOp 5 rfl rfl (by kernel_rfl) (oStore [(.bool a), (.slice c d f)] rfl rfl rfl sz25 rfl gM Qn (fun oe o2 zl J6 => ?_))
        replace J6 : Blk oe F 25 [(.bool a), (.slice c d f)] := J6
        refine ⟨(o2.mono q4), dDone (by kernel_rfl) ?_⟩
        have gN := o1.tr o2
        have gO := (f3.frm gN q1)
        have gP := (J5.frm o2 q1)
        have gQ := (J4.tr o1).tr o2
        exact ⟨rfl, _, rfl, rfl, rfl, rfl, (Frm.mono gQ q4), gO, gP, J6⟩
     ·rintro Cp Cq ⟨gR, gS, gT, f4, gU, gV, gW⟩
      obtain ⟨Cr, rfl⟩ := sq3 gR gS gT
      have zm := f4.size
      refine xN (fE _ _ (wp_ret (ret3 (.agg #[(.bool gi), (.slice Ai ni ci)]) (.agg #[(.bool g), (.slice h j l)]) (.agg #[(.bool a), (.slice c d f)]) results99 (resB [(.bool gi), (.slice Ai ni ci)] agg25 sz25 rfl gU) (resB [(.bool g), (.slice h j l)] agg25 sz25 rfl gV) (resB [(.bool a), (.slice c d f)] agg25 sz25 rfl gW) ?_)))
      have gX := ((W.trans a5).rx a6).tr f4
      have of := (cs.frmB gX q3)
      have gY := f0.tr f4
      have og := (cr.frmB gY q3)
      have gZ := a6.tr f4
      have oh := (L1.frmB gZ q3)
      have hc := ((((ad.xr a4).xr W).xr a5).tr a6).tr f4
      exact ⟨gi, Ai, ni, ci, di, g, h, j, l, cv, a, c, d, f, cw, rfl, (Frm.mono hc q4), (NatR.sub of q5), (NatR.sub og q5), (NatR.sub oh q5), hxx, hxs, Qo⟩
end Go.Proofs.YtneolcopompkaaaGreatDoor
