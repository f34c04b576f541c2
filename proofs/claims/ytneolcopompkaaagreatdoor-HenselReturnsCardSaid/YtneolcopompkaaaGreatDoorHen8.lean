/-
  Walk of package hensel: one step of the lift.
-/
import Derived.Test.YtneolcopompkaaaGreatDoorHen6
import Derived.Test.YtneolcopompkaaaGreatDoorHen5
import Derived.Test.YtneolcopompkaaaGreatDoorLibB
namespace Go.Proofs.YtneolcopompkaaaGreatDoor
open Go.RowKit Go.Gx Tryz
set_option maxHeartbeats 4000000 in
theorem hensel_step {w : World} {Sf : Nat → Prop} {Af : Option Addr} {nf cf Mf : Nat} {lf : List RI} {Ss0 : Nat → Prop} {As0 : Option Addr} {ns0 cs0 Ms0 : Nat} {fs0 : List PE} {Ss1 : Nat → Prop} {As1 : Option Addr} {ns1 cs1 Ms1 : Nat} {fs1 : List PE} {gm : Bool} {Sm : Nat → Prop} {Am : Option Addr} {nm cm : Nat} {dm : List Nat} (hf : PolyR w Sf Af nf cf lf Mf) (hs0 : PolysR w Ss0 As0 ns0 cs0 fs0 Ms0) (hs1 : PolysR w Ss1 As1 ns1 cs1 fs1 Ms1) (hm : NatR w Sm Am nm cm dm) (hnf : nf ≤ 64) (hMf : Mf ≤ 4096) (hnl : ns0 ≤ 8 ∧ ns1 = ns0) (hMl : Ms0 ≤ 4096 ∧ Ms1 ≤ 4096) (hnm : nm ≤ 4096) (hm0 : zval gm dm ≠ 0) (hle : (∀ x ∈ fs0, x.n ≤ 64) ∧ ∀ x ∈ fs1, x.n ≤ 64) (hcp : Int.gcd (ldP (zs lf)) (zval gm dm) = 1) (hgd : ∀ x ∈ fs0, 0 < (trimZ (zs x.l)).length) (hg1 : ∀ x k : Int, x * ldP (zs lf) = 1 + zval gm dm * k → x = symZ (zval gm dm).natAbs x → ∀ u ∈ step0 (zval gm dm).natAbs x (zs lf) (zsL fs0) (zsL fs1), 0 < (trimZ u).length) : Calls Tryz.prog 61 #[(.slice Af nf cf), (.agg #[(.slice As0 ns0 cs0), (.slice As1 ns1 cs1)]), (.agg #[(.bool gm), (.slice Am nm cm)])] w (Ret fun v w' => ∃ (Ar0 : Option Addr) (nr0 : Nat) (cr0 : Nat) (fr0 : List PE) (Ar1 : Option Addr) (nr1 : Nat) (cr1 : Nat) (fr1 : List PE), v = (.agg #[(.slice Ar0 nr0 cr0), (.slice Ar1 nr1 cr1)]) ∧ Ext w w' ∧ PolysR w' (fun b => w.heap.size ≤ b) Ar0 nr0 cr0 fr0 (nm + 2) ∧ PolysR w' (fun b => w.heap.size ≤ b) Ar1 nr1 cr1 fr1 (nm + 2) ∧ (∃ x k : Int, x * ldP (zs lf) = 1 + zval gm dm * k ∧ x = symZ (zval gm dm).natAbs x ∧ zsL fr0 = step0 (zval gm dm).natAbs x (zs lf) (zsL fs0) (zsL fs1) ∧ zsL fr1 = step1 (zval gm dm).natAbs x (zs lf) (zsL fs0) (zsL fs1)) ∧ (nr0 = ns0 ∧ nr1 = ns0) ∧ ((∀ x ∈ fr0, x.n ≤ 64) ∧ ∀ x ∈ fr1, x.n ≤ 64)) := by
 have ⟨kf, jf, mf⟩ := hf.lkm
 replace hf := hf.low
 have ⟨iy, iz, iA⟩ := hs0.lkm; replace hs0 := hs0.low
 have ⟨iB, iC, iD⟩ := hs1.lkm; replace hs1 := hs1.low
 have ⟨lm, km, mm⟩ := hm.lkm
 replace hm := hm.low
 refine enter func61 rfl ntmps61 rfl (rS fun K1 ap => sO (oBox [(.slice As0 ns0 cs0), (.slice As1 ns1 cs1)] rfl rfl (fun g2 w3 iE aq iF ar => sO (oBox [(.bool gm), (.slice Am nm cm)] rfl rfl (fun g8 w9 gF C6 gG S1 => sO (oAlloc [(.slice none 0 0), (.slice none 0 0)] zero92 rfl (fun C7 iG gH w2 gI S2 => sK ap (rS fun iH S3 => sO (oAlloc [(.slice none 0 0), (.slice none 0 0)] zero92 rfl (fun g iI gJ m0 gK S4 => sK S3 (rS fun iJ S5 => sMs rfl ?_)))))))))))
 have C8 := ((aq.trans C6).trans w2).trans m0
 have R8 := (hf.ext C8)
 refine sO (oCall rfl call41 (unipoly_Lead R8 Qo Qo) rfl ?_)
 rintro _ iK ⟨d4, e9, f0, f1, G0, rfl, e4, x4, S6, ez, eA⟩
 have gL := e4.size
 have ⟨eB, eC, eD⟩ := x4.lkm
 have hld : zval d4 G0 = ldP (zs lf) := S6
 refine sO (oAlloc [(.bool false), (.slice none 0 0)] zero25 rfl (fun av iL gM e5 gN S7 => sO (oStore [(.bool d4), (.slice e9 f0 f1)] rfl rfl rfl sz25 rfl S7 Qn (fun aw e6 gO m1 => ?_))))
 replace m1 : Blk aw av 25 [(.bool d4), (.slice e9 f0 f1)] := m1
 refine sK S5 (rS fun iM S8 => sV (evLoadAB [(.bool d4), (.slice e9 f0 f1)] agg25 sz25 rfl m1 rfl) ?_)
 have S9 := (((w2.trans m0).trans e4).trans e5).rx e6
 have C9 := (S1.frm S9 q1)
 refine sV (evLoadAB [(.bool gm), (.slice Am nm cm)] agg25 sz25 rfl C9 rfl) ?_
 have T0 := e5.rx e6
 have R9 := (x4.frmB T0 q3)
 have D0 := ((C8.trans e4).trans e5).rx e6
 have S0 := (hm.frmB D0 q3)
 refine sO (oCall rfl call99 (division_Xgcd R9 S0 (by omega) (by omega) hm0 (by rw [hld]; exact hcp)) rfl ?_)
 rintro _ iN ⟨f2, f3, f4, f5, eE, Q, d5, d6, d7, m2, f6, f7, f8, f9, eF, rfl, e7, G1, x5, G2, T1, x6, G3⟩
 have gP := e7.size
 have ⟨eG, eH, eI⟩ := G1.lkm
 have ⟨G3, eJ, eK⟩ := x5.lkm
 have ⟨eL, eM, eN⟩ := G2.lkm
 obtain ⟨kx, hkx⟩ := T1; rw [hld] at hkx
 refine sV (v := (.tuple #[(.agg #[(.bool f2), (.slice f3 f4 f5)]), (.agg #[(.bool Q), (.slice d5 d6 d7)]), (.agg #[(.bool f6), (.slice f7 f8 f9)])])) (rfl) (sV (v := (.agg #[(.bool f2), (.slice f3 f4 f5)])) (rfl) (sV (v := (.agg #[(.bool Q), (.slice d5 d6 d7)])) (rfl) (sV (v := (.agg #[(.bool f6), (.slice f7 f8 f9)])) (rfl) (sO (oAlloc [(.bool false), (.slice none 0 0)] zero25 rfl (fun ax iO gQ e8 gR T2 => sO (oAlloc [(.bool false), (.slice none 0 0)] zero25 rfl (fun ay iP gS d1 gT T3 => sO (oAlloc [(.bool false), (.slice none 0 0)] zero25 rfl (fun az iQ gU c1 gV T4 => ?_))))))))))
 have T5 := d1.trans c1
 have T6 := (T2.ext T5)
 refine sO (oStore [(.bool f2), (.slice f3 f4 f5)] rfl rfl rfl sz25 rfl T6 Qn (fun aA c2 gW D1 => ?_))
 replace D1 : Blk aA ax 25 [(.bool f2), (.slice f3 f4 f5)] := D1
 have T7 := c1.rx c2
 have T8 := (T3.frm T7 q1)
 refine sO (oStore [(.bool Q), (.slice d5 d6 d7)] rfl rfl rfl sz25 rfl T8 Qn (fun aB d2 gX w4 => ?_))
 replace w4 : Blk aB ay 25 [(.bool Q), (.slice d5 d6 d7)] := w4
 have T9 := c2.tr d2
 have U0 := (T4.frm T9 q1)
 refine sO (oStore [(.bool f6), (.slice f7 f8 f9)] rfl rfl rfl sz25 rfl U0 Qn (fun aC d3 gY D2 => ?_))
 replace D2 : Blk aC az 25 [(.bool f6), (.slice f7 f8 f9)] := D2
 refine sK S8 (rS fun iR U1 => ?_)
 have U2 := (((((((((((C6.trans w2).trans m0).trans e4).trans e5).rx e6).xr e7).xr e8).xr d1).xr c1).tr c2).tr d2).tr d3
 have D3 := (ar.frm U2 q1)
 refine sV (evLoadAB [(.slice As0 ns0 cs0), (.slice As1 ns1 cs1)] agg92 sz92 rfl D3 rfl) ?_
 have w5 := (((((e7.trans e8).trans d1).trans c1).rx c2).tr d2).tr d3
 have D4 := (C9.frm w5 q1)
 refine sV (evLoadAB [(.bool gm), (.slice Am nm cm)] agg25 sz25 rfl D4 rfl) ?_
 have m3 := ((((((D0.xr e7).xr e8).xr d1).xr c1).tr c2).tr d2).tr d3
 have D5 := (hs0.frmB m3 q3)
 have w6 := (hs1.frmB m3 q3)
 have D6 := (S0.frmB w5 q3)
 refine sO (oCall rfl call100 (hensel_sum D5 w6 D6 Qo Qo Qo hm0 hle) rfl ?_)
 rintro _ gZ ⟨s5, s6, s7, aD, s8, s9, t0, D7, rfl, R, D8, t1, G4, aE, aF, aG⟩
 have eO := R.size
 have ⟨aH, aI, aJ⟩ := D8.lkm
 have ⟨aK, aL, aM⟩ := t1.lkm
 refine sV (v := (.tuple #[(.slice s5 s6 s7), (.slice s8 s9 t0)])) (rfl) (sV (v := (.slice s5 s6 s7)) (rfl) (sV (v := (.slice s8 s9 t0)) (rfl) (sAs rfl (sAs rfl (sK U1 (rS fun hb G5 => sMs rfl (sMs rfl ?_)))))))
 have x7 := w5.xr R
 have G6 := (m1.frm x7 q1)
 refine sV (evLoadAB [(.bool d4), (.slice e9 f0 f1)] agg25 sz25 rfl G6 rfl) ?_
 have U3 := (R9.frmB x7 q3)
 refine sO (oCall rfl call16 (unipoly_Scale t1 U3 Qo Qo Qo) rfl ?_)
 rintro _ hc ⟨aN, aO, aP, aQ, rfl, b3, t2, G7, aR, aS⟩
 have eP := b3.size
 have ⟨aT, aU, aV⟩ := t2.lkm
 have x8 := ((((((((((e4.trans e5).rx e6).xr e7).xr e8).xr d1).xr c1).tr c2).tr d2).tr d3).xr R).xr b3
 have U4 := (R8.frmB x8 q3)
 refine sO (oCall rfl call71 (unipoly_Sub U4 t2 Qo Qo Qo Qo) rfl ?_)
 rintro _ hd ⟨aW, aX, aY, aZ, rfl, b4, t3, G8, ba, bb⟩
 have eQ := b4.size
 have ⟨bc, bd, be⟩ := t3.lkm
 refine sAs rfl (sK G5 (wp_seq_k fun he G9 => dBegin (fun _ => False) mixed (fun hg b5 eR => dMs 0 rfl rfl ?_)))
 have m4 := ((R.trans b3).trans b4).trans b5
 have g0 := (D4.ext m4)
 refine dV 1 rfl (fun _ hf => evLoadAB [(.bool gm), (.slice Am nm cm)] agg25 sz25 rfl (g0.ext hf) rfl) ?_
 have H0 := (((d3.xr R).xr b3).xr b4).xr b5
 have H1 := (w4.frm H0 q1)
 refine dV 3 rfl (fun _ hf => evLoadAB [(.bool Q), (.slice d5 d6 d7)] agg25 sz25 rfl (H1.ext hf) rfl) (dV 5 rfl (fun _ hf => evLoadAB [(.bool gm), (.slice Am nm cm)] agg25 sz25 rfl (g0.ext hf) rfl) ?_)
 have U5 := (t3.ext b5)
 have D9 := (D6.ext m4)
 refine dOp 2 rfl rfl (by kernel_rfl) (oCall rfl call68 (hensel_reduce U5 D9 Qo Qo Qo hm0) rfl ?_)
 rintro _ hh ⟨bf, bg, bh, bi, rfl, T, t4, H2, bj, bk⟩
 refine ⟨(Frm.of_ext T), ?_⟩
 have eS := T.size
 have ⟨bl, bm, bn⟩ := t4.lkm
 have H3 := (((((((((e8.trans d1).trans c1).rx c2).tr d2).tr d3).xr R).xr b3).xr b4).xr b5).xr T
 have U6 := (x5.frmB H3 q3)
 refine dOp 4 rfl rfl (by kernel_rfl) (oCall rfl call16 (unipoly_Scale t4 U6 Qo Qo Qo) rfl ?_)
 rintro _ hj ⟨bo, bp, bq, br, rfl, b6, t5, H4, bs, bt⟩
 refine ⟨(Frm.of_ext b6), ?_⟩
 have eT := b6.size
 have ⟨bu, bv, bw⟩ := t5.lkm
 have m5 := T.trans b6
 have w7 := (D9.ext m5)
 refine dOp 6 rfl rfl (by kernel_rfl) (oCall rfl call68 (hensel_reduce t5 w7 Qo Qo Qo hm0) rfl ?_)
 rintro _ J ⟨E0, E1, E2, t6, rfl, E, t7, H5, bx, bz⟩
 refine ⟨(Frm.of_ext E), ?_⟩
 have eU := E.size
 have ⟨bA, bB, bC⟩ := t7.lkm
 refine dAs 7 rfl rfl (dDone (by kernel_rfl) (xN (G9 _ _ (wp_seq_k fun hk H6 => rS fun hl H7 => sV (evArr 0 underlying92 sz43 rfl rfl 0) ?_))))
 have m6 := ((m4.trans T).trans b6).trans E
 have m7 := (D3.ext m6)
 refine sV (evLoadB one43 rfl m7 rfl) (sV (evLen underlying43 rfl) (sMi rfl (sK H7 (wp_block ?_))))
 have H8 := ((((x8.xr b4).xr b5).xr T).xr b6).xr E
 have H9 := (S4.frm H8 q1)
 refine lLoop (fun m e w_ => ∃ (i : Nat) (d : Nat) (P : Option Addr) (C : Nat) (D : List PE), m = ns0 - i ∧ e 4 = (.pointer (some ⟨g2, 0, none⟩)) ∧ e 5 = (.pointer (some ⟨g8, 0, none⟩)) ∧ e 6 = (.pointer (some ⟨C7, 0, none⟩)) ∧ e 7 = (.pointer (some ⟨g, 0, none⟩)) ∧ e 14 = (.slice E0 E1 E2) ∧ e 52 = (.slice As0 ns0 cs0) ∧ e 53 = (.int .i64 ns0) ∧ e 54 = (.int .i64 i) ∧ Frm (fun b => J.heap.size ≤ b ∨ b = g) J w_ ∧ Blk w_ g 92 ([(.slice P d C), (.slice none 0 0)]) ∧ (i ≤ ns0) ∧ (OwnX (nm + 2) g w_ J.heap.size 39 P d C D) ∧ (d = i) ∧ (∀ x ∈ D, x.n ≤ 64) ∧ (zsL D = ((zsL (fs0.take i)).zip (zsL (fs1.take i))).map (fun p => nxt0 (zval gm dm).natAbs (zs t6) p.1 p.2))) (ns0 - (0)) ?_ ?_
 ·refine ⟨(0), (0), (none), (0), ([]), rfl, rfl, rfl, rfl, rfl, rfl, rfl, rfl, cI, (Frm.refl _ _), ?_, ?_, ?_, ?_, ?_, ?_⟩
  ·exact H9
  ·omega
  ·exact OwnX.nil Qo
  ·rfl
  ·exact fun x hx => (by cases hx)
  ·rfl
 ·rintro hn ho hp ⟨i, d, P, C, D, eV, I0, I1, I2, I3, I4, I5, I6, I7, o, c5, hi, c9, hq, k1, k2⟩
  obtain ⟨hr, rfl⟩ := sq8 I0 I1 I2 I3 I4 I5 I6 I7
  have eW := o.size
  have ⟨ht, hv, hw⟩ := c9.lkm
  refine rS fun hy x9 => ?_
  by_cases y0 : ((i : Int)) < ((ns0 : Int))
  ·refine sV (evLss true rfl rfl (dT y0)) (sK x9 (wp_seq_k fun hz I8 => cT rfl (wp_skip (xN (I8 _ _ (wp_seq_k fun hA g1 => wp_block (rS fun hB I9 => sMi rfl ?_)))))))
   have y1 := m6.rx o
   have E3 := (D5.frmB y1 q3)
   obtain ⟨hC, U7, rfl⟩ := E3.base Qo
   refine sV (evIx i underlying43 sz39 rfl rfl (U7 + i)) ?_
   obtain ⟨⟨eX, eY, eZ, y2⟩, V, t8, k3, bD, bF⟩ := E3.at_ (i := i) Qo
   dsimp only at t8 k3; have ⟨q1_193, q2_193, q3_193⟩ := k3.lkm
   have h64_193 := hle.1 _ (List.mem_of_getElem? V); dsimp only at h64_193
   have l9 := hgd _ (List.mem_of_getElem? V); dsimp only at l9
   refine sV (evLoad one39 rfl t8) (sAi rfl (sAs rfl (sK I9 (wp_seq_k fun hD J0 => dBegin (fun _ => False) mixed (fun hE d8 fa => dV 0 rfl (fun _ _ => evArr 1 underlying92 sz43 rfl rfl 1) ?_)))))
   have y3 := o.xr d8
   have J1 := (m7.frm y3 q1)
   refine dV 1 rfl (fun _ hf => evLoadB one43 rfl (J1.ext hf) rfl) (dMi 2 rfl rfl ?_)
   have J2 := y1.xr d8
   have E4 := (w6.frmB J2 q3)
   obtain ⟨hF, U8, rfl⟩ := E4.base Qo
   refine dV 3 rfl (fun _ _ => evIx i underlying43 sz39 rfl rfl (U8 + i)) ?_
   obtain ⟨⟨fb, fc, fd, fe⟩, c3, t9, k4, bG, E5⟩ := E4.at_ (i := i) Qo
   dsimp only at t9 k4; have ⟨q1_205, q2_205, q3_205⟩ := k4.lkm
   have h64_205 := hle.2 _ (List.mem_of_getElem? c3); dsimp only at h64_205
   refine dV 4 rfl (fun _ hf => evLoad one39 rfl ((hf.cell (p := ⟨_, _, none⟩) E5 (fun h => h)).trans t9)) (dMs 5 rfl rfl (dMs 7 rfl rfl ?_))
   have J3 := ((m5.trans E).rx o).xr d8
   have y4 := (g0.frm J3 q1)
   refine dV 8 rfl (fun _ hf => evLoadAB [(.bool gm), (.slice Am nm cm)] agg25 sz25 rfl (y4.ext hf) rfl) ?_
   have U9 := (t7.frmB y3 q3)
   refine dOp 6 rfl rfl (by kernel_rfl) (oCall rfl call19 (unipoly_Mul k4 U9 Qo Qo Qo Qo) rfl ?_)
   rintro _ hG ⟨bH, bI, bJ, bK, rfl, d9, u0, g3, bL, bM⟩
   refine ⟨(Frm.of_ext d9), ?_⟩
   have ff := d9.size
   have ⟨bO, bP, bQ⟩ := u0.lkm
   have e0 := d8.trans d9
   have w8 := (k3.ext e0)
   have J4 := ((E.rx o).xr d8).xr d9
   have m8 := (w7.frmB J4 q3)
   refine dOp 9 rfl rfl (by kernel_rfl) (oCall rfl call101 (hensel_remainder u0 w8 m8 Qo Qo Qo Qo Qo hm0 l9) rfl ?_)
   rintro _ hH ⟨bR, bS, bT, E6, rfl, M, k5, g4, E6, bU, bV⟩
   refine ⟨(Frm.of_ext M), ?_⟩
   have fg := M.size
   have ⟨bW, bX, bY⟩ := k5.lkm
   have an : (trimZ (zs y2)).length ≤ 64 := by have h := trimZ_len (zs y2); rw [zlen] at h; omega
   refine dAs 10 rfl rfl (dDone (by kernel_rfl) (xN (J0 _ _ (dBegin (fun b => J.heap.size ≤ b ∨ b = g) mixed (fun hI N fh => dV 0 rfl (fun _ _ => evArr 0 underlying92 sz43 rfl rfl 0) (dMs 2 rfl rfl (dMs 3 rfl rfl ?_)))))))
   have J5 := (d9.trans M).trans N
   have J6 := (y4.ext J5)
   refine dV 5 rfl (fun _ hf => evLoadAB [(.bool gm), (.slice Am nm cm)] agg25 sz25 rfl (J6.frm hf q1) rfl) (dTwo 1 4 (by kernel_rfl) ?_ ?_)
   ·have y5 := (e0.trans M).trans N
    have y6 := (c5.ext y5)
    refine dWp (i := 1) rfl rfl (oEv (v := (.slice P d C)) (evLoadB one43 rfl y6 rfl) rfl ⟨Frm.refl _ _, ?_⟩)
    have y7 := M.trans N
    have V0 := (w8.ext y7)
    have V1 := (k5.ext N)
    refine dOp 4 rfl rfl (by kernel_rfl) (oCall rfl call102 (unipoly_Add V0 V1 Qo Qo Qo Qo) rfl ?_)
    rintro _ V2 ⟨bZ, ca, cb, cc, rfl, e1, u1, J7, cd, ce⟩
    refine ⟨(Frm.of_ext e1), ?_⟩
    have fi := e1.size
    have ⟨cg, ch, ci⟩ := u1.lkm
    have J8 := y7.trans e1
    have V3 := (m8.ext J8)
    refine dOp 6 rfl rfl (by kernel_rfl) (oCall rfl call68 (hensel_reduce u1 V3 Qo Qo Qo hm0) rfl ?_)
    rintro _ hJ ⟨W, X, Y, k6, rfl, g5, u2, J9, cj, ck⟩
    refine ⟨(Frm.of_ext g5), ?_⟩
    have fj := g5.size
    have ⟨cl, cn, co⟩ := u2.lkm
    refine dOp 7 rfl rfl (by kernel_rfl) (oBuildSlice [(.slice W X Y)] [[(.slice W X Y)]] underlying43 inf39 rfl rfl rfl rfl rfl (fun V4 V5 fk g6 fl m9 => ⟨(Frm.of_ext g6), ?_⟩))
    replace m9 : Blk V5 V4 39 [(.slice W X Y)] := m9
    have y8 := ((y5.trans e1).trans g5).trans g6
    have y9 := (c9.ext y8)
    have V6 := (u2.ext g6)
    refine dOp 8 rfl rfl (by kernel_rfl) (oAppG (L := LPx (nm + 2) g) (f := (⟨W, X, Y, k6⟩ : PE)) (S := fun b => (fun b => V2.heap.size ≤ b) b) (B := J.heap.size) underlying43 inf39 rfl rfl rfl y9.2 m9 (PolyR.le (PolyR.sub V6 (fun b hb_ hs => ⟨hs, by (try dsimp only at hs); omega⟩)) (by omega)) (fun b hb_ hs a ha e => by have h9 := c9.2.1.lt a ha; (try dsimp only at hs); omega) (by omega) (by omega) (by omega) (fun n0 n1 V7 g7 g9 _ fm => ⟨(g9.mono q4), ?_⟩))
    replace g7 : OwnX (nm + 2) g V7 J.heap.size 39 n0 (d + 1) n1 (D ++ [(⟨W, X, Y, k6⟩ : PE)]) := ⟨y9.1, g7⟩
    have fn := g9.size; have ⟨_, _, _⟩ := g7.lkm
    refine dV 9 rfl (fun _ _ => evArr 0 underlying92 sz43 rfl rfl 0) ?_
    have K0 := ((e1.trans g5).trans g6).rx g9
    have K2 := (y6.frm K0 q1)
    refine dOp 10 rfl rfl (by kernel_rfl) (oStore [(.slice n0 (d + 1) n1)] rfl rfl rfl sz43 rfl K2 Qn (fun V8 n2 fo n3 => ?_))
    replace n3 : Blk V8 g 92 [(.slice n0 (d + 1) n1), (.slice none 0 0)] := n3
    refine ⟨(n2.mono q4), dDone (by kernel_rfl) (bN (xN (g1 _ _ (wp_region_lit (sV (evAdd (((i : Int)) + 1) rfl rfl wI) (sMi rfl (sDone ?_)))))))⟩
    have K3 := (y8.rx g9).tr n2
    have K4 := (g7.frmB n2 q3)
    refine again (ns0 - (i + 1)) Qo ⟨(i + 1), (d + 1), (n0), (n1), (D ++ [(⟨W, X, Y, k6⟩ : PE)]), rfl, rfl, rfl, rfl, rfl, rfl, rfl, rfl, cI, (Frm.mono (o.tr K3) q4), ?_, ?_, ?_, ?_, ?_, ?_⟩
    ·exact n3
    ·omega
    ·exact K4
    ·omega
    ·exact lenL_snoc k1 (by (try dsimp only); omega)
    ·exact zmap_next k2 V c3 (by show zs _ = _; rw [J9, J7, g4, g3]; rfl)
   ·have n4 := M.trans N
    have V9 := (w8.ext n4)
    have W0 := (k5.ext N)
    refine dWp (i := 4) rfl rfl (oCall rfl call102 (unipoly_Add V9 W0 Qo Qo Qo Qo) rfl ?_)
    rintro _ x1 ⟨cp, cq, cr, cs, rfl, b7, k7, n5, ct, cu⟩
    refine ⟨(Frm.of_ext b7), ?_⟩
    have fp := b7.size
    have ⟨cv, cw, cx⟩ := k7.lkm
    refine dTwo 1 6 (by kernel_rfl) ?_ ?_
    ·have z0 := ((e0.trans M).trans N).trans b7
     have z1 := (c5.ext z0)
     refine dWp (i := 1) rfl rfl (oEv (v := (.slice P d C)) (evLoadB one43 rfl z1 rfl) rfl ⟨Frm.refl _ _, ?_⟩)
     have K5 := n4.trans b7
     have W1 := (m8.ext K5)
     refine dOp 6 rfl rfl (by kernel_rfl) (oCall rfl call68 (hensel_reduce k7 W1 Qo Qo Qo hm0) rfl ?_)
     rintro _ hK ⟨Z, a0, a1, k8, rfl, h0, u3, K6, cy, cz⟩
     refine ⟨(Frm.of_ext h0), ?_⟩
     have fq := h0.size
     have ⟨cA, cB, cC⟩ := u3.lkm
     refine dOp 7 rfl rfl (by kernel_rfl) (oBuildSlice [(.slice Z a0 a1)] [[(.slice Z a0 a1)]] underlying43 inf39 rfl rfl rfl rfl rfl (fun W2 W3 fr h1 fs n6 => ⟨(Frm.of_ext h1), ?_⟩))
     replace n6 : Blk W3 W2 39 [(.slice Z a0 a1)] := n6
     have z2 := (z0.trans h0).trans h1
     have z3 := (c9.ext z2)
     have W4 := (u3.ext h1)
     refine dOp 8 rfl rfl (by kernel_rfl) (oAppG (L := LPx (nm + 2) g) (f := (⟨Z, a0, a1, k8⟩ : PE)) (S := fun b => (fun b => x1.heap.size ≤ b) b) (B := J.heap.size) underlying43 inf39 rfl rfl rfl z3.2 n6 (PolyR.le (PolyR.sub W4 (fun b hb_ hs => ⟨hs, by (try dsimp only at hs); omega⟩)) (by omega)) (fun b hb_ hs a ha e => by have h9 := c9.2.1.lt a ha; (try dsimp only at hs); omega) (by omega) (by omega) (by omega) (fun n7 n8 W5 h2 h3 _ ft => ⟨(h3.mono q4), ?_⟩))
     replace h2 : OwnX (nm + 2) g W5 J.heap.size 39 n7 (d + 1) n8 (D ++ [(⟨Z, a0, a1, k8⟩ : PE)]) := ⟨z3.1, h2⟩
     have fu := h3.size; have ⟨_, _, _⟩ := h2.lkm
     refine dV 9 rfl (fun _ _ => evArr 0 underlying92 sz43 rfl rfl 0) ?_
     have K7 := (h0.trans h1).rx h3
     have K8 := (z1.frm K7 q1)
     refine dOp 10 rfl rfl (by kernel_rfl) (oStore [(.slice n7 (d + 1) n8)] rfl rfl rfl sz43 rfl K8 Qn (fun W6 n9 fv o0 => ?_))
     replace o0 : Blk W6 g 92 [(.slice n7 (d + 1) n8), (.slice none 0 0)] := o0
     refine ⟨(n9.mono q4), dDone (by kernel_rfl) (bN (xN (g1 _ _ (wp_region_lit (sV (evAdd (((i : Int)) + 1) rfl rfl wI) (sMi rfl (sDone ?_)))))))⟩
     have K9 := (z2.rx h3).tr n9
     have L0 := (h2.frmB n9 q3)
     refine again (ns0 - (i + 1)) Qo ⟨(i + 1), (d + 1), (n7), (n8), (D ++ [(⟨Z, a0, a1, k8⟩ : PE)]), rfl, rfl, rfl, rfl, rfl, rfl, rfl, rfl, cI, (Frm.mono (o.tr K9) q4), ?_, ?_, ?_, ?_, ?_, ?_⟩
     ·exact o0
     ·omega
     ·exact L0
     ·omega
     ·exact lenL_snoc k1 (by (try dsimp only); omega)
     ·exact zmap_next k2 V c3 (by show zs _ = _; rw [K6, n5, g4, g3]; rfl)
    ·have L1 := n4.trans b7
     have W7 := (m8.ext L1)
     refine dWp (i := 6) rfl rfl (oCall rfl call68 (hensel_reduce k7 W7 Qo Qo Qo hm0) rfl ?_)
     rintro _ hL ⟨q, r, s, a2, rfl, h4, k9, z4, cD, cE⟩
     refine ⟨(Frm.of_ext h4), ?_⟩
     have fw := h4.size
     have ⟨cG, cH, cJ⟩ := k9.lkm
     refine dTwo 1 7 (by kernel_rfl) ?_ ?_
     ·have z5 := (((e0.trans M).trans N).trans b7).trans h4
      have z6 := (c5.ext z5)
      refine dWp (i := 1) rfl rfl (oEv (v := (.slice P d C)) (evLoadB one43 rfl z6 rfl) rfl ⟨Frm.refl _ _, dOp 7 rfl rfl (by kernel_rfl) (oBuildSlice [(.slice q r s)] [[(.slice q r s)]] underlying43 inf39 rfl rfl rfl rfl rfl (fun W8 W9 fx h5 fy o1 => ⟨(Frm.of_ext h5), ?_⟩))⟩)
      replace o1 : Blk W9 W8 39 [(.slice q r s)] := o1
      have z7 := z5.trans h5
      have z8 := (c9.ext z7)
      have X0 := (k9.ext h5)
      refine dOp 8 rfl rfl (by kernel_rfl) (oAppG (L := LPx (nm + 2) g) (f := (⟨q, r, s, a2⟩ : PE)) (S := fun b => (fun b => x1.heap.size ≤ b) b) (B := J.heap.size) underlying43 inf39 rfl rfl rfl z8.2 o1 (PolyR.le (PolyR.sub X0 (fun b hb_ hs => ⟨hs, by (try dsimp only at hs); omega⟩)) (by omega)) (fun b hb_ hs a ha e => by have h9 := c9.2.1.lt a ha; (try dsimp only at hs); omega) (by omega) (by omega) (by omega) (fun o2 o3 X1 h6 h7 _ fz => ⟨(h7.mono q4), ?_⟩))
      replace h6 : OwnX (nm + 2) g X1 J.heap.size 39 o2 (d + 1) o3 (D ++ [(⟨q, r, s, a2⟩ : PE)]) := ⟨z8.1, h6⟩
      have fA := h7.size; have ⟨_, _, _⟩ := h6.lkm
      refine dV 9 rfl (fun _ _ => evArr 0 underlying92 sz43 rfl rfl 0) ?_
      have L2 := h5.rx h7
      have L3 := (z6.frm L2 q1)
      refine dOp 10 rfl rfl (by kernel_rfl) (oStore [(.slice o2 (d + 1) o3)] rfl rfl rfl sz43 rfl L3 Qn (fun X2 o4 fB o5 => ?_))
      replace o5 : Blk X2 g 92 [(.slice o2 (d + 1) o3), (.slice none 0 0)] := o5
      refine ⟨(o4.mono q4), dDone (by kernel_rfl) (bN (xN (g1 _ _ (wp_region_lit (sV (evAdd (((i : Int)) + 1) rfl rfl wI) (sMi rfl (sDone ?_)))))))⟩
      have L4 := (z7.rx h7).tr o4
      have L5 := (h6.frmB o4 q3)
      refine again (ns0 - (i + 1)) Qo ⟨(i + 1), (d + 1), (o2), (o3), (D ++ [(⟨q, r, s, a2⟩ : PE)]), rfl, rfl, rfl, rfl, rfl, rfl, rfl, rfl, cI, (Frm.mono (o.tr L4) q4), ?_, ?_, ?_, ?_, ?_, ?_⟩
      ·exact o5
      ·omega
      ·exact L5
      ·omega
      ·exact lenL_snoc k1 (by (try dsimp only); omega)
      ·exact zmap_next k2 V c3 (by show zs _ = _; rw [z4, n5, g4, g3]; rfl)
     ·refine dWp (i := 7) rfl rfl (oBuildSlice [(.slice q r s)] [[(.slice q r s)]] underlying43 inf39 rfl rfl rfl rfl rfl (fun X3 X4 fC o6 fD o7 => ⟨(Frm.of_ext o6), ?_⟩))
      replace o7 : Blk X4 X3 39 [(.slice q r s)] := o7
      have o8 := ((((e0.trans M).trans N).trans b7).trans h4).trans o6
      have z9 := (c5.ext o8)
      refine dOp 1 rfl rfl (by kernel_rfl) (oEv (v := (.slice P d C)) (evLoadB one43 rfl z9 rfl) rfl ⟨Frm.refl _ _, ?_⟩)
      have A0 := (c9.ext o8)
      have X5 := (k9.ext o6)
      refine dOp 8 rfl rfl (by kernel_rfl) (oAppG (L := LPx (nm + 2) g) (f := (⟨q, r, s, a2⟩ : PE)) (S := fun b => (fun b => x1.heap.size ≤ b) b) (B := J.heap.size) underlying43 inf39 rfl rfl rfl A0.2 o7 (PolyR.le (PolyR.sub X5 (fun b hb_ hs => ⟨hs, by (try dsimp only at hs); omega⟩)) (by omega)) (fun b hb_ hs a ha e => by have h9 := c9.2.1.lt a ha; (try dsimp only at hs); omega) (by omega) (by omega) (by omega) (fun o9 p0 X6 h8 i0 _ fE => ⟨(i0.mono q4), ?_⟩))
      replace h8 : OwnX (nm + 2) g X6 J.heap.size 39 o9 (d + 1) p0 (D ++ [(⟨q, r, s, a2⟩ : PE)]) := ⟨A0.1, h8⟩
      have fF := i0.size; have ⟨_, _, _⟩ := h8.lkm
      refine dV 9 rfl (fun _ _ => evArr 0 underlying92 sz43 rfl rfl 0) ?_
      have L6 := (z9.frm i0 q1)
      refine dOp 10 rfl rfl (by kernel_rfl) (oStore [(.slice o9 (d + 1) p0)] rfl rfl rfl sz43 rfl L6 Qn (fun X7 p1 fG p2 => ?_))
      replace p2 : Blk X7 g 92 [(.slice o9 (d + 1) p0), (.slice none 0 0)] := p2
      refine ⟨(p1.mono q4), dDone (by kernel_rfl) (bN (xN (g1 _ _ (wp_region_lit (sV (evAdd (((i : Int)) + 1) rfl rfl wI) (sMi rfl (sDone ?_)))))))⟩
      have L7 := (o8.rx i0).tr p1
      have L8 := (h8.frmB p1 q3)
      refine again (ns0 - (i + 1)) Qo ⟨(i + 1), (d + 1), (o9), (p0), (D ++ [(⟨q, r, s, a2⟩ : PE)]), rfl, rfl, rfl, rfl, rfl, rfl, rfl, rfl, cI, (Frm.mono (o.tr L7) q4), ?_, ?_, ?_, ?_, ?_, ?_⟩
      ·exact p2
      ·omega
      ·exact L8
      ·omega
      ·exact lenL_snoc k1 (by (try dsimp only); omega)
      ·exact zmap_next k2 V c3 (by show zs _ = _; rw [z4, n5, g4, g3]; rfl)
  ·refine sV (evLss false rfl rfl (dF y0)) (sK x9 (wp_seq_k fun hM fH => cF rfl (wp_exit (xE (xE (bE (xN (H6 _ _ (wp_seq_k fun hN L9 => ?_)))))))))
   have A1 := OwnX.polys c9; have ⟨hO, hP, hQ⟩ := A1.lkm
   have hmis : zs t6 = missZ (zval gm dm).natAbs (zval Q m2) (zs lf) (ldP (zs lf)) (sumZ (zval gm dm).natAbs (zsL fs0) (zsL fs1)).2 := by rw [H5, H4, H2, G8, G7, hld, show zs D7 = (sumZ (zval gm dm).natAbs (zsL fs0) (zsL fs1)).2 from congrArg Prod.snd G4]; rfl
   have p3 : zsL D = step0 (zval gm dm).natAbs (zval Q m2) (zs lf) (zsL fs0) (zsL fs1) := by rw [zmap_end (i := i) k2 (by omega) (by omega), hmis]; rfl
   have hgn : ∀ u ∈ zsL D, 0 < (trimZ u).length := fun u hu => hg1 _ _ hkx x6 u (p3 ▸ hu)
   refine wp_region_lit (sV (evArr 0 underlying92 sz43 rfl rfl 0) (sV (evLoadB one43 rfl c5 rfl) (sV (evArr 1 underlying92 sz43 rfl rfl 1) ?_)))
   have A2 := (m7.frm o q1)
   refine sV (evLoadB one43 rfl A2 rfl) (sV (v := (.agg #[(.slice P d C), (.slice As1 ns1 cs1)])) (evK (by kernel_rfl)) ?_)
   have M0 := (m5.trans E).rx o
   have A3 := (g0.frm M0 q1)
   refine sV (evLoadAB [(.bool gm), (.slice Am nm cm)] agg25 sz25 rfl A3 rfl) ?_
   have M1 := m6.rx o
   have E7 := (w6.frmB M1 q3)
   have M2 := E.rx o
   have E8 := (w7.frmB M2 q3)
   refine sO (oCall rfl call100 (hensel_sum A1 E7 E8 Qo Qo Qo hm0 ⟨k1, hle.2⟩) rfl ?_)
   rintro _ hR ⟨u4, u5, u6, E9, u7, u8, u9, cK, rfl, i1, v0, F0, M3, cL, cM, cN⟩
   have fI := i1.size
   have ⟨cO, cP, cQ⟩ := v0.lkm
   have ⟨cR, cS, cU⟩ := F0.lkm
   refine sV (v := (.tuple #[(.slice u4 u5 u6), (.slice u7 u8 u9)])) (rfl) (sV (v := (.slice u4 u5 u6)) (rfl) (sV (v := (.slice u7 u8 u9)) (rfl) (sAs rfl (sAs rfl (sK L9 (wp_seq_k fun hS M4 => dBegin (fun _ => False) mixed (fun hT i2 fJ => dMs 0 rfl rfl ?_)))))))
   have A4 := i1.trans i2
   have A5 := (A3.ext A4)
   refine dV 4 rfl (fun _ hf => evLoadAB [(.bool gm), (.slice Am nm cm)] agg25 sz25 rfl (A5.ext hf) rfl) (dOp 1 rfl rfl (by kernel_rfl) (oBuildSlice [(.int .i64 (1))] [[(.int .i64 (1))]] underlying82 inf2 rfl rfl rfl rfl rfl (fun F1 X8 fK c6 fL p4 => ⟨(Frm.of_ext c6), ?_⟩)))
   replace p4 : Blk X8 F1 2 [(.int .i64 (1))] := p4
   refine dOp 2 rfl rfl (by kernel_rfl) (oCall rfl call17 (unipoly_Of (IntsR.of_blk (S := fun b => b = F1) (n := 1) (c := 1) (xs := [1]) p4 rfl (by decide) rfl (Nat.le_refl _) (by decide)) Qo) rfl ?_)
   rintro _ hU ⟨cV, cW, cX, cY, rfl, b8, v1, M5, cZ, da⟩
   refine ⟨(Frm.of_ext b8), ?_⟩
   have fM := b8.size
   have ⟨db, dc, dd⟩ := v1.lkm
   have M6 := (i2.trans c6).trans b8
   have X9 := (v0.ext M6)
   refine dOp 3 rfl rfl (by kernel_rfl) (oCall rfl call71 (unipoly_Sub X9 v1 Qo Qo Qo Qo) rfl ?_)
   rintro _ hV ⟨de, df, dg, dh, rfl, c7, v2, M7, di, dj⟩
   refine ⟨(Frm.of_ext c7), ?_⟩
   have fN := c7.size
   have ⟨dk, dl, dn⟩ := v2.lkm
   have A6 := ((A4.trans c6).trans b8).trans c7
   have F2 := (E8.ext A6)
   refine dOp 5 rfl rfl (by kernel_rfl) (oCall rfl call68 (hensel_reduce v2 F2 Qo Qo Qo hm0) rfl ?_)
   rintro _ K ⟨F3, F4, F5, v3, rfl, b9, v4, M8, dp, dq⟩
   refine ⟨(Frm.of_ext b9), ?_⟩
   have fO := b9.size
   have ⟨dr, ds, dt⟩ := v4.lkm
   refine dAs 6 rfl rfl (dDone (by kernel_rfl) (xN (M4 _ _ (wp_seq_k fun hW M9 => rS fun hX N0 => sV (evArr 1 underlying92 sz43 rfl rfl 1) ?_))))
   have i3 := A6.trans b9
   have N1 := (A2.ext i3)
   refine sV (evLoadB one43 rfl N1 rfl) (sV (evLen underlying43 rfl) (sMi rfl (sK N0 (wp_block ?_))))
   have N2 := (c5.ext i3)
   refine lLoop (fun m e w_ => ∃ (i : Nat) (j : Nat) (a3 : Option Addr) (a4 : Nat) (U : List PE), m = ns0 - i ∧ e 5 = (.pointer (some ⟨g8, 0, none⟩)) ∧ e 6 = (.pointer (some ⟨C7, 0, none⟩)) ∧ e 7 = (.pointer (some ⟨g, 0, none⟩)) ∧ e 20 = (.slice F3 F4 F5) ∧ e 97 = (.slice As1 ns1 cs1) ∧ e 98 = (.int .i64 ns1) ∧ e 99 = (.int .i64 i) ∧ Frm (fun b => K.heap.size ≤ b ∨ b = g) K w_ ∧ Blk w_ g 92 ([(.slice P d C), (.slice a3 j a4)]) ∧ (i ≤ ns0) ∧ (OwnX (nm + 2) g w_ K.heap.size 39 a3 j a4 U) ∧ (j = i) ∧ (∀ x ∈ U, x.n ≤ 64) ∧ (zsL U = ((zsL (fs1.take i)).zip (zsL (D.take i))).map (fun p => nxt1 (zval gm dm).natAbs (zs v3) p.1 p.2))) (ns0 - (0)) ?_ ?_
   ·refine ⟨(0), (0), (none), (0), ([]), rfl, rfl, rfl, rfl, rfl, rfl, rfl, cI, (Frm.refl _ _), ?_, ?_, ?_, ?_, ?_, ?_⟩
    ·exact N2
    ·omega
    ·exact OwnX.nil Qo
    ·rfl
    ·exact fun x hx => (by cases hx)
    ·rfl
   ·rintro hY hZ ia ⟨i, j, a3, a4, U, fP, N3, N4, N5, N6, N7, N8, N9, A, A7, hi, d0, ib, v5, l0⟩
    obtain ⟨ic, rfl⟩ := sq7 N3 N4 N5 N6 N7 N8 N9
    have fQ := A.size
    have ⟨id, ie, ig⟩ := d0.lkm
    refine rS fun ih A8 => ?_
    by_cases A9 : ((i : Int)) < ((ns1 : Int))
    ·refine sV (evLss true rfl rfl (dT A9)) (sK A8 (wp_seq_k fun ii O0 => cT rfl (wp_skip (xN (O0 _ _ (wp_seq_k fun ij i4 => wp_block (rS fun ik O1 => sMi rfl ?_)))))))
     have B0 := i3.rx A
     have F6 := (E7.frmB B0 q3)
     obtain ⟨il, Y0, rfl⟩ := F6.base Qo
     refine sV (evIx i underlying43 sz39 rfl rfl (Y0 + i)) ?_
     obtain ⟨⟨fR, fS, fT, fU⟩, c4, v6, l1, du, dv⟩ := F6.at_ (i := i) Qo
     dsimp only at v6 l1; have ⟨q1_450, q2_450, q3_450⟩ := l1.lkm
     have h64_450 := hle.2 _ (List.mem_of_getElem? c4); dsimp only at h64_450
     refine sV (evLoad one39 rfl v6) (sAi rfl (sAs rfl (sK O1 (wp_seq_k fun im O2 => dBegin (fun _ => False) mixed (fun io F fV => dMs 0 rfl rfl (dMs 1 rfl rfl (dV 3 rfl (fun _ _ => evArr 0 underlying92 sz43 rfl rfl 0) ?_)))))))
     have e2 := (A7.ext F)
     refine dV 4 rfl (fun _ hf => evLoadB one43 rfl (e2.ext hf) rfl) (dMi 5 rfl rfl ?_)
     have O3 := B0.xr F
     have F7 := (A1.frmB O3 q3)
     obtain ⟨p5, l2, rfl⟩ := F7.base Qo
     refine dV 6 rfl (fun _ _ => evIx i underlying43 sz39 rfl rfl (l2 + i)) ?_
     obtain ⟨⟨fW, fX, fY, p6⟩, a5, v7, l3, dw, F8⟩ := F7.at_ (i := i) Qo
     dsimp only at v7 l3; have ⟨q1_461, q2_461, q3_461⟩ := l3.lkm
     have h64_461 := k1 _ (List.mem_of_getElem? a5); dsimp only at h64_461
     have C5 : 0 < (trimZ (zs p6)).length := hgn _ (List.mem_map_of_mem (f := fun f : PE => zs f.l) (List.mem_of_getElem? a5))
     refine dV 7 rfl (fun _ hf => evLoad one39 rfl ((hf.cell (p := ⟨_, _, none⟩) F8 (fun h => h)).trans v7)) ?_
     have O4 := ((((c6.trans b8).trans c7).trans b9).rx A).xr F
     have B1 := (A5.frm O4 q1)
     refine dV 8 rfl (fun _ hf => evLoadAB [(.bool gm), (.slice Am nm cm)] agg25 sz25 rfl (B1.ext hf) rfl) ?_
     have x2 := (l1.ext F)
     have O5 := A.xr F
     have Y1 := (v4.frmB O5 q3)
     refine dOp 2 rfl rfl (by kernel_rfl) (oCall rfl call19 (unipoly_Mul x2 Y1 Qo Qo Qo Qo) rfl ?_)
     rintro _ ip ⟨dx, dy, dz, dA, rfl, O, v8, i5, dB, dC⟩
     refine ⟨(Frm.of_ext O), ?_⟩
     have fZ := O.size
     have ⟨dD, dE, dG⟩ := v8.lkm
     have Y2 := (l3.ext O)
     have O6 := ((b9.rx A).xr F).xr O
     have p7 := (F2.frmB O6 q3)
     refine dOp 9 rfl rfl (by kernel_rfl) (oCall rfl call101 (hensel_remainder v8 Y2 p7 Qo Qo Qo Qo Qo hm0 C5) rfl ?_)
     rintro _ iq ⟨dH, dI, dJ, F9, rfl, G, l4, i6, F9, dK, dL⟩
     refine ⟨(Frm.of_ext G), ?_⟩
     have ga := G.size
     have ⟨dM, dN, dO⟩ := l4.lkm
     have ao : (trimZ (zs p6)).length ≤ 64 := by have h := trimZ_len (zs p6); rw [zlen] at h; omega
     refine dAs 10 rfl rfl (dDone (by kernel_rfl) (xN (O2 _ _ (dBegin (fun b => K.heap.size ≤ b ∨ b = g) mixed (fun ir H gb => dV 0 rfl (fun _ _ => evArr 1 underlying92 sz43 rfl rfl 1) (dMs 2 rfl rfl (dMs 3 rfl rfl ?_)))))))
     have c0 := (O.trans G).trans H
     have O7 := (B1.ext c0)
     refine dV 5 rfl (fun _ hf => evLoadAB [(.bool gm), (.slice Am nm cm)] agg25 sz25 rfl (O7.frm hf q1) rfl) (dTwo 1 4 (by kernel_rfl) ?_ ?_)
     ·have B2 := (e2.ext c0)
      refine dWp (i := 1) rfl rfl (oEv (v := (.slice a3 j a4)) (evLoadB one43 rfl B2 rfl) rfl ⟨Frm.refl _ _, ?_⟩)
      have Y3 := (x2.ext c0)
      have Y4 := (l4.ext H)
      refine dOp 4 rfl rfl (by kernel_rfl) (oCall rfl call71 (unipoly_Sub Y3 Y4 Qo Qo Qo Qo) rfl ?_)
      rintro _ Y5 ⟨dP, dQ, dR, dS, rfl, e3, v9, O8, dU, dW⟩
      refine ⟨(Frm.of_ext e3), ?_⟩
      have gc := e3.size
      have ⟨dX, dY, dZ⟩ := v9.lkm
      have O9 := (G.trans H).trans e3
      have Y6 := (p7.ext O9)
      refine dOp 6 rfl rfl (by kernel_rfl) (oCall rfl call68 (hensel_reduce v9 Y6 Qo Qo Qo hm0) rfl ?_)
      rintro _ it ⟨a6, a7, a8, l5, rfl, i7, w0, P0, ea, eb⟩
      refine ⟨(Frm.of_ext i7), ?_⟩
      have gd := i7.size
      have ⟨ec, ed, ee⟩ := w0.lkm
      refine dOp 7 rfl rfl (by kernel_rfl) (oBuildSlice [(.slice a6 a7 a8)] [[(.slice a6 a7 a8)]] underlying43 inf39 rfl rfl rfl rfl rfl (fun Y7 Y8 ge i8 gf p8 => ⟨(Frm.of_ext i8), ?_⟩))
      replace p8 : Blk Y8 Y7 39 [(.slice a6 a7 a8)] := p8
      have B3 := (((((F.trans O).trans G).trans H).trans e3).trans i7).trans i8
      have B4 := (d0.ext B3)
      have Y9 := (w0.ext i8)
      refine dOp 8 rfl rfl (by kernel_rfl) (oAppG (L := LPx (nm + 2) g) (f := (⟨a6, a7, a8, l5⟩ : PE)) (S := fun b => (fun b => Y5.heap.size ≤ b) b) (B := K.heap.size) underlying43 inf39 rfl rfl rfl B4.2 p8 (PolyR.le (PolyR.sub Y9 (fun b hb_ hs => ⟨hs, by (try dsimp only at hs); omega⟩)) (by omega)) (fun b hb_ hs a ha e => by have h9 := d0.2.1.lt a ha; (try dsimp only at hs); omega) (by omega) (by omega) (by omega) (fun p9 q0 Z0 i9 j0 _ gg => ⟨(j0.mono q4), ?_⟩))
      replace i9 : OwnX (nm + 2) g Z0 K.heap.size 39 p9 (j + 1) q0 (U ++ [(⟨a6, a7, a8, l5⟩ : PE)]) := ⟨B4.1, i9⟩
      have gh := j0.size; have ⟨_, _, _⟩ := i9.lkm
      refine dV 9 rfl (fun _ _ => evArr 1 underlying92 sz43 rfl rfl 1) ?_
      have P1 := ((e3.trans i7).trans i8).rx j0
      have P2 := (B2.frm P1 q1)
      refine dOp 10 rfl rfl (by kernel_rfl) (oStore [(.slice p9 (j + 1) q0)] rfl rfl rfl sz43 rfl P2 Qn (fun Z1 q2 gi q6 => ?_))
      replace q6 : Blk Z1 g 92 [(.slice (some ⟨p5, l2, none⟩) d C), (.slice p9 (j + 1) q0)] := q6
      refine ⟨(q2.mono q4), dDone (by kernel_rfl) (bN (xN (i4 _ _ (wp_region_lit (sV (evAdd (((i : Int)) + 1) rfl rfl wI) (sMi rfl (sDone ?_)))))))⟩
      have P3 := (B3.rx j0).tr q2
      have P4 := (i9.frmB q2 q3)
      refine again (ns0 - (i + 1)) Qo ⟨(i + 1), (j + 1), (p9), (q0), (U ++ [(⟨a6, a7, a8, l5⟩ : PE)]), rfl, rfl, rfl, rfl, rfl, rfl, rfl, cI, (Frm.mono (A.tr P3) q4), ?_, ?_, ?_, ?_, ?_, ?_⟩
      ·exact q6
      ·omega
      ·exact P4
      ·omega
      ·exact lenL_snoc v5 (by (try dsimp only); omega)
      ·exact zmap_next l0 c4 a5 (by show zs _ = _; rw [P0, O8, i6, i5]; rfl)
     ·have Z2 := (x2.ext c0)
      have Z3 := (l4.ext H)
      refine dWp (i := 4) rfl rfl (oCall rfl call71 (unipoly_Sub Z2 Z3 Qo Qo Qo Qo) rfl ?_)
      rintro _ x3 ⟨ef, eg, eh, ei, rfl, I, l6, q7, ej, ek⟩
      refine ⟨(Frm.of_ext I), ?_⟩
      have gj := I.size
      have ⟨el, em, en⟩ := l6.lkm
      refine dTwo 1 6 (by kernel_rfl) ?_ ?_
      ·have P5 := c0.trans I
       have B5 := (e2.ext P5)
       refine dWp (i := 1) rfl rfl (oEv (v := (.slice a3 j a4)) (evLoadB one43 rfl B5 rfl) rfl ⟨Frm.refl _ _, ?_⟩)
       have P6 := (G.trans H).trans I
       have Z4 := (p7.ext P6)
       refine dOp 6 rfl rfl (by kernel_rfl) (oCall rfl call68 (hensel_reduce l6 Z4 Qo Qo Qo hm0) rfl ?_)
       rintro _ iu ⟨a9, b0, b1, l7, rfl, j1, w1, P7, eo, ep⟩
       refine ⟨(Frm.of_ext j1), ?_⟩
       have gk := j1.size
       have ⟨eq, er, es⟩ := w1.lkm
       refine dOp 7 rfl rfl (by kernel_rfl) (oBuildSlice [(.slice a9 b0 b1)] [[(.slice a9 b0 b1)]] underlying43 inf39 rfl rfl rfl rfl rfl (fun Z5 Z6 gl j2 gn q8 => ⟨(Frm.of_ext j2), ?_⟩))
       replace q8 : Blk Z6 Z5 39 [(.slice a9 b0 b1)] := q8
       have B6 := (((((F.trans O).trans G).trans H).trans I).trans j1).trans j2
       have B7 := (d0.ext B6)
       have Z7 := (w1.ext j2)
       refine dOp 8 rfl rfl (by kernel_rfl) (oAppG (L := LPx (nm + 2) g) (f := (⟨a9, b0, b1, l7⟩ : PE)) (S := fun b => (fun b => x3.heap.size ≤ b) b) (B := K.heap.size) underlying43 inf39 rfl rfl rfl B7.2 q8 (PolyR.le (PolyR.sub Z7 (fun b hb_ hs => ⟨hs, by (try dsimp only at hs); omega⟩)) (by omega)) (fun b hb_ hs a ha e => by have h9 := d0.2.1.lt a ha; (try dsimp only at hs); omega) (by omega) (by omega) (by omega) (fun q9 r0 Z8 j3 j4 _ go => ⟨(j4.mono q4), ?_⟩))
       replace j3 : OwnX (nm + 2) g Z8 K.heap.size 39 q9 (j + 1) r0 (U ++ [(⟨a9, b0, b1, l7⟩ : PE)]) := ⟨B7.1, j3⟩
       have gp := j4.size; have ⟨_, _, _⟩ := j3.lkm
       refine dV 9 rfl (fun _ _ => evArr 1 underlying92 sz43 rfl rfl 1) ?_
       have P8 := (j1.trans j2).rx j4
       have P9 := (B5.frm P8 q1)
       refine dOp 10 rfl rfl (by kernel_rfl) (oStore [(.slice q9 (j + 1) r0)] rfl rfl rfl sz43 rfl P9 Qn (fun Z9 r1 gq r2 => ?_))
       replace r2 : Blk Z9 g 92 [(.slice (some ⟨p5, l2, none⟩) d C), (.slice q9 (j + 1) r0)] := r2
       refine ⟨(r1.mono q4), dDone (by kernel_rfl) (bN (xN (i4 _ _ (wp_region_lit (sV (evAdd (((i : Int)) + 1) rfl rfl wI) (sMi rfl (sDone ?_)))))))⟩
       have Q0 := (B6.rx j4).tr r1
       have Q1 := (j3.frmB r1 q3)
       refine again (ns0 - (i + 1)) Qo ⟨(i + 1), (j + 1), (q9), (r0), (U ++ [(⟨a9, b0, b1, l7⟩ : PE)]), rfl, rfl, rfl, rfl, rfl, rfl, rfl, cI, (Frm.mono (A.tr Q0) q4), ?_, ?_, ?_, ?_, ?_, ?_⟩
       ·exact r2
       ·omega
       ·exact Q1
       ·omega
       ·exact lenL_snoc v5 (by (try dsimp only); omega)
       ·exact zmap_next l0 c4 a5 (by show zs _ = _; rw [P7, q7, i6, i5]; rfl)
      ·have Q2 := (G.trans H).trans I
       have aa := (p7.ext Q2)
       refine dWp (i := 6) rfl rfl (oCall rfl call68 (hensel_reduce l6 aa Qo Qo Qo hm0) rfl ?_)
       rintro _ iv ⟨t, y, z, b2, rfl, c8, l8, B8, et, eu⟩
       refine ⟨(Frm.of_ext c8), ?_⟩
       have gr := c8.size
       have ⟨ev, ew, ex⟩ := l8.lkm
       refine dTwo 1 7 (by kernel_rfl) ?_ ?_
       ·have Q3 := (c0.trans I).trans c8
        have B9 := (e2.ext Q3)
        refine dWp (i := 1) rfl rfl (oEv (v := (.slice a3 j a4)) (evLoadB one43 rfl B9 rfl) rfl ⟨Frm.refl _ _, dOp 7 rfl rfl (by kernel_rfl) (oBuildSlice [(.slice t y z)] [[(.slice t y z)]] underlying43 inf39 rfl rfl rfl rfl rfl (fun ab ac gs j5 gt r3 => ⟨(Frm.of_ext j5), ?_⟩))⟩)
        replace r3 : Blk ac ab 39 [(.slice t y z)] := r3
        have C0 := (((((F.trans O).trans G).trans H).trans I).trans c8).trans j5
        have C1 := (d0.ext C0)
        have ad := (l8.ext j5)
        refine dOp 8 rfl rfl (by kernel_rfl) (oAppG (L := LPx (nm + 2) g) (f := (⟨t, y, z, b2⟩ : PE)) (S := fun b => (fun b => x3.heap.size ≤ b) b) (B := K.heap.size) underlying43 inf39 rfl rfl rfl C1.2 r3 (PolyR.le (PolyR.sub ad (fun b hb_ hs => ⟨hs, by (try dsimp only at hs); omega⟩)) (by omega)) (fun b hb_ hs a ha e => by have h9 := d0.2.1.lt a ha; (try dsimp only at hs); omega) (by omega) (by omega) (by omega) (fun r4 r5 ae j6 j7 _ gu => ⟨(j7.mono q4), ?_⟩))
        replace j6 : OwnX (nm + 2) g ae K.heap.size 39 r4 (j + 1) r5 (U ++ [(⟨t, y, z, b2⟩ : PE)]) := ⟨C1.1, j6⟩
        have gv := j7.size; have ⟨_, _, _⟩ := j6.lkm
        refine dV 9 rfl (fun _ _ => evArr 1 underlying92 sz43 rfl rfl 1) ?_
        have Q4 := j5.rx j7
        have Q5 := (B9.frm Q4 q1)
        refine dOp 10 rfl rfl (by kernel_rfl) (oStore [(.slice r4 (j + 1) r5)] rfl rfl rfl sz43 rfl Q5 Qn (fun af r6 gw r7 => ?_))
        replace r7 : Blk af g 92 [(.slice (some ⟨p5, l2, none⟩) d C), (.slice r4 (j + 1) r5)] := r7
        refine ⟨(r6.mono q4), dDone (by kernel_rfl) (bN (xN (i4 _ _ (wp_region_lit (sV (evAdd (((i : Int)) + 1) rfl rfl wI) (sMi rfl (sDone ?_)))))))⟩
        have Q6 := (C0.rx j7).tr r6
        have Q7 := (j6.frmB r6 q3)
        refine again (ns0 - (i + 1)) Qo ⟨(i + 1), (j + 1), (r4), (r5), (U ++ [(⟨t, y, z, b2⟩ : PE)]), rfl, rfl, rfl, rfl, rfl, rfl, rfl, cI, (Frm.mono (A.tr Q6) q4), ?_, ?_, ?_, ?_, ?_, ?_⟩
        ·exact r7
        ·omega
        ·exact Q7
        ·omega
        ·exact lenL_snoc v5 (by (try dsimp only); omega)
        ·exact zmap_next l0 c4 a5 (by show zs _ = _; rw [B8, q7, i6, i5]; rfl)
       ·refine dWp (i := 7) rfl rfl (oBuildSlice [(.slice t y z)] [[(.slice t y z)]] underlying43 inf39 rfl rfl rfl rfl rfl (fun ag ah gx j8 gy r8 => ⟨(Frm.of_ext j8), ?_⟩))
        replace r8 : Blk ah ag 39 [(.slice t y z)] := r8
        have Q8 := ((c0.trans I).trans c8).trans j8
        have C2 := (e2.ext Q8)
        refine dOp 1 rfl rfl (by kernel_rfl) (oEv (v := (.slice a3 j a4)) (evLoadB one43 rfl C2 rfl) rfl ⟨Frm.refl _ _, ?_⟩)
        have C3 := (((((F.trans O).trans G).trans H).trans I).trans c8).trans j8
        have C4 := (d0.ext C3)
        have ai := (l8.ext j8)
        refine dOp 8 rfl rfl (by kernel_rfl) (oAppG (L := LPx (nm + 2) g) (f := (⟨t, y, z, b2⟩ : PE)) (S := fun b => (fun b => x3.heap.size ≤ b) b) (B := K.heap.size) underlying43 inf39 rfl rfl rfl C4.2 r8 (PolyR.le (PolyR.sub ai (fun b hb_ hs => ⟨hs, by (try dsimp only at hs); omega⟩)) (by omega)) (fun b hb_ hs a ha e => by have h9 := d0.2.1.lt a ha; (try dsimp only at hs); omega) (by omega) (by omega) (by omega) (fun r9 s0 aj j9 k0 _ gz => ⟨(k0.mono q4), ?_⟩))
        replace j9 : OwnX (nm + 2) g aj K.heap.size 39 r9 (j + 1) s0 (U ++ [(⟨t, y, z, b2⟩ : PE)]) := ⟨C4.1, j9⟩
        have gA := k0.size; have ⟨_, _, _⟩ := j9.lkm
        refine dV 9 rfl (fun _ _ => evArr 1 underlying92 sz43 rfl rfl 1) ?_
        have Q9 := (C2.frm k0 q1)
        refine dOp 10 rfl rfl (by kernel_rfl) (oStore [(.slice r9 (j + 1) s0)] rfl rfl rfl sz43 rfl Q9 Qn (fun ak s1 gB s2 => ?_))
        replace s2 : Blk ak g 92 [(.slice (some ⟨p5, l2, none⟩) d C), (.slice r9 (j + 1) s0)] := s2
        refine ⟨(s1.mono q4), dDone (by kernel_rfl) (bN (xN (i4 _ _ (wp_region_lit (sV (evAdd (((i : Int)) + 1) rfl rfl wI) (sMi rfl (sDone ?_)))))))⟩
        have R0 := (C3.rx k0).tr s1
        have R1 := (j9.frmB s1 q3)
        refine again (ns0 - (i + 1)) Qo ⟨(i + 1), (j + 1), (r9), (s0), (U ++ [(⟨t, y, z, b2⟩ : PE)]), rfl, rfl, rfl, rfl, rfl, rfl, rfl, cI, (Frm.mono (A.tr R0) q4), ?_, ?_, ?_, ?_, ?_, ?_⟩
        ·exact s2
        ·omega
        ·exact R1
        ·omega
        ·exact lenL_snoc v5 (by (try dsimp only); omega)
        ·exact zmap_next l0 c4 a5 (by show zs _ = _; rw [B8, q7, i6, i5]; rfl)
    ·refine sV (evLss false rfl rfl (dF A9)) (sK A8 (wp_seq_k fun iw gC => cF rfl (wp_exit (xE (xE (bE (xN (M9 _ _ (rS fun ix R2 => sV (evLoadAB [(.slice P d C), (.slice a3 j a4)] agg92 sz92 rfl A7 rfl) ?_)))))))))
     have R3 := ((((((((((((((((((((((((m0.trans e4).trans e5).rx e6).xr e7).xr e8).xr d1).xr c1).tr c2).tr d2).tr d3).xr R).xr b3).xr b4).xr b5).xr T).xr b6).xr E).tr o).xr i1).xr i2).xr c6).xr b8).xr c7).xr b9).tr A
     have R4 := (S2.frm R3 q1)
     refine sO (oStore [(.slice P d C), (.slice a3 j a4)] rfl rfl rfl sz92 rfl R4 Qn (fun al s3 gD s4 => ?_))
     replace s4 : Blk al C7 92 [(.slice P d C), (.slice a3 j a4)] := s4
     refine sK R2 (wp_ret (ret1 (.agg #[(.slice P d C), (.slice a3 j a4)]) results61 (resB [(.slice P d C), (.slice a3 j a4)] agg92 sz92 rfl s4) ?_))
     have hex : zs v3 = exZ (zval gm dm).natAbs (sumZ (zval gm dm).natAbs (step0 (zval gm dm).natAbs (zval Q m2) (zs lf) (zsL fs0) (zsL fs1)) (zsL fs1)).1 := by rw [M8, M7, M5, ← p3, show zs E9 = (sumZ (zval gm dm).natAbs (zsL D) (zsL fs1)).1 from congrArg Prod.fst M3]; rfl
     have ey : ∃ x k : Int, x * ldP (zs lf) = 1 + zval gm dm * k ∧ x = symZ (zval gm dm).natAbs x ∧ zsL D = step0 (zval gm dm).natAbs x (zs lf) (zsL fs0) (zsL fs1) ∧ zsL U = step1 (zval gm dm).natAbs x (zs lf) (zsL fs0) (zsL fs1) := ⟨_, kx, hkx, x6, p3, by rw [zmap_end (i := i) l0 (by omega) (by omega), p3, hex]; rfl⟩
     have R5 := (i3.rx A).tr s3
     have am := (A1.frmB R5 q3)
     have R6 := (d0.frmB s3 q3)
     have R7 := (((((((((((((((m3.xr R).xr b3).xr b4).xr b5).xr T).xr b6).xr E).tr o).xr i1).xr i2).xr c6).xr b8).xr c7).xr b9).tr A).tr s3
     exact ⟨P, d, C, D, a3, j, a4, U, rfl, (Frm.mono R7 q4), (PolysR.sub am q5), (PolysR.sub (OwnX.polys R6) q5), ey, Qo, ⟨k1, v5⟩⟩
end Go.Proofs.YtneolcopompkaaaGreatDoor
