/-
  Walk of the law HenselReduce.
-/
import Derived.Test.YtneolcopompkaaaGreatDoorLaw12a
namespace Go.Proofs.YtneolcopompkaaaGreatDoor
open Go.RowKit Go.Gx Tryz
theorem division_Divides {w : World} {ga : Bool} {Sa : Nat → Prop} {Aa : Option Addr} {na ca : Nat} {da : List Nat} {gb : Bool} {Sb : Nat → Prop} {Ab : Option Addr} {nb cb : Nat} {db : List Nat} (ha : NatR w Sa Aa na ca da) (hb : NatR w Sb Ab nb cb db) (hna : na ≤ 65536) (hnb : nb ≤ 65536) : Calls Tryz.prog 72 #[(.agg #[(.bool ga), (.slice Aa na ca)]), (.agg #[(.bool gb), (.slice Ab nb cb)])] w (Ret fun v w' => ∃ (gr : Bool), v = (.bool gr) ∧ Ext w w' ∧ (gr = decide (zval ga da ∣ zval gb db))) := by
 have ⟨la, ka, ma⟩ := ha.lkm
 replace ha := ha.low
 have ⟨lb, kb, mb⟩ := hb.lkm
 replace hb := hb.low
 refine enter func72 rfl ntmps72 rfl (rS fun K1 a1 => sO (oBox [(.bool ga), (.slice Aa na ca)] rfl rfl (fun g2 w3 d8 a2 d9 a3 => sO (oBox [(.bool gb), (.slice Ab nb cb)] rfl rfl (fun g8 w9 c5 s c6 t => sAb rfl (sK a1 (wp_seq_k fun e0 J => rS fun e1 K => ?_)))))))
 have u := (a3.ext s)
 refine sV (evLoadAB [(.bool ga), (.slice Aa na ca)] agg25 sz25 rfl u rfl) ?_
 have j := a2.trans s
 have I := (ha.ext j)
 refine sO (oCall rfl call108 (division_isZero I) rfl ?_)
 rintro _ e2 ⟨G, rfl, a, x⟩
 have c7 := a.size
 refine sK K (cB G rfl ?_ ?_)
 ·intro k
  subst k
  refine rS fun e3 L => ?_
  have M := (t.ext a)
  refine sV (evLoadAB [(.bool gb), (.slice Ab nb cb)] agg25 sz25 rfl M rfl) ?_
  have y := j.trans a
  have a4 := (hb.ext y)
  refine sO (oCall rfl call108 (division_isZero a4) rfl ?_)
  rintro _ e4 ⟨o, rfl, z, N⟩
  have c8 := z.size
  refine sAb rfl (sK L (wp_ret (xR (ret1 (.bool o) results72 (resT rfl) ?_))))
  have O := y.trans z
  exact ⟨(o), rfl, O, (dv_zero N (of_decide_eq_true x.symm))⟩
 ·intro k
  subst k
  refine wp_skip (xN (J _ _ (wp_seq_k fun e5 P => ?_)))
  have e6 := of_decide_eq_false x.symm
  refine wp_region_lit ?_
  have Q := (t.ext a)
  refine sV (evLoadAB [(.bool gb), (.slice Ab nb cb)] agg25 sz25 rfl Q rfl) ?_
  have R := (u.ext a)
  refine sV (evLoadAB [(.bool ga), (.slice Aa na ca)] agg25 sz25 rfl R rfl) ?_
  have A := j.trans a
  have a5 := (hb.ext A)
  have a6 := (I.ext a)
  refine sO (oCall rfl call109 (division_Quo a5 a6 Qo Qo Qo) rfl ?_)
  rintro _ e7 ⟨f, g, h, i, b6, b, c, d, e, b7, p, rfl, B, H, q, c9, S, a7, a8, b8, a9, b0⟩
  have d0 := B.size
  have ⟨b9, c0, c1⟩ := H.lkm
  have ⟨c2, c3, c4⟩ := q.lkm
  refine sV (v := (.tuple #[(.agg #[(.bool f), (.slice g h i)]), (.agg #[(.bool b), (.slice c d e)]), (.int .i64 (p))])) (rfl) (sV (v := (.agg #[(.bool f), (.slice g h i)])) (rfl) (sV (v := (.agg #[(.bool b), (.slice c d e)])) (rfl) (sV (v := (.int .i64 (p))) (rfl) (sO (oAlloc [(.bool false), (.slice none 0 0)] zero25 rfl (fun b1 e8 d1 C d2 T => sO (oAlloc [(.bool false), (.slice none 0 0)] zero25 rfl (fun b2 e9 d3 l d4 U => ?_))))))))
  have V := (T.ext l)
  refine sO (oStore [(.bool f), (.slice g h i)] rfl rfl rfl sz25 rfl V Qn (fun b3 m d5 D => ?_))
  replace D : Blk b3 b1 25 [(.bool f), (.slice g h i)] := D
  have W := (U.frm m q1)
  refine sO (oStore [(.bool b), (.slice c d e)] rfl rfl rfl sz25 rfl W Qn (fun b4 E d6 n => ?_))
  replace n : Blk b4 b2 25 [(.bool b), (.slice c d e)] := n
  refine sAi rfl (sK P (rS fun f0 X => sV (evLoadAB [(.bool b), (.slice c d e)] agg25 sz25 rfl n rfl) ?_))
  have Y := ((C.trans l).rx m).tr E
  have b5 := (q.frmB Y q3)
  refine sO (oCall rfl call108 (division_isZero b5) rfl ?_)
  rintro _ f1 ⟨r, rfl, F, Z⟩
  have d7 := F.size
  refine sAb rfl (sK X (wp_ret (ret1 (.bool r) results72 (resT rfl) ?_)))
  have a0 := (((((A.trans B).trans C).trans l).rx m).tr E).xr F
  exact ⟨(r), rfl, (Frm.mono a0 q4), (dv_tmod Z S)⟩
theorem law12_few {w : World} {Sf : Nat → Prop} {Af : Option Addr} {nf cf Mf : Nat} {lf : List RI} {x1 : Int} (hf : PolyR w Sf Af nf cf lf Mf)  : Calls Tryz.prog 26 #[(.slice Af nf cf), (.int .i64 (x1))] w (Ret fun v w' => ∃ (gr : Bool), v = (.bool gr) ∧ Ext w w' ∧ (gr = true → (nf : Int) ≤ x1 ∧ ∀ r ∈ lf, (r.n : Int) ≤ 10)) := by
 have ⟨kf, jf, mf⟩ := hf.lkm
 replace hf := hf.low
 refine enter func26 rfl ntmps26 rfl (rS fun K1 O => sAb rfl (sK O (wp_seq_k fun K2 P => rS fun K3 z => sMs rfl (sV (evLen underlying39 rfl) (sMi rfl ?_)))))
 by_cases A : ((nf : Int)) > x1
 ·refine sV (evGtr true rfl rfl (dT A)) (sK z (cT rfl (rS fun K5 Q => sAb rfl (sK Q (wp_ret (xR (ret1 (.bool false) results26 (resT rfl) ?_)))))))
  exact ⟨(false), rfl, (Frm.refl _ _), (fun h => by cases h)⟩
 ·refine sV (evGtr false rfl rfl (dF A)) (sK z (cF rfl (wp_skip (xN (P _ _ (wp_seq_k fun K6 R => rS fun K7 S => sMs rfl (sV (evLen underlying39 rfl) (sMi rfl (sK S (wp_block ?_))))))))))
  refine lLoop (fun m e w_ => ∃ (k : Nat), m = nf - k ∧ e 11 = (.slice Af nf cf) ∧ e 12 = (.int .i64 nf) ∧ e 13 = (.int .i64 k) ∧ Frm (fun b => False) w w_ ∧ (k ≤ nf) ∧ (∀ i r, i < k → lf[i]? = some r → (r.n : Int) ≤ 10)) (nf - (0)) ?_ ?_
  ·refine ⟨(0), rfl, rfl, rfl, cI, (Frm.refl _ _), ?_, ?_⟩
   ·omega
   ·intro i r h; omega
  ·rintro m8 b0 w9 ⟨k, Z, C, D, E, a, hk, hz⟩
   obtain ⟨b1, rfl⟩ := sq3 C D E
   have a0 := a.size
   refine rS fun b2 l => ?_
   by_cases o : ((k : Int)) < ((nf : Int))
   ·refine sV (evLss true rfl rfl (dT o)) (sK l (wp_seq_k fun b3 F => cT rfl (wp_skip (xN (F _ _ (wp_seq_k fun b4 G => wp_block (rS fun b5 H => ?_)))))))
    have B := (hf.ext a)
    obtain ⟨b6, T, rfl⟩ := B.base Qo
    refine sV (evIx k underlying39 sz25 rfl rfl (T + (k * 2))) ?_
    obtain ⟨d, f, c, g, a1, u, x, y, I, W, X, Y, a2⟩ := B.at_ (i := k) Qo
    have ⟨a3, a4, a5⟩ := I.lkm
    refine sV (evLoadA [(.bool d), (.slice f c g)] agg25 sz25 rfl (cell2 x y)) (sO (oAlloc [(.bool false), (.slice none 0 0)] zero25 rfl (fun U b7 a6 p a7 J => sO (oStore [(.bool d), (.slice f c g)] rfl rfl rfl sz25 rfl J Qn (fun V q a8 j => ?_)))))
    replace j : Blk V U 25 [(.bool d), (.slice f c g)] := j
    refine sK H (rS fun b8 s => sV (evFA 1 fa25_1 rfl rfl) (sV (evLoadB one23 rfl j rfl) (sV (evLen underlying23 rfl) ?_)))
    by_cases t : ((c : Int)) > 10
    ·refine sV (evGtr true rfl rfl (dT t)) (sK s (cT rfl (rS fun b9 K => sAb rfl (sK K (wp_ret (bR (xR (xR (bR (xR (ret1 (.bool false) results26 (resT rfl) ?_)))))))))))
     have L := (a.trans p).rx q
     exact ⟨(false), rfl, (Frm.mono L q4), (fun h => by cases h)⟩
    ·refine sV (evGtr false rfl rfl (dF t)) (sK s (cF rfl (wp_skip (bN (xN (G _ _ (wp_region_lit (sV (evAdd (((k : Int)) + 1) rfl rfl wI) (sMi rfl (sDone ?_))))))))))
     have M := p.rx q
     refine again (nf - (k + 1)) Qo ⟨(k + 1), rfl, rfl, rfl, cI, (Frm.mono (a.rx M) q4), ?_, ?_⟩
     ·omega
     ·exact few_step hz u (by (try dsimp only); omega)
   ·refine sV (evLss false rfl rfl (dF o)) (sK l (wp_seq_k fun c0 a9 => cF rfl (wp_exit (xE (xE (bE (xN (R _ _ (rS fun c1 N => sAb rfl (sK N (wp_ret (ret1 (.bool true) results26 (resT rfl) ?_))))))))))))
    exact ⟨(true), rfl, a, (fun _ => ⟨by omega, few_all kf hz Qo⟩)⟩
theorem law12_reduced {w : World} {Sf : Nat → Prop} {Af : Option Addr} {nf cf Mf : Nat} {lf : List RI} {gm : Bool} {Sm : Nat → Prop} {Am : Option Addr} {nm cm : Nat} {dm : List Nat} (hf : PolyR w Sf Af nf cf lf Mf) (hm : NatR w Sm Am nm cm dm) (hnf : nf ≤ 1024) (hMf : Mf ≤ 1024) (hnm : nm ≤ 1024) (hm0 : zval gm dm ≠ 0) (hs : ∀ i, symZ (zval gm dm).natAbs (co (zs lf) i) = co (zs lf) i) (ht : (trimZ (zs lf)).length = nf) : Calls Tryz.prog 30 #[(.slice Af nf cf), (.agg #[(.bool gm), (.slice Am nm cm)])] w (Ret fun v w' => ∃ (gr : Bool), v = (.bool gr) ∧ Ext w w' ∧ (gr = true)) := by
 have ⟨kf, jf, mf⟩ := hf.lkm
 replace hf := hf.low
 have ⟨lm, km, mm⟩ := hm.lkm
 replace hm := hm.low
 refine enter func30 rfl ntmps30 rfl (rS fun K1 b2 => sO (oBox [(.bool gm), (.slice Am nm cm)] rfl rfl (fun g2 w3 f5 M f6 b3 => sAb rfl (sK b2 (wp_seq_k fun K8 b4 => rS fun K9 b5 => sMs rfl (sV (evLen underlying39 rfl) (sMi rfl (sK b5 (wp_block ?_)))))))))
 refine lLoop (fun m e w_ => ∃ (k : Nat), m = nf - k ∧ e 0 = (.slice Af nf cf) ∧ e 3 = (.pointer (some ⟨g2, 0, none⟩)) ∧ e 9 = (.slice Af nf cf) ∧ e 10 = (.int .i64 nf) ∧ e 11 = (.int .i64 k) ∧ Frm (fun b => False) w3 w_ ∧ (k ≤ nf)) (nf - (0)) ?_ ?_
 ·refine ⟨(0), rfl, rfl, rfl, rfl, rfl, cI, (Frm.refl _ _), ?_⟩
  ·omega
 ·rintro f7 f8 f9 ⟨k, d8, P, Q, R, S, T, g, hk⟩
  obtain ⟨g0, rfl⟩ := sq5 P Q R S T
  have d9 := g.size
  refine rS fun g1 z => ?_
  by_cases A : ((k : Int)) < ((nf : Int))
  ·refine sV (evLss true rfl rfl (dT A)) (sK z (wp_seq_k fun g3 U => cT rfl (wp_skip (xN (U _ _ (wp_seq_k fun g4 V => wp_block (rS fun g5 W => ?_)))))))
   have B := M.trans g
   have N := (hf.ext B)
   obtain ⟨g6, b6, rfl⟩ := N.base Qo
   refine sV (evIx k underlying39 sz25 rfl rfl (b6 + (k * 2))) ?_
   obtain ⟨h, j, l, n, e0, c5, I, J, C, c6, c7, c8, X⟩ := N.at_ (i := k) Qo
   have ⟨e1, e2, e3⟩ := C.lkm
   refine sV (evLoadA [(.bool h), (.slice j l n)] agg25 sz25 rfl (cell2 I J)) (sO (oAlloc [(.bool false), (.slice none 0 0)] zero25 rfl (fun b7 g7 e4 p e5 Y => sO (oStore [(.bool h), (.slice j l n)] rfl rfl rfl sz25 rfl Y Qn (fun b8 q e6 o => ?_)))))
   replace o : Blk b8 b7 25 [(.bool h), (.slice j l n)] := o
   refine sK W (rS fun g8 Z => sV (evLoadAB [(.bool h), (.slice j l n)] agg25 sz25 rfl o rfl) ?_)
   have a0 := (g.trans p).rx q
   have a1 := (b3.frm a0 q1)
   refine sV (evLoadAB [(.bool gm), (.slice Am nm cm)] agg25 sz25 rfl a1 rfl) ?_
   have D := p.rx q
   have O := (C.frmB D q3)
   have a2 := (B.trans p).rx q
   have b9 := (hm.frmB a2 q3)
   refine sO (oCall rfl call70 (division_Symmetric O b9 Qo Qo Qo) rfl ?_)
   rintro _ g9 ⟨a, c, d, f, c9, x, rfl, r, y, a3, d0, d1, d2⟩
   have e7 := r.size
   have ⟨d3, d4, d5⟩ := y.lkm
   refine sV (v := (.tuple #[(.agg #[(.bool a), (.slice c d f)]), (.int .i64 (x))])) (rfl) (sV (v := (.agg #[(.bool a), (.slice c d f)])) (rfl) (sV (v := (.int .i64 (x))) (rfl) (sO (oAlloc [(.bool false), (.slice none 0 0)] zero25 rfl (fun c0 h0 e8 s e9 a4 => sO (oStore [(.bool a), (.slice c d f)] rfl rfl rfl sz25 rfl a4 Qn (fun c1 t f0 u => ?_)))))))
   replace u : Blk c1 c0 25 [(.bool a), (.slice c d f)] := u
   refine sAi rfl (sK Z (rS fun h1 a5 => sV (evLoadAB [(.bool a), (.slice c d f)] agg25 sz25 rfl u rfl) ?_))
   have E := (r.trans s).rx t
   have a6 := (o.frm E q1)
   refine sV (evLoadAB [(.bool h), (.slice j l n)] agg25 sz25 rfl a6 rfl) ?_
   have a7 := s.rx t
   have c2 := (y.frmB a7 q3)
   have c3 := (O.frmB E q3)
   refine sO (oCall rfl call37 (integer_Same c2 c3) rfl ?_)
   rintro _ h2 ⟨K, rfl, F, a8⟩
   have f1 := F.size
   obtain rfl : K = true := by rw [a8, a3, X, hs]; exact decide_eq_true rfl
   refine sV (evNot _ rfl rfl) (sK a5 (cF rfl (wp_skip (bN (xN (V _ _ (wp_region_lit (sV (evAdd (((k : Int)) + 1) rfl rfl wI) (sMi rfl (sDone ?_))))))))))
   have a9 := (((D.xr r).xr s).tr t).xr F
   refine again (nf - (k + 1)) Qo ⟨(k + 1), rfl, rfl, rfl, rfl, rfl, cI, (Frm.mono (g.rx a9) q4), ?_⟩
   ·omega
  ·refine sV (evLss false rfl rfl (dF A)) (sK z (wp_seq_k fun h3 f2 => cF rfl (wp_exit (xE (xE (bE (xN (b4 _ _ (rS fun h4 b0 => sMs rfl (sV (evLen underlying39 rfl) (sMs rfl ?_)))))))))))
   have G := M.trans g
   have c4 := (hf.ext G)
   refine sO (oCall rfl call32 (unipoly_Degree c4 Qo Qo) rfl ?_)
   rintro _ h5 ⟨L, rfl, H, f3⟩
   have f4 := H.size
   refine sV (evAdd (L + 1) rfl rfl wI) (sV (evEql true rfl rfl (dT Qo)) (sAb rfl (sK b0 (wp_ret (ret1 (.bool true) results30 (resT rfl) ?_)))))
   have b1 := G.trans H
   exact ⟨(true), rfl, b1, rfl⟩
theorem law12_congruent {w : World} {Sf : Nat → Prop} {Af : Option Addr} {nf cf Mf : Nat} {lf : List RI} {Sg : Nat → Prop} {Ag : Option Addr} {ng cg Mg : Nat} {lg : List RI} {gm : Bool} {Sm : Nat → Prop} {Am : Option Addr} {nm cm : Nat} {dm : List Nat} (hf : PolyR w Sf Af nf cf lf Mf) (hg : PolyR w Sg Ag ng cg lg Mg) (hm : NatR w Sm Am nm cm dm) (hnf : nf ≤ 1024) (hMf : Mf ≤ 1024) (hng : ng ≤ 1024) (hMg : Mg ≤ 1024) (hnm : nm ≤ 1024) (hc : ∀ i, zval gm dm ∣ co (zs lf) i - co (zs lg) i) : Calls Tryz.prog 31 #[(.slice Af nf cf), (.slice Ag ng cg), (.agg #[(.bool gm), (.slice Am nm cm)])] w (Ret fun v w' => ∃ (gr : Bool), v = (.bool gr) ∧ Ext w w' ∧ (gr = true)) := by
 have ⟨kf, jf, mf⟩ := hf.lkm
 replace hf := hf.low
 have ⟨kg, jg, mg⟩ := hg.lkm
 replace hg := hg.low
 have ⟨lm, km, mm⟩ := hm.lkm
 replace hm := hm.low
 refine enter func31 rfl ntmps31 rfl (rS fun K1 X => sO (oBox [(.bool gm), (.slice Am nm cm)] rfl rfl (fun g2 w3 d2 q d3 Y => sAb rfl (sK X (wp_seq_k fun K8 Z => rS fun K9 a0 => sMs rfl (sMs rfl ?_))))))
 have a1 := (hf.ext q)
 have a2 := (hg.ext q)
 refine sO (oCall rfl call71 (unipoly_Sub a1 a2 Qo Qo Qo Qo) rfl ?_)
 rintro _ a3 ⟨z, c, A, a9, rfl, f, r, F, b0, b1⟩
 have c0 := f.size
 have ⟨b2, b3, b4⟩ := r.lkm
 refine sV (evLen underlying39 rfl) (sMi rfl (sK a0 (wp_block ?_)))
 refine lLoop (fun m e w_ => ∃ (k : Nat), m = c - k ∧ e 5 = (.pointer (some ⟨g2, 0, none⟩)) ∧ e 11 = (.slice z c A) ∧ e 12 = (.int .i64 c) ∧ e 13 = (.int .i64 k) ∧ Frm (fun b => False) a3 w_ ∧ (k ≤ c)) (c - (0)) ?_ ?_
 ·refine ⟨(0), rfl, rfl, rfl, rfl, cI, (Frm.refl _ _), ?_⟩
  ·omega
 ·rintro d4 d5 d6 ⟨k, c1, G, H, I, J, d, hk⟩
  obtain ⟨d7, rfl⟩ := sq4 G H I J
  have c2 := d.size
  refine rS fun d8 s => ?_
  by_cases t : ((k : Int)) < ((c : Int))
  ·refine sV (evLss true rfl rfl (dT t)) (sK s (wp_seq_k fun d9 K => cT rfl (wp_skip (xN (K _ _ (wp_seq_k fun e0 L => wp_block (rS fun e1 M => ?_)))))))
   have E := (r.ext d)
   obtain ⟨e2, a4, rfl⟩ := E.base Qo
   refine sV (evIx k underlying39 sz25 rfl rfl (a4 + (k * 2))) ?_
   obtain ⟨g, h, j, l, c3, b5, B, C, u, b6, b7, b8, N⟩ := E.at_ (i := k) Qo
   have ⟨c4, c5, c6⟩ := u.lkm
   refine sV (evLoadA [(.bool g), (.slice h j l)] agg25 sz25 rfl (cell2 B C)) (sO (oAlloc [(.bool false), (.slice none 0 0)] zero25 rfl (fun a5 e3 c7 n c8 O => sO (oStore [(.bool g), (.slice h j l)] rfl rfl rfl sz25 rfl O Qn (fun a6 o c9 p => ?_)))))
   replace p : Blk a6 a5 25 [(.bool g), (.slice h j l)] := p
   refine sK M (rS fun e4 P => ?_)
   have Q := ((f.trans d).trans n).rx o
   have R := (Y.frm Q q1)
   refine sV (evLoadAB [(.bool gm), (.slice Am nm cm)] agg25 sz25 rfl R rfl) (sV (evLoadAB [(.bool g), (.slice h j l)] agg25 sz25 rfl p rfl) ?_)
   have S := (((q.trans f).trans d).trans n).rx o
   have a7 := (hm.frmB S q3)
   have x := n.rx o
   have a8 := (u.frmB x q3)
   refine sO (oCall rfl call72 (division_Divides a7 a8 Qo Qo) rfl ?_)
   rintro _ e5 ⟨D, rfl, y, T⟩
   have d0 := y.size
   obtain rfl : D = true := dv_true T (a := co (zs lf) k) (b := co (zs lg) k) (by rw [N, F, co_trim, co_psub]) (hc k)
   refine sV (evNot _ rfl rfl) (sK P (cF rfl (wp_skip (bN (xN (L _ _ (wp_region_lit (sV (evAdd (((k : Int)) + 1) rfl rfl wI) (sMi rfl (sDone ?_))))))))))
   have U := x.xr y
   refine again (c - (k + 1)) Qo ⟨(k + 1), rfl, rfl, rfl, rfl, cI, (Frm.mono (d.rx U) q4), ?_⟩
   ·omega
  ·refine sV (evLss false rfl rfl (dF t)) (sK s (wp_seq_k fun e6 d1 => cF rfl (wp_exit (xE (xE (bE (xN (Z _ _ (rS fun e7 V => sAb rfl (sK V (wp_ret (ret1 (.bool true) results31 (resT rfl) ?_))))))))))))
   have W := (q.trans f).trans d
   exact ⟨(true), rfl, W, rfl⟩
set_option maxHeartbeats 2000000 in
theorem law12_reduce {w : World} {Sf : Nat → Prop} {Af : Option Addr} {nf cf Mf : Nat} {lf : List RI} {Sg : Nat → Prop} {Ag : Option Addr} {ng cg Mg : Nat} {lg : List RI} {gm : Bool} {Sm : Nat → Prop} {Am : Option Addr} {nm cm : Nat} {dm : List Nat} (hf : PolyR w Sf Af nf cf lf Mf) (hg : PolyR w Sg Ag ng cg lg Mg) (hm : NatR w Sm Am nm cm dm) (hT : TabR w) : Calls Tryz.prog 5 #[(.slice Af nf cf), (.slice Ag ng cg), (.agg #[(.bool gm), (.slice Am nm cm)])] w (Ret fun v w' => ∃ (gr : Bool), v = (.bool gr) ∧ Ext w w' ∧ (gr = true)) := by
 have ltT := hT.lt0
 have ⟨kf, jf, mf⟩ := hf.lkm
 replace hf := hf.low
 have ⟨kg, jg, mg⟩ := hg.lkm
 replace hg := hg.low
 have ⟨lm, km, mm⟩ := hm.lkm
 replace hm := hm.low
 refine enter func5 rfl ntmps5 rfl (rS fun K1 l3 => sO (oBox [(.bool gm), (.slice Am nm cm)] rfl rfl (fun g2 w3 u3 f9 l4 l5 => sAb rfl (sK l3 (wp_seq_k fun K8 l6 => rS fun K9 l7 => ?_)))))
 have l8 := (hT.ext f9)
 refine sO (oCall rfl call9 (law12_fit l8) rfl ?_)
 rintro _ u5 ⟨d4, rfl, V, h6⟩
 have s4 := V.size
 obtain rfl : d4 = true := h6
 refine sV (evNot _ rfl rfl) (sK l7 (cF rfl (wp_skip (xN (l6 _ _ (wp_seq_k fun u7 h7 => rS fun u8 J => sMs rfl ?_))))))
 have W := f9.trans V
 have l9 := (hf.ext W)
 refine sO (oCall rfl call26 (law12_few l9) rfl ?_)
 rintro _ u9 ⟨d5, rfl, K, h8⟩
 have s5 := K.size
 refine sV (evNot _ rfl rfl) (sMb rfl ?_)
 cases d5
 ·refine sSkip rfl rfl (sSkip rfl rfl (sSkip rfl rfl (sV (v := (.bool true)) (rfl) (sMb rfl (sSkip rfl rfl (sSkip rfl rfl (sSkip rfl rfl (sSkip rfl rfl (sV (v := (.bool true)) (rfl) (sK J (cT rfl (rS fun v0 h9 => sAb rfl (sK h9 (wp_ret (xR (ret1 (.bool true) results5 (resT rfl) ?_))))))))))))))))
  have i0 := W.trans K
  exact ⟨(true), rfl, i0, rfl⟩
 ·refine sEv (v := (.slice Ag ng cg)) (rfl) rfl rfl ?_
  have L := W.trans K
  have m0 := (hg.ext L)
  refine sOp rfl (oCall rfl call26 (law12_few m0) rfl ?_)
  rintro _ v1 ⟨N, rfl, H, i1⟩
  have s6 := H.size
  refine sEv (v := (.bool (!N))) (evNot _ rfl rfl) rfl rfl (sV (v := (.bool (!N))) (rfl) (sMb rfl ?_))
  cases N
  ·refine sSkip rfl rfl (sSkip rfl rfl (sSkip rfl rfl (sSkip rfl rfl (sV (v := (.bool true)) (rfl) (sK J (cT rfl (rS fun v2 i2 => sAb rfl (sK i2 (wp_ret (xR (ret1 (.bool true) results5 (resT rfl) ?_)))))))))))
   have i3 := L.trans H
   exact ⟨(true), rfl, i3, rfl⟩
  ·refine sEv (v := (.pointer (some ⟨g2, 1, none⟩))) (evFA 1 fa25_1 rfl rfl) rfl rfl ?_
   have i4 := (V.trans K).trans H
   have X := (l5.ext i4)
   refine sEv (v := (.slice Am nm cm)) (evLoadB one23 rfl X rfl) rfl rfl (sEv (v := (.int .i64 nm)) (evLen underlying23 rfl) rfl rfl ?_)
   by_cases b3 : ((nm : Int)) > 10
   ·refine sEv (v := (.bool true)) (evGtr true rfl rfl (dT b3)) rfl rfl (sV (v := (.bool true)) (rfl) (sK J (cT rfl (rS fun v3 i5 => sAb rfl (sK i5 (wp_ret (xR (ret1 (.bool true) results5 (resT rfl) ?_))))))))
    have i6 := L.trans H
    exact ⟨(true), rfl, i6, rfl⟩
   ·refine sEv (v := (.bool false)) (evGtr false rfl rfl (dF b3)) rfl rfl (sV (v := (.bool false)) (rfl) (sK J (cF rfl (wp_skip (xN (h7 _ _ (wp_seq_k fun v4 i7 => ?_)))))))
    have qf := h8 rfl
    have qnf := qf.1
    have m1 := hf.reM (M' := 10) (by intro r hr; have := qf.2 r hr; omega)
    have qg := i1 rfl
    have qng := qg.1
    have m2 := hg.reM (M' := 10) (by intro r hr; have := qg.2 r hr; omega)
    refine wp_region_lit (sMs rfl (sV (evLoadAB [(.bool gm), (.slice Am nm cm)] agg25 sz25 rfl X rfl) ?_))
    have Y := L.trans H
    have g0 := (m1.ext Y)
    have g1 := (hm.ext Y)
    refine sO (oCall rfl call27 (hensel_Reduce g0 g1 Qo Qo Qo) rfl ?_)
    rintro _ v5 ⟨D, d, E, p6, a4, rfl, Z, a5, i8, i9, p7, p8⟩
    have s7 := Z.size
    have ⟨p9, q0, q1⟩ := a5.lkm
    refine sV (v := (.tuple #[(.slice D d E), (.int .i64 (a4))])) (rfl) (sV (v := (.slice D d E)) (rfl) (sV (v := (.int .i64 (a4))) (rfl) (sAs rfl (sAi rfl (sK i7 (rS fun v6 j0 => sMs rfl (sMs rfl (sMs rfl (sO (oBuildSlice [(.slice Af nf cf), (.slice Ag ng cg), (.slice Af nf cf)] [[(.slice Af nf cf)], [(.slice Ag ng cg)], [(.slice Af nf cf)]] underlying43 inf39 rfl rfl rfl rfl rfl (fun m3 m4 s8 a0 s9 a1 => ?_)))))))))))
    replace a1 : Blk m4 m3 39 [(.slice Af nf cf), (.slice Ag ng cg), (.slice Af nf cf)] := a1
    have a2 := Z.trans a0
    have b4 := (X.ext a2)
    refine sV (evLoadAB [(.bool gm), (.slice Am nm cm)] agg25 sz25 rfl b4 rfl) ?_
    have b5 := (g0.ext a2)
    have a3 := (Y.trans Z).trans a0
    have g3 := (m2.ext a3)
    have g4 := (g1.ext a2)
    refine sO (oCall rfl call28 (hensel_Product (PolysR.lit (M := 64) (n := 3) (l := [⟨Af, nf, cf, lf⟩, ⟨Ag, ng, cg, lg⟩, ⟨Af, nf, cf, lf⟩]) a1 (AllP.cons b5 (by omega) (AllP.cons g3 (by omega) (AllP.cons b5 (by omega) AllP.nil))) rfl (by decide)) g4 (by omega) (by omega) (by omega) (by intro x hx; simp only [List.mem_cons, List.not_mem_nil, or_false] at hx; rcases hx with rfl | rfl | rfl <;> (dsimp only; omega))) rfl ?_)
    rintro _ v7 ⟨u, a, y, d6, F, rfl, t, a6, j1, j2, q2, q3⟩
    have t0 := t.size
    have ⟨q4, q5, q6⟩ := a6.lkm
    refine sV (v := (.tuple #[(.slice u a y), (.int .i64 (F))])) (rfl) (sV (v := (.slice u a y)) (rfl) (sV (v := (.int .i64 (F))) (rfl) (sAs rfl (sAi rfl (sK j0 (rS fun v8 j3 => ?_))))))
    have b6 := (b4.ext t)
    refine sV (evLoadAB [(.bool gm), (.slice Am nm cm)] agg25 sz25 rfl b6 rfl) ?_
    have g5 := (g4.ext t)
    refine sO (oCall rfl call28 (hensel_Product (PolysR.nil (S := fun _ => True) (M := 0)) g5 Qo Qo Qo (fun x hx => by cases hx)) rfl ?_)
    rintro _ v9 ⟨z, f, A, d7, a7, rfl, o, a8, j4, j5, q7, q8⟩
    have t1 := o.size
    have ⟨q9, r0, r1⟩ := a8.lkm
    refine sV (v := (.tuple #[(.slice z f A), (.int .i64 (a7))])) (rfl) (sV (v := (.slice z f A)) (rfl) (sV (v := (.int .i64 (a7))) (rfl) (sAs rfl (sAi rfl (sK j3 (wp_seq_k fun w0 j6 => rS fun w1 b7 => ?_))))))
    have b8 := (b6.ext o)
    refine sV (evLoadAB [(.bool gm), (.slice Am nm cm)] agg25 sz25 rfl b8 rfl) ?_
    have g6 := (g5.ext o)
    refine sO (oCall rfl call29 (integer_Sign g6) rfl ?_)
    rintro _ w2 ⟨d8, rfl, j, b9⟩
    have t2 := j.size
    by_cases c0 : d8 = 0
    ·refine sV (evEql true rfl rfl (dT c0)) ?_
     have hsg := sgn_rng b9
     have h0 : zval gm dm = 0 := Qo; have ⟨w4, w5⟩ := i8 h0; have ⟨w6, w7⟩ := j1 h0; have ⟨w8, l4⟩ := j4 h0
     refine sK b7 (cT rfl (rS fun w9 j8 => sMi rfl (sV (evEql true rfl rfl (dT Qo)) (sMb rfl (sEv (v := (.int .i64 (F))) (rfl) rfl rfl (sEv (v := (.bool true)) (evEql true rfl rfl (dT Qo)) rfl rfl (sV (v := (.bool true)) (rfl) (sMb rfl (sEv (v := (.slice D d E)) (rfl) rfl rfl (sEv (v := (.int .i64 d)) (evLen underlying39 rfl) rfl rfl (sEv (v := (.slice u a y)) (rfl) rfl rfl (sEv (v := (.int .i64 a)) (evLen underlying39 rfl) rfl rfl (sEv (v := (.int .i64 (((d : Int)) + ((a : Int))))) (evAdd (((d : Int)) + ((a : Int))) rfl rfl wI) rfl rfl (sEv (v := (.slice z f A)) (rfl) rfl rfl (sEv (v := (.int .i64 f)) (evLen underlying39 rfl) rfl rfl ?_)))))))))))))))
     refine sEv (v := (.int .i64 ((((d : Int)) + ((a : Int))) + ((f : Int))))) (evAdd ((((d : Int)) + ((a : Int))) + ((f : Int))) rfl rfl wI) rfl rfl (sEv (v := (.bool true)) (evEql true rfl rfl (dT Qo)) rfl rfl (sV (v := (.bool true)) (rfl) (sAb rfl (sK j8 (wp_ret (xR (ret1 (.bool true) results5 (resT rfl) ?_)))))))
     have j9 := ((a3.trans t).trans o).trans j
     exact ⟨(true), rfl, j9, rfl⟩
    ·refine sV (evEql false rfl rfl (dF c0)) ?_
     have hsg := sgn_rng b9
     have I : zval gm dm ≠ 0 := Qo; have hmp : 0 < (zval gm dm).natAbs := Qo; have ⟨x0, g7⟩ := i9 I; have ⟨x1, m5⟩ := j2 I; have ⟨x2, m6⟩ := j5 I
     obtain ⟨u4, m7⟩ := prodR_red (m := (zval gm dm).natAbs) [zs lf, zs lg, zs lf] [1]; obtain ⟨u6, m8⟩ := prodR_red (m := (zval gm dm).natAbs) [] [1]
     have hx4p : zs d6 = prodR (zval gm dm).natAbs (redZ (zval gm dm).natAbs [1]) [zs lf, zs lg, zs lf] := m5; have hx6p : zs d7 = prodR (zval gm dm).natAbs (redZ (zval gm dm).natAbs [1]) [] := m6
     have g8 := red_self hmp g7; have g9 := red_self hmp (hx4p.trans m7); have h1 := red_self hmp (hx6p.trans m8)
     refine sK b7 (cF rfl (wp_skip (xN (j6 _ _ (wp_seq_k fun x3 k0 => rS fun x4 k1 => sMi rfl (sV (evNeq false rfl rfl (dF Qo)) (sMb rfl (sEv (v := (.int .i64 (F))) (rfl) rfl rfl (sEv (v := (.bool false)) (evNeq false rfl rfl (dF Qo)) rfl rfl (sV (v := (.bool false)) (rfl) (sMb rfl (sEv (v := (.slice D d E)) (rfl) rfl rfl ?_))))))))))))
     have c1 := (b8.ext j)
     refine sEv (v := (.agg #[(.bool gm), (.slice Am nm cm)])) (evLoadAB [(.bool gm), (.slice Am nm cm)] agg25 sz25 rfl c1 rfl) rfl rfl ?_
     have k2 := ((a0.trans t).trans o).trans j
     have h2 := (a5.ext k2)
     have h3 := (g6.ext j)
     refine sOp rfl (oCall rfl call30 (law12_reduced h2 h3 (by omega) (by omega) (by omega) I g8.1 (by rw [g8.2, zlen]; omega)) rfl ?_)
     rintro _ x5 ⟨d9, rfl, p, k3⟩
     have t3 := p.size
     obtain rfl : d9 = true := k3
     refine sEv (v := (.bool false)) (evNot _ rfl rfl) rfl rfl (sV (v := (.bool false)) (rfl) (sMb rfl (sEv (v := (.slice u a y)) (rfl) rfl rfl ?_)))
     have c2 := (c1.ext p)
     refine sEv (v := (.agg #[(.bool gm), (.slice Am nm cm)])) (evLoadAB [(.bool gm), (.slice Am nm cm)] agg25 sz25 rfl c2 rfl) rfl rfl ?_
     have k4 := (o.trans j).trans p
     have h4 := (a6.ext k4)
     have h5 := (h3.ext p)
     refine sOp rfl (oCall rfl call30 (law12_reduced h4 h5 (by omega) (by omega) (by omega) I g9.1 (by rw [g9.2, zlen]; omega)) rfl ?_)
     rintro _ x6 ⟨e0, rfl, g, k5⟩
     have r2 := g.size
     obtain rfl : e0 = true := k5
     refine sEv (v := (.bool false)) (evNot _ rfl rfl) rfl rfl (sV (v := (.bool false)) (rfl) (sMb rfl (sEv (v := (.slice z f A)) (rfl) rfl rfl ?_)))
     have a9 := (c2.ext g)
     refine sEv (v := (.agg #[(.bool gm), (.slice Am nm cm)])) (evLoadAB [(.bool gm), (.slice Am nm cm)] agg25 sz25 rfl a9 rfl) rfl rfl ?_
     have e1 := (j.trans p).trans g
     have c3 := (a8.ext e1)
     have c4 := (h5.ext g)
     refine sOp rfl (oCall rfl call30 (law12_reduced c3 c4 (by omega) (by omega) (by omega) I h1.1 (by rw [h1.2, zlen]; omega)) rfl ?_)
     rintro _ t4 ⟨c5, rfl, q, e2⟩
     have r3 := q.size
     obtain rfl : c5 = true := e2
     refine sEv (v := (.bool false)) (evNot _ rfl rfl) rfl rfl (sV (v := (.bool false)) (rfl) (sK k1 (cF rfl (wp_skip (xN (k0 _ _ (wp_seq_k fun t5 e3 => dBegin (fun _ => False) mixed (fun t6 B r4 => dMs 0 rfl rfl (dMs 1 rfl rfl ?_)))))))))
     have O := q.trans B
     have b0 := (a9.ext O)
     refine dV 2 rfl (fun _ hf => evLoadAB [(.bool gm), (.slice Am nm cm)] agg25 sz25 rfl (b0.ext hf) rfl) ?_
     have e4 := ((p.trans g).trans q).trans B
     have k6 := (h2.ext e4)
     have b1 := (((((t.trans o).trans j).trans p).trans g).trans q).trans B
     have c6 := (b5.ext b1)
     have c7 := (c4.ext O)
     refine dOp 3 rfl rfl (by kernel_rfl) (oCall rfl call31 (law12_congruent k6 c6 c7 Qo Qo Qo Qo Qo (fun i => abs_dvd (red_cg g7 i))) rfl ?_)
     rintro _ t7 ⟨c8, rfl, e, e5⟩
     refine ⟨(Frm.of_ext e), ?_⟩
     have r5 := e.size
     obtain rfl : c8 = true := e5
     refine dMb 4 rfl rfl (dEv 5 rfl (v := (.slice u a y)) (fun _ _ => rfl) rfl rfl (by kernel_rfl) (dEv 6 rfl (v := (.slice Af nf cf)) (fun _ _ => rfl) rfl rfl (by kernel_rfl) (dEv 7 rfl (v := (.slice Ag ng cg)) (fun _ _ => rfl) rfl rfl (by kernel_rfl) (dEv 8 rfl (v := (.slice Af nf cf)) (fun _ _ => rfl) rfl rfl (by kernel_rfl) ?_))))
     have b2 := (b0.ext e)
     refine dEv 11 rfl (v := (.agg #[(.bool gm), (.slice Am nm cm)])) (fun _ hf => evLoadAB [(.bool gm), (.slice Am nm cm)] agg25 sz25 rfl (b2.ext hf) rfl) rfl rfl (by kernel_rfl) ?_
     have e6 := b1.trans e
     have k7 := (g3.ext e6)
     have c9 := (c6.ext e)
     refine dOp 9 rfl rfl (by kernel_rfl) (oCall rfl call19 (unipoly_Mul k7 c9 Qo Qo Qo Qo) rfl ?_)
     rintro _ t8 ⟨m9, n0, n1, n2, rfl, h, R, e7, n3, n4⟩
     refine ⟨(Frm.of_ext h), ?_⟩
     have r6 := h.size
     have ⟨n5, n6, n7⟩ := R.lkm
     have k8 := (c9.ext h)
     refine dOp 10 rfl rfl (by kernel_rfl) (oCall rfl call19 (unipoly_Mul k8 R Qo Qo Qo Qo) rfl ?_)
     rintro _ t9 ⟨n8, n9, o0, o1, rfl, k, T, e8, o2, o3⟩
     refine ⟨(Frm.of_ext k), ?_⟩
     have r7 := k.size
     have ⟨o4, o5, o6⟩ := T.lkm
     have e9 := ((((g.trans q).trans B).trans e).trans h).trans k
     have k9 := (h4.ext e9)
     have f0 := (e.trans h).trans k
     have d0 := (c7.ext f0)
     refine dOp 12 rfl rfl (by kernel_rfl) (oCall rfl call31 (law12_congruent k9 T d0 Qo Qo Qo Qo Qo (fun i => abs_dvd (prod3_cg hx4p e7 e8 i))) rfl ?_)
     rintro _ u0 ⟨d1, rfl, s, f1⟩
     refine ⟨(Frm.of_ext s), ?_⟩
     have r8 := s.size
     obtain rfl : d1 = true := f1
     refine dV 13 rfl (v := (.bool true)) (fun _ _ => rfl) (dMb 14 rfl rfl (dEv 15 rfl (v := (.slice z f A)) (fun _ _ => rfl) rfl rfl (by kernel_rfl) ?_))
     have f2 := (h.trans k).trans s
     have f3 := (b2.ext f2)
     refine dEv 18 rfl (v := (.agg #[(.bool gm), (.slice Am nm cm)])) (fun _ hf => evLoadAB [(.bool gm), (.slice Am nm cm)] agg25 sz25 rfl (f3.ext hf) rfl) rfl rfl (by kernel_rfl) (dOp 16 rfl rfl (by kernel_rfl) (oBuildSlice [(.int .i64 (1))] [[(.int .i64 (1))]] underlying82 inf2 rfl rfl rfl rfl rfl (fun d2 l0 r9 G s0 P => ⟨(Frm.of_ext G), ?_⟩)))
     replace P : Blk l0 d2 2 [(.int .i64 (1))] := P
     refine dOp 17 rfl rfl (by kernel_rfl) (oCall rfl call17 (unipoly_Of (IntsR.of_blk (S := fun b => b = d2) (n := 1) (c := 1) (xs := [1]) P rfl (by decide) rfl (Nat.le_refl _) (by decide)) Qo) rfl ?_)
     rintro _ u1 ⟨o7, o8, o9, p0, rfl, C, U, f4, p1, p2⟩
     refine ⟨(Frm.of_ext C), ?_⟩
     have s1 := C.size
     have ⟨p3, p4, p5⟩ := U.lkm
     have f5 := (((((O.trans e).trans h).trans k).trans s).trans G).trans C
     have l1 := (c3.ext f5)
     have f6 := (s.trans G).trans C
     have l2 := (d0.ext f6)
     refine dOp 19 rfl rfl (by kernel_rfl) (oCall rfl call31 (law12_congruent l1 U l2 Qo Qo Qo Qo Qo (fun i => abs_dvd (prod0_cg hx6p f4 i))) rfl ?_)
     rintro _ u2 ⟨d3, rfl, Q, f7⟩
     refine ⟨(Frm.of_ext Q), ?_⟩
     have s2 := Q.size
     obtain rfl : d3 = true := f7
     refine dV 20 rfl (v := (.bool true)) (fun _ _ => rfl) (dAb 21 rfl rfl (dDone (by kernel_rfl) (xN (e3 _ _ (wp_ret (ret1 (.bool true) results5 (resT rfl) ?_))))))
     have f8 := (((((((((((((a3.trans t).trans o).trans j).trans p).trans g).trans q).trans B).trans e).trans h).trans k).trans s).trans G).trans C).trans Q
     exact ⟨(true), rfl, f8, rfl⟩
end Go.Proofs.YtneolcopompkaaaGreatDoor
