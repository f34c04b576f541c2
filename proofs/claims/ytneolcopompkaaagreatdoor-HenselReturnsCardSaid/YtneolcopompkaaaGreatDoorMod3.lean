/-
  Walks of package modpoly: division, greatest common divisors, cofactors.
-/
import Derived.Test.YtneolcopompkaaaGreatDoorMod2
namespace Go.Proofs.YtneolcopompkaaaGreatDoor
open Go.RowKit Go.Gx Tryz
theorem modpoly_monic {w : World} {Sf : Nat → Prop} {Af : Option Addr} {nf cf : Nat} {df : List Nat} {xp : Nat} (hf : NatR w Sf Af nf cf df) (bp : xp < 4294967296) (hnf : nf ≤ 1048576) (hp : xp = 2 ∨ xp = 3 ∨ xp = 5 ∨ xp = 7 ∨ xp = 11 ∨ xp = 13) (hcf : CanP xp df) : Calls Tryz.prog 80 #[(.slice Af nf cf), (.int .u32 xp)] w (Ret fun v w' => ∃ (Ar : Option Addr) (nr : Nat) (cr : Nat) (dr : List Nat), v = (.slice Ar nr cr) ∧ Ext w w' ∧ NatR w' (fun b => w.heap.size ≤ b) Ar nr cr dr ∧ (dr = monicP xp df) ∧ (nr ≤ nf) ∧ (CanP xp dr)) := by
 have ⟨lf, kf, mf⟩ := hf.lkm
 replace hf := hf.low
 refine enter func80 rfl ntmps80 rfl ?_
 have hpr := prime4N hp
 refine rS fun N r => sAs rfl (sK r (wp_seq_k fun O s => rS fun P l => sMs rfl (sV (evLen underlying46 rfl) ?_)))
 by_cases m : ((nf : Int)) = 0
 ·refine sV (evEql true rfl rfl (dT m)) (sK l (cT rfl (rS fun Q t => sAs rfl (sK t (wp_ret (xR (ret1 (.slice none 0 0) results80 (resT rfl) ?_)))))))
  exact ⟨none, 0, 0, ([]), rfl, (Frm.refl _ _), NatR.nil, (by unfold monicP; rw [if_pos (by omega)]), (by omega), CanP.nil⟩
 ·refine sV (evEql false rfl rfl (dF m)) (sK l (cF rfl (wp_skip (xN (s _ _ (rS fun R u => sMs rfl (sMs rfl (sV (evLen underlying46 rfl) (sV (evSub (((nf : Int)) - 1) rfl rfl wI) ?_)))))))))
  obtain ⟨S, F, rfl⟩ := hf.base Qo
  refine sV (evIx (nf - 1) underlying46 sz26 rfl rfl (F + (nf - 1))) ?_
  have J := hf.lt (nf - 1)
  refine sV (evLoad one26 rfl (hf.cell (by omega))) (sMi rfl (sO (oCall rfl call118 (modular_Inverse (xa := df.getD (nf - 1) 0) (by omega) (xm := xp) (by omega) (by omega) (by have x := monic_co hpr hcf (by omega); rw [lf] at x; exact x)) rfl ?_)))
  rintro _ K ⟨a, d, rfl, c, z, G, n, A⟩
  have H := c.size
  refine sV (v := (.tuple #[(.int .u32 a), (.int .i64 (d))])) (rfl) (sV (v := (.int .u32 a)) (rfl) (sV (v := (.int .i64 (d))) (rfl) (sAi rfl (sAi rfl (sK u (rS fun L o => sMs rfl (sMi rfl (sMi rfl ?_))))))))
  have y := (hf.ext c)
  refine sO (oCall rfl call40 (modpoly_Scale y (xc := a) Qo (xm := xp) Qo Qo Qo) rfl ?_)
  rintro _ M ⟨e, f, g, j, rfl, i, h, p, B, k⟩
  have I := i.size
  have ⟨C, D, E⟩ := h.lkm
  refine sAs rfl (sK o (wp_ret (ret1 (.slice e f g) results80 (resT rfl) ?_)))
  have q := c.trans i
  exact ⟨e, f, g, j, rfl, q, (NatR.sub h q5), (by rw [p, n]; unfold monicP leadP; rw [if_neg (by omega), lf]), (by omega), k⟩
theorem modpoly_Monic {w : World} {Sf : Nat → Prop} {Af : Option Addr} {nf cf : Nat} {df : List Nat} {xp : Nat} (hf : NatR w Sf Af nf cf df) (bp : xp < 4294967296) (hT : TabR w) (hnf : nf ≤ 1048576) (hp : xp = 2 ∨ xp = 3 ∨ xp = 5 ∨ xp = 7 ∨ xp = 11 ∨ xp = 13) : Calls Tryz.prog 55 #[(.slice Af nf cf), (.int .u32 xp)] w (Ret fun v w' => ∃ (Ar : Option Addr) (nr : Nat) (cr : Nat) (dr : List Nat) (xo : Int), v = (.tuple #[(.slice Ar nr cr), (.int .i64 (xo))]) ∧ Ext w w' ∧ NatR w' (fun b => w.heap.size ≤ b) Ar nr cr dr ∧ (xo = 0) ∧ (dr = monicP xp (nrmP xp df)) ∧ (nr ≤ nf) ∧ (CanP xp dr)) := by
 have ltT := hT.lt0
 have ⟨lf, kf, mf⟩ := hf.lkm
 replace hf := hf.low
 refine enter func55 rfl ntmps55 rfl (rS fun P q => sAs rfl (sAi rfl (sK q (wp_seq_k fun Q r => rS fun R s => sMi rfl (sO (oCall rfl call54 (modular_IsPrime (xn := xp) Qo hT (by assumption)) rfl ?_))))))
 rintro _ S ⟨m, rfl, g, t⟩
 have M := g.size
 obtain rfl : m = true := t
 refine sV (evNot _ rfl rfl) (sK s (cF rfl (wp_skip (xN (r _ _ (rS fun T u => sMs rfl (sMi rfl ?_)))))))
 have J := (hf.ext g)
 refine sO (oCall rfl call77 (modpoly_Normal J (xm := xp) Qo Qo Qo) rfl ?_)
 rintro _ N ⟨x, y, z, A, rfl, h, a, n, B, j⟩
 have K := h.size
 have ⟨C, D, E⟩ := a.lkm
 refine sMi rfl (sO (oCall rfl call80 (modpoly_monic a (xp := xp) Qo Qo hp j) rfl ?_))
 rintro _ O ⟨c, d, e, k, rfl, i, f, o, F, l⟩
 have L := i.size
 have ⟨G, H, I⟩ := f.lkm
 refine sAs rfl (sAi rfl (sK u (wp_ret (ret2 (.slice c d e) (.int .i64 (0)) results55 (resT rfl) (resT rfl) ?_))))
 have p := (g.trans h).trans i
 exact ⟨c, d, e, k, (0), rfl, p, (NatR.sub f q5), rfl, (by rw [o, n]), (by omega), l⟩
set_option maxHeartbeats 2000000 in
theorem modpoly_divide {w : World} {Sf : Nat → Prop} {Af : Option Addr} {nf cf : Nat} {df : List Nat} {Sg : Nat → Prop} {Ag : Option Addr} {ng cg : Nat} {dg : List Nat} {xp : Nat} (hf : NatR w Sf Af nf cf df) (hg : NatR w Sg Ag ng cg dg) (bp : xp < 4294967296) (hnf : nf ≤ 1048576) (hng : ng ≤ 1048576) (hp : xp = 2 ∨ xp = 3 ∨ xp = 5 ∨ xp = 7 ∨ xp = 11 ∨ xp = 13) (hcf : CanP xp df) (hcg : CanP xp dg) (hng0 : 0 < ng) : Calls Tryz.prog 117 #[(.slice Af nf cf), (.slice Ag ng cg), (.int .u32 xp)] w (Ret fun v w' => ∃ (Aq : Option Addr) (nq : Nat) (cq : Nat) (dq : List Nat) (Ar : Option Addr) (nr : Nat) (cr : Nat) (dr : List Nat), v = (.tuple #[(.slice Aq nq cq), (.slice Ar nr cr)]) ∧ Ext w w' ∧ NatR w' (fun b => w.heap.size ≤ b) Aq nq cq dq ∧ NatR w' (fun b => w.heap.size ≤ b) Ar nr cr dr ∧ (divP xp df dg = (dq, dr)) ∧ (CanP xp dq) ∧ (CanP xp dr) ∧ (nr < ng) ∧ (nq ≤ nf + 1 - ng) ∧ (nr ≤ nf) ∧ (ng ≤ nf → 0 < nq)) := by
 have ⟨lf, kf, mf⟩ := hf.lkm
 replace hf := hf.low
 have ⟨lg, kg, mg⟩ := hg.lkm
 replace hg := hg.low
 refine enter func117 rfl ntmps117 rfl ?_
 have hpr := prime4N hp
 refine rS fun K1 i5 => sAs rfl (sAs rfl (sK i5 (rS fun K2 i6 => sMs rfl (sV (evLen underlying46 rfl) (sO (oMake1 nf underlying46 inf26 rfl cI cI Qo Qo (fun f w4 o7 U o8 i7 => ?_)))))))
 have i8 : Blk w4 f 26 (((List.replicate nf 0)).map u32) := by rw [List.map_replicate]; exact i7
 refine sAs rfl (sK i6 (rS fun o9 e0 => sMs rfl (sMs rfl ?_)))
 have i9 := (hf.ext U)
 refine sO (oCopy underlying46 sz26 rfl rfl i9.1 (u32s_one _) i8 Qo (by exact lq) (fun d6 V m0 o => ?_))
 replace o : Blk d6 f 26 ((df).map u32) := by rw [← (by simp [lf] : (List.replicate nf 0).take 0 ++ df ++ (List.replicate nf 0).drop (0 + nf) = df), List.map_append, List.map_append, List.map_take, List.map_drop]; exact o
 rw [put_mkA]
 refine sK e0 (rS fun p0 e1 => sMs rfl (sV (evLen underlying46 rfl) (sV (evSub (((ng : Int)) - 1) rfl rfl wI) (sAi rfl (sK e1 (wp_seq_k fun p1 e2 => rS fun p2 W => sMs rfl (sV (evLen underlying46 rfl) (sMi rfl ?_))))))))
 by_cases X : ((nf : Int)) ≤ (((ng : Int)) - 1)
 ·refine sV (evLeq true rfl rfl (dT X)) (sK W (cT rfl (rS fun p3 e3 => sMs rfl (sAs rfl (sAs rfl (sK e3 (wp_ret (xR (ret2 (.slice none 0 0) (.slice (some ⟨f, 0, none⟩) nf nf) results117 (resT rfl) (resT rfl) ?_)))))))))
  have u : divP xp df dg = ([], df) := (by unfold divP; rw [if_pos (by omega)])
  have ⟨k1, k2, k3, k4, k5, k6⟩ := divP_can2 hpr hcf hcg Qo u
  have j0 : NatR d6 (fun b => b = f) (some ⟨f, 0, none⟩) nf nf (df) := NatR.of_blk o rfl hf.2 (by exact lq) Qo (by unfold CapMax; omega)
  have e7 := U.rx V
  exact ⟨none, 0, 0, ([]), (some ⟨f, 0, none⟩), nf, nf, df, rfl, (Frm.mono e7 q4), NatR.nil, (NatR.sub j0 q5), u, k1, k2, (by (try simp only [List.length_nil] at *); omega), (by (try simp only [List.length_nil] at *); omega), (by (try simp only [List.length_nil] at *); omega), (fun h9 => by have h8 := k6 (by omega); (try simp only [List.length_nil] at *); omega)⟩
 ·refine sV (evLeq false rfl rfl (dF X)) (sK W (cF rfl (wp_skip (xN (e2 _ _ (rS fun p4 e8 => sMs rfl (sMi rfl ?_)))))))
  have Y := U.rx V
  have K := (hg.frmB Y q3)
  obtain ⟨Z, x, rfl⟩ := K.base Qo
  refine sV (evIx (ng - 1) underlying46 sz26 rfl rfl (x + (ng - 1))) ?_
  have m5 := K.lt (ng - 1)
  refine sV (evLoad one26 rfl (K.cell (by omega))) (sMi rfl (sO (oCall rfl call118 (modular_Inverse (xa := dg.getD (ng - 1) 0) (by omega) (xm := xp) (by omega) (by omega) (by have h9 := monic_co hpr hcg (by omega); rw [lg] at h9; exact h9)) rfl ?_)))
  rintro _ p5 ⟨c, L, rfl, I, k0, m6, e9, k7⟩
  have m7 := I.size
  refine sV (v := (.tuple #[(.int .u32 c), (.int .i64 (L))])) (rfl) (sV (v := (.int .u32 c)) (rfl) (sV (v := (.int .i64 (L))) (rfl) (sAi rfl (sAi rfl (sK e8 (rS fun p6 f0 => sMs rfl (sV (evLen underlying46 rfl) (sMi rfl (sV (evSub (((nf : Int)) - (((ng : Int)) - 1)) rfl rfl wI) (sO (oMake1 (nf - (ng - 1)) underlying46 inf26 rfl cI cI Qo Qo (fun h d7 m8 a0 m9 f1 => ?_))))))))))))
  have f2 : Blk d7 h 26 (((List.replicate (nf - (ng - 1)) 0)).map u32) := by rw [List.map_replicate]; exact f1
  refine sAs rfl (sK f0 (wp_seq_k fun p7 f3 => rS fun p8 f4 => sMs rfl (sV (evLen underlying46 rfl) (sMi rfl (sK f4 (wp_block ?_))))))
  have a1 := I.trans a0
  have f5 := (o.ext a1)
  refine lLoop (fun m e w_ => ∃ (k : Nat) (Q : List Nat) (R : List Nat), m = (nf - (ng - 1)) - k ∧ e 1 = (.slice (some ⟨Z, x, none⟩) ng cg) ∧ e 2 = (.int .u32 xp) ∧ e 6 = (.slice (some ⟨h, 0, none⟩) (nf - (ng - 1)) (nf - (ng - 1))) ∧ e 7 = (.slice (some ⟨f, 0, none⟩) nf nf) ∧ e 8 = (.int .i64 (((ng : Int)) - 1)) ∧ e 9 = (.int .u32 c) ∧ e 46 = (.int .i64 (((nf - (ng - 1) : Nat) : Int))) ∧ e 47 = (.int .i64 k) ∧ Frm (fun b => b = h ∨ b = f) d7 w_ ∧ Blk w_ h 26 (Q.map u32) ∧ Blk w_ f 26 (R.map u32) ∧ (k ≤ (nf - (ng - 1))) ∧ (Q.length = (nf - (ng - 1))) ∧ (R.length = nf) ∧ (∀ d ∈ Q, d < xp) ∧ (∀ d ∈ R, d < xp) ∧ (divGo xp c dg ((nf - (ng - 1)) - k) (Q, R) = divGo xp c dg (nf - (ng - 1)) (List.replicate (nf - (ng - 1)) 0, df))) ((nf - (ng - 1)) - (0)) ?_ ?_
  ·refine ⟨(0), (List.replicate (nf - (ng - 1)) 0), (df), rfl, rfl, rfl, rfl, rfl, rfl, rfl, rfl, cI, (Frm.refl _ _), ?_, ?_, ?_, ?_, ?_, ?_, ?_, ?_⟩
   ·exact f2
   ·exact f5
   ·omega
   ·simp
   ·exact lf
   ·intro d hd; rw [List.eq_of_mem_replicate hd]; omega
   ·exact hcf.1
   ·rfl
  ·rintro p9 q0 j1 ⟨k, Q, R, n0, f6, f7, f8, f9, g0, g1, g2, g4, l, a2, p, hk, hQl, hRl, hQt, hRt, hG⟩
   obtain ⟨q2, rfl⟩ := sq8 f6 f7 f8 f9 g0 g1 g2 g4
   have n1 := l.size
   refine rS fun q6 a3 => ?_
   by_cases a4 : ((k : Int)) < (((nf - (ng - 1) : Nat) : Int))
   ·refine sV (evLss true rfl rfl (dT a4)) (sK a3 (wp_seq_k fun q7 g5 => cT rfl (wp_skip (xN (g5 _ _ (wp_seq_k fun q8 a5 => wp_block (rS fun q9 g6 => sMi rfl (sAi rfl (sK g6 (rS fun r0 g7 => sMs rfl (sV (evLen underlying46 rfl) (sV (evSub ((((nf - (ng - 1) : Nat) : Int)) - 1) rfl rfl wI) (sMi rfl (sV (evSub (((((nf - (ng - 1) : Nat) : Int)) - 1) - ((k : Int))) rfl rfl wI) (sAi rfl (sK g7 (rS fun r1 g8 => sMs rfl (sMi rfl (sMi rfl (sV (evAdd ((((((nf - (ng - 1) : Nat) : Int)) - 1) - ((k : Int))) + (((ng : Int)) - 1)) rfl rfl wI) (sV (evIx ((((nf - (ng - 1)) - 1) - k) + (ng - 1)) underlying46 sz26 rfl rfl ((((nf - (ng - 1)) - 1) - k) + (ng - 1))) ?_)))))))))))))))))))))
    have n2 := getD_lt (ds := R) (i := (((nf - (ng - 1)) - 1) - k) + (ng - 1)) (lt_BS bp hRt)
    refine sV (evLoad one26 rfl (p.dig (by exact lq))) (sMi rfl (sMi rfl (sO (oCall rfl call84 (modular_Mul (xa := R.getD ((((nf - (ng - 1)) - 1) - k) + (ng - 1)) 0) Qo (xb := c) Qo (xm := xp) Qo Qo) rfl ?_))))
    rintro _ r2 ⟨a, rfl, n, k8, a6⟩
    have n3 := n.size
    have d8 : a < xp := (by rw [a6]; exact Nat.mod_lt _ (by omega)); have h63e : a = R.getD ((nf - (ng - 1)) - 1 - k + (dg.length - 1)) 0 * c % xp := (by rw [a6, lg])
    refine sAi rfl (sK g8 (rS fun r3 g9 => sMs rfl (sMi rfl (sMi rfl (sV (evIx (((nf - (ng - 1)) - 1) - k) underlying46 sz26 rfl rfl (((nf - (ng - 1)) - 1) - k)) ?_)))))
    have h0 := (a2.ext n)
    refine sO (oStore1 rfl rfl rfl sz26 h0 (by exact lq) (fun d9 J n4 q => ?_))
    replace q : Blk d9 h 26 ((Q.set ((nf - (ng - 1)) - 1 - k) a).map u32) := by rw [List.map_set]; exact q
    refine sK g9 (wp_seq_k fun r4 h1 => rS fun r5 a7 => sMi rfl ?_)
    by_cases a8 : ((a : Int)) = 0
    ·refine sV (evEql true rfl rfl (dT a8)) (sK a7 (cT rfl (wp_exit (xE (bE (xN (a5 _ _ (wp_region_lit (sV (evAdd (((k : Int)) + 1) rfl rfl wI) (sMi rfl (sDone ?_)))))))))))
     have a9 := n.rx J
     have h2 := (p.frm a9 q1)
     refine again ((nf - (ng - 1)) - (k + 1)) Qo ⟨(k + 1), (Q.set ((nf - (ng - 1)) - 1 - k) a), (R), rfl, rfl, rfl, rfl, rfl, rfl, rfl, rfl, cI, (Frm.mono (l.tr a9) q4), ?_, ?_, ?_, ?_, ?_, ?_, ?_, ?_⟩
     ·exact q
     ·exact h2
     ·omega
     ·simp [hQl]
     ·exact hRl
     ·exact lt_set hQt d8
     ·exact hRt
     ·rw [show (nf - (ng - 1)) - (k + 1) = (nf - (ng - 1)) - 1 - k by omega]; exact div_zero hG (by omega) h63e (by omega)
    ·refine sV (evEql false rfl rfl (dF a8)) (sK a7 (cF rfl (wp_skip (xN (h1 _ _ (rS fun r6 h3 => sMi rfl (sMi rfl (sV (evSub (((xp - a : Nat) : Int)) rfl rfl (wU32 Qo)) (sV (evConv (((xp - a : Nat) : Int)) underlying26 underlying100 rfl (wU64 Qo)) (sAi rfl (sK h3 (rS fun r7 h4 => sMs rfl (sV (evLen underlying46 rfl) (sMi rfl (sK h4 (wp_block ?_))))))))))))))))
     have b0 := n.rx J
     have h5 := (p.frm b0 q1)
     refine lLoop (fun m e w_ => ∃ (j : Nat), m = ng - j ∧ e 1 = (.slice (some ⟨Z, x, none⟩) ng cg) ∧ e 2 = (.int .u32 xp) ∧ e 6 = (.slice (some ⟨h, 0, none⟩) (nf - (ng - 1)) (nf - (ng - 1))) ∧ e 7 = (.slice (some ⟨f, 0, none⟩) nf nf) ∧ e 8 = (.int .i64 (((ng : Int)) - 1)) ∧ e 9 = (.int .u32 c) ∧ e 12 = (.int .i64 (((((nf - (ng - 1) : Nat) : Int)) - 1) - ((k : Int)))) ∧ e 14 = (.int .u64 (((xp - a : Nat) : Int))) ∧ e 46 = (.int .i64 (((nf - (ng - 1) : Nat) : Int))) ∧ e 47 = (.int .i64 k) ∧ e 74 = (.slice (some ⟨Z, x, none⟩) ng cg) ∧ e 75 = (.int .i64 ng) ∧ e 76 = (.int .i64 j) ∧ Frm (fun b => b = f) d9 w_ ∧ Blk w_ f 26 ((addAt xp dg ((nf - (ng - 1)) - 1 - k) (xp - a) j R).map u32) ∧ (j ≤ ng)) (ng - (0)) ?_ ?_
     ·refine ⟨(0), rfl, rfl, rfl, rfl, rfl, rfl, rfl, rfl, rfl, rfl, rfl, rfl, rfl, cI, (Frm.refl _ _), ?_, ?_⟩
      ·rw [addAt_zero]; exact h5
      ·omega
     ·rintro r8 n5 r9 ⟨j, k9, h6, h7, b3, b4, b5, b6, b7, b8, b9, c0, c1, c2, c3, g, M, hj⟩
      obtain ⟨n6, rfl⟩ := sq13 h6 h7 b3 b4 b5 b6 b7 b8 b9 c0 c1 c2 c3
      have l0 := g.size
      have hAl : (addAt xp dg ((nf - (ng - 1)) - 1 - k) (xp - a) j R).length = nf := addAt_len.trans hRl
      refine rS fun n7 N => ?_
      by_cases O : ((j : Int)) < ((ng : Int))
      ·refine sV (evLss true rfl rfl (dT O)) (sK N (wp_seq_k fun n8 c4 => cT rfl (wp_skip (xN (c4 _ _ (wp_seq_k fun n9 c5 => wp_block (rS fun o0 c6 => sMi rfl (sV (evIx j underlying46 sz26 rfl rfl (x + j)) ?_))))))))
       have c7 := (((a1.rx l).xr n).tr J).tr g
       have b1 := (K.frmB c7 q3)
       have l1 := b1.lt j
       refine sV (evLoad one26 rfl (b1.cell Qo)) (sAi rfl (sAi rfl (sK c6 (dBegin (fun b => b = f) mixed (fun o1 P l2 => dMs 0 rfl rfl (dMi 1 rfl rfl (dMi 2 rfl rfl (dV 3 rfl (fun _ _ => evAdd ((((((nf - (ng - 1) : Nat) : Int)) - 1) - ((k : Int))) + ((j : Int))) rfl rfl wI) (dMs 4 rfl rfl (dMi 5 rfl rfl (dMi 6 rfl rfl (dV 7 rfl (fun _ _ => evAdd ((((((nf - (ng - 1) : Nat) : Int)) - 1) - ((k : Int))) + ((j : Int))) rfl rfl wI) (dV 8 rfl (fun _ _ => evIx ((((nf - (ng - 1)) - 1) - k) + j) underlying46 sz26 rfl rfl ((((nf - (ng - 1)) - 1) - k) + j)) (dMi 11 rfl rfl (dMi 12 rfl rfl (dV 13 rfl (fun _ _ => evConv (((dg.getD j 0 : Nat) : Int)) underlying26 underlying100 rfl (wU64 Qo)) ?_))))))))))))))))
       refine dV 14 rfl (fun _ _ => evMul ((((xp - a) * (dg.getD j 0) : Nat) : Int)) rfl rfl (mulU64 (mul32_le Qo Qo))) (dMi 15 rfl rfl (dV 16 rfl (fun _ _ => evConv ((xp : Int)) underlying26 underlying100 rfl (wU64 Qo)) (dV 17 rfl (fun _ _ => evRem (((((xp - a) * (dg.getD j 0)) % xp : Nat) : Int)) rfl rfl Qo (remE Qo Qo)) ?_)))
       have s0 := Nat.mod_lt ((xp - a) * (dg.getD j 0)) (show 0 < xp by omega)
       refine dMi 19 rfl rfl (dV 20 rfl (fun _ _ => evConv ((xp : Int)) underlying26 underlying100 rfl (wU64 Qo)) ?_)
       have S := (M.ext P)
       have l3 := getD_lt (ds := addAt xp dg ((nf - (ng - 1)) - 1 - k) (xp - a) j R) (i := (((nf - (ng - 1)) - 1) - k) + j) (lt_BS bp (addAt_lt hRt Qo))
       refine dOp 9 rfl rfl (by kernel_rfl) (oEv (v := (.int .u32 ((((addAt xp dg ((nf - (ng - 1)) - 1 - k) (xp - a) j R).getD ((((nf - (ng - 1)) - 1) - k) + j) 0 : Nat) : Int)))) (evLoad one26 rfl (S.dig (by exact lq))) rfl ⟨Frm.refl _ _, dV 10 rfl (fun _ _ => evConv ((((addAt xp dg ((nf - (ng - 1)) - 1 - k) (xp - a) j R).getD ((((nf - (ng - 1)) - 1) - k) + j) 0 : Nat) : Int)) underlying26 underlying100 rfl (wU64 Qo)) (dV 18 rfl (fun _ _ => evAdd (((((addAt xp dg ((nf - (ng - 1)) - 1 - k) (xp - a) j R).getD ((((nf - (ng - 1)) - 1) - k) + j) 0) + (((xp - a) * (dg.getD j 0)) % xp) : Nat) : Int)) rfl rfl (wU64 Qo)) (dV 21 rfl (fun _ _ => evRem ((((((addAt xp dg ((nf - (ng - 1)) - 1 - k) (xp - a) j R).getD ((((nf - (ng - 1)) - 1) - k) + j) 0) + (((xp - a) * (dg.getD j 0)) % xp)) % xp : Nat) : Int)) rfl rfl Qo (remE Qo Qo)) ?_))⟩)
       have o2 := Nat.mod_lt ((((addAt xp dg ((nf - (ng - 1)) - 1 - k) (xp - a) j R).getD ((((nf - (ng - 1)) - 1) - k) + j) 0) + (((xp - a) * (dg.getD j 0)) % xp))) (show 0 < xp by omega)
       refine dV 22 rfl (fun _ _ => evConv ((((((addAt xp dg ((nf - (ng - 1)) - 1 - k) (xp - a) j R).getD ((((nf - (ng - 1)) - 1) - k) + j) 0) + (((xp - a) * (dg.getD j 0)) % xp)) % xp : Nat) : Int)) underlying100 underlying26 rfl (wU32 ⟨rfl, by omega, by omega⟩)) (dV 23 rfl (fun _ _ => evIx ((((nf - (ng - 1)) - 1) - k) + j) underlying46 sz26 rfl rfl ((((nf - (ng - 1)) - 1) - k) + j)) (dOp 24 rfl rfl (by kernel_rfl) (oStore1 rfl rfl rfl sz26 S (by exact lq) (fun i0 T l4 r => ?_))))
       replace r : Blk i0 f 26 ((addAt xp dg ((nf - (ng - 1)) - 1 - k) (xp - a) (j + 1) R).map u32) := by rw [← (addAt_step (by omega) rfl : (addAt xp dg ((nf - (ng - 1)) - 1 - k) (xp - a) j R).set ((((nf - (ng - 1)) - 1) - k) + j) ((((addAt xp dg ((nf - (ng - 1)) - 1 - k) (xp - a) j R).getD ((((nf - (ng - 1)) - 1) - k) + j) 0) + (((xp - a) * (dg.getD j 0)) % xp)) % xp) = addAt xp dg ((nf - (ng - 1)) - 1 - k) (xp - a) (j + 1) R), List.map_set]; exact r
       refine ⟨T, dDone (by kernel_rfl) (bN (xN (c5 _ _ (wp_region_lit (sV (evAdd (((j : Int)) + 1) rfl rfl wI) (sMi rfl (sDone ?_)))))))⟩
       have c8 := P.rx T
       refine again (ng - (j + 1)) Qo ⟨(j + 1), rfl, rfl, rfl, rfl, rfl, rfl, rfl, rfl, rfl, rfl, rfl, rfl, rfl, cI, (g.trans c8), ?_, ?_⟩
       ·exact r
       ·omega
      ·refine sV (evLss false rfl rfl (dF O)) (sK N (wp_seq_k fun o3 l5 => cF rfl (wp_exit (xE (xE (bE (bN (xN (a5 _ _ (wp_region_lit (sV (evAdd (((k : Int)) + 1) rfl rfl wI) (sMi rfl (sDone ?_)))))))))))))
       have c9 := b0.tr g
       have d0 := (q.frm g q1)
       refine again ((nf - (ng - 1)) - (k + 1)) Qo ⟨(k + 1), (Q.set ((nf - (ng - 1)) - 1 - k) a), (addAt xp dg ((nf - (ng - 1)) - 1 - k) (xp - a) j R), rfl, rfl, rfl, rfl, rfl, rfl, rfl, rfl, cI, (Frm.mono (l.tr c9) q4), ?_, ?_, ?_, ?_, ?_, ?_, ?_, ?_⟩
       ·exact d0
       ·exact M
       ·omega
       ·simp [hQl]
       ·rw [addAt_len]; exact hRl
       ·exact lt_set hQt d8
       ·exact addAt_lt hRt Qo
       ·rw [show (nf - (ng - 1)) - (k + 1) = (nf - (ng - 1)) - 1 - k by omega]; exact div_add hG (by omega) h63e (by omega) (by omega)
   ·refine sV (evLss false rfl rfl (dF a4)) (sK a3 (wp_seq_k fun o4 l6 => cF rfl (wp_exit (xE (xE (bE (xN (f3 _ _ (rS fun o5 d1 => sMs rfl ?_)))))))))
    have i1 : NatR j1 (fun b => b = h) (some ⟨h, 0, none⟩) (nf - (ng - 1)) (nf - (ng - 1)) (Q) := NatR.of_blk a2 rfl (lt_BS bp hQt) (by exact lq) Qo (by unfold CapMax; omega)
    refine sO (oCall rfl call53 (modpoly_trim i1) rfl ?_)
    rintro _ i2 ⟨y, z, A, B, rfl, s, C, d2, j2⟩
    have l7 := s.size
    have ⟨j3, j4, j5⟩ := C.lkm
    refine sMs rfl ?_
    have d3 := (p.ext s)
    have i3 : NatR i2 (fun b => b = f) (some ⟨f, 0, none⟩) nf nf (R) := NatR.of_blk d3 rfl (lt_BS bp hRt) (by exact lq) Qo (by unfold CapMax; omega)
    refine sO (oCall rfl call53 (modpoly_trim i3) rfl ?_)
    rintro _ o6 ⟨D, E, F, G, rfl, t, H, d4, j6⟩
    have l8 := t.size
    have ⟨j7, j8, j9⟩ := H.lkm
    refine sAs rfl (sAs rfl (sK d1 (wp_ret (ret2 (.slice y z A) (.slice D E F) results117 (resT rfl) (resT rfl) ?_))))
    have u : divP xp df dg = (B, G) := (div_fin (by omega) (by rw [e9, lg]) hG (by omega) (by omega) d2 d4)
    have ⟨k1, k2, k3, k4, k5, k6⟩ := divP_can2 hpr hcf hcg Qo u
    have i4 := (C.ext t)
    have d5 := ((((Y.xr I).xr a0).tr l).xr s).xr t
    exact ⟨y, z, A, B, D, E, F, G, rfl, (Frm.mono d5 q4), (NatR.sub i4 q5), (NatR.sub H q5), u, k1, k2, Qo, Qo, Qo, (fun h9 => by have h8 := k6 Qo; omega)⟩
theorem modpoly_remainder {w : World} {Sf : Nat → Prop} {Af : Option Addr} {nf cf : Nat} {df : List Nat} {Sg : Nat → Prop} {Ag : Option Addr} {ng cg : Nat} {dg : List Nat} {xp : Nat} (hf : NatR w Sf Af nf cf df) (hg : NatR w Sg Ag ng cg dg) (bp : xp < 4294967296) (hnf : nf ≤ 1048576) (hng : ng ≤ 1048576) (hp : xp = 2 ∨ xp = 3 ∨ xp = 5 ∨ xp = 7 ∨ xp = 11 ∨ xp = 13) (hcf : CanP xp df) (hcg : CanP xp dg) (hng0 : 0 < ng) : Calls Tryz.prog 113 #[(.slice Af nf cf), (.slice Ag ng cg), (.int .u32 xp)] w (Ret fun v w' => ∃ (Ar : Option Addr) (nr : Nat) (cr : Nat) (dr : List Nat), v = (.slice Ar nr cr) ∧ Ext w w' ∧ NatR w' (fun b => w.heap.size ≤ b) Ar nr cr dr ∧ (dr = (divP xp df dg).2) ∧ (CanP xp dr) ∧ (nr < ng) ∧ (nr ≤ nf)) := by
 have ⟨lf, kf, mf⟩ := hf.lkm
 replace hf := hf.low
 have ⟨lg, kg, mg⟩ := hg.lkm
 replace hg := hg.low
 refine enter func113 rfl ntmps113 rfl (rS fun D o => sAs rfl (sK o (rS fun E p => sMs rfl (sMs rfl (sMi rfl (sO (oCall rfl call117 (modpoly_divide hf hg (xp := xp) Qo Qo Qo hp hcf hcg Qo) rfl ?_)))))))
 rintro _ F ⟨e, f, g, s, a, c, d, j, rfl, i, k, h, q, t, l, u, m, n, x⟩
 have C := i.size
 have ⟨m, y, z⟩ := k.lkm
 have ⟨n, A, B⟩ := h.lkm
 refine sV (v := (.tuple #[(.slice e f g), (.slice a c d)])) (rfl) (sV (v := (.slice e f g)) (rfl) (sV (v := (.slice a c d)) (rfl) (sAs rfl (sAs rfl (sK p (rS fun G r => sMs rfl (sAs rfl (sK r (wp_ret (ret1 (.slice a c d) results113 (resT rfl) ?_))))))))))
 exact ⟨a, c, d, j, rfl, i, (NatR.sub h q5), (by rw [q]), l, (by omega), (by omega)⟩
theorem modpoly_gcd {w : World} {Sf : Nat → Prop} {Af : Option Addr} {nf cf : Nat} {df : List Nat} {Sg : Nat → Prop} {Ag : Option Addr} {ng cg : Nat} {dg : List Nat} {xp : Nat} (hf : NatR w Sf Af nf cf df) (hg : NatR w Sg Ag ng cg dg) (bp : xp < 4294967296) (hnf : nf ≤ 1048576) (hng : ng ≤ 1048576) (hp : xp = 2 ∨ xp = 3 ∨ xp = 5 ∨ xp = 7 ∨ xp = 11 ∨ xp = 13) (hcf : CanP xp df) (hcg : CanP xp dg) : Calls Tryz.prog 103 #[(.slice Af nf cf), (.slice Ag ng cg), (.int .u32 xp)] w (Ret fun v w' => ∃ (Ar : Option Addr) (nr : Nat) (cr : Nat) (dr : List Nat), v = (.slice Ar nr cr) ∧ Ext w w' ∧ NatR w' (fun b => w.heap.size ≤ b) Ar nr cr dr ∧ (dr = gcdP xp df dg) ∧ (CanP xp dr) ∧ (nr ≤ 1048576)) := by
 have ⟨lf, kf, mf⟩ := hf.lkm
 replace hf := hf.low
 have ⟨lg, kg, mg⟩ := hg.lkm
 replace hg := hg.low
 refine enter func103 rfl ntmps103 rfl ?_
 have hpr := prime4N hp
 refine rS fun K1 C => sAs rfl (sK C (wp_seq_k fun K2 D => wp_block ?_))
 refine lLoop (fun m e w_ => ∃ (Aa : Option Addr) (na : Nat) (ca : Nat) (da : List Nat) (Ab : Option Addr) (nb : Nat) (cb : Nat) (db : List Nat), m = nb ∧ e 0 = (.slice Aa na ca) ∧ e 1 = (.slice Ab nb cb) ∧ e 2 = (.int .u32 xp) ∧ Frm (fun b => False) w w_ ∧ (NatR w_ (fun b => b < w_.heap.size) Aa na ca da) ∧ (NatR w_ (fun b => b < w_.heap.size) Ab nb cb db) ∧ (CanP xp da) ∧ (CanP xp db) ∧ (na ≤ 1048576 ∧ nb ≤ 1048576) ∧ (gcdP xp da db = gcdP xp df dg)) ((ng)) ?_ ?_
 ·refine ⟨(Af), (nf), (cf), (df), (Ag), (ng), (cg), (dg), rfl, rfl, rfl, rfl, (Frm.refl _ _), ?_, ?_, ?_, ?_, ?_, ?_⟩
  ·exact NatR.low hf
  ·exact NatR.low hg
  ·exact hcf
  ·exact hcg
  ·omega
  ·rfl
 ·rintro m3 S w4 ⟨Aa, na, ca, da, Ab, nb, cb, db, T, E, F, G, j, ha, hb, hca, hcb, hnn, hgg⟩
  obtain ⟨U, rfl⟩ := sq3 E F G
  have P := j.size
  have ⟨la, ka, ma⟩ := ha.lkm; have ⟨lb, kb, mb⟩ := hb.lkm
  refine wp_seq_k fun V x => rS fun W k => sMs rfl (sV (evLen underlying46 rfl) ?_)
  by_cases l : ((nb : Int)) > 0
  ·refine sV (evGtr true rfl rfl (dT l)) (sK k (cT rfl (wp_skip (xN (x _ _ (wp_block (wp_region_lit (sMs rfl (sMs rfl (sMs rfl (sMi rfl (sO (oCall rfl call113 (modpoly_remainder ha hb (xp := xp) Qo Qo Qo hp hca hcb Qo) rfl ?_)))))))))))))
   rintro _ X ⟨o, c, p, q, rfl, a, d, y, r, I, s⟩
   have Q := a.size
   have ⟨s, J, K⟩ := d.lkm
   refine sAs rfl (sAs rfl (sDone (bN ?_)))
   have H := (hb.ext a)
   refine again ((c)) Qo ⟨(Ab), (nb), (cb), (db), (o), (c), (p), (q), rfl, rfl, rfl, rfl, (j.trans a), ?_, ?_, ?_, ?_, ?_, ?_⟩
   ·exact NatR.low H
   ·exact NatR.low d
   ·exact hcb
   ·exact r
   ·omega
   ·rw [y, ← gcd_turn hpr hca hcb (by omega)]; exact hgg
  ·refine sV (evGtr false rfl rfl (dF l)) (sK k (cF rfl (wp_exit (xE (xE (bE (xN (D _ _ (rS fun Y z => sMs rfl (sMi rfl (sO (oCall rfl call80 (modpoly_monic ha (xp := xp) Qo Qo hp hca) rfl ?_))))))))))))
   rintro _ Z ⟨f, g, h, t, rfl, n, i, A, L, u⟩
   have R := n.size
   have ⟨M, N, O⟩ := i.lkm
   refine sAs rfl (sK z (wp_ret (ret1 (.slice f g h) results103 (resT rfl) ?_)))
   have B := j.trans n
   exact ⟨f, g, h, t, rfl, B, (NatR.sub i q5), (by rw [A, ← hgg, gcd_end (by omega)]), u, (by omega)⟩
theorem modpoly_Gcd {w : World} {Sf : Nat → Prop} {Af : Option Addr} {nf cf : Nat} {df : List Nat} {Sg : Nat → Prop} {Ag : Option Addr} {ng cg : Nat} {dg : List Nat} {xp : Nat} (hf : NatR w Sf Af nf cf df) (hg : NatR w Sg Ag ng cg dg) (bp : xp < 4294967296) (hT : TabR w) (hnf : nf ≤ 1048576) (hng : ng ≤ 1048576) (hp : xp = 2 ∨ xp = 3 ∨ xp = 5 ∨ xp = 7 ∨ xp = 11 ∨ xp = 13) : Calls Tryz.prog 62 #[(.slice Af nf cf), (.slice Ag ng cg), (.int .u32 xp)] w (Ret fun v w' => ∃ (Ar : Option Addr) (nr : Nat) (cr : Nat) (dr : List Nat) (xo : Int), v = (.tuple #[(.slice Ar nr cr), (.int .i64 (xo))]) ∧ Ext w w' ∧ NatR w' (fun b => w.heap.size ≤ b) Ar nr cr dr ∧ (xo = 0) ∧ (dr = gcdP xp (nrmP xp df) (nrmP xp dg)) ∧ (CanP xp dr) ∧ (nr ≤ 1048576)) := by
 have ltT := hT.lt0
 have ⟨lf, kf, mf⟩ := hf.lkm
 replace hf := hf.low
 have ⟨lg, kg, mg⟩ := hg.lkm
 replace hg := hg.low
 refine enter func62 rfl ntmps62 rfl (rS fun K1 x => sAs rfl (sAi rfl (sK x (wp_seq_k fun K2 y => rS fun K3 z => sMi rfl (sO (oCall rfl call54 (modular_IsPrime (xn := xp) Qo hT (by assumption)) rfl ?_))))))
 rintro _ w5 ⟨q, rfl, i, A⟩
 have a2 := i.size
 obtain rfl : q = true := A
 refine sV (evNot _ rfl rfl) (sK z (cF rfl (wp_skip (xN (y _ _ (rS fun K8 B => sMs rfl (sMi rfl ?_)))))))
 have Y := (hf.ext i)
 refine sO (oCall rfl call77 (modpoly_Normal Y (xm := xp) Qo Qo Qo) rfl ?_)
 rintro _ a3 ⟨E, F, G, H, rfl, j, c, r, I, m⟩
 have Z := j.size
 have ⟨J, K, L⟩ := c.lkm
 refine sMs rfl (sMi rfl ?_)
 have k := i.trans j
 have C := (hg.ext k)
 refine sO (oCall rfl call77 (modpoly_Normal C (xm := xp) Qo Qo Qo) rfl ?_)
 rintro _ a4 ⟨M, N, O, P, rfl, a, d, s, Q, n⟩
 have a0 := a.size
 have ⟨R, S, T⟩ := d.lkm
 refine sMi rfl ?_
 have D := (c.ext a)
 refine sO (oCall rfl call103 (modpoly_gcd D d (xp := xp) Qo Qo Qo hp m n) rfl ?_)
 rintro _ a5 ⟨e, f, g, o, rfl, l, h, t, p, U⟩
 have a1 := l.size
 have ⟨V, W, X⟩ := h.lkm
 refine sAs rfl (sAi rfl (sK B (wp_ret (ret2 (.slice e f g) (.int .i64 (0)) results62 (resT rfl) (resT rfl) ?_))))
 have u := (k.trans a).trans l
 exact ⟨e, f, g, o, (0), rfl, u, (NatR.sub h q5), rfl, (by rw [t, r, s]), p, (by omega)⟩
theorem modpoly_Divide {w : World} {Sf : Nat → Prop} {Af : Option Addr} {nf cf : Nat} {df : List Nat} {Sg : Nat → Prop} {Ag : Option Addr} {ng cg : Nat} {dg : List Nat} {xp : Nat} (hf : NatR w Sf Af nf cf df) (hg : NatR w Sg Ag ng cg dg) (bp : xp < 4294967296) (hT : TabR w) (hnf : nf ≤ 1048576) (hng : ng ≤ 1048576) (hp : xp = 2 ∨ xp = 3 ∨ xp = 5 ∨ xp = 7 ∨ xp = 11 ∨ xp = 13) (hg0 : (nrmP xp dg).length ≠ 0) : Calls Tryz.prog 94 #[(.slice Af nf cf), (.slice Ag ng cg), (.int .u32 xp)] w (Ret fun v w' => ∃ (Aq : Option Addr) (nq : Nat) (cq : Nat) (dq : List Nat) (Ar : Option Addr) (nr : Nat) (cr : Nat) (dr : List Nat) (xo : Int), v = (.tuple #[(.slice Aq nq cq), (.slice Ar nr cr), (.int .i64 (xo))]) ∧ Ext w w' ∧ NatR w' (fun b => w.heap.size ≤ b) Aq nq cq dq ∧ NatR w' (fun b => w.heap.size ≤ b) Ar nr cr dr ∧ (xo = 0) ∧ (divP xp (nrmP xp df) (nrmP xp dg) = (dq, dr)) ∧ (CanP xp dq) ∧ (CanP xp dr) ∧ (nr < ng) ∧ (nq ≤ nf) ∧ (nr ≤ nf)) := by
 have ltT := hT.lt0
 have ⟨lf, kf, mf⟩ := hf.lkm
 replace hf := hf.low
 have ⟨lg, kg, mg⟩ := hg.lkm
 replace hg := hg.low
 refine enter func94 rfl ntmps94 rfl (rS fun K1 K => sAs rfl (sAs rfl (sAi rfl (sK K (wp_seq_k fun K2 L => rS fun K3 M => sMi rfl (sO (oCall rfl call54 (modular_IsPrime (xn := xp) Qo hT (by assumption)) rfl ?_)))))))
 rintro _ w5 ⟨C, rfl, m, N⟩
 have b6 := m.size
 obtain rfl : C = true := N
 refine sV (evNot _ rfl rfl) (sK M (cF rfl (wp_skip (xN (L _ _ (rS fun K8 O => sMs rfl (sMi rfl ?_)))))))
 have h9 := (hf.ext m)
 refine sO (oCall rfl call77 (modpoly_Normal h9 (xm := xp) Qo Qo Qo) rfl ?_)
 rintro _ b7 ⟨R, S, T, U, rfl, n, i, D, V, r⟩
 have b3 := n.size
 have ⟨W, X, Y⟩ := i.lkm
 refine sMs rfl (sMi rfl ?_)
 have o := m.trans n
 have P := (hg.ext o)
 refine sO (oCall rfl call77 (modpoly_Normal P (xm := xp) Qo Qo Qo) rfl ?_)
 rintro _ b8 ⟨Z, s, a0, a1, rfl, h, j, p, a2, t⟩
 have b4 := h.size
 have ⟨a3, a4, a5⟩ := j.lkm
 have b9 : 0 < s := by rw [← p] at hg0; omega
 refine sAs rfl (sAs rfl (sK O (wp_seq_k fun c0 E => rS fun c1 F => sMs rfl (sV (evLen underlying46 rfl) (sV (evEql false rfl rfl (dF Qo)) (sK F (cF rfl (wp_skip (xN (E _ _ (rS fun c2 G => sMs rfl (sMs rfl (sMi rfl ?_)))))))))))))
 have Q := (i.ext h)
 refine sO (oCall rfl call117 (modpoly_divide Q j (xp := xp) Qo Qo Qo hp r t Qo) rfl ?_)
 rintro _ c3 ⟨a, c, d, u, e, f, g, x, rfl, q, k, l, H, y, z, a6, A, B, a7⟩
 have b5 := q.size
 have ⟨A, a8, a9⟩ := k.lkm
 have ⟨B, b0, b1⟩ := l.lkm
 refine sV (v := (.tuple #[(.slice a c d), (.slice e f g)])) (rfl) (sV (v := (.slice a c d)) (rfl) (sV (v := (.slice e f g)) (rfl) (sAs rfl (sAs rfl (sK G (rS fun c4 I => sMs rfl (sMs rfl (sAs rfl (sAs rfl (sAi rfl (sK I (wp_ret (ret3 (.slice a c d) (.slice e f g) (.int .i64 (0)) results94 (resT rfl) (resT rfl) (resT rfl) ?_)))))))))))))
 have J := (o.trans h).trans q
 exact ⟨a, c, d, u, e, f, g, x, (0), rfl, J, (NatR.sub k q5), (NatR.sub l q5), rfl, (by rw [← D, ← p]; exact H), y, z, (by omega), (by omega), (by omega)⟩
end Go.Proofs.YtneolcopompkaaaGreatDoor
