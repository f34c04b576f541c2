/-
  Walks of what the law HenselReturns calls: the small primes, monic polynomials, pairwise coprime.
-/
import Derived.Test.YtneolcopompkaaaGreatDoorLaw12a
import Derived.Test.YtneolcopompkaaaGreatDoorLibB
namespace Go.Proofs.YtneolcopompkaaaGreatDoor
open Go.RowKit Go.Gx Tryz
theorem law12_small {w : World} {xn : Nat} (bn : xn < 256)  : Calls Tryz.prog 15 #[(.int .u8 xn)] w (Ret fun v w' => ∃ (xr : Nat), v = (.int .u32 xr) ∧ Ext w w' ∧ xr < 4294967296 ∧ (xr = 2 ∨ xr = 3 ∨ xr = 5 ∨ xr = 7 ∨ xr = 11 ∨ xr = 13)) := by
 refine enter func15 rfl ntmps15 rfl (rS fun n c => sAi rfl (sK c (rS fun o d => sO (oBuildSlice [(.int .u32 (2)), (.int .u32 (3)), (.int .u32 (5)), (.int .u32 (7)), (.int .u32 (11)), (.int .u32 (13))] [[(.int .u32 (2))], [(.int .u32 (3))], [(.int .u32 (5))], [(.int .u32 (7))], [(.int .u32 (11))], [(.int .u32 (13))]] underlying22 inf26 rfl rfl rfl rfl rfl (fun e f k g l a => ?_)))))
 replace a : Blk f e 26 [(.int .u32 (2)), (.int .u32 (3)), (.int .u32 (5)), (.int .u32 (7)), (.int .u32 (11)), (.int .u32 (13))] := a
 have h : Blk f e 26 (([2, 3, 5, 7, 11, 13]).map u32) := a
 refine sAs rfl (sK d (rS fun m b => sMs rfl (sMi rfl (sV (evConv ((xn : Int)) underlying5 underlying3 rfl (wI64 Qo)) (sMs rfl (sV (evLen underlying22 rfl) (sV (evRem (((xn % 6 : Nat) : Int)) rfl rfl Qo (remE Qo Qo)) (sV (evIx (xn % 6) underlying22 sz26 rfl rfl (xn % 6)) ?_))))))))
 have j := getD_lt (ds := [2, 3, 5, 7, 11, 13]) (i := xn % 6) (by decide)
 refine sV (evLoad one26 rfl (h.dig (by exact lq))) (sAi rfl (sK b (wp_ret (ret1 (.int .u32 (((([2, 3, 5, 7, 11, 13]).getD (xn % 6) 0 : Nat) : Int))) results15 (resT rfl) ?_))))
 exact ⟨(([2, 3, 5, 7, 11, 13]).getD (xn % 6) 0), rfl, g, Qo, (small6 (i := xn % 6) Qo)⟩
theorem law12_coprime {w : World} {Sl : Nat → Prop} {Al : Option Addr} {nl cl : Nat} {fl : List NE} {xp : Nat} (hl : GListR LN w Sl Al nl cl fl) (bp : xp < 4294967296) (hT : TabR w) (hp : xp = 2 ∨ xp = 3 ∨ xp = 5 ∨ xp = 7 ∨ xp = 11 ∨ xp = 13) (hnl : nl ≤ 8) (hle : ∀ f ∈ fl, f.n ≤ 63) (hpos : ∀ f ∈ fl, 1 ≤ (nrmP xp f.d).length) : Calls Tryz.prog 23 #[(.slice Al nl cl), (.int .u32 xp)] w (Ret fun v w' => ∃ (gr : Bool), v = (.bool gr) ∧ Ext w w' ∧ ((gr = true ∧ CoA xp (dsN fl)) ∨ (gr = false ∧ ¬ CoA xp (dsN fl)))) := by
 have ltT := hT.lt0
 have ⟨kl, jl, ml⟩ := hl.lkm; replace hl := hl.low
 refine enter func23 rfl ntmps23 rfl ?_
 have hpr := prime4N hp
 refine rS fun K1 c4 => sAb rfl (sK c4 (wp_seq_k fun K2 c5 => rS fun K3 c6 => sMs rfl (sV (evLen underlying42 rfl) (sMi rfl (sK c6 (wp_block ?_))))))
 refine lLoop (fun m e w_ => ∃ (i : Nat), m = nl - i ∧ e 0 = (.slice Al nl cl) ∧ e 1 = (.int .u32 xp) ∧ e 11 = (.slice Al nl cl) ∧ e 12 = (.int .i64 nl) ∧ e 13 = (.int .i64 i) ∧ Frm (fun b => False) w w_ ∧ (i ≤ nl) ∧ (∀ (a b : Nat) (f g : NE), b < a → a < i → fl[a]? = some f → fl[b]? = some g → GC xp f.d g.d)) (nl - (0)) ?_ ?_
 ·refine ⟨(0), rfl, rfl, rfl, rfl, rfl, cI, (Frm.refl _ _), ?_, ?_⟩
  ·omega
  ·intro a b f g h1 h2; omega
 ·rintro m4 f5 w5 ⟨i, e5, c7, c8, c9, d0, a1, p, hi, Z⟩
  obtain ⟨f6, rfl⟩ := sq5 c7 c8 c9 d0 a1
  have e6 := p.size
  refine rS fun f7 L => ?_
  by_cases M : ((i : Int)) < ((nl : Int))
  ·refine sV (evLss true rfl rfl (dT M)) (sK L (wp_seq_k fun f8 a2 => cT rfl (wp_skip (xN (a2 _ _ (wp_seq_k fun f9 a3 => wp_block (rS fun g0 a4 => sMi rfl ?_)))))))
   have N := (hl.ext p)
   obtain ⟨O, u, rfl⟩ := N.base Qo
   refine sV (evIx i underlying42 sz46 rfl rfl (u + i)) ?_
   obtain ⟨⟨x, y, z, q⟩, k, r, l, d5, d6⟩ := N.at_ (i := i) Qo
   replace r : World.cell? _ _ = some (.slice x y z) := r; replace l : NatR _ _ x y z q := l; have ⟨q1_28, q2_28, q3_28⟩ := l.lkm
   have hn64_28 := hle _ (List.mem_of_getElem? k); have P := hpos _ (List.mem_of_getElem? k); dsimp only at hn64_28 P
   refine sV (evLoad one46 rfl r) (sAi rfl (sAs rfl (sK a4 (rS fun g1 a5 => sMs rfl (sMi rfl ?_)))))
   have d1 := N.take (m := i) Qo
   refine sV (evSliceHi i underlying42 sz46 rfl rfl Qo Qo) (sV (evLen underlying42 rfl) (sMi rfl (sK a5 (wp_block ?_))))
   refine lLoop (fun m e w_ => ∃ (j : Nat), m = i - j ∧ e 0 = (.slice (some ⟨O, u, none⟩) nl cl) ∧ e 1 = (.int .u32 xp) ∧ e 6 = (.slice x y z) ∧ e 11 = (.slice (some ⟨O, u, none⟩) nl cl) ∧ e 12 = (.int .i64 nl) ∧ e 13 = (.int .i64 i) ∧ e 20 = (.slice (some ⟨O, u, none⟩) i cl) ∧ e 21 = (.int .i64 i) ∧ e 22 = (.int .i64 j) ∧ Frm (fun b => False) w5 w_ ∧ (j ≤ i) ∧ (∀ (b : Nat) (g : NE), b < j → fl[b]? = some g → GC xp q g.d)) (i - (0)) ?_ ?_
   ·refine ⟨(0), rfl, rfl, rfl, rfl, rfl, rfl, rfl, rfl, rfl, cI, (Frm.refl _ _), ?_, ?_⟩
    ·omega
    ·intro b g h1; omega
   ·rintro g2 g3 g4 ⟨j, e7, a6, a7, a8, a9, b0, b1, b2, b3, b4, h, hj, a0⟩
    obtain ⟨g5, rfl⟩ := sq9 a6 a7 a8 a9 b0 b1 b2 b3 b4
    have e8 := h.size
    refine rS fun g6 Q => ?_
    by_cases R : ((j : Int)) < ((i : Int))
    ·refine sV (evLss true rfl rfl (dT R)) (sK Q (wp_seq_k fun g7 b5 => cT rfl (wp_skip (xN (b5 _ _ (wp_seq_k fun g8 b6 => wp_block (rS fun g9 b7 => sV (evIx j underlying42 sz46 rfl rfl (u + j)) ?_)))))))
     have d2 := (d1.ext h)
     obtain ⟨⟨A, B, C, s⟩, c, t, o, d7, d8⟩ := d2.at_ (i := j) Qo
     replace t : World.cell? _ _ = some (.slice A B C) := t; replace o : NatR _ _ A B C s := o; have ⟨q1_63, q2_63, q3_63⟩ := o.lkm
     replace c : fl[j]? = some ⟨A, B, C, s⟩ := by rw [List.getElem?_take_of_lt (by omega)] at c; exact c
     have hn64_63 := hle _ (List.mem_of_getElem? c); have S := hpos _ (List.mem_of_getElem? c); dsimp only at hn64_63 S
     refine sV (evLoad one46 rfl t) (sAs rfl (sK b7 (rS fun h0 b8 => sMs rfl (sMs rfl (sMi rfl ?_)))))
     have d3 := (l.ext h)
     have T := p.trans h
     have d4 := (hT.ext T)
     refine sO (oCall rfl call62 (modpoly_Gcd d3 o (xp := xp) Qo d4 Qo Qo hp) rfl ?_)
     rintro _ h3 ⟨G, H, I, W, J, rfl, D, K, e9, E, X, d9⟩
     have f0 := D.size
     have ⟨e0, e1, e2⟩ := K.lkm
     have hgp : 0 < W.length := by rw [E]; exact gcd_ne hpr (canP_nrm (by omega) _) (canP_nrm (by omega) _) (by omega)
     refine sV (v := (.tuple #[(.slice G H I), (.int .i64 (J))])) (rfl) (sV (v := (.slice G H I)) (rfl) (sV (v := (.int .i64 (J))) (rfl) (sAs rfl (sAi rfl (sK b8 (rS fun h4 U => sMs rfl (sMi rfl (sO (oCall rfl call63 (modpoly_Degree K (xm := xp) Qo Qo) rfl ?_)))))))))
     rintro _ h5 ⟨Y, rfl, F, b9, f1⟩
     have f2 := F.size
     rw [CanP.nrm X] at b9
     by_cases V : Y ≠ 0
     ·refine sV (evNeq true rfl rfl (dT V)) ?_
      have hbad : ¬ GC xp q s := by unfold GC; rw [← E]; omega
      refine sK U (cT rfl (rS fun h6 c0 => sAb rfl (sK c0 (wp_ret (bR (xR (xR (bR (bR (xR (xR (bR (xR (ret1 (.bool false) results23 (resT rfl) ?_))))))))))))))
      have c1 := (T.trans D).trans F
      exact ⟨(false), rfl, c1, (.inr ⟨rfl, coa_not k c Qo hbad⟩)⟩
     ·refine sV (evNeq false rfl rfl (dF V)) ?_
      have hgood : GC xp q s := by unfold GC; rw [← E]; omega
      refine sK U (cF rfl (wp_skip (bN (xN (b6 _ _ (wp_region_lit (sV (evAdd (((j : Int)) + 1) rfl rfl wI) (sMi rfl (sDone ?_)))))))))
      have c2 := D.trans F
      refine again (i - (j + 1)) Qo ⟨(j + 1), rfl, rfl, rfl, rfl, rfl, rfl, rfl, rfl, rfl, cI, (h.trans c2), ?_, ?_⟩
      ·omega
      ·exact coa_in a0 c hgood
    ·refine sV (evLss false rfl rfl (dF R)) (sK Q (wp_seq_k fun h7 f3 => cF rfl (wp_exit (xE (xE (bE (bN (xN (a3 _ _ (wp_region_lit (sV (evAdd (((i : Int)) + 1) rfl rfl wI) (sMi rfl (sDone (again (nl - (i + 1)) Qo ⟨(i + 1), rfl, rfl, rfl, rfl, rfl, cI, (p.trans h), ?_, ?_⟩))))))))))))))
     ·omega
     ·exact coa_next Z k a0 Qo
  ·refine sV (evLss false rfl rfl (dF M)) (sK L (wp_seq_k fun h8 f4 => cF rfl (wp_exit (xE (xE (bE (xN (c5 _ _ (rS fun h9 c3 => sAb rfl (sK c3 (wp_ret (ret1 (.bool true) results23 (resT rfl) ?_))))))))))))
   exact ⟨(true), rfl, p, (.inl ⟨rfl, coa_full Z Qo⟩)⟩
set_option maxHeartbeats 2000000 in
theorem law12_monics {w : World} {Sl : Nat → Prop} {Al : Option Addr} {nl cl : Nat} {tl : List T3} (hl : TripR w Sl Al nl cl tl) (hT : TabR w) (hnl : nl ≤ 4) : Calls Tryz.prog 18 #[(.slice Al nl cl)] w (Ret fun v w' => ∃ (Ar : Option Addr) (nr : Nat) (cr : Nat) (fr : List PE), v = (.slice Ar nr cr) ∧ Ext w w' ∧ PolysR w' (fun b => w.heap.size ≤ b) Ar nr cr fr 2 ∧ (nr = nl) ∧ (∀ x ∈ fr, MonB (zs x.l) ∧ x.n ≤ 4)) := by
 have ltT := hT.lt0
 have ⟨kl, jl, ml⟩ := hl.lkm; replace hl := hl.low
 refine enter func18 rfl ntmps18 rfl (rS fun K1 j5 => sAs rfl (sK j5 (rS fun K2 j6 => sAs rfl (sK j6 (wp_seq_k fun K3 j7 => rS fun K4 j8 => sMs rfl (sV (evLen underlying36 rfl) (sMi rfl (sK j8 (wp_block ?_)))))))))
 refine lLoop (fun m e w_ => ∃ (i : Nat) (nO : Nat) (Ao : Option Addr) (cO : Nat) (fo : List PE), m = nl - i ∧ e 3 = (.slice Ao nO cO) ∧ e 10 = (.slice Al nl cl) ∧ e 11 = (.int .i64 nl) ∧ e 12 = (.int .i64 i) ∧ Frm (fun b => w.heap.size ≤ b) w w_ ∧ (i ≤ nl) ∧ (OwnX 2 (w.heap.size - 1) w_ w.heap.size 39 Ao nO cO fo) ∧ (nO = i) ∧ (∀ x ∈ fo, MonB (zs x.l) ∧ x.n ≤ 4)) (nl - (0)) ?_ ?_
 ·refine ⟨(0), (0), (none), (0), ([]), rfl, rfl, rfl, rfl, cI, (Frm.refl _ _), ?_, ?_, ?_, ?_⟩
  ·omega
  ·exact OwnX.nil Qo
  ·rfl
  ·exact fun x hx => (by cases hx)
 ·rintro m5 q7 w6 ⟨i, nO, Ao, cO, fo, o4, j9, k0, k1, f0, V, hi, a1, hnO, hmb⟩
  obtain ⟨q8, rfl⟩ := sq4 j9 k0 k1 f0
  have o5 := V.size
  have ⟨hOa, hOb, hOc⟩ := a1.lkm
  refine rS fun q9 b5 => ?_
  by_cases b6 : ((i : Int)) < ((nl : Int))
  ·refine sV (evLss true rfl rfl (dT b6)) (sK b5 (wp_seq_k fun r0 f1 => cT rfl (wp_skip (xN (f1 _ _ (wp_seq_k fun r1 f2 => wp_block (rS fun r2 f3 => sMi rfl ?_)))))))
   have e4 := (hl.frmB V q3)
   obtain ⟨k2, e5, rfl⟩ := e4.base Qo
   refine sV (evIx i underlying36 sz84 rfl rfl (e5 + (i * 3))) ?_
   obtain ⟨g, t, u, l8, d2, b7, b8, b9⟩ := e4.at_ (i := i) Qo
   refine sV (evLoadA [(.int .i8 (g)), (.int .i8 (t)), (.int .i8 (u))] agg84 sz84 rfl d2) (sO (oAlloc [(.int .i8 (0)), (.int .i8 (0)), (.int .i8 (0))] zero84 rfl (fun k3 r3 o6 f4 o7 f5 => sAi rfl (sO (oStore [(.int .i8 (g)), (.int .i8 (t)), (.int .i8 (u))] rfl rfl rfl sz84 rfl f5 Qn (fun k4 f6 o8 O => ?_))))))
   replace O : Blk k4 k3 84 [(.int .i8 (g)), (.int .i8 (t)), (.int .i8 (u))] := O
   refine sK f3 (rS fun r4 f7 => sV (evArr 0 underlying84 sz83 rfl rfl 0) (sV (evLoadB one83 rfl O rfl) (sV (evConv g underlying83 underlying2 rfl (wI64 Qo)) (sV (evArr 1 underlying84 sz83 rfl rfl 1) (sV (evLoadB one83 rfl O rfl) (sV (evConv t underlying83 underlying2 rfl (wI64 Qo)) (sV (evArr 2 underlying84 sz83 rfl rfl 2) (sV (evLoadB one83 rfl O rfl) (sV (evConv u underlying83 underlying2 rfl (wI64 Qo)) (sO (oBuildSlice [(.int .i64 (g)), (.int .i64 (t)), (.int .i64 (u))] [[(.int .i64 (g))], [(.int .i64 (t))], [(.int .i64 (u))]] underlying82 inf2 rfl rfl rfl rfl rfl (fun e6 e7 o9 c0 p0 Z => ?_))))))))))))
   replace Z : Blk e7 e6 2 [(.int .i64 (g)), (.int .i64 (t)), (.int .i64 (u))] := Z
   refine sO (oCall rfl call17 (unipoly_Of (IntsR.of_blk (S := fun b => b = e6) (n := 3) (c := 3) (xs := [g, t, u]) Z rfl (by intro x hx; simp only [List.mem_cons, List.not_mem_nil, or_false] at hx; omega) rfl (Nat.le_refl _) (by decide)) (by omega)) rfl ?_)
   rintro _ k5 ⟨d3, a2, d4, l9, rfl, a0, a3, f8, m0, m1⟩
   have p1 := a0.size
   have ⟨m2, m3, m4⟩ := a3.lkm
   have k6 := a3.sub (S' := fun b => (e7.heap.size ≤ b) ∧ b < k5.heap.size) fun _ hb hs => ⟨hs, hb⟩
   refine sAs rfl (sK f7 (rS fun r5 f9 => sMi rfl (sV (evArr 0 underlying84 sz83 rfl rfl 0) ?_)))
   have g0 := c0.trans a0
   have g1 := (O.ext g0)
   refine sV (evLoadB one83 rfl g1 rfl) (sV (v := (.int .i8 (g % 2))) (evAndOne8 rfl rfl) (sV (evConv (g % 2) underlying83 underlying3 rfl (wI64 Qo)) (sV (evAdd (((i : Int)) + (g % 2)) rfl rfl wI) (sV (evRem ((((i + (g % 2).toNat) % 3 : Nat) : Int)) rfl rfl Qo (remE (x := i + (g % 2).toNat) (c := 3) Qo Qo)) (sV (evAdd (1 + ((((i + (g % 2).toNat) % 3 : Nat) : Int))) rfl rfl wI) ?_)))))
   obtain ⟨N, hN, k7, k8⟩ : ∃ N : Nat, N = 1 + ((i + (g % 2).toNat) % 3) ∧ 1 ≤ N ∧ N ≤ 3 := ⟨_, rfl, by omega, by omega⟩
   refine sV (v := (.int .i64 N)) (by rw [show (N : Int) = 1 + ((((i + (g % 2).toNat) % 3 : Nat) : Int)) by omega]; rfl) (sK f9 (rS fun r6 g2 => sMi rfl (sV (evAdd (((N : Int)) + 1) rfl rfl wI) (sO (oMake2 (N + 1) underlying39 inf25 cI cI (by omega) (by omega) (fun s e8 p2 c1 p3 g3 => ?_))))))
   have g4 : Blk e8 s 25 (cellsI (List.replicate (N + 1) RI.zero)) := g3
   refine sAs rfl (sK g2 (wp_seq_k fun r7 g5 => rS fun r8 g6 => sMi rfl (sMi rfl (sK g6 (wp_block ?_)))))
   refine lLoop (fun m e w_ => ∃ (k : Nat) (L : List RI), m = N - k ∧ e 3 = (.slice Ao nO cO) ∧ e 6 = (.slice d3 a2 d4) ∧ e 7 = (.int .i64 N) ∧ e 8 = (.slice (some ⟨s, 0, none⟩) (N + 1) (N + 1)) ∧ e 10 = (.slice (some ⟨k2, e5, none⟩) nl cl) ∧ e 11 = (.int .i64 nl) ∧ e 12 = (.int .i64 i) ∧ e 39 = (.int .i64 N) ∧ e 40 = (.int .i64 k) ∧ Frm (fun b => b = s) e8 w_ ∧ Blk w_ s 25 (cellsI (L ++ List.replicate (N + 1 - k) RI.zero)) ∧ (k ≤ N) ∧ (L.length = k) ∧ (AllN w_ (fun b => w6.heap.size ≤ b ∧ b ≠ s) 2 L) ∧ (∀ r ∈ L, (zval r.neg r.d).natAbs ≤ 128)) (N - (0)) ?_ ?_
   ·refine ⟨(0), ([]), rfl, rfl, rfl, rfl, rfl, rfl, rfl, rfl, rfl, cI, (Frm.refl _ _), ?_, ?_, ?_, ?_, ?_⟩
    ·simpa using g4
    ·omega
    ·rfl
    ·exact AllN.nil
    ·intro r hr; cases hr
   ·rintro r9 s0 s1 ⟨k, L, p4, g7, g8, g9, h0, h1, h2, h3, h4, h5, T, c2, hk, hL, hA, hC⟩
    obtain ⟨s2, rfl⟩ := sq9 g7 g8 g9 h0 h1 h2 h3 h4 h5
    have p5 := T.size
    refine rS fun s3 c3 => ?_
    by_cases c4 : ((k : Int)) < ((N : Int))
    ·refine sV (evLss true rfl rfl (dT c4)) (sK c3 (wp_seq_k fun s4 h6 => cT rfl (wp_skip (xN (h6 _ _ (wp_seq_k fun s5 c5 => wp_block (rS fun s6 h7 => sMi rfl (sAi rfl (sK h7 (rS fun s7 h8 => sMs rfl (sMi rfl (sO (oCall rfl call35 (integer_Of Qo) rfl ?_)))))))))))))
     rintro _ s8 ⟨y, z, A, C, D, rfl, U, a4, i0, m6, m7⟩
     have p6 := U.size
     have ⟨m8, m9, n0⟩ := a4.lkm
     refine sV (evIx k underlying39 sz25 rfl rfl (k * 2)) ?_
     have d5 := (c2.ext U)
     refine sO (oStore [(.bool y), (.slice z A C)] rfl rfl rfl sz25 rfl d5 (by rw [cellsI_len]; simp only [List.length_cons, List.length_nil]; exact lq) (fun i1 P n1 I => ?_))
     replace I := (cellsI_set (l := L ++ List.replicate (N + 1 - k) RI.zero) (i := k) ⟨y, z, A, C, D⟩ (by exact lq)) ▸ I
     replace I : Blk i1 s 25 (cellsI ((L ++ [(⟨y, z, A, C, D⟩ : RI)]) ++ List.replicate (N + 1 - (k + 1)) RI.zero)) := (fillI_set hL Qo : (L ++ List.replicate (N + 1 - k) RI.zero).set k ⟨y, z, A, C, D⟩ = (L ++ [(⟨y, z, A, C, D⟩ : RI)]) ++ List.replicate (N + 1 - (k + 1)) RI.zero) ▸ I
     refine sK h8 (rS fun p7 a5 => sMi rfl (sMs rfl (sV (evLen underlying39 rfl) ?_)))
     by_cases a6 : ((k : Int)) < ((a2 : Int))
     ·refine sV (evLss true rfl rfl (dT a6)) (sK a5 (cT rfl (wp_region_lit (sMs rfl (sMi rfl (sMs rfl (sMi rfl ?_)))))))
      have d6 := ((c1.rx T).xr U).trans P
      have c6 := (k6.frmB d6 q3)
      obtain ⟨p8, i2, rfl⟩ := c6.base Qo
      refine sV (evIx k underlying39 sz25 rfl rfl (i2 + (k * 2))) ?_
      obtain ⟨E, F, G, H, J, k9, c7, c8, a7, l0, l1, l2, d7⟩ := c6.at_ (i := k) Qo
      have ⟨n2, n3, n4⟩ := a7.lkm
      refine sV (evLoadA [(.bool E), (.slice F G H)] agg25 sz25 rfl (cell2 c7 c8)) (sV (evIx k underlying39 sz25 rfl rfl (k * 2)) (sO (oStore [(.bool E), (.slice F G H)] rfl rfl rfl sz25 rfl I (by rw [cellsI_len]; simp only [List.length_cons, List.length_nil]; exact lq) (fun i3 a8 n5 K => ?_))))
      replace K := (cellsI_set (l := (L ++ [(⟨y, z, A, C, D⟩ : RI)]) ++ List.replicate (N + 1 - (k + 1)) RI.zero) (i := k) ⟨E, F, G, H, J⟩ (by exact lq)) ▸ K
      replace K : Blk i3 s 25 (cellsI ((L ++ [(⟨E, F, G, H, J⟩ : RI)]) ++ List.replicate (N + 1 - (k + 1)) RI.zero)) := (setI_last hL : ((L ++ [(⟨y, z, A, C, D⟩ : RI)]) ++ List.replicate (N + 1 - (k + 1)) RI.zero).set k ⟨E, F, G, H, J⟩ = (L ++ [(⟨E, F, G, H, J⟩ : RI)]) ++ List.replicate (N + 1 - (k + 1)) RI.zero) ▸ K
      refine sDone (bN (xN (c5 _ _ (wp_region_lit (sV (evAdd (((k : Int)) + 1) rfl rfl wI) (sMi rfl (sDone ?_)))))))
      have a9 := (U.rx P).trans a8
      have i4 := (hA.frmB a9 q3)
      have i5 := (a7.frmB a8 q3)
      refine again (N - (k + 1)) Qo ⟨(k + 1), (L ++ [⟨E, F, G, H, J⟩]), rfl, rfl, rfl, rfl, rfl, rfl, rfl, rfl, rfl, cI, (T.trans a9), ?_, ?_, ?_, ?_, ?_⟩
      ·exact K
      ·omega
      ·simp [hL]
      ·exact AllN.snoc i4 (NatR.sub i5 q5) (by (try dsimp only); omega)
      ·exact smallR_snoc hC (by show (zval _ _).natAbs ≤ 128; exact co3_le f8 d7 b7 b8 b9)
     ·refine sV (evLss false rfl rfl (dF a6)) (sK a5 (cF rfl (wp_skip (bN (xN (c5 _ _ (wp_region_lit (sV (evAdd (((k : Int)) + 1) rfl rfl wI) (sMi rfl (sDone ?_))))))))))
      have b0 := U.rx P
      have i6 := (hA.frmB b0 q3)
      have i7 := (a4.frmB P q3)
      refine again (N - (k + 1)) Qo ⟨(k + 1), (L ++ [⟨y, z, A, C, D⟩]), rfl, rfl, rfl, rfl, rfl, rfl, rfl, rfl, rfl, cI, (T.trans b0), ?_, ?_, ?_, ?_, ?_⟩
      ·exact I
      ·omega
      ·simp [hL]
      ·exact AllN.snoc i6 (NatR.sub i7 q5) (by (try dsimp only); omega)
      ·exact smallR_snoc hC (by show (zval _ _).natAbs ≤ 128; rw [i0]; decide)
    ·refine sV (evLss false rfl rfl (dF c4)) (sK c3 (wp_seq_k fun p9 n6 => cF rfl (wp_exit (xE (xE (bE (xN (g5 _ _ (rS fun q0 d8 => sMs rfl (sMi rfl (sO (oCall rfl call42 (law12_one) rfl ?_))))))))))))
     rintro _ q1 ⟨h, j, o, p, q, rfl, Q, Y, d9, l3, l4⟩
     have n7 := Q.size
     have ⟨l5, l6, l7⟩ := Y.lkm
     refine sV (evIx N underlying39 sz25 rfl rfl (N * 2)) ?_
     have e0 := (c2.ext Q)
     refine sO (oStore [(.bool h), (.slice j o p)] rfl rfl rfl sz25 rfl e0 (by rw [cellsI_len]; simp only [List.length_cons, List.length_nil]; exact lq) (fun c9 W n8 M => ?_))
     replace M := (cellsI_set (l := L ++ List.replicate (N + 1 - k) RI.zero) (i := N) ⟨h, j, o, p, q⟩ (by exact lq)) ▸ M
     replace M : Blk c9 s 25 (cellsI ((L ++ [(⟨h, j, o, p, q⟩ : RI)]) ++ List.replicate 0 RI.zero)) := (fillI_set (show L.length = N by omega) Qo : (L ++ List.replicate (N + 1 - k) RI.zero).set N ⟨h, j, o, p, q⟩ = (L ++ [(⟨h, j, o, p, q⟩ : RI)]) ++ List.replicate 0 RI.zero) ▸ M
     refine sK d8 ?_
     have e1 := Q.rx W
     have i9 := (hA.frmB e1 q3)
     have j0 := (Y.frmB W q3)
     have hPm : PolyR c9 (fun b => w6.heap.size ≤ b) (some ⟨s, 0, none⟩) (N + 1) (N + 1) ((L ++ [(⟨h, j, o, p, q⟩ : RI)]) ++ List.replicate 0 RI.zero) 2 := PolyR.of_blk M (AllN.app (AllN.snoc (AllN.sub i9 (fun b hb hs => hs.1)) (NatR.sub j0 q5) (by (try dsimp only); omega)) (AllN.zeros _)) (by (try dsimp only); omega) (by simp; omega) (Nat.le_refl _) (by unfold CapMax; omega)
     have hmon : MonB (zs ((L ++ [(⟨h, j, o, p, q⟩ : RI)]) ++ List.replicate 0 RI.zero)) := zs_mon k7 k8 Qo hC (by show zval _ _ = 1; exact d9) rfl
     refine wp_region_lit (sMs rfl (sMs rfl (sO (oBuildSlice [(.slice (some ⟨s, 0, none⟩) ((N + 1)) ((N + 1)))] [[(.slice (some ⟨s, 0, none⟩) ((N + 1)) ((N + 1)))]] underlying43 inf39 rfl rfl rfl rfl rfl (fun j1 j2 n9 b1 o0 X => ?_)))))
     replace X : Blk j2 j1 39 [(.slice (some ⟨s, 0, none⟩) ((N + 1)) ((N + 1)))] := X
     have b2 := (((((((f4.rx f6).xr c0).xr a0).xr c1).tr T).xr Q).tr W).xr b1
     have b3 := (a1.frmB b2 q3)
     have j3 := (hPm.ext b1)
     refine sO (oAppG (L := LPx (2) (w.heap.size - 1)) (f := (⟨(some ⟨s, 0, none⟩), (N + 1), (N + 1), (L ++ [(⟨h, j, o, p, q⟩ : RI)]) ++ List.replicate 0 RI.zero⟩ : PE)) (S := fun b => (fun b => w6.heap.size ≤ b) b) (B := w.heap.size) underlying43 inf39 rfl rfl rfl b3.2 X (PolyR.le (PolyR.sub j3 (fun b hb_ hs => ⟨hs, by (try dsimp only at hs); omega⟩)) (by omega)) (fun b hb_ hs a ha e => by have h9 := a1.2.1.lt a ha; (try dsimp only at hs); omega) (by omega) (by omega) (by omega) (fun d0 d1 j4 R b4 _ o1 => ?_))
     replace R : OwnX (2) (w.heap.size - 1) j4 w.heap.size 39 d0 (nO + 1) d1 (fo ++ [(⟨(some ⟨s, 0, none⟩), (N + 1), (N + 1), (L ++ [(⟨h, j, o, p, q⟩ : RI)]) ++ List.replicate 0 RI.zero⟩ : PE)]) := ⟨b3.1, R⟩
     have o2 := b4.size; have ⟨_, _, _⟩ := R.lkm
     refine sAs rfl (sDone (bN (xN (f2 _ _ (wp_region_lit (sV (evAdd (((i : Int)) + 1) rfl rfl wI) (sMi rfl (sDone ?_))))))))
     have e2 := b2.tr b4
     refine again (nl - (i + 1)) Qo ⟨(i + 1), (nO + 1), (d0), (d1), (fo ++ [(⟨(some ⟨s, 0, none⟩), (N + 1), (N + 1), (L ++ [(⟨h, j, o, p, q⟩ : RI)]) ++ List.replicate 0 RI.zero⟩ : PE)]), rfl, rfl, rfl, rfl, cI, (Frm.mono (V.tr e2) q4), ?_, ?_, ?_, ?_⟩
     ·omega
     ·exact R
     ·omega
     ·exact monL_snoc (r := (⟨(some ⟨s, 0, none⟩), (N + 1), (N + 1), (L ++ [(⟨h, j, o, p, q⟩ : RI)]) ++ List.replicate 0 RI.zero⟩ : PE)) hmb ⟨hmon, by (try dsimp only); omega⟩
  ·refine sV (evLss false rfl rfl (dF b6)) (sK b5 (wp_seq_k fun q2 o3 => cF rfl (wp_exit (xE (xE (bE (xN (j7 _ _ (rS fun q6 e3 => sMs rfl (sAs rfl (sK e3 (wp_ret (ret1 (.slice Ao nO cO) results18 (resT rfl) ?_)))))))))))))
   exact ⟨Ao, nO, cO, fo, rfl, (Frm.mono V q4), (PolysR.sub (OwnX.polys a1) q5), Qo, hmb⟩
end Go.Proofs.YtneolcopompkaaaGreatDoor
