/-
  Walks of package natural: differences and products.
-/
import Derived.Test.YtebajgaabaffbaaGreatNat2
namespace Go.Proofs.YtebajgaabaffbaaGreat
open Go.RowKit Go.Gx Tryz
theorem natural_Sub_1 {w : World} {x1 : Nat} {x2 : Nat} {pc xc : Nat} (b1 : x1 < 4294967296) (b2 : x2 < 4294967296) (Bc : Blk w pc 138 [.int .u32 (xc : Int)]) (bc : xc < 4294967296) (hc : xc ≤ 1) : Calls Tryz.prog 113 #[(.int .u32 x1), (.int .u32 x2), (.pointer (some ⟨pc, 0, none⟩))] w (Ret fun v w' => ∃ (xs : Nat) (zc : Nat), v = (.int .u32 xs) ∧ Frm (fun b => b = pc) w w' ∧ xs < 4294967296 ∧ (Blk w' pc 138 [.int .u32 (zc : Int)]) ∧ (xs + x2 + xc = x1 + 4294967296 * zc) ∧ (zc ≤ 1)) := by
 refine enter func113 rfl ntmps113 rfl (rS fun u i => sAi rfl (sK i (rS fun x j => sMi rfl (sMi rfl (sV (evLoadB one138 rfl Bc rfl) (sO (oCall rfl call114 (bits_Sub32 (x1 := x1) Qo (x2 := x2) Qo (x3 := xc) Qo Qo) rfl ?_)))))));rintro _ y ⟨c, a, rfl, e, m, n, q, r⟩;have s := e.size;refine sV (v := (.tuple #[(.int .u32 c), (.int .u32 a)])) (rfl) (sV (v := (.int .u32 c)) (rfl) (sV (v := (.int .u32 a)) (rfl) (sAi rfl (sAi rfl (sK j (rS fun z k => sMi rfl ?_))))));have l := (Bc.ext e);refine sO (oStore [(.int .u32 a)] rfl rfl rfl sz138 rfl l Qn (fun o f p d => ?_));replace d : Blk o pc 138 [(.int .u32 a)] := d;refine sK k (rS fun t g => sMi rfl (sAi rfl (sK g (wp_ret (ret1 (.int .u32 c) results113 (resT rfl) ?_)))));have h := e.rx f;exact ⟨(c), a, rfl, h, Qo, d, Qo, Qo⟩
theorem natural_Sub {w : World} {Sa : Nat → Prop} {Aa : Option Addr} {na ca : Nat} {da : List Nat} {Sb : Nat → Prop} {Ab : Option Addr} {nb cb : Nat} {db : List Nat} (ha : NatR w Sa Aa na ca da) (hb : NatR w Sb Ab nb cb db) (hna : na ≤ 1099511627776) (hnb : nb ≤ 1099511627776) : Calls Tryz.prog 98 #[(.slice Aa na ca), (.slice Ab nb cb)] w (Ret fun v w' => ∃ (Ar : Option Addr) (nr : Nat) (cr : Nat) (dr : List Nat) (gk : Bool), v = (.tuple #[(.slice Ar nr cr), (.bool gk)]) ∧ Ext w w' ∧ NatR w' (fun b => w.heap.size ≤ b) Ar nr cr dr ∧ (gk = decide (val db ≤ val da)) ∧ (val dr = val da - val db) ∧ (Canon isZ dr) ∧ (nr ≤ na)) := by
 have ⟨la, ka, ma⟩ := ha.lkm;replace ha := ha.low;have ⟨lb, kb, mb⟩ := hb.lkm;replace hb := hb.low;refine enter func98 rfl ntmps98 rfl (rS fun K1 g3 => sAs rfl (sAb rfl (sK g3 (rS fun K2 g4 => sMs rfl (sO (oCall rfl call100 (natural_trim ha) rfl ?_))))));rintro _ w4 ⟨W, a, X, q, rfl, M, F, Y, i5⟩;have m0 := M.size;have ⟨i6, i7, i8⟩ := F.lkm;refine sMs rfl ?_;have h8 := (hb.ext M);refine sO (oCall rfl call100 (natural_trim h8) rfl ?_);rintro _ m1 ⟨Z, f, a0, r, rfl, s, G, N, j0⟩;have j1 := s.size;have ⟨j2, j3, j4⟩ := G.lkm;refine sAs rfl (sAs rfl (sK g4 (wp_seq_k fun m2 c8 => rS fun m3 a1 => sMs rfl (sMs rfl ?_))));have a2 := (F.ext s);refine sO (oCall rfl call79 (natural_Cmp a2 G) rfl ?_);rintro _ m4 ⟨b4, rfl, l, a3⟩;have j5 := l.size
 by_cases t : b4 < 0
 ·refine sV (evLss true rfl rfl (dT t)) ?_
  have hcm := lt_trims Y N (cmpN_neg a3 t);refine sK a1 (cT rfl (rS fun m5 c9 => sAs rfl (sAb rfl (sK c9 (wp_ret (xR (ret2 (.slice none 0 0) (.bool false) results98 (resT rfl) (resT rfl) ?_)))))));have d0 := (M.trans s).trans l;exact ⟨none, 0, 0, ([]), (false), rfl, d0, NatR.nil, (by simp; omega), (by simp [val]; omega), (canon_nil _), (by omega)⟩
 ·refine sV (evLss false rfl rfl (dF t)) ?_
  have hcv := cmpN_nn a3 t;have hcm := le_trims Y N hcv;have hcl := canon_len_le F.2 (by rw [N]; exact canon_trim _ _) hcv;refine sK a1 (cF rfl (wp_skip (xN (c8 _ _ (rS fun m6 d1 => sO (oAlloc [(.int .u32 (0))] zero138 rfl (fun h m7 j6 H j7 d2 => sK d1 (rS fun m8 d3 => sV (v := (.func (.func 113) #[] #[(.pointer (some ⟨h, 0, none⟩))])) (evK (by kernel_rfl)) (sV (v := (.func (.func 113) #[] #[(.pointer (some ⟨h, 0, none⟩))])) (rfl) (sK d3 (rS fun m9 d4 => sMs rfl (sV (evLen underlying32 rfl) (sO (oMake1 a underlying32 inf138 rfl cI cI Qo Qo (fun g c6 j8 u j9 d5 => ?_)))))))))))))));have d6 : Blk c6 g 138 (((List.replicate a 0)).map u32) := by rw [List.map_replicate]; exact d5
  refine sAs rfl (sK d4 (wp_seq_k fun n0 d7 => rS fun n1 d8 => sMs rfl (sV (evLen underlying32 rfl) (sMi rfl (sK d8 (wp_block ?_))))));have d9 := (d2.ext u);refine lLoop (fun m e w_ => ∃ (k : Nat) (P : List Nat) (cy : Nat), m = f - k ∧ e 0 = (.slice W a X) ∧ e 1 = (.slice Z f a0) ∧ e 7 = (.func (.func 113) #[] #[(.pointer (some ⟨h, 0, none⟩))]) ∧ e 8 = (.slice (some ⟨g, 0, none⟩) a a) ∧ e 24 = (.slice Z f a0) ∧ e 25 = (.int .i64 f) ∧ e 26 = (.int .i64 k) ∧ Frm (fun b => b = h ∨ b = g) c6 w_ ∧ Blk w_ h 138 ([.int .u32 (cy : Int)]) ∧ Blk w_ g 138 ((P ++ List.replicate (a - k) 0).map u32) ∧ (k ≤ f) ∧ (0 ≤ k) ∧ (P.length = k) ∧ (∀ d ∈ P, d < BS) ∧ (cy ≤ 1) ∧ (val P + val (r.take k) = val (q.take k) + BS ^ k * cy)) (f - (0)) ?_ ?_
  ·refine ⟨(0), ([]), (0), rfl, rfl, rfl, rfl, rfl, rfl, rfl, cI, (Frm.refl _ _), ?_, ?_, ?_, ?_, ?_, ?_, ?_, ?_⟩
   ·exact d9
   ·simpa using d6
   ·omega
   ·omega
   ·rfl
   ·simp
   ·omega
   ·simp [val]
  ·rintro n2 n3 g5 ⟨k, P, cy, k0, e0, e1, e2, e3, e4, e5, e6, o, a4, a5, hk, hl, hP, hlt, hcy, hv⟩
   obtain ⟨n4, rfl⟩ := sq7 e0 e1 e2 e3 e4 e5 e6;have k1 := o.size;refine rS fun n5 a6 => ?_
   by_cases a7 : ((k : Int)) < ((f : Int))
   ·refine sV (evLss true rfl rfl (dT a7)) (sK a6 (wp_seq_k fun n6 e7 => cT rfl (wp_skip (xN (e7 _ _ (wp_seq_k fun n7 e8 => wp_block (rS fun n8 e9 => sMi rfl ?_)))))))
    have a8 := ((l.trans H).trans u).rx o;have a9 := (G.frmB a8 q3);obtain ⟨n9, g6, rfl⟩ := a9.base Qo;refine sV (evIx k underlying32 sz138 rfl rfl (g6 + k)) ?_;have k3 := a9.lt k;refine sV (evLoad one138 rfl (a9.cell Qo)) (sAi rfl (sAi rfl (sK e9 (wp_region_lit (sMs rfl (sMi rfl (sV (v := (.func (.func 113) #[] #[(.pointer (some ⟨h, 0, none⟩))])) (rfl) (sMs rfl (sMi rfl ?_)))))))));have b0 := (a2.frmB a8 q3);obtain ⟨o0, g7, rfl⟩ := b0.base Qo;refine sV (evIx k underlying32 sz138 rfl rfl (g7 + k)) ?_;have k4 := b0.lt k;refine sV (evLoad one138 rfl (b0.cell Qo)) (sMi rfl (sO (oCall rfl call113 (natural_Sub_1 (x1 := q.getD k 0) Qo (x2 := r.getD k 0) Qo (xc := cy) a4 Qo Qo) rfl ?_)));rintro _ o1 ⟨j, b5, rfl, I, h5, f0, k5, k6⟩;have k7 := I.size;refine sV (evIx k underlying32 sz138 rfl rfl k) ?_;have f1 := (a5.frm I q1);refine sO (oStore1 rfl rfl rfl sz138 f1 (by exact lq) (fun g8 b1 k8 J => ?_));replace J : Blk g8 g 138 (((P ++ [j]) ++ List.replicate (a - (k + 1)) 0).map u32) := by rw [← (fill_set2 hP (by omega) : (P ++ List.replicate (a - k) 0).set k j = (P ++ [j]) ++ List.replicate (a - (k + 1)) 0), List.map_set]; exact J
    refine sDone (bN (xN (e8 _ _ (wp_region_lit (sV (evAdd (((k : Int)) + 1) rfl rfl wI) (sMi rfl (sDone ?_)))))));have f2 := I.tr b1;have f3 := (f0.frm b1 q1);refine again (f - (k + 1)) Qo ⟨(k + 1), (P ++ [j]), (b5), rfl, rfl, rfl, rfl, rfl, rfl, rfl, cI, (Frm.mono (o.tr f2) q4), ?_, ?_, ?_, ?_, ?_, ?_, ?_, ?_⟩
    ·exact f3
    ·exact J
    ·omega
    ·omega
    ·simp [hP]
    ·exact lt_snoc hlt Qo
    ·omega
    ·exact sub_step hv hP Qo
   ·refine sV (evLss false rfl rfl (dF a7)) (sK a6 (wp_seq_k fun o2 k9 => cF rfl (wp_exit (xE (xE (bE (xN (d7 _ _ (wp_seq_k fun o3 f4 => rS fun o4 f5 => sMs rfl (sV (evLen underlying32 rfl) (sAi rfl (sK f5 (wp_block ?_)))))))))))))
    refine lLoop (fun m e w_ => ∃ (c : Nat) (p : List Nat) (A : Nat), m = a - c ∧ e 0 = (.slice W a X) ∧ e 7 = (.func (.func 113) #[] #[(.pointer (some ⟨h, 0, none⟩))]) ∧ e 8 = (.slice (some ⟨g, 0, none⟩) a a) ∧ e 11 = (.int .i64 c) ∧ Frm (fun b => b = h ∨ b = g) g5 w_ ∧ Blk w_ h 138 ([.int .u32 (A : Int)]) ∧ Blk w_ g 138 ((p ++ List.replicate (a - c) 0).map u32) ∧ (c ≤ a) ∧ (f ≤ c) ∧ (p.length = c) ∧ (∀ d ∈ p, d < BS) ∧ (A ≤ 1) ∧ (val p + val (r.take c) = val (q.take c) + BS ^ c * A)) (a - (k)) ?_ ?_
    ·refine ⟨(k), (P), (cy), rfl, rfl, rfl, rfl, cI, (Frm.refl _ _), ?_, ?_, ?_, ?_, ?_, ?_, ?_, ?_⟩
     ·exact a4
     ·exact a5
     ·omega
     ·omega
     ·exact hP
     ·exact hlt
     ·omega
     ·exact hv
    ·rintro o5 l0 g9 ⟨c, p, A, h6, f6, f7, f8, f9, x, b6, O, o6, o7, Q, K, l1, c7⟩
     obtain ⟨l2, rfl⟩ := sq4 f6 f7 f8 f9;have h7 := x.size;refine wp_seq_k fun l3 b7 => rS fun l4 R => sMi rfl (sMs rfl (sV (evLen underlying32 rfl) ?_))
     by_cases S : ((c : Int)) < ((a : Int))
     ·refine sV (evLss true rfl rfl (dT S)) (sK R (cT rfl (wp_skip (xN (b7 _ _ (wp_seq_k fun l5 b8 => wp_block (wp_region_lit (sMs rfl (sMi rfl (sV (v := (.func (.func 113) #[] #[(.pointer (some ⟨h, 0, none⟩))])) (rfl) (sMs rfl (sMi rfl ?_))))))))))))
      have b9 := (((l.trans H).trans u).rx o).trans x;have L := (a2.frmB b9 q3);obtain ⟨l6, g0, rfl⟩ := L.base Qo;refine sV (evIx c underlying32 sz138 rfl rfl (g0 + c)) ?_;have h9 := L.lt c;refine sV (evLoad one138 rfl (L.cell Qo)) (sO (oCall rfl call113 (natural_Sub_1 (x1 := q.getD c 0) Qo (x2 := 0) Qo (xc := A) b6 Qo Qo) rfl ?_));rintro _ l7 ⟨i, b2, rfl, y, h0, c0, i0, i1⟩;have i2 := y.size;refine sV (evIx c underlying32 sz138 rfl rfl c) ?_;have c1 := (O.frm y q1);refine sO (oStore1 rfl rfl rfl sz138 c1 (by exact lq) (fun g1 T i3 z => ?_));replace z : Blk g1 g 138 (((p ++ [i]) ++ List.replicate (a - (c + 1)) 0).map u32) := by rw [← (fill_set2 Q (by omega) : (p ++ List.replicate (a - c) 0).set c i = (p ++ [i]) ++ List.replicate (a - (c + 1)) 0), List.map_set]; exact z
      refine sDone (bN (xN (b8 _ _ (wp_region_lit (sMi rfl (sV (evAdd (((c : Int)) + 1) rfl rfl wI) (sAi rfl (sDone ?_))))))));have c2 := y.tr T;have c3 := (c0.frm T q1);refine again (a - (c + 1)) Qo ⟨(c + 1), (p ++ [i]), (b2), rfl, rfl, rfl, rfl, cI, (Frm.mono (x.tr c2) q4), ?_, ?_, ?_, ?_, ?_, ?_, ?_, ?_⟩
      ·exact c3
      ·exact z
      ·omega
      ·omega
      ·simp [Q]
      ·exact lt_snoc K Qo
      ·omega
      ·exact sub_step c7 Q (by rw [getD_ge (ds := r) (n := f) (by omega) c (by omega)]; omega)
     ·refine sV (evLss false rfl rfl (dF S)) (sK R (cF rfl (wp_exit (xE (xE (bE (xN (f4 _ _ (rS fun l8 c4 => sMs rfl ?_)))))))))
      have g2 : NatR g9 (fun b => b = g) (some ⟨g, 0, none⟩) a a (p ++ List.replicate (a - c) 0) := NatR.of_blk O rfl (lt_fill K) (by exact lq) Qo (by unfold CapMax; omega);refine sO (oCall rfl call100 (natural_trim g2) rfl ?_);rintro _ l9 ⟨B, C, D, b3, rfl, U, E, V, h1⟩;have i4 := U.size;have ⟨h2, h3, h4⟩ := E.lkm;refine sAs rfl (sAb rfl (sK c4 (wp_ret (ret2 (.slice B C D) (.bool true) results98 (resT rfl) (resT rfl) ?_))));have c5 := ((((((M.trans s).trans l).trans H).trans u).rx o).trans x).xr U;exact ⟨B, C, D, b3, (true), rfl, (Frm.mono c5 q4), (NatR.sub E q5), (by simp; omega), (sub_fin V c7 Q K (by omega) (by omega) hcv Y N), (by rw [V]; exact canon_trim _ _), (by omega)⟩
theorem natural_schoolbook {w : World} {Sa : Nat → Prop} {Aa : Option Addr} {na ca : Nat} {da : List Nat} {Sb : Nat → Prop} {Ab : Option Addr} {nb cb : Nat} {db : List Nat} (ha : NatR w Sa Aa na ca da) (hb : NatR w Sb Ab nb cb db) (hna : na ≤ 1099511627776) (hnb : nb ≤ 1099511627776) : Calls Tryz.prog 115 #[(.slice Aa na ca), (.slice Ab nb cb)] w (Ret fun v w' => ∃ (Ar : Option Addr) (nr : Nat) (cr : Nat) (dr : List Nat), v = (.slice Ar nr cr) ∧ Ext w w' ∧ NatR w' (fun b => w.heap.size ≤ b) Ar nr cr dr ∧ (val dr = val da * val db) ∧ (nr = na + nb)) := by
 have ⟨la, ka, ma⟩ := ha.lkm;replace ha := ha.low;have ⟨lb, kb, mb⟩ := hb.lkm;replace hb := hb.low;refine enter func115 rfl ntmps115 rfl (rS fun K1 d4 => sAs rfl (sK d4 (rS fun K2 d5 => sMs rfl (sV (evLen underlying32 rfl) (sMs rfl (sV (evLen underlying32 rfl) (sV (evAdd (((na : Int)) + ((nb : Int))) rfl rfl wI) (sO (oMake1 (na + nb) underlying32 inf138 rfl cI cI Qo Qo (fun g w4 h2 U h3 d7 => ?_))))))))));have d8 : Blk w4 g 138 (((List.replicate (na + nb) 0)).map u32) := by rw [List.map_replicate]; exact d7
 refine sAs rfl (sK d5 (wp_seq_k fun h4 X => rS fun h5 Y => sMs rfl (sV (evLen underlying32 rfl) (sMi rfl (sK Y (wp_block ?_))))));refine lLoop (fun m e w_ => ∃ (i : Nat) (Q : List Nat), m = na - i ∧ e 1 = (.slice Ab nb cb) ∧ e 5 = (.slice (some ⟨g, 0, none⟩) (na + nb) (na + nb)) ∧ e 21 = (.slice Aa na ca) ∧ e 22 = (.int .i64 na) ∧ e 23 = (.int .i64 i) ∧ Frm (fun b => b = g) w4 w_ ∧ Blk w_ g 138 ((Q ++ List.replicate (na - i) 0).map u32) ∧ (i ≤ na) ∧ (Q.length = i + nb) ∧ (∀ d ∈ Q, d < BS) ∧ (val Q = val (da.take i) * val db)) (na - (0)) ?_ ?_
 ·refine ⟨(0), (List.replicate nb 0), rfl, rfl, rfl, rfl, rfl, cI, (Frm.refl _ _), ?_, ?_, ?_, ?_, ?_⟩
  ·rw [List.replicate_append_replicate, show nb + (na - 0) = na + nb by omega]; exact d8
  ·omega
  ·simp
  ·intro d hd; simp [BS] at hd ⊢; omega
  ·simp [val, val_zeros]
 ·rintro h6 h7 V ⟨i, Q, f2, a0, a1, a2, a3, a4, k, s, hi, hQ, hQt, hv⟩
  obtain ⟨h8, rfl⟩ := sq5 a0 a1 a2 a3 a4;have f3 := k.size;refine rS fun h9 x => ?_
  by_cases y : ((i : Int)) < ((na : Int))
  ·refine sV (evLss true rfl rfl (dT y)) (sK x (wp_seq_k fun i0 a5 => cT rfl (wp_skip (xN (a5 _ _ (wp_seq_k fun i1 z => wp_block (rS fun i2 a6 => sMi rfl ?_)))))))
   have A := U.rx k;have B := (ha.frmB A q3);obtain ⟨d9, W, rfl⟩ := B.base Qo;refine sV (evIx i underlying32 sz138 rfl rfl (W + i)) ?_;have f4 := B.lt i;refine sV (evLoad one138 rfl (B.cell Qo)) (sAi rfl (sAi rfl (sK a6 (wp_seq_k fun i3 a7 => rS fun i4 C => sMi rfl ?_))))
   by_cases D : (((da.getD i 0 : Nat) : Int)) = 0
   ·refine sV (evEql true rfl rfl (dT D)) (sK C (cT rfl (wp_exit (xE (bE (xN (z _ _ (wp_region_lit (sV (evAdd (((i : Int)) + 1) rfl rfl wI) (sMi rfl (sDone (again (na - (i + 1)) Qo ⟨(i + 1), (Q ++ [0]), rfl, rfl, rfl, rfl, rfl, cI, k, ?_, ?_, ?_, ?_, ?_⟩))))))))))))
    ·rw [List.append_assoc, show ([0] : List Nat) ++ List.replicate (na - (i + 1)) 0 = List.replicate (na - i) 0 from rep_cons (by omega)]; exact s
    ·omega
    ·simp [hQ]; omega
    ·exact lt_snoc hQt Qo
    ·exact mul_skip Qo hv
   ·refine sV (evEql false rfl rfl (dF D)) (sK C (cF rfl (wp_skip (xN (a7 _ _ (rS fun i5 a8 => sMs rfl (sMi rfl (sV (evSliceLoAt i underlying32 sz138 rfl rfl Qo Qo Qo Qo i Qo) (sAs rfl (sK a8 (rS fun i6 a9 => sAi rfl (sK a9 (wp_seq_k fun i7 b0 => rS fun i8 b1 => sMs rfl (sV (evLen underlying32 rfl) (sMi rfl (sK b1 (wp_block ?_)))))))))))))))))
    refine lLoop (fun m e w_ => ∃ (j : Nat) (R : List Nat) (cy : Nat), m = nb - j ∧ e 1 = (.slice Ab nb cb) ∧ e 5 = (.slice (some ⟨g, 0, none⟩) (na + nb) (na + nb)) ∧ e 7 = (.int .u32 (((da.getD i 0 : Nat) : Int))) ∧ e 8 = (.slice (some ⟨g, i, none⟩) ((na + nb) - i) ((na + nb) - i)) ∧ e 9 = (.int .u32 cy) ∧ e 21 = (.slice (some ⟨d9, W, none⟩) na ca) ∧ e 22 = (.int .i64 na) ∧ e 23 = (.int .i64 i) ∧ e 33 = (.slice Ab nb cb) ∧ e 34 = (.int .i64 nb) ∧ e 35 = (.int .i64 j) ∧ Frm (fun b => b = g) V w_ ∧ Blk w_ g 138 ((R ++ Q.drop (i + j) ++ List.replicate (na - i) 0).map u32) ∧ (j ≤ nb) ∧ (R.length = i + j) ∧ (∀ d ∈ R, d < BS) ∧ (cy < 4294967296) ∧ (val R + BS ^ (i + j) * cy = val (Q.take (i + j)) + BS ^ i * (da.getD i 0 * val (db.take j)))) (nb - (0)) ?_ ?_
    ·refine ⟨(0), (Q.take i), (0), rfl, rfl, rfl, rfl, rfl, cI, rfl, rfl, rfl, rfl, rfl, cI, (Frm.refl _ _), ?_, ?_, ?_, ?_, ?_, ?_⟩
     ·rw [Nat.add_zero, List.take_append_drop]; exact s
     ·omega
     ·simp [hQ]
     ·exact fun d hd => hQt d (List.mem_of_mem_take hd)
     ·omega
     ·simp [val]
    ·rintro i9 j0 j1 ⟨j, R, cy, f5, b2, b3, b4, b5, b6, b7, b8, b9, c0, c1, c2, l, E, hj, hR, hRt, hcy, hw⟩
     obtain ⟨j2, rfl⟩ := sq11 b2 b3 b4 b5 b6 b7 b8 b9 c0 c1 c2;have f6 := l.size;refine rS fun j3 F => ?_
     by_cases G : ((j : Int)) < ((nb : Int))
     ·refine sV (evLss true rfl rfl (dT G)) (sK F (wp_seq_k fun j4 c3 => cT rfl (wp_skip (xN (c3 _ _ (wp_seq_k fun j5 c4 => wp_block (rS fun j6 c5 => sMi rfl ?_)))))))
      have c6 := A.trans l;have H := (hb.frmB c6 q3);obtain ⟨j7, e0, rfl⟩ := H.base Qo;refine sV (evIx j underlying32 sz138 rfl rfl (e0 + j)) ?_;have f7 := H.lt j;refine sV (evLoad one138 rfl (H.cell Qo)) (sAi rfl (sAi rfl (sK c5 (rS fun j8 c7 => sMi rfl (sMi rfl (sO (oCall rfl call127 (bits_Mul32 (x1 := da.getD i 0) Qo (x2 := db.getD j 0) Qo) rfl ?_)))))));rintro _ j9 ⟨c, n, rfl, t, e1, e2, f8⟩;have f9 := t.size;refine sV (v := (.tuple #[(.int .u32 c), (.int .u32 n)])) (rfl) (sV (v := (.int .u32 c)) (rfl) (sV (v := (.int .u32 n)) (rfl) (sAi rfl (sAi rfl (sK c7 (rS fun k0 c8 => sMi rfl (sMs rfl (sMi rfl (sV (evIx j underlying32 sz138 rfl rfl (i + j)) ?_)))))))));have I := (E.ext t);have g0 := getD_lt (ds := R ++ Q.drop (i + j) ++ List.replicate (na - i) 0) (i := i + j) (lt_mid hRt hQt);refine sV (evLoad one138 rfl (I.dig (by exact lq))) ?_;have hq := mid_get (Z := List.replicate (na - i) 0) hR (show i + j < Q.length by omega);refine sO (oCall rfl call112 (bits_Add32 (x1 := n) Qo (x2 := (R ++ Q.drop (i + j) ++ List.replicate (na - i) 0).getD (i + j) 0) Qo (x3 := 0) Qo Qo) rfl ?_);rintro _ k1 ⟨o, f, rfl, u, e3, e4, g1, g2⟩;have g4 := u.size;have k2 := mul32_le (ha.lt i) (hb.lt j);refine sV (v := (.tuple #[(.int .u32 o), (.int .u32 f)])) (rfl) (sV (v := (.int .u32 o)) (rfl) (sV (v := (.int .u32 f)) (rfl) (sAi rfl (sAi rfl (sK c8 (rS fun k3 c9 => sMi rfl (sMi rfl (sV (evAdd (((c + f : Nat) : Int)) rfl rfl (wU32 Qo)) (sAi rfl (sK c9 (rS fun k4 d0 => sMi rfl (sMi rfl (sO (oCall rfl call112 (bits_Add32 (x1 := o) Qo (x2 := cy) Qo (x3 := 0) Qo Qo) rfl ?_))))))))))))));rintro _ g5 ⟨a, h, rfl, p, e5, e6, g6, g7⟩;have e7 := p.size;have hsum : a + 4294967296 * (c + f + h) = Q.getD (i + j) 0 + da.getD i 0 * db.getD j 0 + cy := by omega
      have hcc := mul_carry (getD_lt hQt) (ha.lt i) (hb.lt j) hcy hsum;refine sV (v := (.tuple #[(.int .u32 a), (.int .u32 h)])) (rfl) (sV (v := (.int .u32 a)) (rfl) (sV (v := (.int .u32 h)) (rfl) (sAi rfl (sAi rfl (sK d0 (rS fun g8 J => sMs rfl (sMi rfl (sMi rfl (sV (evIx j underlying32 sz138 rfl rfl (i + j)) ?_)))))))));have K := u.trans p;have L := (I.ext K);refine sO (oStore1 rfl rfl rfl sz138 L (by exact lq) (fun d1 M e8 q => ?_));replace q : Blk d1 g 138 (((R ++ [a]) ++ Q.drop (i + j + 1) ++ List.replicate (na - i) 0).map u32) := by rw [← (mid_set hR (by omega) : (R ++ Q.drop (i + j) ++ List.replicate (na - i) 0).set (i + j) a = (R ++ [a]) ++ Q.drop (i + j + 1) ++ List.replicate (na - i) 0), List.map_set]; exact q
      refine sK J (wp_region_lit (sMi rfl (sMi rfl (sV (evAdd ((((c + f) + h : Nat) : Int)) rfl rfl (wU32 Qo)) (sAi rfl (sDone (bN (xN (c4 _ _ (wp_region_lit (sV (evAdd (((j : Int)) + 1) rfl rfl wI) (sMi rfl (sDone ?_)))))))))))));have N := ((t.trans u).trans p).rx M;refine again (nb - (j + 1)) Qo ⟨(j + 1), (R ++ [a]), ((c + f) + h), rfl, rfl, rfl, rfl, rfl, cI, rfl, rfl, rfl, rfl, rfl, cI, (l.trans N), ?_, ?_, ?_, ?_, ?_, ?_⟩
      ·rw [show i + (j + 1) = i + j + 1 from rfl]; exact q
      ·omega
      ·simp [hR]; omega
      ·exact lt_snoc hRt Qo
      ·exact hcc
      ·exact mul_step hw hR Qo
     ·refine sV (evLss false rfl rfl (dF G)) (sK F (wp_seq_k fun g9 e9 => cF rfl (wp_exit (xE (xE (bE (xN (b0 _ _ (wp_region_lit (sMs rfl (sMs rfl (sV (evLen underlying32 rfl) (sMi rfl (sV (evIx nb underlying32 sz138 rfl rfl (i + nb)) (sO (oStore1 rfl rfl rfl sz138 E (by exact lq) (fun d2 O f0 r => ?_)))))))))))))))))
      replace r : Blk d2 g 138 (((R ++ [cy]) ++ List.replicate (na - (i + 1)) 0).map u32) := by rw [← (row_end (Q := Q) hR (by omega) (by omega) (by omega) : (R ++ Q.drop (i + j) ++ List.replicate (na - i) 0).set (i + nb) cy = (R ++ [cy]) ++ List.replicate (na - (i + 1)) 0), List.map_set]; exact r
      refine sDone (bN (xN (z _ _ (wp_region_lit (sV (evAdd (((i : Int)) + 1) rfl rfl wI) (sMi rfl (sDone ?_)))))));have P := l.trans O;refine again (na - (i + 1)) Qo ⟨(i + 1), (R ++ [cy]), rfl, rfl, rfl, rfl, rfl, cI, (k.trans P), ?_, ?_, ?_, ?_, ?_⟩
      ·exact r
      ·omega
      ·simp [hR]; omega
      ·exact lt_snoc hRt Qo
      ·exact mul_row hw hR Qo Qo hv
  ·refine sV (evLss false rfl rfl (dF y)) (sK x (wp_seq_k fun h0 f1 => cF rfl (wp_exit (xE (xE (bE (xN (X _ _ (rS fun h1 S => sMs rfl (sAs rfl (sK S (wp_ret (ret1 (.slice (some ⟨g, 0, none⟩) (na + nb) (na + nb)) results115 (resT rfl) ?_)))))))))))))
   have d3 : NatR V (fun b => b = g) (some ⟨g, 0, none⟩) (na + nb) (na + nb) (Q ++ List.replicate (na - i) 0) := NatR.of_blk s rfl (lt_fill hQt) (by exact lq) Qo (by unfold CapMax; omega);have T := U.rx k;exact ⟨(some ⟨g, 0, none⟩), (na + nb), (na + nb), (Q ++ List.replicate (na - i) 0), rfl, (Frm.mono T q4), (NatR.sub d3 q5), (by rw [val_fill, hv, val_take_all da (by omega)]), (by omega)⟩
end Go.Proofs.YtebajgaabaffbaaGreat
