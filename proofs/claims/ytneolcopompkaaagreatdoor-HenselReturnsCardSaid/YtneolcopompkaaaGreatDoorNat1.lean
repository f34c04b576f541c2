/-
  Walks of package natural: trim and what needs no more.
-/
import Derived.Test.YtneolcopompkaaaGreatDoorFacts
import Derived.Test.YtneolcopompkaaaGreatDoorLibA
namespace Go.Proofs.YtneolcopompkaaaGreatDoor
open Go.RowKit Go.Gx Tryz
theorem natural_trim {w : World} {Sa : Nat → Prop} {Aa : Option Addr} {na ca : Nat} {da : List Nat} (ha : NatR w Sa Aa na ca da)  : Calls Tryz.prog 87 #[(.slice Aa na ca)] w (Ret fun v w' => ∃ (Ar : Option Addr) (nr : Nat) (cr : Nat) (dr : List Nat), v = (.slice Ar nr cr) ∧ Ext w w' ∧ NatR w' (Sa) Ar nr cr dr ∧ (dr = trimN da) ∧ (nr ≤ na)) := by
 have ⟨la, ka, ma⟩ := ha.lkm
 refine enter func87 rfl ntmps87 rfl (rS fun I q => sAs rfl (sK q (rS fun J r => sMs rfl (sV (evLen underlying23 rfl) (sAi rfl (sK r (wp_seq_k fun K l => wp_block ?_)))))))
 refine lLoop (fun m e w_ => ∃ (k : Nat), m = k ∧ e 0 = (.slice Aa na ca) ∧ e 3 = (.int .i64 k) ∧ Frm (fun b => False) w w_ ∧ (k ≤ na) ∧ (∀ j, k ≤ j → da.getD j 0 = 0)) ((na)) ?_ ?_
 ·refine ⟨(na), rfl, rfl, cI, (Frm.refl _ _), ?_, ?_⟩
  ·omega
  ·exact getD_ge Qo
 ·rintro L B M ⟨k, C, s, t, a, hk, hz⟩
  obtain ⟨D, rfl⟩ := sq2 s t
  have z := a.size
  refine wp_seq_k fun E n => rS fun F c => sMi rfl ?_
  by_cases g : ((k : Int)) > 0
  ·refine sV (evGtr true rfl rfl (dT g)) (sMb rfl (sEv (v := (.slice Aa na ca)) (rfl) rfl rfl (sEv (v := (.int .i64 k)) (rfl) rfl rfl (sEv (v := (.int .i64 (((k : Int)) - 1))) (evSub (((k : Int)) - 1) rfl rfl wI) rfl rfl ?_))))
   have d := (ha.ext a)
   obtain ⟨h, f, rfl⟩ := d.base Qo
   refine sEv (v := (.pointer (some ⟨h, f + (k - 1), none⟩))) (evIx (k - 1) underlying23 sz26 rfl rfl (f + (k - 1))) rfl rfl ?_
   have A := d.lt (k - 1)
   refine sEv (v := (.int .u32 (((da.getD (k - 1) 0 : Nat) : Int)))) (evLoad one26 rfl (d.cell Qo)) rfl rfl ?_
   by_cases i : (((da.getD (k - 1) 0 : Nat) : Int)) = 0
   ·refine sEv (v := (.bool true)) (evEql true rfl rfl (dT i)) rfl rfl (sV (v := (.bool true)) (rfl) (sK c (cT rfl (wp_skip (xN (n _ _ (wp_block (wp_region_lit (sMi rfl (sV (evSub (((k : Int)) - 1) rfl rfl wI) (sAi rfl (sDone (bN (again ((k - 1)) Qo ⟨(k - 1), rfl, rfl, cI, a, ?_, ?_⟩))))))))))))))
    ·omega
    ·exact zeros_down hz Qo
   ·refine sEv (v := (.bool false)) (evEql false rfl rfl (dF i)) rfl rfl (sV (v := (.bool false)) (rfl) (sK c (cF rfl (wp_exit (xE (xE (bE (xN (l _ _ (rS fun G o => sMs rfl (sMi rfl ?_)))))))))))
    have u := d.take (m := k) Qo
    refine sV (evSliceHi k underlying23 sz26 rfl rfl Qo Qo) (sAs rfl (sK o (wp_ret (ret1 (.slice (some ⟨h, f, none⟩) k ca) results87 (resT rfl) ?_))))
    exact ⟨(some ⟨h, f, none⟩), k, ca, ((da).take k), rfl, a, u, (trimN_of Qo hz Qo), Qo⟩
  ·refine sV (evGtr false rfl rfl (dF g)) (sMb rfl (sSkip rfl rfl (sSkip rfl rfl (sSkip rfl rfl (sSkip rfl rfl (sSkip rfl rfl (sSkip rfl rfl (sV (v := (.bool false)) (rfl) (sK c (cF rfl (wp_exit (xE (xE (bE (xN (l _ _ (rS fun H p => sMs rfl (sMi rfl ?_))))))))))))))))))
   have x := (ha.ext a)
   have y := x.take (m := k) Qo
   refine sV (evSliceHi k underlying23 sz26 rfl rfl Qo Qo) (sAs rfl (sK p (wp_ret (ret1 (.slice Aa k ca) results87 (resT rfl) ?_))))
   exact ⟨Aa, k, ca, ((da).take k), rfl, a, y, (trimN_of Qo hz Qo), Qo⟩
theorem bits_Add32 {w : World} {x1 : Nat} {x2 : Nat} {x3 : Nat} (b1 : x1 < 4294967296) (b2 : x2 < 4294967296) (b3 : x3 < 4294967296) (hc : x3 ≤ 1) : Calls Tryz.prog 89 #[(.int .u32 x1), (.int .u32 x2), (.int .u32 x3)] w (Ret fun v w' => ∃ (xs : Nat) (xc : Nat), v = (.tuple #[(.int .u32 xs), (.int .u32 xc)]) ∧ Ext w w' ∧ xs < 4294967296 ∧ xc < 4294967296 ∧ (xs + 4294967296 * xc = x1 + x2 + x3) ∧ (xc ≤ 1)) := by
 refine enter func89 rfl ntmps89 rfl (rS fun e a => sAi rfl (sAi rfl (sK a (rS fun f b => sMi rfl (sV (evConv ((x1 : Int)) underlying26 underlying100 rfl (wU64 (by omega))) (sMi rfl (sV (evConv ((x2 : Int)) underlying26 underlying100 rfl (wU64 (by omega))) (sV (evAdd (((x1 + x2 : Nat) : Int)) rfl rfl (wU64 (by omega))) (sMi rfl (sV (evConv ((x3 : Int)) underlying26 underlying100 rfl (wU64 (by omega))) (sV (evAdd ((((x1 + x2) + x3 : Nat) : Int)) rfl rfl (wU64 (by omega))) (sAi rfl (sK b (rS fun g c => sMi rfl (sV (evConv (((((x1 + x2) + x3) % 4294967296 : Nat) : Int)) underlying100 underlying26 rfl (wU32m (by omega))) (sAi rfl (sK c (rS fun h d => sMi rfl (sV (evShr ((((x1 + x2 + x3) / 4294967296 : Nat) : Int)) rfl rfl (by omega) (by rw [shr_div 32 rfl 4294967296 rfl (by omega)]; omega)) ?_)))))))))))))))))))
 refine sV (evConv (((((x1 + x2 + x3) / 4294967296) % 4294967296 : Nat) : Int)) underlying100 underlying26 rfl (wU32m Qo)) (sAi rfl (sK d (wp_ret (ret2 (.int .u32 (((((x1 + x2) + x3) % 4294967296 : Nat) : Int))) (.int .u32 (((((x1 + x2 + x3) / 4294967296) % 4294967296 : Nat) : Int))) results89 (resT rfl) (resT rfl) ?_))))
 exact ⟨(((x1 + x2) + x3) % 4294967296), (((x1 + x2 + x3) / 4294967296) % 4294967296), rfl, (Frm.refl _ _), Qo, Qo, Qo, Qo⟩
theorem natural_Normal {w : World} {Sa : Nat → Prop} {Aa : Option Addr} {na ca : Nat} {da : List Nat} (ha : NatR w Sa Aa na ca da) (hn : na ≤ 1099511627776) : Calls Tryz.prog 86 #[(.slice Aa na ca)] w (Ret fun v w' => ∃ (Ar : Option Addr) (nr : Nat) (cr : Nat) (dr : List Nat), v = (.slice Ar nr cr) ∧ Ext w w' ∧ NatR w' (fun b => w.heap.size ≤ b) Ar nr cr dr ∧ (dr = trimN da) ∧ (nr ≤ na)) := by
 have ⟨la, ka, ma⟩ := ha.lkm
 replace ha := ha.low
 refine enter func86 rfl ntmps86 rfl (rS fun K r => sAs rfl (sK r (rS fun L s => sMs rfl (sO (oCall rfl call87 (natural_trim ha) rfl ?_)))))
 rintro _ M ⟨z, a, A, c, rfl, h, f, t, B⟩
 have H := h.size
 have ⟨k, C, D⟩ := f.lkm
 refine sAs rfl (sK s (rS fun N u => sMs rfl (sV (evLen underlying23 rfl) (sO (oMake1 a underlying23 inf26 rfl cI cI Qo Qo (fun e x E g F l => ?_))))))
 have m : Blk x e 26 (((List.replicate a 0)).map u32) := by rw [List.map_replicate]; exact l
 refine sAs rfl (sK u (rS fun I n => sMs rfl (sMs rfl ?_)))
 have i := (f.ext g)
 refine sO (oCopy underlying23 sz26 rfl rfl i.1 (u32s_one _) m Qo (by exact lq) (fun j o G d => ?_))
 replace d : Blk j e 26 ((c).map u32) := by rw [← (by simp [k] : (List.replicate a 0).take 0 ++ c ++ (List.replicate a 0).drop (0 + a) = c), List.map_append, List.map_append, List.map_take, List.map_drop]; exact d
 rw [put_mkA]
 refine sK n (rS fun J p => sMs rfl (sAs rfl (sK p (wp_ret (ret1 (.slice (some ⟨e, 0, none⟩) a a) results86 (resT rfl) ?_)))))
 have y : NatR j (fun b => b = e) (some ⟨e, 0, none⟩) a a (c) := NatR.of_blk d rfl i.2 (by exact lq) Qo (by unfold CapMax; omega)
 have q := (h.trans g).rx o
 exact ⟨(some ⟨e, 0, none⟩), a, a, c, rfl, (Frm.mono q q4), (NatR.sub y q5), t, Qo⟩
theorem natural_IsZero {w : World} {Sa : Nat → Prop} {Aa : Option Addr} {na ca : Nat} {da : List Nat} (ha : NatR w Sa Aa na ca da)  : Calls Tryz.prog 69 #[(.slice Aa na ca)] w (Ret fun v w' => ∃ (gr : Bool), v = (.bool gr) ∧ Ext w w' ∧ (gr = decide (val da = 0))) := by
 have ⟨la, ka, ma⟩ := ha.lkm
 replace ha := ha.low
 refine enter func69 rfl ntmps69 rfl (rS fun p g => sAb rfl (sK g (rS fun q b => sMs rfl (sO (oCall rfl call87 (natural_trim ha) rfl ?_)))))
 rintro _ r ⟨h, e, i, j, rfl, a, f, c, k⟩
 have o := a.size
 have ⟨l, m, n⟩ := f.lkm
 refine sV (evLen underlying23 rfl) ?_
 by_cases d : ((e : Int)) = 0
 ·refine sV (evEql true rfl rfl (dT d)) (sAb rfl (sK b (wp_ret (ret1 (.bool true) results69 (resT rfl) ?_))))
  exact ⟨(true), rfl, a, (isz_true c Qo)⟩
 ·refine sV (evEql false rfl rfl (dF d)) (sAb rfl (sK b (wp_ret (ret1 (.bool false) results69 (resT rfl) ?_))))
  exact ⟨(false), rfl, a, (isz_false c Qo)⟩
theorem natural_Add_1 {w : World} {x1 : Nat} {x2 : Nat} {pc xc : Nat} (b1 : x1 < 4294967296) (b2 : x2 < 4294967296) (Bc : Blk w pc 26 [.int .u32 (xc : Int)]) (bc : xc < 4294967296) (hc : xc ≤ 1) : Calls Tryz.prog 88 #[(.int .u32 x1), (.int .u32 x2), (.pointer (some ⟨pc, 0, none⟩))] w (Ret fun v w' => ∃ (xs : Nat) (zc : Nat), v = (.int .u32 xs) ∧ Frm (fun b => b = pc) w w' ∧ xs < 4294967296 ∧ (Blk w' pc 26 [.int .u32 (zc : Int)]) ∧ (xs + 4294967296 * zc = x1 + x2 + xc) ∧ (zc ≤ 1)) := by
 refine enter func88 rfl ntmps88 rfl (rS fun u i => sAi rfl (sK i (rS fun x j => sMi rfl (sMi rfl (sV (evLoadB one26 rfl Bc rfl) (sO (oCall rfl call89 (bits_Add32 (x1 := x1) Qo (x2 := x2) Qo (x3 := xc) Qo Qo) rfl ?_)))))))
 rintro _ y ⟨c, a, rfl, e, m, n, q, r⟩
 have s := e.size
 refine sV (v := (.tuple #[(.int .u32 c), (.int .u32 a)])) (rfl) (sV (v := (.int .u32 c)) (rfl) (sV (v := (.int .u32 a)) (rfl) (sAi rfl (sAi rfl (sK j (rS fun z k => sMi rfl ?_))))))
 have l := (Bc.ext e)
 refine sO (oStore [(.int .u32 a)] rfl rfl rfl sz26 rfl l Qn (fun o f p d => ?_))
 replace d : Blk o pc 26 [(.int .u32 a)] := d
 refine sK k (rS fun t g => sMi rfl (sAi rfl (sK g (wp_ret (ret1 (.int .u32 c) results88 (resT rfl) ?_)))))
 have h := e.rx f
 exact ⟨(c), a, rfl, h, Qo, d, Qo, Qo⟩
end Go.Proofs.YtneolcopompkaaaGreatDoor
