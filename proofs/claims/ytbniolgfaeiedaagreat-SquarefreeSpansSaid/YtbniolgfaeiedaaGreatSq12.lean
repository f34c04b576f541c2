/-
  Walk of package squarefree: products of powers of factors; the law's own normal.
-/
import Derived.Test.YtbniolgfaeiedaaGreatSq11
import Derived.Test.YtbniolgfaeiedaaGreatLibC
namespace Go.Proofs.YtbniolgfaeiedaaGreat
open Go.RowKit Go.Gx
theorem law11_normal {w : World} {Sf : Nat → Prop} {Af : Option Addr} {nf cf Mf : Nat} {lf : List RI} (hf : PolyR w Sf Af nf cf lf Mf) (hnf : nf ≤ 11) (hMf : Mf ≤ 64) (hn : Nrm (zs lf)) (hd : 2 ≤ (trimZ (zs lf)).length) : Calls Tryz.prog 14 #[(.slice Af nf cf)] w (Ret fun v w' => ∃ (gr : Bool), v = (.bool gr) ∧ Ext w w' ∧ (gr = true)) := by
  have ⟨kf, jf, mf⟩ := hf.lkm
  replace hf := hf.low
  refine enter Tryz.func14 rfl Tryz.ntmps14 rfl (rS fun K1 hK1 => sAb rfl (sK hK1 (rS fun K2 hK2 => sMs rfl (sO (oCall rfl call19 (unipoly_Degree hf (by omega) (by omega)) rfl ?_)))))
  rintro _ w4 ⟨xr_3, rfl, hE5, e_3⟩
  have hz6 := hE5.size
  refine sV (evGtr true rfl rfl (dT (by omega))) (sMb rfl (sEv (v := (.slice Af nf cf)) (rfl) rfl rfl ?_))
  have h7 := (hf.ext hE5)
  refine sOp rfl (oCall rfl call35 (unidiv_Primitive h7 (by omega) (by omega)) rfl ?_)
  rintro _ w9 ⟨Ar_8, nr_8, cr_8, lr_8, rfl, hE10, hr_8, e_8, ln_8, cn_8⟩
  have hz11 := hE10.size
  have ⟨kr_8, jr_8, mr_8⟩ := hr_8.lkm
  refine sEv (v := (.slice Af nf cf)) (rfl) rfl rfl ?_
  have h13 := (h7.ext hE10)
  refine sOp rfl (oCall rfl call11 (unipoly_Same hr_8 h13) rfl ?_)
  rintro _ w15 ⟨gr_14, rfl, hE16, e_14⟩
  have hz17 := hE16.size
  obtain rfl : gr_14 = true := by rw [e_14, e_8, hn.self]; simp
  refine sV (v := (.bool true)) (rfl) (sAb rfl (sK hK2 (wp_ret (ret1 (.bool true) Tryz.results14 (resT rfl) ?_))))
  have hR18 := (hE5.trans hE10).trans hE16
  exact ⟨(true), rfl, hR18, rfl⟩

end Go.Proofs.YtbniolgfaeiedaaGreat
