/-
  M7, V8, Q2, V9
-/
import Derived.Test.YtjdpemcnlejpfaaGreatDoorM6
import Derived.Test.YtjdpemcnlejpfaaGreatDoorAmS
import Derived.Test.YtjdpemcnlejpfaaGreatDoorShelf
import Derived.Test.YtjdpemcnlejpfaaGreatDoorV3
import Derived.Test.YtjdpemcnlejpfaaGreatDoorModDiv
import Derived.Test.YtjdpemcnlejpfaaGreatDoorU4
import Derived.Test.YtjdpemcnlejpfaaGreatDoorDecP
set_option linter.all false
namespace Go.Proofs.YtjdpemcnlejpfaaGreatDoor
open Go.RowKit Go.Gx Go.Am Tryz
theorem AC.imp{P:Program}{f:FuncId}{F:Hp}{args:List AV}{Φ Ψ:(Hp→List AV→Prop)→Prop}(h:AC P f F args Φ)(k: ∀K,Ψ K→Φ K):AC P f F args Ψ:=by
  unfold AC at h⊢
  exact fun K w S vs a b c d e=>h K w S vs a b c d (k K e)
instance Qxd:TK prog 180 (∀{f g:List Nat}{p:Nat}(_:f.length≤1048576)(_:g.length≤1048576)(_:1<p)(_:p<4294967296),AC prog 180 [] [raw f,raw g,ep (W32 p)] fun K=>K [] [I .i64 (Qbv (zl (XO p f)) (zl (XO p g)))]):=⟨fun {f g p} hf hg h1 h2=>by
  refine aEnter func180 rfl ntmps180 rfl fun K C hC hK=> ?_
  repeat(refine zS ?_;intros)
  exact aRet1 rfl zv hK (le_refl _)⟩
instance Qye:TK prog 179 (∀{k:Option Nat}{c p:Nat}{l:List (List Nat)}(_:PrS p)(_:l.length≤1000)(_: ∀f∈l,f.length≤1048576),AC prog 179 [(k,.gro 66 1 (l.map raw) c)] [gh k l.length c,fnv 180 [ep (W32 p)]] fun K=> ∀l':List (List Nat),l'.Perm l→K [(k,.gro 66 1 (l'.map raw) c)] []):=⟨fun {k c p l} hp hl hf=>by
  have h1:=hp.two
  have h2:=hp.lt
  exact AC.imp (acSort1 Tryz.sortM (F:=raw) (fun _=>sl_sh) (QhB fun f=>Gx.zl (XO p f)) (g:=180) (cs:=[ep (W32 p)]) (TC.ca) (fun x hx y hy=>Qxd.k (hf x hx) (hf y hy) (by omega) (by omega)) rfl (by omega)) fun K h l' hp _=>h l' hp⟩
theorem QuQ{p:Int}{c:List Int}: ∀{L:List (List Int)},c∈L→Dv p c (pL L)
  | [],h=>absurd h List.not_mem_nil
  |a::L,h=>by
    rcases List.mem_cons.1 h with rfl|h
    · exact⟨pL L,CgV.comm _ _⟩
    · obtain⟨w,hw⟩:=QuQ (p:=p) h
      exact⟨Xg a w,((CgV.refl _ a).mul hw).trans (CgV.eqv fun x=>by simp only[Xc];grind)⟩
theorem Qkt{p:Nat}{g:List Nat}{l:List (List Nat)}(hp:PrS p)(hg:Mn p g)(h:Zv p (Gx.zl g) l)(hn:l.length+1≤g.length): ∀d∈l,d.length≤g.length:=fun d hd=>by
  have hl:0<l.length:=List.length_pos_of_mem hd
  have hN:=hg.monN (by omega)
  obtain⟨w,hw⟩:=QuQ (p:=(p:Int)) (List.mem_map_of_mem (f:=Gx.zl) hd)
  have :=Qa1 hp.two (h.mon d hd).mz hN.mz ⟨w,h.prod.symm.trans hw⟩
  have h1:=(h.mon d hd).pos
  omega
instance QxN:TK prog 132 (∀{f:List Nat}{p:Nat}(_:PrS p)(_:f.length≤1000)(_:(XN p (XO p f) (XR p (Xn (Gx.zl (XO p f))))).length=1)(_:p=2∨p^ ((f.length -1)/2+1)≤9223372036854775808),AC prog 132 [] [raw f,W32 p] fun K=> ∀l:List (List Nat),Zv p (Gx.zl (XS p (XO p f))) l→l.length+1≤f.length→K [] [sl 1 (l.map raw),I .i64 0]):=⟨fun {f p} hp hf hq hb=>by
  refine aEnter func132 rfl ntmps132 rfl fun K C hC hK=> ?_
  have h1:=hp.two
  have h2:=hp.lt
  have hip:=QbU hp
  have n1:=YN p f
  have k1:=YX (p:=p) (by omega) f
  have⟨m1,m2⟩:=QfB hp.1 k1 hq
  have m3:=Qam hp.1 k1
  have hsq:AC prog 78 [] [raw (XO p f),W32 p] fun K=>K [] [Bo (decide ((XN p (XO p f) (XR p (Xn (Gx.zl (XO p f))))).length=1))]:=c78.k hp (by omega) k1
  rw[decide_eq_true hq] at hsq
  obtain⟨g,hg⟩: ∃g,XS p (XO p f)=g:=⟨_,rfl⟩
  rw[hg] at m1 m2 m3 hK
  have hb2:p=2∨p^ ((g.length -1)/2+1)≤9223372036854775808:=hb.imp id fun h9=>Nat.le_trans (Nat.pow_le_pow_right (by omega) (by omega)) h9
  iterate 3 (refine zS ?_;intros)
  refine AL.ent (entBx hC (s:=3) (by exact rfl) 0 (by exact rfl)) ?_
  repeat(refine zS ?_;intros)
  show AD _ _ _ _ _ _ _ _ _ _ _
  rw[hg]
  repeat(refine zS ?_;intros)
  rename_i k c l hl hn
  have hll:=Qkt hp m1 hl hn
  have hll2: ∀d∈l,d.length≤1048576:=fun d hd=>by have :=hll d hd;omega
  refine AL.ent (entSub (s:=23) (a:=fnv 180 [ep (W32 p)]) (.of_eq (congrArg (fnv _) zLv))) ?_
  refine alO (zcallO 0 (by exact rfl)) zg ?_
  intro l' hp'
  refine⟨rfl,?_⟩
  repeat(refine zS ?_;intros)
  refine AX.ent (entFzG hC (s:=4) (by exact rfl) 0 (by exact rfl) (by rw[List.length_map];exact hp'.length_eq)) ?_
  exact aRet2 rfl zv zv (hK l' (hl.perm hp') (by have :=hp'.length_eq;omega)) (le_refl _) (le_refl _)⟩
end Go.Proofs.YtjdpemcnlejpfaaGreatDoor
namespace Go.Proofs.YtjdpemcnlejpfaaGreatDoor
open Go.RowKit Go.Gx Go.Am Tryz
theorem QrQ{M:Nat}{w:World}{S:Nat→Prop}: ∀{l:List Int}{cs:List Value},lay w S (l.map (iv M)) cs→ ∀x∈l,x.natAbs<BS^M
  | [],_,_,_,hx=>absurd hx List.not_mem_nil
  |a::l,cs,h,x,hx=>by
    obtain⟨v,cs',h1,h2,h3⟩:=(show ∃v cs',(iv M a).rep w S v∧cs=v.cells.toList++cs'∧lay w S (l.map (iv M)) cs' from h)
    rcases List.mem_cons.1 hx with rfl|hx
    · exact iv_bd h1
    · exact QrQ h3 x hx
theorem QwM{M:Nat}{l:List Int}{w:World}{S:Nat→Prop}{v:Value}(h:(pv M l).rep w S v)(i:Nat):(co l i).natAbs<BS^M:=by
  have hp:0<BS^M:=Nat.pow_pos (by decide)
  rcases Nat.lt_or_ge i l.length with hi|hi
  · have e:co l i=l[i]:=by simp [co,List.getD,List.getElem?_eq_getElem hi]
    rw[e]
    unfold pv sl at h
    obtain⟨A,c,_,_,_,_,h5⟩:=h
    obtain⟨b,o,cs,t,f,_,_,_,h6⟩:=h5 (by intro e;have :=congrArg List.length e;rw[List.length_map] at this;simp at this;rw[this] at hi;simp at hi)
    exact QrQ h6 _ (List.getElem_mem hi)
  · rw[XX hi];exact hp
theorem bdW{P:Program}{n:Nat}{D:List Deferred}{C:Ctx}{c:Code}{Q:Exit→Act→World→Prop}{env:Nat→AV}{H:Hp}{M:Nat}{l:List Int}(t:Nat)(he:(env t).le (pv M l))(k:(∀i,(co l i).natAbs<BS^M)→AT P n D C c Q env H):AT P n D C c Q env H:=by
  unfold AT at k⊢
  exact aGet t (fun w S v hr=>QwM (he _ _ _ hr)) k
instance Qx0:TK prog 148 (∀{M M':Nat}{F G:List Int},AC prog 148 [] [pv M F,pv M' G] fun K=>K [] [fnv 205 [ep (pv M F),ep (pv M' G)]]):=⟨fun {M M' F G}=>by
  refine aEnter func148 rfl ntmps148 rfl fun K C hC hK=> ?_
  iterate 3 (refine zS ?_;intros)
  refine AL.ent (entBx hC (s:=2) (by exact rfl) 0 (by exact rfl)) ?_
  refine zS ?_;intros
  refine AL.ent (entBx hC (s:=3) (by exact rfl) 0 (by exact rfl)) ?_
  repeat(refine zS ?_;intros)
  exact aRet1 rfl zv hK (.of_eq (congrArg (fnv _) zLv))⟩
theorem Qnd{M:Nat}{l:List Int}:els 1 [pc M l]:=fun a ha=>by rw[List.mem_singleton.1 ha];exact⟨by rw[sl_sh];rfl,by rw[sl_sh];simp⟩
theorem Qoq(F:List Int):(Ql8 F).length=F.length:=by unfold Ql8;split<;>simp [Xf]
theorem AC.les{P:Program}{f:FuncId}{F:Hp}{l l':List AV}{Φ:(Hp→List AV→Prop)→Prop}(h:AC P f F l' Φ)(k:Les l l'):AC P f F l Φ:=by
  unfold AC at h⊢
  exact fun K w S vs a b c d e=>h K w S vs a b (k.reps c) d e
set_option maxHeartbeats 1000000 in
theorem Qvm{M:Nat}{F G:List Int}(hM:M≤2000)(hF:F.length≤17)(hG:G.length≤17):AC prog 111 [] [pv M F,pv M G] fun K=> ∀R,QfN F G R→R.length≤17→K [] [pc 70100 R]:=by
  refine aEnterM func111 rfl ntmps111 rfl fun K C hC hK=> ?_
  have hF1:=Xe F
  have hG1:=Xe G
  repeat(refine zS ?_;intros)
  refine zB ?_ ?_<;>intro h
  · repeat(refine zS ?_;intros)
    have e:(if ldP G<0 then Xa (Xf G (-1)) else Xa G)=Xa (Ql8 G):=by unfold Ql8;split<;>rfl
    exact aRetM0 (rs:=[.tmp 4]) rfl rfl (List.nil_sublist _) (arT zv (le_pe e (by omega)) arN) (hK _ (Qik (by omega) rfl).symm (by have :=Xe (Ql8 G);have :=Qoq G;omega))
  repeat(refine zS ?_;intros)
  refine zB ?_ ?_<;>intro h2
  · repeat(refine zS ?_;intros)
    have e:(if ldP F<0 then Xa (Xf F (-1)) else Xa F)=Xa (Ql8 F):=by unfold Ql8;split<;>rfl
    exact aRetM0 (rs:=[.tmp 4]) rfl rfl (List.nil_sublist _) (arT zv (le_pe e (by omega)) arN) (hK _ (Qik (by omega) rfl) (by have :=Xe (Ql8 F);have :=Qoq F;omega))
  have hlf:ldP F≠0:=Qim rfl (by omega)
  have hlg:ldP G≠0:=Qim rfl (by omega)
  have hrZ:rZ=68035:=rfl
  have lf:=Yz F
  have lg:=Yz G
  have hcp:((Nat.gcd (Xy F) (Xy G):Nat):Int)=(QaX [F,G]:Int):=by simp [QaX]
  repeat(refine zS ?_;intros)
  rename_i g5 _ _
  refine zB ?_ ?_<;>intro h3
  · repeat(refine zS ?_;intros)
    rename_i g8
    obtain⟨A,hA⟩: ∃A,Xr G=A:=⟨_,rfl⟩
    obtain⟨B,hB⟩: ∃B,Xr F=B:=⟨_,rfl⟩
    have tA:Xa A=A:=by rw[←hA,QaS]
    have tB:Xa B=B:=by rw[←hB,QaS]
    rw[hA] at h3 lg
    rw[hB] at h3 lf
    rw[hA,hB]
    refine bdW 6 (zle) fun cA=>bdW 7 (zle) fun cB=> ?_
    refine aRange (el:=pc rZ) (E:=fun _ x=>1≤x.length∧x.length≤17∧Xa x=x) (Ψ:=fun _ x kk=>(x.length≠1→kk x none)∧(x.length=1→kk x (some (.exit 1)))) (Fin:=fun s j=>(j=none∨j=some (.exit 1))∧Qcv (P A) (P B) (P s)∧P s≠0∧s.length≤17) (G:=fun s=>[(some g8,.arr 30 1 [pc rZ s]),(some g5,.arr 25 1 (itl (max M 2) (QaX [F,G]:Int)))]) (s0:=[]) (lb:=[ep (pv M A),ep (pv M B)]) zle rfl (by refine HLe.cons (ob_arr (.cons le_p0 .nil) Qnd) (HLe.cons (ob_i rfl (by omega)) (HLe.none _))) ?_ (fun l w1 S1 LO hY=> ?_) ?_
    · intro l Dn fn e1 s x hE K' C' hC' hK'
      have ht:(Xa x).length=x.length:=by rw[hE.2.2]
      repeat(refine zS ?_;intros)
      refine axRB rfl ?_
      repeat(refine zS ?_;intros)
      refine zB ?_ ?_<;>intro h4
      · repeat(refine zS ?_;intros)
        exact axRd (some (.exit 1)) rfl rfl (HLe.refl _) (hK'.2 (by omega))
      · repeat(refine zS ?_;intros)
        exact axRd none rfl rfl (HLe.refl _) (hK'.1 (by omega))
    · have :=QnF (c0:= .exit 1) LO hM (F:=A) (G:=B) (by omega) (by omega) (by rw[tA,tB];omega) (by rw[tB];omega) cA cB (fun s l a b c=>hY s l ⟨a,b,c⟩) []
      exact AC.imp this fun K h s j q1 q2 q3 q4=>h s j ⟨q1,q2,q3,q4⟩
    · intro Dn s j hj
      obtain⟨hj1,hgc,hz,hsl⟩:=hj
      have hsp:=Yz s
      have hst:=Xe s
      have hst2:=Xe (Xf (Xr s) (QaX [F,G]:Int))
      rw[Qbq] at hst2
      have hfin:K [] [pc 70100 (Xa (Xf (Xr s) (QaX [F,G]:Int)))]:=hK _ (Qgm hlf hlg rfl rfl (by rw[hA,hB];exact hgc.symm) hz hcp.symm rfl) (by omega)
      rcases hj1 with rfl|rfl
      · show AX _ _ _ _ _ _ _
        repeat(refine zS ?_;intros)
        exact aRetM (rs:=[.tmp 4]) rfl rfl (by exact rfl) (List.nil_sublist _) (arT zv (le_pcc (by omega)) arN) hfin
      · show AT _ _ _ _ _ _ _ _
        repeat(refine zS ?_;intros)
        exact aRetM (rs:=[.tmp 4]) rfl rfl (by exact rfl) (List.nil_sublist _) (arT zv (le_pcc (by omega)) arN) hfin
  · repeat(refine zS ?_;intros)
    rename_i g8
    obtain⟨A,hA⟩: ∃A,Xr F=A:=⟨_,rfl⟩
    obtain⟨B,hB⟩: ∃B,Xr G=B:=⟨_,rfl⟩
    have tA:Xa A=A:=by rw[←hA,QaS]
    have tB:Xa B=B:=by rw[←hB,QaS]
    rw[hA] at h3 lf
    rw[hB] at h3 lg
    rw[hA,hB]
    refine bdW 6 (zle) fun cA=>bdW 7 (zle) fun cB=> ?_
    refine aRange (el:=pc rZ) (E:=fun _ x=>1≤x.length∧x.length≤17∧Xa x=x) (Ψ:=fun _ x kk=>(x.length≠1→kk x none)∧(x.length=1→kk x (some (.exit 1)))) (Fin:=fun s j=>(j=none∨j=some (.exit 1))∧Qcv (P A) (P B) (P s)∧P s≠0∧s.length≤17) (G:=fun s=>[(some g8,.arr 30 1 [pc rZ s]),(some g5,.arr 25 1 (itl (max M 2) (QaX [F,G]:Int)))]) (s0:=[]) (lb:=[ep (pv M A),ep (pv M B)]) zle rfl (by refine HLe.cons (ob_arr (.cons le_p0 .nil) Qnd) (HLe.cons (ob_i rfl (by omega)) (HLe.none _))) ?_ (fun l w1 S1 LO hY=> ?_) ?_
    · intro l Dn fn e1 s x hE K' C' hC' hK'
      have ht:(Xa x).length=x.length:=by rw[hE.2.2]
      repeat(refine zS ?_;intros)
      refine axRB rfl ?_
      repeat(refine zS ?_;intros)
      refine zB ?_ ?_<;>intro h4
      · repeat(refine zS ?_;intros)
        exact axRd (some (.exit 1)) rfl rfl (HLe.refl _) (hK'.2 (by omega))
      · repeat(refine zS ?_;intros)
        exact axRd none rfl rfl (HLe.refl _) (hK'.1 (by omega))
    · have :=QnF (c0:= .exit 1) LO hM (F:=A) (G:=B) (by omega) (by omega) (by rw[tA,tB];omega) (by rw[tB];omega) cA cB (fun s l a b c=>hY s l ⟨a,b,c⟩) []
      exact AC.imp this fun K h s j q1 q2 q3 q4=>h s j ⟨q1,q2,q3,q4⟩
    · intro Dn s j hj
      obtain⟨hj1,hgc,hz,hsl⟩:=hj
      have hsp:=Yz s
      have hst:=Xe s
      have hst2:=Xe (Xf (Xr s) (QaX [F,G]:Int))
      rw[Qbq] at hst2
      have hfin:K [] [pc 70100 (Xa (Xf (Xr s) (QaX [F,G]:Int)))]:=hK _ (Qgm hlf hlg rfl rfl (by rw[hA,hB];exact hgc) hz hcp.symm rfl) (by omega)
      rcases hj1 with rfl|rfl
      · show AX _ _ _ _ _ _ _
        repeat(refine zS ?_;intros)
        exact aRetM (rs:=[.tmp 4]) rfl rfl (by exact rfl) (List.nil_sublist _) (arT zv (le_pcc (by omega)) arN) hfin
      · show AT _ _ _ _ _ _ _ _
        repeat(refine zS ?_;intros)
        exact aRetM (rs:=[.tmp 4]) rfl rfl (by exact rfl) (List.nil_sublist _) (arT zv (le_pcc (by omega)) arN) hfin
instance Qxv:TK prog 111 (∀{M M':Nat}{F G:List Int}(_:M≤2000)(_:M'≤2000)(_:F.length≤17)(_:G.length≤17),AC prog 111 [] [pv M F,pv M' G] fun K=> ∀R,QfN F G R→R.length≤17→K [] [pc 70100 R]):=⟨fun hM hM' hF hG=>AC.les (Qvm (Nat.le_refl _) hF hG) (.cons (le_pvv hM) (.cons (le_pvv hM') .nil))⟩
end Go.Proofs.YtjdpemcnlejpfaaGreatDoor
namespace Go.Proofs.YtjdpemcnlejpfaaGreatDoor
open Go.RowKit Go.Gx Go.Am Tryz
theorem QFv{M x y:Nat}{b:Bool}{r:Rat}(h:y=0∧r=0∨y≠0∧((sg b x:Int):Rat)=r*((y:Int):Rat)):(agg [Bo b,num M x,num M y]).le (qv M r):=by
  unfold qv;exact exs_intro (b,x,y) h (le_refl _)
theorem QFt{t:TypeId}{M d:Nat}:(Ob.arr t 1 [Bo false,cnum M d]).le (.arr t 1 (itl M (d:Int))):=ob_eq (by
  have e:decide ((d:Int)<0)=false:=decide_eq_false (by omega)
  unfold itl;rw[e,Int.natAbs_natCast])
set_option maxHeartbeats 1000000 in
instance QFB:TK prog 104 (∀{M Ma:Nat}{F:List Int}{r:Rat}(_:2≤Ma)(_:M+F.length*(Ma+1)+Ma≤1099511)(_:F.length≤1048576),AC prog 104 [] [pv M F,qv Ma r] fun K=> ∀v w:Int,0<w→(v:Rat)=evQ F r*(w:Rat)→K [] [it (M+F.length*(Ma+1)+3) v,it (F.length*(Ma+1)+2) w]):=⟨fun {M Ma F r} hMa hM hF=>by
  refine aEnter func104 rfl ntmps104 rfl fun K C hC hK=> ?_
  have htl:=Xe F
  have hq:=Zt F r
  obtain⟨f,ef⟩: ∃f,Xa F=f:=⟨_,rfl⟩
  rw[ef] at htl hq
  have hm2:=Nat.mul_le_mul_right (Ma+1) htl
  have hmx:max Ma 2=Ma:=by omega
  refine opQ 1 (by exact rfl) fun b x y h=> ?_
  have hN:AC prog 140 [] [agg [Bo b,num Ma x,num Ma y]] fun K=>K [] [qt Ma r]:=AC.les (by have :=QFy.k (M:=Ma) (r:=r) (by omega);rwa [hmx] at this) (.cons (QFv h) .nil)
  repeat(refine zS ?_;intros)
  rw[ef]
  repeat(refine zS ?_;intros)
  rename_i g1 g2 g3 g4 _
  refine aL3 [0,3,4,5,6] (fun(k:Nat) (_ _:Int)=>[(7,I .i64 ((k:Int) -1))]) (fun k v w=>[.arr 25 1 (itl Ma (r.den:Int)),.arr 25 1 (itl ((f.length -k)*(Ma+1)+2) w),.arr 25 1 (itl (M+(f.length -k)*(Ma+1)+3) v),.arr 83 1 [Bo (decide (r.num<0)),cnum Ma r.num.natAbs,cnum Ma r.den]]) (fun k v w=>k≤f.length∧0<w∧(v:Rat)=evQ (f.drop k) r*(w:Rat)∧(k=f.length→v=0)) (fun k _ _=>k) f.length 0 1 ⟨Nat.le_refl _,by decide,by rw[List.drop_length];simp only[evQ];rw[QfJ];grind,fun _=>rfl⟩ (entL (.cons zle .nil) zk (.cons QFt (.cons (ob_i rfl (by omega)) (.cons (ob_i0 rfl) (.cons (ob_refl _) .nil))))) fun k v w ⟨hk,hw,hv,h0⟩=> ?_
  repeat(refine zS ?_;intros)
  refine zB ?_ ?_<;>intro h1
  · have hm:=QjF (a:=Ma+1) (show 0<k by omega) hk
    have hm3:(f.length -(k -1))*(Ma+1)≤f.length*(Ma+1):=Nat.mul_le_mul_right _ (by omega)
    repeat(refine zS ?_;intros)
    refine zB ?_ ?_<;>intro h2
    · have hs:=QEH (w':=w*(r.den:Int)) (QDe r) (by omega) hk hv (.inl ⟨by omega,rfl⟩)
      have hwp:0<w*(r.den:Int):=Int.mul_pos hw (by have :=r.den_pos;omega)
      repeat(refine zS ?_;intros)
      exact ag3 (k -1) _ _ ⟨by omega,hwp,hs,fun h=>by omega⟩ (entL (.cons zle .nil) zk (.cons (ob_refl _) (.cons (ob_i rfl (by omega)) (.cons (ob_i rfl (by omega)) (.cons (ob_refl _) .nil)))))
    · have hs:=QEH (w':=w) (QDe r) (by omega) hk hv (.inr ⟨by omega,rfl,h0 (by omega)⟩)
      repeat(refine zS ?_;intros)
      exact ag3 (k -1) _ _ ⟨by omega,hw,hs,fun h=>by omega⟩ (entL (.cons zle .nil) zk (.cons (ob_refl _) (.cons (ob_i rfl (by omega)) (.cons (ob_i rfl (by omega)) (.cons (ob_refl _) .nil)))))
  · obtain rfl:k=0:=by omega
    rw[List.drop_zero,hq] at hv
    have hm4:(f.length -0)*(Ma+1)=f.length*(Ma+1):=by rw[Nat.sub_zero]
    repeat(refine zS ?_;intros)
    refine aDrT [(2,g2)] [0,1,2,3] (zS ?_)
    refine adEw (q:=1) (js:=[(2,2)]) (by exact rfl) ye (by exact rfl) zg (by kernel_rfl) zjs1 ?_
    repeat(refine zS ?_;intros)
    exact aRet (rs:=[_,_]) rfl rfl (List.nil_sublist _) (arW0 zv 2 rfl rfl (by kernel_rfl) (le_itt (by omega)) (arW0 zv 1 rfl rfl (by kernel_rfl) (le_itt (by omega)) arN)) (hK v w hw hv)⟩
instance c48:TK prog 48 (∀{M Ma:Nat}{F:List Int}{r:Rat}(_:2≤Ma)(_:M+F.length*(Ma+1)+Ma≤1099511)(_:F.length≤1048576),AC prog 48 [] [pv M F,qv Ma r] fun K=>K [] [qt (M+F.length*(Ma+1)+3) (evQ F r)]):=⟨fun {M Ma F r} hMa hM hF=>by
  refine aEnter func48 rfl ntmps48 rfl fun K C hC hK=> ?_
  repeat(refine zS ?_;intros)
  rename_i g1 g2 v w hw h1 s h2 g3
  obtain rfl:=(QEB h1 hw h2 hw).1 rfl
  exact aRet (rs:=[_]) rfl rfl (List.nil_sublist _) zr hK⟩
end Go.Proofs.YtjdpemcnlejpfaaGreatDoor
namespace Go.Proofs.YtjdpemcnlejpfaaGreatDoor
open Go.RowKit Go.Gx Go.Am Tryz
instance c71:TK prog 71 (∀{M M':Nat}{F G:List Int}(_:M≤2000)(_:M'≤2000)(_:F.length≤17)(_:G.length≤17),AC prog 71 [] [pv M F,pv M' G] fun K=> ∀b:Bool,(b=true↔Qem (P F) (P G))→K [] [Bo b]):=⟨fun {M M' F G} hM hM' hF hG=>by
  refine aEnter func71 rfl ntmps71 rfl fun K C hC hK=> ?_
  repeat(refine zS ?_;intros)
  rename_i R hR hl
  repeat(refine zS ?_;intros)
  exact aRet1 rfl zv (hK _ (by rw[decide_eq_true_iff];exact QsC hR rfl)) (le_refl _)⟩
instance c65:TK prog 65 (∀{M:Nat}{F:List Int}(_:M≤1990)(_:F.length≤17),AC prog 65 [] [pv M F] fun K=> ∀b:Bool,(b=true↔Qem (P F) (der (P F)))→K [] [Bo b]):=⟨fun {M F} hM hF=>by
  refine aEnter func65 rfl ntmps65 rfl fun K C hC hK=> ?_
  have hT:=Xe F
  have hd:(Xn (Xa F)).length≤17:=by simp [Xn];omega
  have e:P (Xn (Xa F))=der (P F):=by rw[←QgV,Yf]
  repeat(refine zS ?_;intros)
  rename_i b hb
  rw[e] at hb
  exact aRet1 rfl zv (hK b hb) (le_refl _)⟩
instance Qxw:TK prog 112 (∀{M Mg:Nat}{F G:List Int}(_:F.length≤17)(_:G.length≤17)(_:M≤1048576)(_:Mg≤1048576)(_:Nrm G)(_:P G∣P F),AC prog 112 [] [pv M F,pv Mg G] fun K=> ∀Q,P F=P Q*P G→Q.length=(Xa F).length -((Xa G).length -1)→K [] [pc (M+(Mg+G.length+4)*F.length) Q]):=⟨fun {M Mg F G} hF hG hM hMg hN hd=>by
  refine aEnter func112 rfl ntmps112 rfl fun K C hC hK=> ?_
  have hg0:ldP G≠0:=by have h:=hN.s;omega
  repeat(refine zS ?_;intros)
  refine⟨fun Q hx hl=> ?_,fun hf=>absurd hd (Qgj hN.c hg0 hf)⟩
  repeat(refine zS ?_;intros)
  exact aRet1 rfl zv (hK Q (QP.eq fun x=>by simp only[v_P,Xq];exact hx x) hl) (le_refl _)⟩
theorem hb_lt{p g:List Int}{m:Nat}(hB:HB p m)(hm:m≤BS^17)(hl:ldP p≠0)(hd: ∃W:List Int,P p=P g*P W)(i:Nat):(co g i).natAbs<BS^17:=by
  obtain⟨W,e⟩:=hd
  have h1:=hB g W e i
  rw[Int.natAbs_mul] at h1
  have h2:1≤(ldP p).natAbs:=by omega
  have h3:=Nat.mul_le_mul_right (co g i).natAbs h2
  omega
theorem Qkv{p g:List Int}{m:Nat}(hB:HB p m)(hm:m≤BS^17)(hl:ldP p≠0)(hn:Nrm g)(hd:P g∣P p)(i:Nat):(co g i).natAbs<BS^17:=by
  obtain⟨W,e⟩:=QbR hn.c hd
  exact hb_lt hB hm hl ⟨W,by rw[e,XT]⟩ i
theorem Qe1(F:List Int):(Xn F).length=F.length -1:=by simp [Xn]
instance c95:TK prog 95 (∀{M m:Nat}{F:List Int}(_:M≤1990)(_:F.length≤17)(_:HB (Xr F) m)(_:m≤BS^17),AC prog 95 [] [pv M F] fun K=>(P F=0→K [] [pc 17 []])∧(P F≠0→ ∀R,PartOf F R→R.length≤17→K [] [pc 17 R])):=⟨fun {M m F} hM hF hB hm=>by
  refine aEnter func95 rfl ntmps95 rfl fun K C hC hK=> ?_
  have hT:=Xe F
  repeat(refine zS ?_;intros)
  refine zB ?_ ?_<;>intro h
  · repeat(refine zS ?_;intros)
    exact aRet1 rfl zv (hK.1 (Ya.1 (by rw[Yj];omega))) le_p0
  · have hF0:P F≠0:=QaA (by omega)
    have hpn:Nrm (Xr F):=YD hF0
    have hpl:=Yz F
    have hld:ldP (Xr F)≠0:=by have :=hpn.s;omega
    have htp:=hpn.t
    have hdl:=Qe1 (Xr F)
    repeat(refine zS ?_;intros)
    rw[htp]
    repeat(refine zS ?_;intros)
    rename_i g hg hgl
    have hgn:=Qg8 hpn hg
    have hgd:=hg.q.1
    have hb1:=Qkv hB hm hld hgn hgd
    have hbM:(17+g.length+4)*(Xr F).length≤38*17:=Nat.mul_le_mul (by omega) (by omega)
    refine AL.ent (entSub (s:=13) (a:=pc 17 g) (QcI hb1)) ?_
    repeat(refine zS ?_;intros)
    rename_i Q e hl
    have htr:Xa Q=Q:=Qdm e hpn.ne hl
    have hpo:=Qon hF0 rfl rfl (g:=g) ⟨by rw[Yf];exact hg.q,by rw[QaF];exact hg.c,hg.s,hg.t⟩ e htr
    have hb2:=hb_lt hB hm hld ⟨g,e⟩
    rw[htp] at hl
    repeat(refine zS ?_;intros)
    exact aRet1 rfl zv (hK.2 hF0 Q hpo (by omega)) (QcI hb2)⟩
abbrev fv(D:Nat)(x:List Int×Nat):AV:=agg [pc D x.1,N x.2]
set_option maxHeartbeats 1000000 in
instance c59:TK prog 59 (∀{M m:Nat}{F:List Int}(_:M≤64)(_:F.length≤17)(_:HB (Xr F) m)(_:m≤BS^17),AC prog 59 [] [pv M F] fun K=>(P F=0→K [] [it 0 0,sl 2 []])∧(∀fs,QwY F (Yc F) fs→fs.length≤17→K [] [it (max M 2) (Yc F),sl 2 (fs.map (fv 17))])):=⟨fun {M m F} hM hF hB hm=>by
  refine aEnter func59 rfl ntmps59 rfl fun K C hC hK=> ?_
  have hT:=Xe F
  repeat(refine zS ?_;intros)
  rename_i g2
  refine zB ?_ ?_<;>intro h
  · have hz:P F=0:=Ya.1 (by rw[Yj];omega)
    repeat(refine zS ?_;intros)
    exact aRet (rs:=[_,_]) rfl rfl (List.nil_sublist _) zr (hK.1 hz)
  · have hF0:P F≠0:=QaA (by omega)
    have hpn:Nrm (Xr F):=YD hF0
    have hpl:=Yz F
    have hld:ldP (Xr F)≠0:=by have :=hpn.s;omega
    have htp:=hpn.t
    have hdl:=Qe1 (Xr F)
    repeat(refine zS ?_;intros)
    rename_i sg s1 s2 s3 s4 s5
    refine aJ1 [0,2,3] (fun(_:Unit)=>[]) (fun _=>[(some g2,.arr 25 1 (itl (max M 2) (Yc F)))]) (fun _=>True) ?_ ?_
    · refine zB ?_ ?_<;>intro h2
      · have hu: -((Xy F:Nat):Int)=Yc F:=by unfold Yc;rw[if_pos (by omega)]
        repeat(refine zS ?_;intros)
        exact jd1 () trivial (entL .nil zk (.cons (ob_i hu (by omega)) (HLe.none _)))
      · have hu:((Xy F:Nat):Int)=Yc F:=by unfold Yc;rw[if_neg (by omega)]
        repeat(refine zS ?_;intros)
        exact jd1 () trivial (entL .nil zk (.cons (ob_i hu (by omega)) (HLe.none _)))
    intro _ _
    repeat(refine zS ?_;intros)
    rw[htp]
    repeat(refine zS ?_;intros)
    rename_i g hg hgl
    obtain⟨p,ep⟩: ∃p,Xr F=p:=⟨_,rfl⟩
    rw[ep] at hB hpn hpl hld htp hdl hg
    rw[ep]
    have hgn:=Qg8 hpn hg
    have hgd:=hg.q.1
    have hgd2:=hg.q.2.1
    have hb1:=Qkv hB hm hld hgn hgd
    have hbM:(17+g.length+4)*p.length≤38*17:=Nat.mul_le_mul (by omega) (by omega)
    have hbM2:(17+g.length+4)*(Xn p).length≤38*17:=Nat.mul_le_mul (by omega) (by omega)
    refine AL.ent (entSub (s:=6) (a:=pc 17 g) (QcI hb1)) ?_
    refine AL.ent (entSub (s:=31) (a:=pc 17 g) (QcI hb1)) ?_
    repeat(refine zS ?_;intros)
    rename_i q1 e1 l1 q2 e2 l2
    have tq1:Xa q1=q1:=Qdm e1 hpn.ne l1
    have hq1n:=hpn.quo hgn.s e1 tq1
    have hb2:=hb_lt hB hm hld ⟨g,e1⟩
    have hdt:=Xe (Xn p)
    rw[htp] at l1
    have hq1l:q1.length≤17:=by omega
    have hq2l:q2.length≤17:=by omega
    have hdl1:=Qe1 q1
    repeat(refine zS ?_;intros)
    refine AL.ent (entSub (s:=7) (a:=pc 17 q1) (QcI hb2)) ?_
    rw[tq1]
    repeat(refine zS ?_;intros)
    obtain⟨ot,eot⟩: ∃ot,Xa (XD q2 (Xn q1))=ot:=⟨_,rfl⟩
    rw[eot]
    have tot:Xa ot=ot:=by rw[←eot,XV]
    have hY0:Yun (P p) 1 (P q1) (P ot) (P p):=Yun.start hpn.ne (by have h9:=hg.q;rw[←QgV] at h9;exact h9) e1 (by rw[QgV];exact e2) (by rw[←eot,Yf,Qsi,QgV])
    have hU0:dg (P p)≤17:=by rw[Yj,htp];omega
    refine AW.ent (entGro 101 2) ?_
    refine aLoop [2] (fun x:Option Nat×Nat×List (List Int×Nat)×List Int×List Int×Nat×Nat×QP=>[(3,gh x.1 x.2.2.1.length x.2.1),(7,pc 17 x.2.2.2.1),(8,pc x.2.2.2.2.2.2.1 x.2.2.2.2.1),(9,N x.2.2.2.2.2.1)]) (fun x=>[(x.1,.gro 101 2 (x.2.2.1.map (fv 17)) x.2.1),(some g2,.arr 25 1 (itl (max M 2) (Yc F)))]) (fun x=>Yun (P p) x.2.2.2.2.2.1 (P x.2.2.2.1) (P x.2.2.2.2.1) x.2.2.2.2.2.2.2∧Nrm x.2.2.2.1∧(∃W:List Int,P p=P x.2.2.2.1*P W)∧DL (P p) x.2.2.2.2.2.1 x.2.2.1∧700≤x.2.2.2.2.2.2.1∧x.2.2.2.2.2.2.1+39*dg x.2.2.2.2.2.2.2≤1400∧Xa x.2.2.2.2.1=x.2.2.2.2.1∧1≤x.2.2.2.2.2.1∧x.2.2.1.length+1≤x.2.2.2.2.2.1∧x.2.2.2.2.2.1+dg x.2.2.2.2.2.2.2≤18∧x.2.2.2.1.length≤17) (fun x=>dg x.2.2.2.2.2.2.2) (none,0,[],q1,ot,1,713,P p) ⟨hY0,hq1n,⟨g,e1⟩,DL.nil,by show 700≤713;omega,by show 713+39*dg (P p)≤1400;omega,tot,Nat.le_refl _,Nat.le_refl _,by show 1+dg (P p)≤18;omega,hq1l⟩ (entL (.cons Qas (.cons zle (.cons (le_pcc (by show _≤713;omega)) (.cons zle .nil)))) zk (HLe.refl _)) fun⟨ko,c,fs,rest,oth,e,B,U⟩ ⟨hY,hn,⟨W,hW⟩,hD,hB19,hBU,tO,he1,hfl,heU,hrl⟩=> ?_
    dsimp only at hY hn hW hD hB19 hBU tO he1 hfl heU hrl⊢
    have htn:=hn.t
    have hdgr:dg (P rest)=rest.length:=by rw[Yj,htn]
    have hdgo:=hY.dgo
    have hol:oth.length=dg (P oth):=by rw[Yj,tO]
    repeat(refine zS ?_;intros)
    refine zB ?_ ?_<;>intro h3
    · have hU2:=QpZ hY (by rw[hdgr,←htn];omega)
      repeat(refine zS ?_;intros)
      rename_i G hG hGl
      have hGn:=Qg8 hn hG
      have hGa:=hG.q.1
      have hGb:=hG.q.2.1
      have tGn:=hGn.t
      have hbG:=Qkv hB hm hld hGn (Yq hGa ⟨P W,by rw[hW,XT]⟩)
      have hbM3:(17+G.length+4)*rest.length≤38*17:=Nat.mul_le_mul (by omega) (by omega)
      have hbM4:(17+G.length+4)*oth.length≤38*(dg (P rest) -1):=Nat.mul_le_mul (by omega) (by omega)
      refine AL.ent (entSub (s:=10) (a:=pc 17 G) (QcI hbG)) ?_
      refine AL.ent (entSub (s:=48) (a:=pc 17 G) (QcI hbG)) ?_
      repeat(refine zS ?_;intros)
      rename_i r1 e3 l3 r2 e4 l4
      have tr1:Xa r1=r1:=Qdm e3 hn.ne l3
      have hr1n:=hn.quo hGn.s e3 tr1
      have hb3:=hb_lt (g:=r1) hB hm hld ⟨Xg W G,by rw[hW,e3,Zb,XI,XT (P G)]⟩
      rw[htn] at l3
      rw[tO] at l4
      have hdl2:=Qe1 r1
      have hr2l:r2.length≤17:=by omega
      repeat(refine zS ?_;intros)
      refine AL.ent (entSub (s:=7) (a:=pc 17 r1) (QcI hb3)) ?_
      rw[tr1]
      repeat(refine zS ?_;intros)
      obtain⟨ot2,eot2⟩: ∃ot2,Xa (XD r2 (Xn r1))=ot2:=⟨_,rfl⟩
      rw[eot2]
      have tot2:Xa ot2=ot2:=by rw[←eot2,XV]
      obtain⟨U2,hY2,hdU⟩:=hY.next hG.q e3 e4 (other':=P ot2) (by rw[←eot2,Yf,Qsi,QgV])
      have hGk:=hY.gcd hG.q
      rw[tGn]
      have hr9:2≤dg (P rest):=by rw[hdgr,←htn];omega
      refine zB ?_ ?_<;>intro h4
      · repeat(refine zS ?_;intros)
        rename_i k2 c2
        have hne:=DE.new hY hG.q hGn (by omega) he1
        exact aAgain (k2,c2,fs++[(G,e)],r1,ot2,e+1,B+38*(dg (P rest) -1)+1,U2) ⟨hY2,hr1n,⟨Xg W G,by rw[hW,e3,Zb,XI,XT (P G)]⟩,hD.more hne rfl,by show 700≤B+38*(dg (P rest) -1)+1;omega,by show B+38*(dg (P rest) -1)+1+39*dg U2≤1400;omega,tot2,by show 1≤e+1;omega,by show(fs++[(G,e)]).length+1≤e+1;rw[List.length_append];simp;omega,by show e+1+dg U2≤18;omega,by show r1.length≤17;omega⟩ (by show dg U2<dg U;omega) (entL (.cons (Qcr (by simp)) (.cons zle (.cons (le_pcc (by show _≤B+38*(dg (P rest) -1)+1;omega)) (.cons zle .nil)))) zk (.cons (Qa4 (by rw[List.map_append];rfl)) (HLe.refl _)))
      · repeat(refine zS ?_;intros)
        exact aAgain (ko,c,fs,r1,ot2,e+1,B+38*(dg (P rest) -1)+1,U2) ⟨hY2,hr1n,⟨Xg W G,by rw[hW,e3,Zb,XI,XT (P G)]⟩,hD.skip (by rw[Yj,tGn];omega) hGk.1 hGk.2,by show 700≤B+38*(dg (P rest) -1)+1;omega,by show B+38*(dg (P rest) -1)+1+39*dg U2≤1400;omega,tot2,by show 1≤e+1;omega,by show(fs).length+1≤e+1;omega,by show e+1+dg U2≤18;omega,by show r1.length≤17;omega⟩ (by show dg U2<dg U;omega) (entL (.cons zle (.cons zle (.cons (le_pcc (by show _≤B+38*(dg (P rest) -1)+1;omega)) (.cons zle .nil)))) zk (HLe.refl _))
    · have hfin:QwY F (Yc F) fs:=⟨hF0,rfl,by rw[ep];exact⟨e,hD⟩,by rw[ep];exact hD.prod hpn (hY.done (by rw[hdgr,←htn];omega))⟩
      repeat(refine zS ?_;intros)
      refine AX.ent (entFzG hC (s:=3) (by exact rfl) 0 (by exact rfl) (by simp)) ?_
      exact aRet (rs:=[_,_]) rfl rfl (List.nil_sublist _) zr (hK.2 fs hfin (by omega))⟩
end Go.Proofs.YtjdpemcnlejpfaaGreatDoor
