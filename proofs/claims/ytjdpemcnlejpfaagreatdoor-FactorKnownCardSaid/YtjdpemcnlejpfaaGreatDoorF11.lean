/-
  F11
-/
import Derived.Test.YtjdpemcnlejpfaaGreatDoorF10
set_option linter.all false
namespace Go.Proofs.YtjdpemcnlejpfaaGreatDoor
open Go.RowKit Go.Gx Go.Am Tryz
section
variable{P:Program}{n:Nat}{D:List Deferred}{C:Ctx}{env:Nat→AV}{H:Hp}
theorem Qwg{l Dn p:Nat}{fn:FuncId}{assign body:Code}{e1:Nat→Value}{R':Ending→World→Prop}{D1:List Deferred}{H':Hp}(hH:H=(some l,.raw (.loop (recL D1 n e1 p assign body Dn fn .ready none)))::H')
    (h: ∀RO,Ob.raw (.loop (recL D1 n e1 p assign body Dn fn .busy none))=RO→AW P n D C body (roundPost P l R') env ((some l,RO)::H')):AX n D C (RB P l body R') .normal env H:=axRB hH (h _ rfl)
theorem QgJ{l Dn p:Nat}{fn:FuncId}{assign body:Code}{e1:Nat→Value}{D1:List Deferred}{H' H2:Hp}{RO:Ob}{x:Exit}{K:Hp→List AV→Prop}(j:Option Code)(hx:wayOf x=some j)(hR:Ob.raw (.loop (recL D1 n e1 p assign body Dn fn .busy none))=RO)(hH:H=(some l,RO)::H')(hle:HLe H' H2)
    (k:K ((some l,.raw (.loop (recL D1 n e1 p assign body Dn fn (lst j) j)))::H2) [Bo j.isNone]):AX n D C (roundPost P l (Ret (Post C K))) x env H:=by subst hR;exact axRd j hx hH hle k
end
theorem Qst{size:Nat}:(Qap size fun j=>decide (j<0))=List.replicate size false:=by
  unfold Qap
  rw[List.eq_replicate_iff]
  exact⟨by simp,fun b hb=>by obtain⟨j,_,rfl⟩:=List.mem_map.1 hb;simp⟩
theorem Qss{size k:Nat}(h:k<size):(Qap size fun j=>decide (j<k)).set k true=Qap size fun j=>decide (j<k+1):=by
  unfold Qap
  refine List.ext_getElem? fun i=> ?_
  rw[List.getElem?_set]
  simp only[List.getElem?_map,List.length_map,List.length_range]
  by_cases hi:i<size
  · rw[List.getElem?_range hi]
    by_cases h0:k=i
    · subst h0;rw[if_pos rfl,if_pos h];simp
    · rw[if_neg h0];simp only[Option.map_some];congr 1;simp;omega
  · rw[List.getElem?_eq_none (by simpa using hi)]
    by_cases h0:k=i
    · omega
    · rw[if_neg h0];rfl
def Qj9(φ ψ:Nat→Bool)(k q:Nat):Bool:=if q<k then φ q&&ψ q else φ q
theorem QuE{size k:Nat}{φ ψ:Nat→Bool}(h:k<size){b:Bool}(hb:b=(φ k&&ψ k)):(Qap size (Qj9 φ ψ k)).set k b=Qap size (Qj9 φ ψ (k+1)):=by
  unfold Qap
  refine List.ext_getElem? fun i=> ?_
  rw[List.getElem?_set]
  simp only[List.getElem?_map,List.length_map,List.length_range]
  by_cases hi:i<size
  · rw[List.getElem?_range hi]
    by_cases h0:k=i
    · subst h0;rw[if_pos rfl,if_pos h,hb];simp [Qj9]
    · rw[if_neg h0];simp only[Option.map_some];congr 1;unfold Qj9
      by_cases h2:i<k
      · rw[if_pos h2,if_pos (by omega)]
      · rw[if_neg h2,if_neg (by omega)]
  · rw[List.getElem?_eq_none (by simpa using hi)]
    by_cases h0:k=i
    · omega
    · rw[if_neg h0];rfl
def Qum(f:List Int)(p:Nat)(l:List (List Nat)):Prop:=PrS p∧Qlv p f l∧l.length≤17∧ ∀d∈l,d.length≤32
abbrev ChS:=Nat×List (List Nat)× (Nat→Bool)×Nat
def ChI(f:List Int)(n:Nat)(s:ChS):Prop:=2≤n∧s.2.2.2=QeU (fun p=>decide (Qbx p f)) n∧s.2.2.2<5∧Qbw f s.2.2.1∧(1≤s.2.2.2→Qum f s.1 s.2.1)
def ChF(f:List Int)(s:ChS):Prop:=Qum f s.1 s.2.1∧Qbw f s.2.2.1
theorem ChI.lt{f:List Int}{n B:Nat}{s:ChS}(h:ChI f n s)(h5:5≤QeU (fun p=>decide (Qbx p f)) B):n<B:=by
  apply Nat.lt_of_not_le
  intro hle
  have :=cnt_mono (S:=fun p=>decide (Qbx p f)) hle
  have h2:=h.2.1;have h3:=h.2.2.1
  omega
theorem ChI.skip{f:List Int}{n:Nat}{s:ChS}(h:ChI f n s)(hn:n<4096)(hp: ¬Xk n):ChI f (n+1) s:=by
  obtain⟨h1,h2,h3⟩:=h
  refine⟨by omega,?_,h3⟩
  rw[h2,QeU]
  have :ZN n=false:=Bool.eq_false_iff.2 fun e=>hp ((ZZ hn).1 e)
  rw[this];rfl
theorem ChI.miss{f:List Int}{n:Nat}{s:ChS}(h:ChI f n s)(hs: ¬Qbx n f):ChI f (n+1) s:=by
  obtain⟨h1,h2,h3⟩:=h
  refine⟨by omega,?_,h3⟩
  rw[h2,QeU,decide_eq_false hs,Bool.and_false];rfl
theorem ChI.hit{f:List Int}{n:Nat}{s:ChS}{p:Nat}{l:List (List Nat)}{φ:Nat→Bool}(h:ChI f n s)(hn:n<4096)(hp:Xk n)(hs:Qbx n f)(hφ:Qbw f φ)(hb:Qum f p l)(h5:s.2.2.2+1≠5):ChI f (n+1) (p,l,φ,s.2.2.2+1):=by
  obtain⟨h1,h2,h3,h4⟩:=h
  refine⟨by omega,?_,by show s.2.2.2+1<5;omega,hφ,fun _=>hb⟩
  show s.2.2.2+1=_
  rw[h2,QeU,decide_eq_true hs,(ZZ hn).2 hp];rfl
theorem Qnq{p:Nat}{f:List Int}{l:List (List Nat)}(hp:PrS p)(hs:Qbx p f)(hl:Zv p (Gx.zl (XS p (XO p (XR p f)))) l)(hll:l.length+1≤(XR p f).length): ∀d∈l,d.length≤(XR p f).length:=by
  have hc:=XK (p:=p) (by have :=hp.two;omega) f
  have hm:=(QfB hp.1 hc hs.2).1
  have e:=Qam hp.1 hc
  rw[hc.nrm] at hl
  have :=Qkt hp hm hl (by rw[e];exact hll)
  rwa [e] at this
theorem Qp9{l:List (List Nat)}:els 1 [Qi7 l]:=fun a ha=>by rw[List.mem_singleton.1 ha];exact⟨by rw[sl_sh];rfl,by rw[sl_sh];simp⟩
set_option maxHeartbeats 4000000 in
theorem QnE{f:List Int}(hf:f.length≤17)(hn:Nrm f)(h2:2≤f.length)(h5:5≤QeU (fun p=>decide (Qbx p f)) (Bof f.length)):AC prog 96 [] [pv 17 f] fun K=> ∀p l φ,Qum f p l→Qbw f φ→K [] [W32 p,Qi7 l,sl 1 ((Qap f.length φ).map Bo)]:=by
  refine aEnterM func96 rfl ntmps96 rfl fun K C hC hK=> ?_
  have hB4:=Quu f.length
  have hN:NoF C:=fun b hb=>by rw[hC] at hb;obtain⟨x,hx,_⟩:=hb;cases hx
  obtain⟨n0,hn0⟩: ∃n,f.length=n+1:=⟨f.length -1,by omega⟩
  have htl:(Xa f).length=n0+1:=by rw[hn.t];exact hn0
  repeat(refine zS ?_;intros)
  rw[show((Xa f).length:Int) -1+1=((f.length:Nat):Int) by omega]
  repeat(refine zS ?_;intros)
  rename_i g1 g2 g3 g4 gp
  refine AW.ent (entH (H':=[(some gp,.arr 4 1 ((Qap f.length fun j=>decide (j<0)).map Bo)),(some g4,.arr 130 1 [lsl 1 gp 0 f.length f.length]),(some g3,.arr 129 1 [Qi7 []]),(some g2,.arr 46 1 [W32 0]),(some g1,.arr 30 1 [pv 17 f])]) (.cons (ob_eq (by rw[Qst])) (.cons (ob_refl _) (.cons (ob_arr (.cons le_nil .nil) Qp9) (.cons (ob_refl _) (.cons (ob_refl _) (HLe.none _))))))) ?_
  refine aL1 [1,2,3,4,17] (fun k=>[(18,Am.N k)]) (fun k=>[.arr 4 1 ((Qap f.length fun j=>decide (j<k)).map Bo),.arr 130 1 [lsl 1 gp 0 f.length f.length],.arr 129 1 [Qi7 []],.arr 46 1 [W32 0],.arr 30 1 [pv 17 f]]) (fun k=>k≤f.length) (fun k=>f.length -k) 0 (by omega) (entL (.cons zle .nil) zk (HLe.refl _)) fun k hk=> ?_
  have hbl:(Qap f.length fun j=>decide (j<k)).length=f.length:=Qd4
  repeat(refine zS ?_;intros)
  refine zB ?_ ?_<;>intro h
  · have hset:=Qss (size:=f.length) (k:=k) (by omega)
    repeat(refine zS ?_;intros)
    exact ag1 (k+1) (by omega) (entL (.cons zle .nil) zk (.cons (ob_eq (by rw[←hset])) (HLe.refl _)))
  obtain rfl:k=f.length:=by omega
  repeat(refine zS ?_;intros)
  rename_i g6
  have hone:(Qap f.length fun j=>decide (j<f.length))=Qap f.length fun _=>true:=QcV fun q hq=>decide_eq_true hq
  refine aRange (el:=W32) (E:=fun s n=>Xk n∧ChI f n s) (Ψ:=fun s n kk=>(∀s',ChI f (n+1) s'→kk s' none)∧ ∀s' c,(some c=some (.exit 2)∧ChF f s')→kk s' (some c)) (Fin:=fun s j=>j=some (.exit 2)∧ChF f s) (G:=fun s=>[(some g6,.arr 3 1 [Am.N s.2.2.2]),(some gp,.arr 4 1 ((Qap f.length s.2.2.1).map Bo)),(some g4,.arr 130 1 [lsl 1 gp 0 f.length f.length]),(some g3,.arr 129 1 [Qi7 s.2.1]),(some g2,.arr 46 1 [W32 s.1]),(some g1,.arr 30 1 [pv 17 f])]) (s0:=((0,[],(fun _=>true),0):ChS)) (lb:=[ep (W32 2)]) zle rfl (.cons (ob_refl _) (.cons (ob_eq (by rw[hone])) (HLe.refl _))) ?_ (fun l w1 S1 LO hY=> ?_) ?_
  · intro lx Dn fn e1 s n hE K' C' hC' hK'
    obtain⟨hp,hI⟩:=hE
    have hnB:=hI.lt h5
    have hps:PrS n:=⟨hp,by omega⟩
    have hn1:=hps.two
    have hn2:=hps.lt
    have hn0':0<n:=by omega
    have hrl:=QeC hn0' f
    have htl':=Xe f
    have hnr:XO n (XR n f)=XR n f:=(XK hn0' f).nrm
    have hlf:(XR n f).length≤17:=by omega
    repeat(refine zS ?_;intros)
    refine Qwg rfl fun RO hRO=> ?_
    repeat(refine zS ?_;intros)
    refine zB ?_ ?_<;>intro hs
    · repeat(refine zS ?_;intros)
      exact QgJ none rfl hRO rfl (HLe.refl _) (hK'.1 s (hI.miss hs))
    have hs:Qbx n f:=Classical.not_not.1 hs
    have hsq:(XN n (XO n (XR n f)) (XR n (Xn (Gx.zl (XO n (XR n f)))))).length=1:=by rw[hnr];exact hs.2
    have hpow:n=2∨n^ (((XR n f).length -1)/2+1)≤9223372036854775808:= .inr (Nat.le_trans (Nat.pow_le_pow_right hn0' (by omega)) (Qsd hf hnB))
    repeat(refine zS ?_;intros)
    rename_i l hl hll
    have hF:=Qqg hp hs hl
    have hMon:=Qnq hps hs hl hll
    have hd1: ∀d∈l,d.length≤1000:=fun d hd=>by have :=hMon d hd;omega
    have hmon:=hF.mon
    repeat(refine zS ?_;intros)
    rename_i ψ hψ
    have hposs:=hI.2.2.2.1.and (hF.poss hψ)
    have hbest:Qum f n l:=⟨hps,hF,by omega,fun d hd=>by have :=hMon d hd;omega⟩
    obtain⟨P0,B0,φ,T⟩:=s
    dsimp only at hposs
    have hT5:=hI.2.2.1
    have hT:=hI.2.2.2.2
    have hhit:=fun P1 B1 hb=>hI.hit (φ:=fun q=>φ q&&ψ q) (p:=P1) (l:=B1) (by omega) hp hs hposs hb
    dsimp only at hT5 hT hhit
    have hll:l.length≤17:=hbest.2.2.1
    clear hpow hsq hl hF hMon hd1 hmon hψ hs hI hnB hn0 htl hnr hB4 hrl htl' hlf h5 hK hone hN
    repeat(refine zS ?_;intros)
    refine aL1 [1,2,3,4,6,7,8,10,25,26,45] (fun k=>[(46,Am.N k)]) (fun k=>[RO,.arr 3 1 [Am.N T],.arr 4 1 ((Qap f.length (Qj9 φ ψ k)).map Bo),.arr 130 1 [lsl 1 gp 0 f.length f.length],.arr 129 1 [Qi7 B0],.arr 46 1 [W32 P0],.arr 30 1 [pv 17 f]]) (fun k=>k≤f.length) (fun k=>f.length -k) 0 (by omega) (entL (.cons zle .nil) zk (.cons (ob_refl _) (.cons (ob_refl _) (.cons (ob_eq (by rw[QcV (φ:=Qj9 φ ψ 0) (ψ:=φ) fun q _=>by unfold Qj9;rw[if_neg (by omega)]])) (HLe.refl _))))) fun k hk=> ?_
    have hbl:(Qap f.length (Qj9 φ ψ k)).length=f.length:=Qd4
    have hbl2:(Qap f.length ψ).length=f.length:=Qd4
    repeat(refine zS ?_;intros)
    refine zB ?_ ?_<;>intro h
    · have e1:(Qap f.length (Qj9 φ ψ k)).getD k false=φ k:=by rw[QdB (by omega)];unfold Qj9;rw[if_neg (by omega)]
      have e2:(Qap f.length ψ).getD k false=ψ k:=QdB (by omega)
      have hset: ∀b,b=(φ k&&ψ k)→(Qap f.length (Qj9 φ ψ k)).set k b=Qap f.length (Qj9 φ ψ (k+1)):=fun b hb=>QuE (by omega) hb
      repeat(refine zS ?_;intros)
      rw[e1]
      cases hφk:φ k
      · rw[hφk,Bool.false_and] at hset
        repeat(refine zS ?_;intros)
        exact ag1 (k+1) (by omega) (entL (.cons zle .nil) zk (.cons (ob_refl _) (.cons (ob_refl _) (.cons (ob_eq (by rw[hset _ rfl])) (HLe.refl _)))))
      · rw[hφk,Bool.true_and] at hset
        repeat(refine zS ?_;intros)
        rw[e2]
        repeat(refine zS ?_;intros)
        exact ag1 (k+1) (by omega) (entL (.cons zle .nil) zk (.cons (ob_refl _) (.cons (ob_refl _) (.cons (ob_eq (by rw[hset _ rfl])) (HLe.refl _)))))
    obtain rfl:k=f.length:=by omega
    rw[QcV (φ:=Qj9 φ ψ f.length) (ψ:=fun q=>φ q&&ψ q) fun q hq=>by unfold Qj9;rw[if_pos hq]]
    repeat(refine zS ?_;intros)
    refine zB ?_ ?_<;>intro h6
    · repeat(refine zS ?_;intros)
      refine zB ?_ ?_<;>intro h7<;>repeat(refine zS ?_;intros)
      · exact QgJ (some (.exit 2)) rfl hRO rfl (HLe.refl _) (hK'.2 (n,l,fun q=>φ q&&ψ q,T+1) (.exit 2) ⟨rfl,hbest,hposs⟩)
      · exact QgJ none rfl hRO rfl (HLe.refl _) (hK'.1 (n,l,fun q=>φ q&&ψ q,T+1) (hhit n l hbest (by omega)))
    have hT:=hT (by omega)
    have hB17:B0.length≤17:=hT.2.2.1
    repeat(refine zS ?_;intros)
    refine zB ?_ ?_<;>intro h7<;>repeat(refine zS ?_;intros)
    · refine zB ?_ ?_<;>intro h8<;>repeat(refine zS ?_;intros)
      · exact QgJ (some (.exit 2)) rfl hRO rfl (HLe.refl _) (hK'.2 (n,l,fun q=>φ q&&ψ q,T+1) (.exit 2) ⟨rfl,hbest,hposs⟩)
      · refine zB ?_ ?_<;>intro h9<;>repeat(refine zS ?_;intros)
        · exact QgJ (some (.exit 2)) rfl hRO rfl (HLe.refl _) (hK'.2 (n,l,fun q=>φ q&&ψ q,T+1) (.exit 2) ⟨rfl,hbest,hposs⟩)
        · exact QgJ none rfl hRO rfl (HLe.refl _) (hK'.1 (n,l,fun q=>φ q&&ψ q,T+1) (hhit n l hbest (by omega)))
    · refine zB ?_ ?_<;>intro h8<;>repeat(refine zS ?_;intros)
      · exact QgJ (some (.exit 2)) rfl hRO rfl (HLe.refl _) (hK'.2 (P0,B0,fun q=>φ q&&ψ q,T+1) (.exit 2) ⟨rfl,hT,hposs⟩)
      · refine zB ?_ ?_<;>intro h9<;>repeat(refine zS ?_;intros)
        · exact QgJ (some (.exit 2)) rfl hRO rfl (HLe.refl _) (hK'.2 (P0,B0,fun q=>φ q&&ψ q,T+1) (.exit 2) ⟨rfl,hT,hposs⟩)
        · exact QgJ none rfl hRO rfl (HLe.refl _) (hK'.1 (P0,B0,fun q=>φ q&&ψ q,T+1) (hhit P0 B0 hT (by omega)))
  · have :=QnD LO (ChI f) (fun s j=>j=some (.exit 2)∧ChF f s) (fun n s h hnp=>h.skip (by have :=h.lt h5;omega) hnp) (fun n s h=>by have :=h.lt h5;omega) (fun s n hE=>hY s n hE) (s0:=((0,[],(fun _=>true),0):ChS)) ⟨Nat.le_refl _,rfl,by decide,fun _ _ _=>rfl,fun h=>absurd h (by decide)⟩
    exact this
  · intro Dn s j hj
    obtain⟨rfl,hb,hφ⟩:=hj
    show AT _ _ _ _ _ _ _ _
    repeat(refine zS ?_;intros)
    refine aDrT [(3,g2),(4,g3)] [0,1,2,3,4,5] (zS ?_)
    refine adEw (q:=4) (js:=[(3,5)]) (by exact rfl) ye (by exact rfl) zg (by kernel_rfl) zjs1 ?_
    refine adEw (q:=3) (js:=[(3,5),(4,4)]) (by exact rfl) ye (by exact rfl) zg (by kernel_rfl) zjs ?_
    refine AD.ent (entFzS hN (s:=85) (by exact rfl) 2 (by exact rfl) (by rw[List.length_map];exact Qd4) (a:=sl 1 ((Qap f.length s.2.2.1).map Bo)) (le_refl _)) ?_
    repeat(refine zS ?_;intros)
    exact aRetM (rs:=[_,_,_]) rfl rfl (by exact rfl) (List.nil_sublist _) (arC zv 3 (by exact rfl) (by exact rfl) (by kernel_rfl) (le_refl _) (arC zv 2 (by exact rfl) (by exact rfl) (by kernel_rfl) (le_refl _) (arC zv 1 (by exact rfl) (by exact rfl) (by kernel_rfl) (le_refl _) arN))) (hK _ _ _ hb hφ)
instance c96:TK prog 96 (∀{f:List Int}(_:f.length≤17)(_:Nrm f)(_:2≤f.length)(_:5≤QeU (fun p=>decide (Qbx p f)) (Bof f.length)),AC prog 96 [] [pv 17 f] fun K=> ∀p l φ,Qum f p l→Qbw f φ→K [] [W32 p,Qi7 l,sl 1 ((Qap f.length φ).map Bo)]):=⟨fun hf hn h2 h5=>QnE hf hn h2 h5⟩
end Go.Proofs.YtjdpemcnlejpfaaGreatDoor
