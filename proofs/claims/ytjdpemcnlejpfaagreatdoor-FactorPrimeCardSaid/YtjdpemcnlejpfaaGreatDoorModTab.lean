/-
  ModTab, UniThy, UniThy2
-/
import Derived.Test.YtjdpemcnlejpfaaGreatDoorPrimeTab
import Derived.Test.YtjdpemcnlejpfaaGreatDoorModWalk
import Derived.Test.YtjdpemcnlejpfaaGreatDoorAscThy
set_option linter.all false
namespace Go.Gx
open Go.RowKit
def u8v(x:Nat):Value:= .int .u8 (x:Int)
def Qi4(w:World):Prop:=Rd w (fun b=>b=0) (some ⟨0,0,none⟩) 32 32 1 (QyY.map u8v)
section
variable{w w':World}{G:Nat→Prop}
theorem Qi4.frmB(h:Qi4 w)(f:Frm G w w')(hd: ∀b,b<w.heap.size→b=0→ ¬G b):Qi4 w':=Rd.frmB h f hd
theorem Qi4.t(h:Qi4 w)(f:Frm G w w':=by exact zrd)(hd: ∀b,b<w.heap.size→b=0→ ¬G b:=by exact zq6):Qi4 w':=h.frmB f hd
theorem Qi4.ext(h:Qi4 w)(f:Ext w w'):Qi4 w':=Rd.ext h f
theorem Qi4.lt0(h:Qi4 w):0<w.heap.size:=by
  obtain⟨b,off,_,hb,hl,_⟩:=h.2.2.2 (by omega)
  omega
theorem Qi4.cell{i x:Nat}(h:Qi4 w)(hi:QyY[i]? =some x):w.cell? ⟨0,i,none⟩=some (.int .u8 (x:Int)):=by
  have h1:=Rd.cell h (j:=i) (v:=u8v x) (by simp [hi])
  rw[Nat.zero_add] at h1
  exact h1
end
section
variable{P:Program}{n:Nat}{e:Nat→Value}{w:World}{ty:TypeId}{pos:String}{af:Array Edge}{gd:Option (Nat×Bool)}
end
end Go.Gx
namespace Go.Gx
theorem QqR{F b:List Int}{u:Int}(e:P F=K (u:Rat)*P b)(hb:Nrm b)(hu:u≠0):Yc F=u:=by
  have e1:P F=P (Xf b u):=by rw[e,YF]
  have h1:=Qcd e1
  rw[Qbz,hb.c,Nat.mul_one] at h1
  have h2:=Qcg e1
  rw[Qda] at h2
  have h3:=hb.s
  unfold Yc
  rw[h1]
  by_cases hs:ldP F<0
  · rw[if_pos hs]
    have :u<0:=by
      apply Classical.byContradiction
      intro hx
      have :=Int.mul_nonneg (show 0≤u by omega) (show 0≤ldP b by omega)
      omega
    omega
  · rw[if_neg hs]
    have :0<u:=by
      apply Classical.byContradiction
      intro hx
      have h5:u*ldP b<0:=Int.mul_neg_of_neg_of_pos (by omega) h3
      omega
    omega
theorem Qcx(F G:List Int):P (Xa (Xg F G))=P F*P G:=by rw[Yf,Zb]
theorem Qoz(F G:List Int):Yc (Xa (Xg F G))=Yc F*Yc G:=by
  have e:=Qcx F G
  by_cases hF:P F=0
  · rw[ZY hF,Int.zero_mul]
    exact ZY (by rw[e,hF];exact QP.eq fun x=>by rw[Xq,v_0];grind)
  by_cases hG:P G=0
  · rw[ZY hG,Int.mul_zero]
    exact ZY (by rw[e,hG];exact QP.eq fun x=>by rw[Xq,v_0];grind)
  have a:=Yi ((Xz F).2 hF)
  have b:=Yi ((Xz G).2 hG)
  refine QqR (b:=Xa (Xg (Xr F) (Xr G))) ?_ ((YD hF).mul (YD hG)) (Int.mul_ne_zero a b)
  rw[e,Qcx,QbJ F,QbJ G]
  exact QP.eq fun x=>by simp only[Xq,v_K];rw[Rat.intCast_mul];grind
def QcT:List (List Int×Nat)→Nat
  | []=>0
  |x::l=>x.2+QcT l
theorem QhG: ∀a b:List (List Int×Nat),QcT (a++b)=QcT a+QcT b
  | [],b=>by simp [QcT]
  |x::a,b=>by simp only[List.cons_append,QcT,QhG a b];omega
def Qo6(a:List (List Int×Nat)):List (List Int×Nat)→Nat
  | []=>0
  |x::l=>Zo a x.1+Qo6 a l
theorem Qlh: ∀l,Qo6 [] l=0
  | []=>rfl
  |x::l=>by simp only[Qo6,Qlh l];rfl
theorem Qgr{g:List Int}: ∀{l:List (List Int×Nat)},(∀x∈l,Xa x.1≠Xa g)→Zo l g=0
  | [],_=>rfl
  |x::l,h=>by unfold Zo;rw[if_neg (h x (by simp)),Qgr fun y hy=>h y (by simp [hy])]
theorem QiU{y:List Int×Nat}{a:List (List Int×Nat)}(hy:Zo a y.1=0): ∀{l:List (List Int×Nat)},(l.Pairwise fun u v=>Xa u.1≠Xa v.1)→Qo6 (y::a) l=(if ∃x∈l,Xa x.1=Xa y.1 then y.2 else 0)+Qo6 a l
  | [],_=>by simp [Qo6]
  |x::l,hp=>by
    have⟨p1,p2⟩:=List.pairwise_cons.1 hp
    have ih:=QiU hy p2
    simp only[Qo6]
    rw[ih]
    by_cases e:Xa y.1=Xa x.1
    · have e1:Zo (y::a) x.1=y.2:=by unfold Zo;rw[if_pos e]
      have e2:Zo a x.1=0:=by
        have key: ∀b:List (List Int×Nat),Zo b x.1=Zo b y.1:=by
          intro b
          induction b with
          |nil=>rfl
          |cons u b ih=>unfold Zo;rw[ih,e]
        rw[key,hy]
      have hno: ¬ ∃z∈l,Xa z.1=Xa y.1:=fun⟨z,hz,ez⟩=>p1 z hz (e.symm.trans ez.symm)
      have hyes: ∃z∈x::l,Xa z.1=Xa y.1:=⟨x,by simp,e.symm⟩
      rw[e1,e2,if_neg hno,if_pos hyes]
    · have e1:Zo (y::a) x.1=Zo a x.1:=by conv=>lhs;unfold Zo;rw[if_neg e]
      have e3:(∃z∈x::l,Xa z.1=Xa y.1)↔ ∃z∈l,Xa z.1=Xa y.1:=⟨fun⟨z,hz,ez⟩=>by
        rcases List.mem_cons.1 hz with rfl|hz
        · exact absurd ez.symm e
        · exact⟨z,hz,ez⟩,fun⟨z,hz,ez⟩=>⟨z,by simp [hz],ez⟩⟩
      rw[e1]
      by_cases h: ∃z∈l,Xa z.1=Xa y.1
      · rw[if_pos h,if_pos (e3.2 h)];omega
      · rw[if_neg h,if_neg fun h'=>h (e3.1 h')];omega
theorem QhH{l:List (List Int×Nat)}(hl:l.Pairwise fun u v=>Xa u.1≠Xa v.1): ∀{a:List (List Int×Nat)},(a.Pairwise fun u v=>Xa u.1≠Xa v.1)→(∀y∈a,∃x∈l,Xa x.1=Xa y.1)→Qo6 a l=QcT a
  | [],_,_=>Qlh l
  |y::a,hp,h=>by
    have⟨p1,p2⟩:=List.pairwise_cons.1 hp
    rw[QiU (Qgr fun x hx=>(p1 x hx).symm) hl,if_pos (h y (by simp)),QhH hl p2 fun z hz=>h z (by simp [hz])]
    rfl
theorem Qbb.pw{F:List Int}{fs:List (List Int×Nat)}(h:Qbb F fs):fs.Pairwise fun u v=>Xa u.1≠Xa v.1:=
  List.Pairwise.imp_of_mem (fun {a b} ha hb hab=>by rw[(h.n a ha).t,(h.n b hb).t];exact hab) h.diff
theorem Qqh{F G H:List Int}{a b l:List (List Int×Nat)}(hF:Qbb F a)(hG:Qbb G b)(hl:Qbb H l)(e:P H=P F*P G):(∀y∈l,Zo a y.1+Zo b y.1=y.2)∧QcT l=QcT a+QcT b:=by
  have h1: ∀y∈l,Zo a y.1+Zo b y.1=y.2:=fun y hy=>by
    have hi:=hl.irr y hy
    rw[hF.mult (hl.n y hy) hi,hG.mult (hl.n y hy) hi,←Qaz hi hF.ne hG.ne,←e]
    exact hl.v y hy
  have h2: ∀{A:List Int}{c:List (List Int×Nat)},Qbb A c→P A∣P H→ ∀y∈c,∃x∈l,Xa x.1=Xa y.1:=fun {A c} hA hd y hy=>by
    have hi:=hA.irr y hy
    have hv:=hA.v y hy
    have hk:=hA.k1 y hy
    obtain⟨x,hx,hxd⟩:=hl.all _ hi (Yq ((XM hi hA.ne).2 (by omega)) hd)
    exact⟨x,hx,by rw[ZX (hl.n x hx) (hA.n y hy) (hl.irr x hx) hi hxd]⟩
  have hFd:P F∣P H:=by rw[e];exact Qdl _ (XL _)
  have hGd:P G∣P H:=by rw[e];exact XJ _ (XL _)
  have h3:=QhH hl.pw hF.pw (h2 hF hFd)
  have h4:=QhH hl.pw hG.pw (h2 hG hGd)
  refine⟨h1,?_⟩
  rw[←h3,←h4]
  have key: ∀m:List (List Int×Nat),(∀y∈m,Zo a y.1+Zo b y.1=y.2)→QcT m=Qo6 a m+Qo6 b m:=by
    intro m
    induction m with
    |nil=>intro _;rfl
    |cons x m ih=>
      intro h
      have :=h x (by simp)
      have :=ih fun y hy=>h y (by simp [hy])
      simp only[QcT,Qo6];omega
  exact key l h1
theorem Qbb.le{F:List Int}{fs:List (List Int×Nat)}(h:Qbb F fs): ∀x∈fs,x.2+1≤(Xa F).length∧x.1.length≤(Xa F).length∧2≤x.1.length:=fun x hx=>by
  have h1:=QfZ (h.irr x hx) h.ne
  have hv:=h.v x hx
  have hk:=h.k1 x hx
  have h2:=Qaj ((XM (h.irr x hx) h.ne).2 (by omega)) h.ne
  rw[Yj] at h1
  rw[Yj,Yj,(h.n x hx).t] at h2
  exact⟨by omega,h2,Qjy (h.n x hx) (h.irr x hx)⟩
theorem QfC{l:List (List Int×Nat)}{k:Nat}(h:k<l.length):QcT (l.take (k+1))=QcT (l.take k)+(l.getD k ([],0)).2:=by
  rw[List.take_add_one,List.getElem?_eq_getElem h,QhG]
  simp [QcT,List.getD,h]
theorem Qo5{B:Nat}: ∀{l:List (List Int×Nat)},(∀x∈l,x.2≤B)→QcT l≤l.length*B
  | [],_=>Nat.zero_le _
  |x::l,h=>by
    have :=h x (by simp)
    have :=Qo5 fun y hy=>h y (List.mem_cons_of_mem x hy)
    simp only[QcT,List.length_cons,Nat.succ_mul];omega
theorem Qb5{l:List (List Int×Nat)}(k:Nat):QcT (l.take k)≤QcT l:=by
  conv=>rhs;rw[←List.take_append_drop k l,QhG]
  omega
theorem QlS{c:Int}{F:List Int}{a b:List (List Int×Nat)}(ha:Qbb F a)(hb:Qbb (shZ c F) b):(∀x∈a,Zo b (shZ c x.1)=x.2)∧a.length=b.length:=by
  have hv: ∀{c:Int}{F G:List Int}{a b:List (List Int×Nat)},Shd c (P F) (P G)→Qbb F a→Qbb G b→ ∀x∈a,(shZ c x.1,x.2)∈b:=fun {c F G a b} hs ha hb x hx=>by
    have hi:=ha.irr x hx
    have hx1:=Shd.Z c x.1
    have h1:=hx1.va hs hi ha.ne
    rw[ha.v x hx] at h1
    have hk:=ha.k1 x hx
    have hi':=hx1.irr hi
    have hn':=QvV c (ha.n x hx)
    obtain⟨y,hy,hd⟩:=hb.all _ hi' ((XM hi' hb.ne).2 (by omega))
    have e:=ZX (hb.n y hy) hn' (hb.irr y hy) hi' hd
    have h2:=hb.v y hy
    rw[e,h1] at h2
    rw[show((shZ c x.1,x.2):List Int×Nat)=y from Prod.ext e.symm h2]
    exact hy
  have h1:=hv (Shd.Z c F) ha hb
  refine⟨fun x hx=> ?_,?_⟩
  · have hm:=h1 x hx
    have hi:=hb.irr _ hm
    rw[hb.mult (hb.n _ hm) hi]
    exact hb.v _ hm
  · have h2:=hv (Shd.Z c F).back hb ha
    have n1: ∀{F:List Int}{l:List (List Int×Nat)},Qbb F l→l.Nodup:=fun h=>List.Pairwise.imp (fun {a b} hab e=>hab (by rw[e])) h.diff
    have inj: ∀{c:Int}{F:List Int}{l:List (List Int×Nat)},Qbb F l→(l.map fun x=>(shZ c x.1,x.2)).Nodup:=fun {c F l} h=>by
      refine List.pairwise_map.2 (List.Pairwise.imp_of_mem (fun {u v} hu hv huv e=>huv ?_) h.diff)
      have e1:shZ c u.1=shZ c v.1:=congrArg Prod.fst e
      have e2:=congrArg (fun z=>P (shZ (-c) z)) e1
      simp only[QjU] at e2
      have e3:=QfO e2
      rw[(h.n u hu).t,(h.n v hv).t] at e3
      exact e3
    have l1:(a.map fun x=>(shZ c x.1,x.2)).length≤b.length:=(inj ha).length_le_of_subset fun y hy=>by
      obtain⟨x,hx,rfl⟩:=List.mem_map.1 hy;exact h1 x hx
    have l2:(b.map fun x=>(shZ (-c) x.1,x.2)).length≤a.length:=(inj hb).length_le_of_subset fun y hy=>by
      obtain⟨x,hx,rfl⟩:=List.mem_map.1 hy;exact h2 x hx
    rw[List.length_map] at l1 l2
    omega
end Go.Gx
namespace Go.Gx
theorem Qeb{f:QP}(h:f=0): ¬Qem f (der f):=fun⟨u,v,e⟩=>by
  have hd:der f=0:=by
    rw[h]
    have :=QuL 0
    rw[show(K 0:QP)=0 from QP.eq fun x=>by rw[v_K,v_0]] at this
    exact this
  rw[h] at e hd
  rw[hd] at e
  have h1:=congrArg (fun q:QP=>q.v 0) e
  simp only[Zy,Xq,v_0,v_1] at h1
  have :(1:Rat)=0:=by rw[h1];grind
  exact absurd this (by decide)
theorem Qo3{F:List Int}:Qem (P F) (der (P F))↔(Xa F).length=1∨2≤(Xa F).length∧Qem (P F) (der (P F)):=by
  refine⟨fun h=> ?_,fun h=> ?_⟩
  · rcases Nat.lt_or_ge (Xa F).length 2 with h2|h2
    · left
      rcases Nat.eq_zero_or_pos (Xa F).length with h0|h0
      · exact absurd h (Qeb (by rw[←Ya,Yj,h0]))
      · omega
    · exact .inr ⟨h2,h⟩
  · rcases h with h|h
    · have hF:P F≠0:=QaA (by omega)
      exact(Qav hF).2 fun π hπ=>by have :=QfZ hπ hF;rw[Yj] at this;omega
    · exact h.2
theorem QiA: ∀l:List (List Int),ZO (l.map fun g=>(g,1))=P (pL l)
  | []=>Qcw.symm
  |a::l=>by
    show P a^1*ZO (l.map fun g=>(g,1))=_
    rw[QiA l,XY,Qcj]
theorem Qrb{F:List Int}{l:List (List Int)}(hF:P F≠0)(hq:Qem (P F) (der (P F)))(hl:QgG (Xr F) l)(hs:l.Pairwise fun x y=> ¬Qbv (Xa y) (Xa x)<0):Qbb F (l.map fun g=>(g,1)):=by
  have hnd:=hl.nodup fun π hπ=>by rw[QcP hπ hF];exact(Qav hF).1 hq π hπ
  refine Qns (u:=Yc F) (fun x hx=> ?_) (fun x hx=> ?_) (fun x hx=> ?_) ?_ (Yi ((Xz F).2 hF)) ?_
  · obtain⟨g,hg,rfl⟩:=List.mem_map.1 hx;exact hl.n g hg
  · obtain⟨g,hg,rfl⟩:=List.mem_map.1 hx;exact hl.irr g hg
  · obtain⟨g,hg,rfl⟩:=List.mem_map.1 hx;exact Nat.le_refl _
  · refine List.pairwise_map.2 (List.Pairwise.imp_of_mem (fun {a b} ha hb hab=> ?_) (hs.and hnd))
    obtain⟨h1,h2⟩:=hab
    rw[(hl.n a ha).t,(hl.n b hb).t] at h1
    have h3:=Qbe a b
    have h4:Qbv a b≠0:=fun h5=>h2 (Qag.1 h5)
    show Qbv a b<0
    omega
  · rw[QiA,hl.prod];exact QbJ F
theorem Qgu(x:List Int×Nat): ∀l:List (List Int×Nat),ZO (l++[x])=ZO l*P x.1^x.2
  | []=>by show P x.1^x.2*1=1*P x.1^x.2;rw[XT]
  |y::l=>by
    show P y.1^y.2*ZO (l++[x])=P y.1^y.2*ZO l*P x.1^x.2
    rw[Qgu x l,XI]
theorem QkZ: ∀{l:List (List Int×Nat)},(∀x∈l,Nrm x.1∧Irr (P x.1)∧1≤x.2)→l.length+1≤dg (ZO l)
  | [],_=>by
    have :(1:QP)≠0:=QkP
    have :=XF.1 this
    show 0+1≤dg (1:QP);omega
  |x::l,h=>by
    have ih:=QkZ fun y hy=>h y (List.mem_cons_of_mem x hy)
    have⟨hn,hi,hk⟩:=h x (by simp)
    obtain⟨b,hb,e⟩:=QbZ fun y hy=>(h y (List.mem_cons_of_mem x hy)).1
    have hb0:ZO l≠0:=by rw[←e];exact hb.ne
    have hp0:P x.1^x.2≠0:=ZP hn.ne _
    have h1:=Zd hp0 hb0
    have h2:dg (P x.1)≤dg (P x.1^x.2):=Qaj ((XM hi hp0).2 (by rw[QgC hi hn.ne,QdP hi hi (XL _)];omega)) hp0
    have h3:=hi.1
    show(x::l).length+1≤dg (P x.1^x.2*ZO l)
    simp only[List.length_cons]
    omega
theorem Qbb.len{F:List Int}{fs:List (List Int×Nat)}(h:Qbb F fs):fs.length+1≤(Xa F).length:=by
  have h1:=QkZ fun x hx=>⟨h.n x hx,h.irr x hx,h.k1 x hx⟩
  rw[h.prod,Yj,QaS,Yz] at h1
  exact h1
theorem Qbb.whole{F X:List Int}{fs:List (List Int×Nat)}(h:Qbb F fs)(e:P X=K (Yc F:Rat)*ZO fs):Xa X=Xa F:=QfO (by rw[e,h.prod];exact(QbJ F).symm)
theorem Qoa{H:Nat}: ∀{F:List Int},(∀x∈F,x.natAbs≤H)→nrm F≤F.length*H
  | [],_=>by simp [nrm]
  |a::l,h=>by
    have :=Qoa fun x hx=>h x (List.mem_cons_of_mem a hx)
    have :=h a (by simp)
    rw[Qad,List.length_cons,Nat.succ_mul];omega
theorem Qto{F:List Int}{n H:Nat}(hl:F.length≤n)(h: ∀x∈F,x.natAbs≤H):nrm F≤n*H:=Nat.le_trans (Qoa h) (Nat.mul_le_mul_right H hl)
theorem Qis(c:Int): ∀l:List Int,nrm (Yw [c,1] l)≤nrm l*(c.natAbs+1)^l.length
  | []=>by simp [Yw,nrm]
  |a::l=>by
    have ih:=Qis c l
    have h1:=Qhj (Xg (Yw [c,1] l) [c,1]) [a]
    have h2:=Qhk (Yw [c,1] l) [c,1]
    have h3:nrm [c,1]=c.natAbs+1:=by simp [nrm]
    have h4:nrm [a]=a.natAbs:=by simp [nrm]
    rw[h3] at h2
    rw[h4] at h1
    have h5:=Nat.mul_le_mul_right (c.natAbs+1) ih
    have h6:a.natAbs≤a.natAbs*(c.natAbs+1)^ (l.length+1):=Nat.le_mul_of_pos_right _ (Nat.pow_pos (by omega))
    show nrm (Xx (Xg (Yw [c,1] l) [c,1]) [a])≤(a.natAbs+nrm l)*(c.natAbs+1)^ (l.length+1)
    have h7:(c.natAbs+1)^ (l.length+1)=(c.natAbs+1)^l.length*(c.natAbs+1):=Nat.pow_succ ..
    rw[Nat.add_mul]
    rw[h7] at h6⊢
    rw[Nat.mul_assoc] at h5
    omega
end Go.Gx
