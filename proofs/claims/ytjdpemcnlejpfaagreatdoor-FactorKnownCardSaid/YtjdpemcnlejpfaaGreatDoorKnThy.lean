/-
  KnThy, KnThy2
-/
import Derived.Test.YtjdpemcnlejpfaaGreatDoorAscThy
import Derived.Test.YtjdpemcnlejpfaaGreatDoorModTab
set_option linter.all false
namespace Go.Gx
theorem QvK:Xk 5:=⟨by decide,fun a h0 h1=>by
  have :a=1∨a=2∨a=3∨a=4:=by omega
  rcases this with rfl|rfl|rfl|rfl<;>decide⟩
theorem Qxj{a:List Int}(h:a.length=2): ∃x y,a=[x,y]:=by
  match a,h with
  | [x,y],_=>exact⟨x,y,rfl⟩
theorem Qw5{a:List Int}(h:a.length=3): ∃x y z,a=[x,y,z]:=by
  match a,h with
  | [x,y,z],_=>exact⟨x,y,z,rfl⟩
theorem QiS{f a b:List Int}(hf:Nrm f)(ha:Nrm a)(hb:Nrm b)(e:P f=P a*P b):a.length+b.length=f.length+1:=by
  have :=Zd ha.ne hb.ne
  rw[←e,Yj,Yj,Yj,hf.t,ha.t,hb.t] at this
  omega
theorem QeI{a b:Int}(h:a*b=1):a=1∧b=1∨a= -1∧b= -1:=by
  have h1:a.natAbs*b.natAbs=1:=by rw[←Int.natAbs_mul,h];rfl
  have h2:a.natAbs=1:=Nat.eq_one_of_dvd_one ⟨_,h1.symm⟩
  have h3:b.natAbs=1:=Nat.eq_one_of_dvd_one ⟨_,(Nat.mul_comm .. ▸h1:b.natAbs*a.natAbs=1).symm⟩
  have h4:a=1∨a= -1:=by omega
  have h5:b=1∨b= -1:=by omega
  rcases h4 with rfl|rfl<;>rcases h5 with rfl|rfl<;>simp at h⊢
theorem QkI{f a b:List Int}{n:Nat}(ha:a.length=2)(e: ∀i,co f i=co (Xg a b) i)(hn:b.length=n)(h0:co f 0=1)(hl:co f n=1)(hb:0<n)(h1:evI f 1≠0)(h2:evI f (-1)≠0)(hv: ∀x,evI f x=evI a x*evI b x):False:=by
  obtain⟨x,y,rfl⟩:=Qxj ha
  have e0:=e 0
  have en:=e n
  have c0:co (Xg [x,y] b) 0=x*co b 0:=by
    rw[Qah,Xv,Xi];simp [co,Int.mul_comm]
  have cn:co (Xg [x,y] b) n=y*co b (n -1):=by
    obtain⟨m,rfl⟩: ∃m,n=m+1:=⟨n -1,by omega⟩
    rw[Qah,Xv,Xi,XX (by omega)]
    have :co (0::Xg [y] b) (m+1)=co (Xg [y] b) m:=by simp [co]
    rw[this,Qah,Xv,Xi]
    have :co (0::Xg [] b) m=0:=by
      have :Xg [] b=[]:=by simp [Xg]
      rw[this];cases m<;>simp [co]
    rw[this,Nat.add_sub_cancel,Int.mul_comm y];omega
  rw[c0,h0] at e0
  rw[cn,hl] at en
  have u0:=QeI e0.symm
  have un:=QeI en.symm
  have w1:=hv 1
  have w2:=hv (-1)
  have k1:evI [x,y] 1=x+y:=by simp [evI]
  have k2:evI [x,y] (-1)=x -y:=by simp [evI];omega
  rw[k1] at w1
  rw[k2] at w2
  have a1:x+y≠0:=fun h=>h1 (by rw[w1,h,Int.zero_mul])
  have a2:x -y≠0:=fun h=>h2 (by rw[w2,h,Int.zero_mul])
  omega
theorem Qec(a b:List Int)(i:Nat):co (Xg a b) i=co (Xg b a) i:=QgE (by rw[Zb,Zb,XT]) i
theorem Qs9:Irr (P [1,-1,0,1]):=by
  apply Classical.byContradiction
  intro hn
  have hf:Nrm [1,-1,0,1]:=⟨by decide,by decide,by decide⟩
  obtain⟨a,b,ha,hb,e,la,lb⟩:=Qbo hf (by decide) hn
  have hl:=QiS hf ha hb e
  have ec: ∀i,co [1,-1,0,1] i=co (Xg a b) i:=QgE (by rw[Zb];exact e)
  have hv:=Qe8 e
  have hl:a.length+b.length=5:=hl
  have :a.length=2∧b.length=3∨b.length=2∧a.length=3:=by omega
  rcases this with⟨l1,l2⟩| ⟨l1,l2⟩
  · exact QkI l1 ec l2 rfl rfl (by decide) (by decide) (by decide) hv
  · exact QkI l1 (fun i=>(ec i).trans (Qec a b i)) l2 rfl rfl (by decide) (by decide) (by decide) fun x=>by rw[hv x,Int.mul_comm]
theorem Qgz{a n:Int}(k:Nat)(h1:(k:Int)*k<n)(h2:n<((k:Int)+1)*(k+1)):a*a≠n:=fun h=>by
  have e:a*a=(a.natAbs:Int)*a.natAbs:=(Int.natAbs_mul_self' a).symm
  rw[e] at h
  rcases Nat.lt_or_ge k a.natAbs with hk|hk
  · have :=Int.mul_le_mul (show((k:Int)+1)≤a.natAbs by omega) (show((k:Int)+1)≤a.natAbs by omega) (by omega) (by omega)
    omega
  · have :=Int.mul_le_mul (show(a.natAbs:Int)≤k by omega) (show(a.natAbs:Int)≤k by omega) (by omega) (by omega)
    omega
theorem Qvl:Irr (P [1,0,-10,0,1]):=by
  apply Classical.byContradiction
  intro hn
  have hf:Nrm [1,0,-10,0,1]:=⟨by decide,by decide,by decide⟩
  obtain⟨a,b,ha,hb,e,la,lb⟩:=Qbo hf (by decide) hn
  have hl:a.length+b.length=6:=QiS hf ha hb e
  have ec: ∀i,co [1,0,-10,0,1] i=co (Xg a b) i:=QgE (by rw[Zb];exact e)
  have hv:=Qe8 e
  have :a.length=2∧b.length=4∨b.length=2∧a.length=4∨a.length=3∧b.length=3:=by omega
  rcases this with⟨l1,l2⟩| ⟨l1,l2⟩| ⟨l1,l2⟩
  · exact QkI l1 ec l2 rfl rfl (by decide) (by decide) (by decide) hv
  · exact QkI l1 (fun i=>(ec i).trans (Qec a b i)) l2 rfl rfl (by decide) (by decide) (by decide) fun x=>by rw[hv x,Int.mul_comm]
  · obtain⟨x,y,z,rfl⟩:=Qw5 l1
    obtain⟨u,v,w,rfl⟩:=Qw5 l2
    have v0:=hv 0
    have v1:=hv 1
    have v2:=hv (-1)
    have v3:=hv 2
    have v4:=hv (-2)
    simp only[evI] at v0 v1 v2 v3 v4
    have q0:x*u=1:=by have :=v0;simp at this;omega
    have q4:z*w=1:=by grind
    have q2:x*w+y*v+z*u= -10:=by grind
    have q3:y*w+z*v=0:=by grind
    rcases QeI q0 with⟨rfl,rfl⟩| ⟨rfl,rfl⟩<;>rcases QeI q4 with⟨rfl,rfl⟩| ⟨rfl,rfl⟩
    · have :v= -y:=by omega
      subst this
      have :y*y=12:=by grind
      exact Qgz 3 (by decide) (by decide) this
    · have :v= -y:=by omega
      subst this
      have :y*y=8:=by grind
      exact Qgz 2 (by decide) (by decide) this
    · have :v= -y:=by omega
      subst this
      have :y*y=8:=by grind
      exact Qgz 2 (by decide) (by decide) this
    · have :v= -y:=by omega
      subst this
      have :y*y=12:=by grind
      exact Qgz 3 (by decide) (by decide) this
theorem Qs8:Irr (P [1,1,1,1,1]):=by
  have h:Shd 1 (P [1,1,1,1,1]) (P [5,10,10,5,1]):=fun x=>by
    rw[v_P,v_P]
    simp only[evQ,Yt]
    have e5:((5:Int):Rat)=5:=rfl
    have e10:((10:Int):Rat)=10:=rfl
    rw[e5,e10]
    grind
  refine h.back.irr ?_
  refine Qp8 (n:=4) QvK (by decide) (by decide) (by decide) (fun i hi=> ?_) (by decide)
  match i,hi with
  |0,_=>decide
  |1,_=>decide
  |2,_=>decide
  |3,_=>decide
theorem Qvk:Irr (P [-2,0,0,1]):=by
  refine Qp8 (n:=3) Qr3 (by decide) (by decide) (by decide) (fun i hi=> ?_) (by decide)
  match i,hi with
  |0,_=>decide
  |1,_=>decide
  |2,_=>decide
theorem Qn6{n:Int}(h:n<0): ¬ ∃t:Int,t*t=n:=fun⟨t,e⟩=>by
  have :0≤t*t:=by rcases Int.le_total 0 t with h|h;exact Int.mul_nonneg h h;exact Int.mul_nonneg_of_nonpos_of_nonpos h h
  omega
def knL:List (List Int):=[[0,1],[1,1],[-1,1],[-3,2],[1,0,1],[1,1,1],[-2,0,1],[-2,0,0,1],[1,0,0,0,1],[1,0,-10,0,1],[1,1,1,1,1],[-1,-1,1],[7,0,3],[5,2],[1,-1,0,1],[-1000003,1]]
theorem Qw3(i:Nat)(h:i<16):Irr (P (knL.getD i [])):=by
  match i,h with
  |0,_=>exact QbV (by rw[Yj];decide)
  |1,_=>exact QbV (by rw[Yj];decide)
  |2,_=>exact QbV (by rw[Yj];decide)
  |3,_=>exact QbV (by rw[Yj];decide)
  |4,_=>exact Qc9 (c0:=1) (c1:=0) (c2:=1) (by decide) (Qn6 (by decide))
  |5,_=>exact Qc9 (c0:=1) (c1:=1) (c2:=1) (by decide) (Qn6 (by decide))
  |6,_=>exact Qc9 (c0:= -2) (c1:=0) (c2:=1) (by decide) fun⟨t,e⟩=>Qgz (a:=t) (n:=8) 2 (by decide) (by decide) e
  |7,_=>exact Qvk
  |8,_=>exact QrN
  |9,_=>exact Qvl
  |10,_=>exact Qs8
  |11,_=>exact Qc9 (c0:= -1) (c1:= -1) (c2:=1) (by decide) fun⟨t,e⟩=>Qgz (a:=t) (n:=5) 2 (by decide) (by decide) e
  |12,_=>exact Qc9 (c0:=7) (c1:=0) (c2:=3) (by decide) (Qn6 (by decide))
  |13,_=>exact QbV (by rw[Yj];decide)
  |14,_=>exact Qs9
  |15,_=>exact QbV (by rw[Yj];decide)
  |i+16,h=>exact absurd h (by omega)
theorem Qw4(i:Nat)(h:i<16):Nrm (knL.getD i []):=by
  have : ∀i,i<16→Xy (knL.getD i [])=1∧0<ldP (knL.getD i [])∧Xa (knL.getD i [])=knL.getD i []:=by decide
  obtain⟨h1,h2,h3⟩:=this i h
  exact⟨h1,h2,h3⟩
theorem QB9: ∀i,i<16→ ∀j,j<16→knL.getD i []=knL.getD j []→i=j:=by decide
end Go.Gx
namespace Go.Gx
abbrev kn(i:Nat):List Int:=knL.getD i []
def pK(M:List Nat):List Int:=pL (M.map kn)
theorem QBs(i:Nat)(M:List Nat):P (pK (i::M))=P (kn i)*P (pK M):=XY _ _
theorem QBu:P (pK [])=1:=Qcw
theorem QBK: ∀{M:List Nat},(∀i∈M,i<16)→P (pK M)≠0
  | [],_=>by rw[QBu];exact QkP
  |i::M,h=>by rw[QBs];exact QaT (Qw4 i (h i (by simp))).ne (QBK fun j hj=>h j (by simp [hj]))
theorem QCb: ∀{M:List Nat},(∀i∈M,i<16)→ ∃b,Nrm b∧P b=P (pK M)
  | [],_=>⟨[1],Nrm.one,rfl⟩
  |i::M,h=>by
    obtain⟨b,hb,e⟩:=QCb (M:=M) fun j hj=>h j (by simp [hj])
    exact⟨Xa (Xg (kn i) b),(Qw4 i (h i (by simp))).mul hb,by rw[Yf,Zb,e,QBs]⟩
theorem QCn{i j:Nat}(hi:i<16)(hj:j<16):va (P (kn i)) (P (kn j))=if i=j then 1 else 0:=by
  split
  · rename_i h;subst h;exact QdP (Qw3 i hi) (Qw3 i hi) (XL _)
  · rename_i h
    have : ¬P (kn i)∣P (kn j):=fun hd=>h (QB9 i hi j hj (ZX (Qw4 i hi) (Qw4 j hj) (Qw3 i hi) (Qw3 j hj) hd))
    have h9: ¬1≤va (P (kn i)) (P (kn j)):=mt (XM (Qw3 i hi) (Qw4 j hj).ne).2 this
    omega
theorem QCg{i:Nat}(hi:i<16): ∀{M:List Nat},(∀j∈M,j<16)→va (P (kn i)) (P (pK M))=M.count i
  | [],_=>by rw[QBu];exact Qv2 (Qw3 i hi) (r:=1) (by decide)
  |j::M,h=>by
    have h': ∀j∈M,j<16:=fun k hk=>h k (by simp [hk])
    rw[QBs,Qaz (Qw3 i hi) (Qw4 j (h j (by simp))).ne (QBK h'),QCg hi h',QCn hi (h j (by simp)),List.count_cons]
    by_cases e:i=j
    · subst e;simp;omega
    · have :(j==i)=false:=by simp;exact fun h=>e h.symm
      rw[if_neg e,this];simp
theorem QB4{π:QP}(hπ:Irr π){M:List Nat}(h:π∣P (pK M)): ∃j∈M,π∣P (kn j):=by
  obtain⟨g,hg,hd⟩:=QrX hπ h
  obtain⟨j,hj,rfl⟩:=List.mem_map.1 hg
  exact⟨j,hj,hd⟩
theorem QCi: ∀{M:List Nat},(∀i∈M,i<16)→M.length+1≤dg (P (pK M))
  | [],_=>by rw[QBu];have :=XF.1 QkP;simp;omega
  |i::M,h=>by
    have h': ∀j∈M,j<16:=fun k hk=>h k (by simp [hk])
    have h1:dg (P (kn i)*P (pK M))+1=dg (P (kn i))+dg (P (pK M)):=Zd (Qw4 i (h i (by simp))).ne (QBK h')
    rw[←QBs] at h1
    have h2:=QCi h'
    have h3:2≤dg (P (kn i)):=(Qw3 i (h i (by simp))).1
    simp only[List.length_cons];omega
theorem QCo{c:Rat}(h:c≠0):K (1/c)*K c=1:=QP.eq fun x=>by simp only[Xq,v_K,v_1];grind
theorem ppK:2^1380<ppN 1024:=by decide+kernel
theorem QCp{f:List Int}(h2:2≤(Xa f).length)(hl:(Xa f).length≤11)(hs:Qem (P f) (der (P f)))(ha: ∀i,(co f i).natAbs≤2^56):5≤QeU (fun p=>decide (Qbx p f)) 1024:=by
  refine Qs5 (C:=2^56) (H:=10*2^56) (N:=19) h2 (by omega) hs (by decide+kernel) ha (QpX ha hl) (by decide+kernel) (by decide) (by decide) (Nat.lt_trans ?_ ppK)
  decide+kernel
section
variable{X:List Int}{M:List Nat}{u:Int}
theorem QBW(hu:u≠0)(hM: ∀i∈M,i<16)(e:P X=K (u:Rat)*P (pK M)):Yc X=u:=by
  obtain⟨b,hb,eb⟩:=QCb hM
  exact QqR (b:=b) (by rw[e,eb]) hb hu
theorem QBL(hu:u≠0)(hM: ∀i∈M,i<16)(e:P X=K (u:Rat)*P (pK M)):P X≠0:=by
  rw[e];exact QaT (Qpv (XC hu)) (QBK hM)
theorem QBA(hu:u≠0)(hM: ∀i∈M,i<16)(e:P X=K (u:Rat)*P (pK M)){i:Nat}(hi:i<16):va (P (kn i)) (P X)=M.count i:=by
  rw[e,Qj4 (Qw3 i hi) (XC hu) (QBK hM),QCg hi hM]
theorem QBE(hu:u≠0)(hM: ∀i∈M,i<16)(e:P X=K (u:Rat)*P (pK M)){got:List (List Int×Nat)}(h:Qbb X got): ∀x∈got,∃i,i<16∧0<M.count i∧x.1=kn i:=fun x hx=>by
  have hi:=h.irr x hx
  have hv:=h.v x hx
  have hk:=h.k1 x hx
  have hd:=(XM hi h.ne).2 (by omega)
  rw[e,Qjo (XC hu)] at hd
  obtain⟨j,hj,hdj⟩:=QB4 hi hd
  exact⟨j,hM j hj,List.count_pos_iff.2 hj,ZX (h.n x hx) (Qw4 j (hM j hj)) hi (Qw3 j (hM j hj)) hdj⟩
def QBq(M:List Nat)(n:Nat):List Nat:=(List.range n).filter fun i=>decide (0<M.count i)
theorem QBt(M:List Nat)(n:Nat):(QBq M n).Nodup:=List.Pairwise.filter _ List.nodup_range
theorem QBp{n i:Nat}:i∈QBq M n↔i<n∧0<M.count i:=by unfold QBq;simp
theorem QB6(M:List Nat)(n:Nat):(QBq M (n+1)).length=(QBq M n).length+ if 0<M.count n then 1 else 0:=by
  unfold QBq
  rw[List.range_succ,List.filter_append,List.length_append]
  congr 1
  by_cases h:0<M.count n<;>simp [List.filter,h]
theorem QBV(hu:u≠0)(hM: ∀i∈M,i<16)(e:P X=K (u:Rat)*P (pK M)){got:List (List Int×Nat)}(h:Qbb X got):(∀i,i<16→Zo got (kn i)=M.count i)∧got.length=(QBq M 16).length:=by
  refine⟨fun i hi=> ?_,?_⟩
  · rw[h.mult (Qw4 i hi) (Qw3 i hi),QBA hu hM e hi]
  · have hm:=QBE hu hM e h
    have n1:(got.map Prod.fst).Nodup:=List.pairwise_map.2 (h.diff.imp fun h e=>h e)
    have n2:((QBq M 16).map kn).Nodup:=List.pairwise_map.2 (List.Pairwise.imp_of_mem (fun {a b} ha hb hab e=>hab (QB9 a (QBp.1 ha).1 b (QBp.1 hb).1 e)) (QBt M 16))
    have l1:=n1.length_le_of_subset (l₂:=(QBq M 16).map kn) fun y hy=>by
      obtain⟨x,hx,rfl⟩:=List.mem_map.1 hy
      obtain⟨i,hi,hc,e⟩:=hm x hx
      rw[e];exact List.mem_map.2 ⟨i,QBp.2 ⟨hi,hc⟩,rfl⟩
    have l2:=n2.length_le_of_subset (l₂:=got.map Prod.fst) fun y hy=>by
      obtain⟨i,hi,rfl⟩:=List.mem_map.1 hy
      obtain⟨hi,hc⟩:=QBp.1 hi
      obtain⟨x,hx,hd⟩:=h.all _ (Qw3 i hi) ((XM (Qw3 i hi) h.ne).2 (by rw[QBA hu hM e hi];exact hc))
      exact List.mem_map.2 ⟨x,hx,ZX (h.n x hx) (Qw4 i hi) (h.irr x hx) (Qw3 i hi) hd⟩
    rw[List.length_map,List.length_map] at l1 l2
    omega
theorem QB0(hu:u≠0)(hM: ∀i∈M,i<16)(e:P X=K (u:Rat)*P (pK M)):Irr (P X)↔M.length=1:=by
  have hur:(u:Rat)≠0:=XC hu
  constructor
  · intro hi
    match M,hM,e with
    | [],_,e=>
      have :=hi.1
      rw[e,Qar hur,QBu] at this
      have h1:dg (1:QP)=1:=by rw[←Qcw,Yj];rfl
      omega
    | [i],_,_=>rfl
    |i::j::M',hM,e=>
      exfalso
      have e2:P X=K (u:Rat)*P (kn i)*P (pK (j::M')):=by rw[e,QBs,XI]
      have h2:=QCi (M:=j::M') fun k hk=>hM k (by simp at hk⊢;exact .inr hk)
      have h3:2≤dg (P (kn i)):=(Qw3 i (hM i (by simp))).1
      rcases hi.2 _ _ e2 with h|h
      · rw[Qar hur] at h;omega
      · simp only[List.length_cons] at h2;omega
  · intro h
    match M,hM,e,h with
    | [i],hM,e,_=>
      have hk:=Qw3 i (hM i (by simp))
      rw[e,QBs,QBu,QaE]
      refine⟨by rw[Qar hur];exact hk.1,fun a b eab=> ?_⟩
      have e3:P (kn i)=(K (1/ (u:Rat))*a)*b:=by
        rw[XI,←eab,←XI,QCo hur,QbD]
      rcases hk.2 _ _ e3 with h|h
      · rw[Qar (by grind)] at h;exact .inl h
      · exact .inr h
end
theorem QBM{B:Nat}: ∀{M:List Nat},(∀i∈M,nrm (kn i)≤B)→nrm (pK M)≤B^M.length
  | [],_=>by show nrm [1]≤1;decide
  |i::M,h=>by
    have h1:=Qhk (kn i) (pK M)
    have h2:=Nat.mul_le_mul (h i (by simp)) (QBM fun j hj=>h j (List.mem_cons_of_mem i hj))
    have h3:B^ (i::M).length=B*B^M.length:=by rw[List.length_cons,Nat.pow_succ,Nat.mul_comm]
    rw[h3]
    exact Nat.le_trans h1 h2
theorem QBw: ∀i,i<16→nrm (kn i)≤1000004:=by decide
theorem QBU: ∀i,i<15→nrm (kn i)≤12:=by decide
theorem QBT: ∀i,i<16→(kn i).length≤5∧2≤(kn i).length:=by decide
theorem QCa(a b:List Nat):P (pK (a++b))=P (pK a)*P (pK b):=by
  induction a with
  |nil=>rw[List.nil_append,QBu,QbD]
  |cons i a ih=>rw[List.cons_append,QBs,QBs,ih,XI]
theorem QCf(M:List Nat):QBq M 16=QBq M 15++ if 0<M.count 15 then [15] else []:=by
  unfold QBq
  rw[show List.range 16=List.range 15++[15] by decide,List.filter_append]
  congr 1
  by_cases h:0<M.count 15
  · rw[if_pos h,List.filter_cons_of_pos (p:=fun i=>decide (0<M.count i)) (decide_eq_true h)];rfl
  · rw[if_neg h,List.filter_cons_of_neg (p:=fun i=>decide (0<M.count i)) (by rw[decide_eq_false h];decide)];rfl
theorem QBP{M:List Nat}(hM:M.length≤5): ∃D:List Int,P D=P (pK (QBq M 16))∧nrm D≤2^38:=by
  refine⟨Xg (pK (QBq M 15)) (pK (if 0<M.count 15 then [15] else [])),?_,?_⟩
  · rw[Zb,←QCa,←QCf]
  · have l1:(QBq M 15).length≤5:=Nat.le_trans ((QBt M 15).length_le_of_subset fun i hi=>List.count_pos_iff.1 (QBp.1 hi).2) hM
    have h1:=QBM (B:=12) fun i hi=>QBU i (QBp (n:=15) (M:=M).1 hi).1
    have h2:nrm (pK (if 0<M.count 15 then [15] else []))≤1000004:=by split<;>decide
    have h3:12^ (QBq M 15).length≤12^5:=Nat.pow_le_pow_right (by decide) l1
    exact Nat.le_trans (Qhk _ _) (Nat.le_trans (Nat.mul_le_mul (Nat.le_trans h1 h3) h2) (by decide))
theorem QCj{π ρ F:QP}(hπ:Irr π)(hρ:Irr ρ)(h1:π∣ρ)(h2:ρ∣π)(hF:F≠0):va π F=va ρ F:=
  Nat.le_antisymm ((QaW hρ hF _).1 (Yq (Qhr h2 _) ((QaW hπ hF _).2 (Nat.le_refl _)))) ((QaW hπ hF _).1 (Yq (Qhr h1 _) ((QaW hρ hF _).2 (Nat.le_refl _))))
section
variable{X:List Int}{M:List Nat}{u:Int}
theorem QBX(hu:u≠0)(hM: ∀i∈M,i<16)(e:P X=K (u:Rat)*P (pK M))(h5:M.length≤5)(hd:(Xa X).length≤11){g:List Int}(hg:Nrm g)(hgX:P g∣P X)(hs:Qem (P g) (der (P g)))(i:Nat):(co g i).natAbs≤2^56:=by
  obtain⟨D,eD,hD⟩:=QBP h5
  have hU: ∀i∈QBq M 16,i<16:=fun i hi=>(QBp.1 hi).1
  have hD0:P D≠0:=by rw[eD];exact QBK hU
  have hX0:=QBL hu hM e
  have hgD:P g∣P D:=QaN hg.ne hD0 fun π hπ=>by
    have h1:=(Qav hg.ne).1 hs π hπ
    rcases Nat.eq_zero_or_pos (va π (P g)) with h0|h0
    · omega
    · have hd1:=Yq ((XM hπ hg.ne).2 h0) hgX
      rw[e,Qjo (XC hu)] at hd1
      obtain⟨j,hj,hdj⟩:=QB4 hπ hd1
      have hj16:=hM j hj
      have h2:P (kn j)∣P D:=by
        rw[eD]
        exact QkS (List.mem_map.2 ⟨j,QBp.2 ⟨hj16,List.count_pos_iff.2 hj⟩,rfl⟩)
      have :=(XM hπ hD0).1 (Yq hdj h2)
      omega
  have hDX:dg (P D)≤dg (P X):=Qaj (QaN hD0 hX0 fun π hπ=>by
    by_cases hd1:π∣P D
    · rw[eD] at hd1
      obtain⟨j,hj,hdj⟩:=QB4 hπ hd1
      have⟨hj16,hc⟩:=QBp.1 hj
      have e1:va π (P D)=va (P (kn j)) (P D):=QCj hπ (Qw3 j hj16) hdj (Qal hπ (Qw3 j hj16) hdj) hD0
      have e2:va π (P X)=va (P (kn j)) (P X):=QCj hπ (Qw3 j hj16) hdj (Qal hπ (Qw3 j hj16) hdj) hX0
      rw[e1,e2,QBA hu hM e hj16,eD,QCg hj16 hU]
      have h1:=List.nodup_iff_count.1 (QBt M 16) j
      omega
    · have :=mt (XM hπ hD0).2 hd1
      omega) hX0
  rw[Yj,Yj] at hDX
  have⟨h1,_⟩:=Qny (n:=10) (F:=D) (g:=g) (H:=2^38) (by omega) (by decide) hD0 hg hgD fun i=>Nat.le_trans (QkK D i) hD
  exact Nat.le_trans (Qd9 g i) (Nat.le_trans h1 (by decide))
theorem QBO(hu:u≠0)(hM: ∀i∈M,i<16)(e:P X=K (u:Rat)*P (pK M))(h5:M.length≤5)(i:Nat):(co (Xr X) i).natAbs≤2^110:=by
  have e1:P (Xr X)=P (pK M):=by
    have h1:=QbJ X
    rw[QBW hu hM e,e] at h1
    have hur:(u:Rat)≠0:=XC hu
    refine QP.eq fun x=> ?_
    have h2:=congrArg (fun q:QP=>q.v x) h1
    simp only[Xq,v_K] at h2
    grind
  rw[QgE e1 i]
  have h1:=QBM (B:=1000004) fun i hi=>QBw i (hM i hi)
  exact Nat.le_trans (QkK _ i) (Nat.le_trans h1 (Nat.le_trans (Nat.pow_le_pow_right (by decide) h5) (by decide)))
end
end Go.Gx
