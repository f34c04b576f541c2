/-
  Known2, FzThy, RetMath, LawLift, SuitThy, SumThy, CntThy, HbThy
-/
import Derived.Test.YtjdpemcnlejpfaaGreatDoorDecP
import Derived.Test.YtjdpemcnlejpfaaGreatDoorBasisMath
import Derived.Test.YtjdpemcnlejpfaaGreatDoorLiftThy6
import Derived.Test.YtjdpemcnlejpfaaGreatDoorPrimeTab
set_option linter.all false
namespace Go.Gx
def QcQ:List (List Int×Int)→List Int→List (List Int×Int)
  | [],p=>[(p,1)]
  | (q,k)::l,p=>if Xa q=Xa p then(q,k+1)::l else(q,k)::QcQ l p
noncomputable def Qfv:List (List Int×Int)→QP
  | []=>1
  | (p,k)::l=>P p^k.toNat*Qfv l
structure Qd2 (N:Nat) (l:List (List Int×Int)):Prop where
  i: ∀e∈l,Qun e.1
  k: ∀e∈l,1≤e.2∧e.2≤N
  d:l.Pairwise fun a b=>a.1≠b.1
  n:l.length≤N
theorem Qd2.nil:Qd2 0 []:=⟨by simp,by simp,List.Pairwise.nil,by simp⟩
theorem Qdf: ∀(l:List (List Int×Int))(p:List Int)(e:List Int×Int),e∈QcQ l p→(e∈l)∨(∃k,(e.1,k)∈l∧e.2=k+1)∨(e=(p,1))
  | [],p,e,h=>by simp [QcQ] at h;exact .inr (.inr h)
  | (q,k)::l,p,e,h=>by
    rw[QcQ] at h
    split at h
    · rcases List.mem_cons.1 h with h1|h1
      · subst h1;exact .inr (.inl ⟨k,by simp,rfl⟩)
      · exact .inl (by simp [h1])
    · rcases List.mem_cons.1 h with h1|h1
      · subst h1;exact .inl (by simp)
      · rcases Qdf l p e h1 with h2| ⟨k',h2,h3⟩|h2
        · exact .inl (by simp [h2])
        · exact .inr (.inl ⟨k',by simp [h2],h3⟩)
        · exact .inr (.inr h2)
theorem Qi2: ∀(l:List (List Int×Int))(p:List Int),(QcQ l p).length≤l.length+1
  | [],p=>by simp [QcQ]
  | (q,k)::l,p=>by
    rw[QcQ]
    split
    · simp
    · have :=Qi2 l p;simp;omega
theorem Qpm: ∀(l:List (List Int×Int))(p:List Int),(∀e∈l,Qun e.1)→Qun p→(l.Pairwise fun a b=>a.1≠b.1)→(QcQ l p).Pairwise fun a b=>a.1≠b.1
  | [],p,_,_,_=>by simp [QcQ]
  | (q,k)::l,p,hi,hp,hd=>by
    have⟨h1,h2⟩:=List.pairwise_cons.1 hd
    rw[QcQ]
    split
    · exact List.pairwise_cons.2 ⟨fun e he=>h1 e he,h2⟩
    · rename_i hne
      refine List.pairwise_cons.2 ⟨fun e he=> ?_,Qpm l p (fun x hx=>hi x (by simp [hx])) hp h2⟩
      rcases Qdf l p e he with h3| ⟨k',h3,_⟩|h3
      · exact h1 e h3
      · exact h1 (e.1,k') h3
      · subst h3
        intro e
        have e':q=p:=e
        exact hne (by rw[e'])
theorem Qd2.with{N:Nat}{l:List (List Int×Int)}{p:List Int}(h:Qd2 N l)(hp:Qun p):Qd2 (N+1) (QcQ l p):=by
  refine⟨fun e he=> ?_,fun e he=> ?_,Qpm l p h.i hp h.d,Nat.le_trans (Qi2 l p) (by have :=h.n;omega)⟩
  · rcases Qdf l p e he with h3| ⟨k',h3,_⟩|h3
    · exact h.i e h3
    · exact h.i (e.1,k') h3
    · subst h3;exact hp
  · rcases Qdf l p e he with h3| ⟨k',h3,h4⟩|h3
    · have :=h.k e h3;omega
    · have :=h.k _ h3
      dsimp only at this
      omega
    · subst h3;exact⟨by show(1:Int)≤1;omega,by show(1:Int)≤_;omega⟩
theorem Qgv: ∀(l:List (List Int×Int))(p:List Int),(∀e∈l,1≤e.2)→Qfv (QcQ l p)=Qfv l*P p
  | [],p,_=>by
    show P p^ (1:Int).toNat*1=1*P p
    rw[QaE,QbD];exact Qcj _
  | (q,k)::l,p,h=>by
    have hk:1≤k:=h (q,k) (by simp)
    rw[QcQ]
    split
    · rename_i he
      show P q^ (k+1).toNat*Qfv l=P q^k.toNat*Qfv l*P p
      rw[show(k+1).toNat=k.toNat+1 by omega,XP,←Yf p,←he,Yf]
      exact QP.eq fun x=>by simp only[Xq];grind
    · show P q^k.toNat*Qfv (QcQ l p)=P q^k.toNat*Qfv l*P p
      rw[Qgv l p fun e he=>h e (by simp [he]),XI]
theorem Qal{π ρ:QP}(hπ:Irr π)(hρ:Irr ρ)(h:π∣ρ):ρ∣π:=by
  obtain⟨q,e⟩:=h
  rcases hρ.2 q π e with h1|h1
  · obtain⟨r,hr,rfl⟩:=Qbj h1
    rw[e]
    exact(Qdz hr).2 (XL _)
  · have :=hπ.1;omega
theorem QdP{π p:QP}(hπ:Irr π)(hp:Irr p)(h:π∣p):va π p=1:=by
  have h1:=(XM hπ hp.ne).1 h
  have h2:=QfZ hπ hp.ne
  have h3:=Qal hπ hp h
  have h4:=Qaj h3 hπ.ne
  have h5:=Qaj h hp.ne
  apply Classical.byContradiction
  intro hx
  have h6:=(QaW hπ hp.ne 2).2 (by omega)
  have h7:=Qaj h6 hp.ne
  have h8:dg (π^2)+1=dg (π^1)+dg π:=Qe3 hπ.ne 1
  rw[Qcj] at h8
  have :=hπ.1
  omega
def Qpt(Q:QP)(u:Int)(N:Nat)(l:List (List Int×Int)):Prop:=Q=K u*Qfv l∧Qd2 N l
def Qps(Q:QP)(u:Int)(N:Nat)(l:List (List Int×Int))(ps:List (List Int))(k:Nat):Prop:=Q=K u*Qfv l*QqT (ps.drop k)∧Qd2 (N+k) l∧(∀p∈ps,Qun p)
theorem Qpt.enter{Q:QP}{u v:Int}{N:Nat}{l:List (List Int×Int)}{F:List Int}{ps:List (List Int)}(h:Qpt Q u N l)(hs:QuB F v ps):Qps (Q*P F) (u*v) N l ps 0:=by
  refine⟨?_,h.2,hs.1⟩
  rw[h.1,hs.2.1,List.drop_zero,Rat.intCast_mul]
  exact QP.eq fun x=>by simp only[Xq,v_K];grind
theorem Qps.step{Q:QP}{u:Int}{N k:Nat}{l:List (List Int×Int)}{ps:List (List Int)}{p:List Int}(h:Qps Q u N l ps k)(hp:ps[k]? =some p):Qps Q u N (QcQ l p) ps (k+1):=by
  have hd:ps.drop k=p::ps.drop (k+1):=by
    rw[List.getElem?_eq_some_iff] at hp
    obtain⟨hk,rfl⟩:=hp
    exact List.drop_eq_getElem_cons hk
  refine⟨?_,h.2.1.with (h.2.2 p (List.mem_of_getElem? hp)),h.2.2⟩
  rw[h.1,hd,Qgv _ _ fun e he=>(h.2.1.k e he).1]
  show K u*Qfv l*(P p*QqT (ps.drop (k+1)))=_
  exact QP.eq fun x=>by simp only[Xq];grind
def Qxa(Q:QP)(u:Int)(l:List (List Int×Int)):Prop:=(u=0∧Q=0∧l=[])∨(u≠0∧Q=K u*Qfv l∧Qd2 10 l)
theorem Qpt.zero{Q:QP}{u:Int}{N:Nat}{l:List (List Int×Int)}(h:Qpt Q u N l)(h0:u=0):Qxa Q 0 []:= .inl ⟨rfl,by rw[h.1,h0,QfJ];exact QP.eq fun x=>by simp only[Xq,v_K,v_0];grind,rfl⟩
end Go.Gx
namespace Go.Gx
theorem QwH{f g:List Int}(h:Xa f=[]∨Xa g=[]):[]=Xa (Xg f g):=by
  have :P (Xg f g)=P []:=by
    rw[Zb,QdA]
    rcases h with h|h
    · rw[←Yf f,h,QdA,XG]
    · rw[←Yf g,h,QdA,Ys]
  have :=QfO this
  rw[this];rfl
end Go.Gx
namespace Go.Gx
end Go.Gx
namespace Go.Gx
theorem Qhr{a b:QP}(h:a∣b): ∀m:Nat,a^m∣b^m
  |0=>by rw[YO,YO];exact XL _
  |m+1=>by rw[XP,XP];exact Qk2 (Qhr h m) h
structure QgG (f:List Int) (l:List (List Int)):Prop where
  n: ∀h∈l,Nrm h
  irr: ∀h∈l,Irr (P h)
  prod:P (pL l)=P f
theorem XY(a:List Int)(l:List (List Int)):P (pL (a::l))=P a*P (pL l):=by show P (Xg a (pL l))=_;rw[Zb]
theorem Qtq: ∀{l:List (List Int)},(∀h∈l,Nrm h)→P (pL l)≠0
  | [],_=>by show P [1]≠0;rw[Qcw];exact QkP
  |a::l,h=>by rw[XY];exact QaT (h a (by simp)).ne (Qtq fun x hx=>h x (by simp [hx]))
theorem QkS{a:List Int}: ∀{l:List (List Int)},a∈l→P a∣P (pL l)
  |b::l,h=>by
    rw[XY]
    rcases List.mem_cons.1 h with rfl|h
    · exact Qdl _ (XL _)
    · exact XJ _ (QkS h)
theorem QrX{π:QP}(hπ:Irr π): ∀{l:List (List Int)},π∣P (pL l)→ ∃h∈l,π∣P h
  | [],h=>by
    have h1:P (pL [])=1:=Qcw
    rw[h1] at h;exact absurd h (Qfj hπ)
  |a::l,h=>by
    rw[XY] at h
    rcases Qc8 hπ h with h|h
    · exact⟨a,by simp,h⟩
    · obtain⟨x,hx,hd⟩:=QrX hπ h;exact⟨x,by simp [hx],hd⟩
theorem Qhm{a b:List (List Int)}(h:a.Perm b):P (pL a)=P (pL b):=by
  induction h with
  |nil=>rfl
  |cons x _ ih=>rw[XY,XY,ih]
  |swap x y l=>rw[XY,XY,XY,XY,←XI,XT (P y),XI]
  |trans _ _ h1 h2=>rw[h1,h2]
theorem QgG.perm{f:List Int}{l l':List (List Int)}(h:QgG f l)(hp:l'.Perm l):QgG f l':=
  ⟨fun x hx=>h.n x (hp.mem_iff.1 hx),fun x hx=>h.irr x (hp.mem_iff.1 hx),(Qhm hp).trans h.prod⟩
theorem ZX{a b:List Int}(ha:Nrm a)(hb:Nrm b)(ia:Irr (P a))(ib:Irr (P b))(h:P a∣P b):a=b:=ha.eq hb h (Qal ia ib h)
theorem Qjy{a:List Int}(ha:Nrm a)(h:Irr (P a)):2≤a.length:=by
  have :=h.1;rw[Yj,ha.t] at this;exact this
theorem QgG.nodup{f:List Int}{l:List (List Int)}(h:QgG f l)(hs: ∀π,Irr π→va π (P f)≤1):l.Nodup:=by
  obtain⟨hn,hi,hp⟩:=h
  rw[←hp] at hs
  clear hp
  induction l with
  |nil=>exact List.nodup_nil
  |cons a l ih=>
    have hl: ∀x∈l,Nrm x:=fun x hx=>hn x (by simp [hx])
    have hne:=Qtq hl
    have ha:=hn a (by simp)
    have hia:=hi a (by simp)
    refine List.nodup_cons.2 ⟨fun hm=> ?_,ih (fun π hπ=> ?_) hl fun x hx=>hi x (by simp [hx])⟩
    · have h1:=hs _ hia
      rw[XY,Qaz hia ha.ne hne] at h1
      have h2:=(XM hia ha.ne).1 (XL _)
      have h3:=(XM hia hne).1 (QkS hm)
      omega
    · have h1:=hs π hπ
      rw[XY,Qaz hπ ha.ne hne] at h1
      omega
noncomputable def ZO:List (List Int×Nat)→QP
  | []=>1
  |x::l=>P x.1^x.2*ZO l
theorem QbZ: ∀{l:List (List Int×Nat)},(∀x∈l,Nrm x.1)→ ∃b,Nrm b∧P b=ZO l
  | [],_=>⟨[1],Nrm.one,Qcw⟩
  |x::l,h=>by
    obtain⟨b,hb,e⟩:=QbZ (l:=l) fun y hy=>h y (by simp [hy])
    obtain⟨a,ha,e'⟩:=(h x (by simp)).pow x.2
    exact⟨Xa (Xg a b),ha.mul hb,by rw[Yf,Zb,e,e'];rfl⟩
structure Qbb (F:List Int) (fs:List (List Int×Nat)):Prop where
  ne:P F≠0
  n: ∀x∈fs,Nrm x.1
  irr: ∀x∈fs,Irr (P x.1)
  k1: ∀x∈fs,1≤x.2
  v: ∀x∈fs,va (P x.1) (P F)=x.2
  all: ∀π,Irr π→π∣P F→ ∃x∈fs,P x.1∣π
  asc:fs.Pairwise fun a b=>Qbv a.1 b.1<0
def Zo:List (List Int×Nat)→List Int→Nat
  | [],_=>0
  |x::l,g=>if Xa x.1=Xa g then x.2 else Zo l g
section
variable{F:List Int}{fs:List (List Int×Nat)}
theorem Qbb.inj(h:Qbb F fs): ∀x∈fs,∀y∈fs,P x.1∣P y.1→x=y:=fun x hx y hy hd=>by
  have e:=ZX (h.n x hx) (h.n y hy) (h.irr x hx) (h.irr y hy) hd
  have h1:=h.v x hx
  have h2:=h.v y hy
  rw[e] at h1
  exact Prod.ext e (h1.symm.trans h2)
theorem Qbb.mult(h:Qbb F fs){g:List Int}(hg:Nrm g)(hi:Irr (P g)):Zo fs g=va (P g) (P F):=by
  have key: ∀l:List (List Int×Nat),(∀x∈l,Nrm x.1)→(∀x∈l,va (P x.1) (P F)=x.2)→((∃x∈l,x.1=g)→Zo l g=va (P g) (P F))∧((∀x∈l,x.1≠g)→Zo l g=0):=by
    intro l
    induction l with
    |nil=>exact fun _ _=>⟨fun⟨x,hx,_⟩=>by simp at hx,fun _=>rfl⟩
    |cons a l ih=>
      intro hn hv
      have⟨i1,i2⟩:=ih (fun x hx=>hn x (by simp [hx])) fun x hx=>hv x (by simp [hx])
      by_cases e:a.1=g
      · exact⟨fun _=>by unfold Zo;rw[if_pos (by rw[e]),←hv a (by simp),e],fun hno=>absurd e (hno a (by simp))⟩
      · have e':Xa a.1≠Xa g:=by rw[(hn a (by simp)).t,hg.t];exact e
        refine⟨fun⟨x,hx,ex⟩=> ?_,fun hno=> ?_⟩<;>unfold Zo<;>rw[if_neg e']
        · rcases List.mem_cons.1 hx with rfl|hx
          · exact absurd ex e
          · exact i1 ⟨x,hx,ex⟩
        · exact i2 fun x hx=>hno x (by simp [hx])
  have⟨k1,k2⟩:=key fs h.n h.v
  by_cases hd:P g∣P F
  · obtain⟨x,hx,hxd⟩:=h.all _ hi hd
    exact k1 ⟨x,hx,ZX (h.n x hx) hg (h.irr x hx) hi hxd⟩
  · rw[k2 fun x hx e=> ?_]
    · have :=mt (XM hi h.ne).2 hd;omega
    · have h1:=h.v x hx
      have h2:=h.k1 x hx
      rw[e] at h1
      exact hd ((XM hi h.ne).2 (by omega))
theorem QeJ{π:QP}(hπ:Irr π): ∀{l:List (List Int×Nat)},(∀x∈l,Nrm x.1)→(∀x∈l,Irr (P x.1))→l.Pairwise (fun a b=>a.1≠b.1)→(∀x∈l,π∣P x.1→va π (ZO l)=x.2)∧((∀x∈l,¬π∣P x.1)→va π (ZO l)=0)
  | [],_,_,_=>⟨by simp,fun _=>Qv2 hπ (r:=1) (by decide)⟩
  |a::l,hn,hi,hp=>by
    have hn': ∀x∈l,Nrm x.1:=fun x hx=>hn x (by simp [hx])
    have hi': ∀x∈l,Irr (P x.1):=fun x hx=>hi x (by simp [hx])
    have⟨i1,i2⟩:=QeJ hπ hn' hi' (List.pairwise_cons.1 hp).2
    obtain⟨b,hb,e⟩:=QbZ hn'
    have ha:=hn a (by simp)
    have hm:va π (ZO (a::l))=a.2*va π (P a.1)+va π (ZO l):=by
      show va π (P a.1^a.2*ZO l)=_
      rw[Qaz hπ (ZP ha.ne _) (by rw[←e];exact hb.ne),QgC hπ ha.ne]
    have hz: ¬π∣P a.1→va π (P a.1)=0:=fun h=>by have :=mt (XM hπ ha.ne).2 h;omega
    refine⟨fun x hx hd=> ?_,fun h=> ?_⟩
    · rcases List.mem_cons.1 hx with rfl|hx
      · rw[hm,QdP hπ (hi x (by simp)) hd,i2 fun y hy hy'=> ?_]
        · omega
        · have e1:=Qal hπ (hi x (by simp)) hd
          exact(List.pairwise_cons.1 hp).1 y hy (ZX ha (hn' y hy) (hi x (by simp)) (hi' y hy) (Yq e1 hy'))
      · have hna: ¬π∣P a.1:=fun h=>by
          have e1:=Qal hπ (hi a (by simp)) h
          exact(List.pairwise_cons.1 hp).1 x hx (ZX ha (hn' x hx) (hi a (by simp)) (hi' x hx) (Yq e1 hd))
        rw[hm,hz hna,i1 x hx hd];omega
    · rw[hm,hz (h a (by simp)),i2 fun x hx=>h x (by simp [hx])];omega
theorem Qbb.diff(h:Qbb F fs):fs.Pairwise fun a b=>a.1≠b.1:=h.asc.imp fun {a b} h e=>by rw[e,QbL] at h;omega
theorem Qbb.prod(h:Qbb F fs):ZO fs=P (Xr F):=by
  obtain⟨b,hb,e⟩:=QbZ h.n
  have hpn:=YD h.ne
  have :b=Xr F:=hb.eq_va hpn fun π hπ=>by
    have⟨i1,i2⟩:=QeJ hπ h.n h.irr h.diff
    rw[e,QcP hπ h.ne]
    by_cases hd:π∣P F
    · obtain⟨x,hx,hxd⟩:=h.all π hπ hd
      rw[i1 x hx (Qal (h.irr x hx) hπ hxd),←h.v x hx]
      have hdx:=Qal (h.irr x hx) hπ hxd
      have a1:=QbE (h.irr x hx) h.ne
      have a2:=QbE hπ h.ne
      refine Nat.le_antisymm ?_ ?_
      · refine(QaW hπ h.ne _).1 (Yq (Qhr hdx _) ((QaW (h.irr x hx) h.ne _).2 (Nat.le_refl _)))
      · refine(QaW (h.irr x hx) h.ne _).1 (Yq (Qhr hxd _) ((QaW hπ h.ne _).2 (Nat.le_refl _)))
    · rw[i2 fun x hx hdx=> ?_]
      · have :=mt (XM hπ h.ne).2 hd;omega
      · refine hd (Yq hdx ((XM (h.irr x hx) h.ne).2 ?_))
        have :=h.v x hx;have :=h.k1 x hx;omega
  rw[←e,this]
end
structure Qpu (ds:List (List Int×Nat)) (L:List (List Int×Nat)):Prop where
  n: ∀x∈L,Nrm x.1
  irr: ∀x∈L,Irr (P x.1)
  fr: ∀x∈L,∃d∈ds,d.2=x.2∧P x.1∣P d.1
  all: ∀d∈ds,∀π,Irr π→π∣P d.1→ ∃x∈L,x.2=d.2∧P x.1∣π
  nd:L.Pairwise fun a b=>a.1≠b.1
theorem Qpu.nil:Qpu [] []:=⟨by simp,by simp,by simp,by simp,List.Pairwise.nil⟩
theorem Qpu.more{p:QP}{ds L:List (List Int×Nat)}{d:List Int×Nat}{l:List (List Int)}(h:Qpu ds L)(hd:DE p d)(hds: ∀x∈ds,DE p x∧x.2<d.2)(hl:QgG d.1 l):Qpu (ds++[d]) (L++l.map fun h=>(h,d.2)):=by
  have hdv: ∀x∈l,P x∣P d.1:=fun x hx=>by rw[←hl.prod];exact QkS hx
  refine⟨fun x hx=> ?_,fun x hx=> ?_,fun x hx=> ?_,fun e he π hπ hdπ=> ?_,?_⟩
  · rcases List.mem_append.1 hx with hx|hx
    · exact h.n x hx
    · obtain⟨a,ha,rfl⟩:=List.mem_map.1 hx;exact hl.n a ha
  · rcases List.mem_append.1 hx with hx|hx
    · exact h.irr x hx
    · obtain⟨a,ha,rfl⟩:=List.mem_map.1 hx;exact hl.irr a ha
  · rcases List.mem_append.1 hx with hx|hx
    · obtain⟨d',h1,h2⟩:=h.fr x hx;exact⟨d',List.mem_append_left _ h1,h2⟩
    · obtain⟨a,ha,rfl⟩:=List.mem_map.1 hx
      exact⟨d,by simp,rfl,hdv a ha⟩
  · rcases List.mem_append.1 he with he|he
    · obtain⟨x,hx,h1⟩:=h.all e he π hπ hdπ;exact⟨x,List.mem_append_left _ hx,h1⟩
    · rw[List.mem_singleton.1 he] at hdπ⊢
      rw[←hl.prod] at hdπ
      obtain⟨a,ha,hda⟩:=QrX hπ hdπ
      exact⟨(a,d.2),List.mem_append_right _ (List.mem_map.2 ⟨a,ha,rfl⟩),rfl,Qal hπ (hl.irr a ha) hda⟩
  · refine List.pairwise_append.2 ⟨h.nd,?_,fun a ha b hb e=> ?_⟩
    · refine List.pairwise_map.2 ((hl.nodup fun π hπ=> ?_).imp fun h e=>h e)
      rw[hd.v π hπ];split<;>omega
    · obtain⟨c,hc,rfl⟩:=List.mem_map.1 hb
      obtain⟨d',h1,h2,h3⟩:=h.fr a ha
      have hi:=hl.irr c hc
      have⟨hde,hlt⟩:=hds d' h1
      have v1:=hde.v _ hi
      have v2:=hd.v _ hi
      rw[show a.1=c from e] at h3
      have p1:=(XM hi hde.n.ne).1 h3
      have p2:=(XM hi hd.n.ne).1 (hdv c hc)
      split at v1
      · split at v2
        · omega
        · omega
      · omega
theorem Qpu.done{F:List Int}{ds L L':List (List Int×Nat)}{k:Nat}(h:Qpu ds L)(hF:P F≠0)(hd:DL (P (Xr F)) k ds)(hall: ∀π,Irr π→va π (P (Xr F))<k)(hp:L'.Perm L)(hs:L'.Pairwise fun x y=> ¬Qbv (Xa y.1) (Xa x.1)<0):Qbb F L':=by
  have hm: ∀x,x∈L'↔x∈L:=fun x=>hp.mem_iff
  have hv: ∀x∈L,∃d∈ds,DE (P (Xr F)) d∧d.2=x.2∧va (P x.1) (P F)=x.2:=fun x hx=>by
    obtain⟨d,h1,h2,h3⟩:=h.fr x hx
    have hde:=hd.e d h1
    have v1:=hde.v _ (h.irr x hx)
    have p1:=(XM (h.irr x hx) hde.n.ne).1 h3
    refine⟨d,h1,hde,h2,?_⟩
    rw[←QcP (h.irr x hx) hF]
    split at v1<;>omega
  refine⟨hF,fun x hx=>h.n x ((hm x).1 hx),fun x hx=>h.irr x ((hm x).1 hx),fun x hx=> ?_,fun x hx=> ?_,fun π hπ hdv=> ?_,?_⟩
  · obtain⟨d,_,hde,e,_⟩:=hv x ((hm x).1 hx)
    have :=hde.k1;omega
  · obtain⟨d,_,hde,e,v⟩:=hv x ((hm x).1 hx);exact v
  · have h1:1≤va π (P (Xr F)):=by rw[QcP hπ hF];exact(XM hπ hF).1 hdv
    obtain⟨f,hf,e⟩:=hd.all π hπ h1 (hall π hπ)
    have hde:=hd.e f hf
    have v1:=hde.v π hπ
    rw[if_pos e.symm] at v1
    obtain⟨x,hx,_,h2⟩:=h.all f hf π hπ ((XM hπ hde.n.ne).2 (by omega))
    exact⟨x,(hm x).2 hx,h2⟩
  · have hnd:L'.Pairwise fun a b=>a.1≠b.1:=(hp.pairwise_iff fun h e=>h e.symm).2 h.nd
    refine List.Pairwise.imp_of_mem (fun {a b} ha hb hab=> ?_) (hs.and hnd)
    obtain⟨h1,h2⟩:=hab
    rw[(h.n a ((hm a).1 ha)).t,(h.n b ((hm b).1 hb)).t] at h1
    have h3:=Qbe a.1 b.1
    have h4:Qbv a.1 b.1≠0:=fun h5=>h2 (Qag.1 h5)
    omega
end Go.Gx
namespace Go.Gx
theorem QtC{p:Nat}(hp:0<p){l l':List Int}(h:CgV (p:Int) l l'):XR p l=XR p l':=by
  have key: ∀l:List Int,zl (XR p l)=Xa (zl (XR p l)):=fun l=>by rw[←Qj8,(XK hp l).trim]
  have h1:zl (XR p l)=zl (XR p l'):=by
    rw[key l,key l']
    refine YP fun i=> ?_
    have e: ∀l:List Int,co (zl (XR p l)) i=((md p (co l i):Nat):Int):=fun l=>by rw[XR,Qbf,ZK l i (Yb p)]
    rw[e,e]
    obtain⟨k,hk⟩:=h.cof i
    rw[Qfm hp (show Cg p (co l i) (co l' i) from⟨k,hk⟩)]
  have h3: ∀l:List Nat,(zl l).map Int.toNat=l:=fun l=>by
    unfold zl
    rw[List.map_map]
    exact(List.map_congr_left fun a _=>Int.toNat_natCast a).trans (List.map_id l)
  have h2: ∀a b:List Nat,zl a=zl b→a=b:=fun a b hab=>by rw[←h3 a,hab,h3]
  exact h2 _ _ h1
section
variable{p:Nat}{Gs:List (List Int)}{ds:List (List Nat)}{f:List Int}{c:Int}
end
end Go.Gx
namespace Go.Gx
theorem QbW{p:Nat}(hp:2≤p){ds:List (List Nat)}(h: ∀d∈ds,Zw p d):Ql0 p ds=ds:=by
  unfold Ql0
  conv=>rhs;rw[←List.map_id ds]
  exact List.map_congr_left fun d hd=>Qgq hp (h d hd)
theorem Qrx{p:Nat}(hp:Xk p){ds:List (List Nat)}(hm: ∀d∈ds,Zw p d)(h:CoA p ds):Pw (p:Int) (ds.map zl):=by
  refine Qtx fun i j a b hj ha hb=> ?_
  rw[List.getElem?_map] at ha hb
  obtain⟨x,hx,rfl⟩:=Option.map_eq_some_iff.1 ha
  obtain⟨y,hy,rfl⟩:=Option.map_eq_some_iff.1 hb
  have h1:=hm x (List.mem_of_getElem? hx)
  have h2:=hm y (List.mem_of_getElem? hy)
  have h3:=h i j x y hj hx hy
  unfold GC at h3
  rw[h1.can.nrm,h2.can.nrm] at h3
  have :=h1.pos
  exact ZC hp h1.can h2.can (by omega) h3
theorem QqD{p:Nat}{z:Int}(hp:0<p)(h:md p z≠0): ¬(p:Int)∣z:=fun⟨k,hk⟩=>h (by rw[hk,Qfm hp (show Cg p ((p:Int)*k) 0 from Cg.self k),Yb])
theorem QkC{p k e:Nat}{f:List Int}{ds:List (List Nat)}(hp:Xk p)(hm: ∀d∈ds,Zw p d)(hc:CoA p (Ql0 p ds))(hb: ¬Qut p f (Ql0 p ds)){L0 L1:List (List Int)}
    (h:LReach p k f (Qae p (Ql0 p ds)) (Qae p (Qaq p (Ql0 p ds))) L0 L1 e): ∃n,Qmt p f (Qae p ds) L0 L1 e n:=by
  have hp0:0<p:=by have :=hp.1;omega
  have hl:md p (ldP f)≠0:=fun h=>hb (.inl h)
  have hs:XO p (QcM p [md p (ldP f)] (Ql0 p ds))=XO p (XR p f):=by
    rcases Classical.em (XO p (QcM p [md p (ldP f)] (Ql0 p ds))=XO p (XR p f)) with h1|h1
    · exact h1
    · exact absurd (.inr h1) hb
  rw[QbW hp.1 hm] at hc hs h
  obtain⟨n,hi,_,hn⟩:=QlW hp hm (Qrx hp hm hc) hs
  refine⟨n,QoG hp hi ⟨by simpa [Qae] using hn,fun h0=> ?_⟩ (QqD hp0 hl) h⟩
  have h3:ds=[]:=List.eq_nil_of_length_eq_zero (by simpa [Qae] using h0)
  have h4:=hi.ms
  rw[h3] at h4
  change MS [] _ n at h4
  cases h4;rfl
theorem QkD{p e n:Nat}{f:List Int}{ds:List (List Nat)}{L0 L1:List (List Int)}(hi:Qmt p f (Qae p ds) L0 L1 e n):L0.length=ds.length∧ ∀(i:Nat)(u:List Int),L0[i]? =some u→ ∃d,Mon u d:=by
  have hl:=hi.fit.len
  refine⟨by simpa [Qae] using hl,fun i u hu=> ?_⟩
  obtain⟨b,hb⟩: ∃b,(Qae p ds)[i]? =some b:=⟨_,List.getElem?_eq_getElem (by have :=(List.getElem?_eq_some_iff.1 hu).1;omega)⟩
  obtain⟨d,hM,_⟩:=hi.fit.at i u b hu hb
  exact⟨d,hM⟩
theorem Qte{p k:Nat}{f:List Int}{ds:List (List Nat)}(hp:Xk p)(hm: ∀d∈ds,Zw p d)(hc:CoA p (Ql0 p ds))(hb: ¬Qut p f (Ql0 p ds)):
    ∀L0 L1 e,LReach p k f (Qae p (Ql0 p ds)) (Qae p (Qaq p (Ql0 p ds))) L0 L1 e→ ∀u∈L0,0<(Xa u).length:=fun L0 L1 e h u hu=>by
  obtain⟨n,hi⟩:=QkC hp hm hc hb h
  obtain⟨i,hiu⟩:=List.getElem?_of_mem hu
  obtain⟨d,hM⟩:=(QkD hi).2 i u hiu
  rw[hM.len];omega
theorem QnN{p k e n:Nat}{f:List Int}{A0 L0 L1:List (List Int)}(hi:Qmt p f A0 L0 L1 e n)(hx:e=k∨QfU f L0):CgV ((p^k:Nat):Int) (Xf (pL L0) (ldP f)) f:=by
  rcases hx with h|h
  · subst h;exact hi.pr
  · refine CgV.eqv fun x=> ?_
    unfold QfU at h
    rw[Xm,←QaD f,h,QaD,Qkp,Xj]
theorem QrR{F:List Int}{n:Nat}(h:(Xa F).length=n+1):ldP F=co F n:=by
  unfold ldP
  rw[h,show(((n+1:Nat):Int) -1)=((n:Nat):Int) by omega,QeV,Xo]
theorem QjO{p:Nat}(f:List Int)(i:Nat):(XR p f).getD i 0=md p (co f i):=by
  have h1:=Qbf (f.map (md p)) i
  have h2:(XR p f).getD i 0=(f.map (md p)).getD i 0:=by
    have h3:=ZS (XR p f) i
    unfold XR at h3⊢
    rw[h3] at h1
    exact Int.ofNat_inj.1 h1
  rw[h2,ZK f i (Yb p)]
theorem QeC{p:Nat}(hp:0<p)(f:List Int):(XR p f).length≤(Xa f).length:=by
  rcases Nat.lt_or_ge (Xa f).length (XR p f).length with h|h
  · exfalso
    have h1:=(XK hp f).2 (by omega)
    rw[QjO,←Xo,XX (by omega),Yb] at h1
    omega
  · exact h
theorem QkB{p:Nat}(hp:0<p){f:List Int}(h:md p (ldP f)≠0):(XR p f).length=(Xa f).length∧0<(XR p f).length:=by
  have h0:0<(Xa f).length:=by
    rcases Nat.eq_zero_or_pos (Xa f).length with e|e
    · exfalso;refine h ?_
      have :Xa f=[]:=List.eq_nil_of_length_eq_zero e
      unfold ldP;rw[this]
      have :coI [] ((([]:List Int).length:Int) -1)=0:=by unfold coI;rw[if_pos (by simp)]
      rw[this,Yb]
    · exact e
  obtain⟨n,hn⟩: ∃n,(Xa f).length=n+1:=⟨(Xa f).length -1,by omega⟩
  rw[QrR hn] at h
  have h1:=QeC hp f
  rcases Nat.lt_or_ge n (XR p f).length with h2|h2
  · omega
  · exfalso
    have h3:=QjO (p:=p) f n
    have h4:(XR p f).getD n 0=0:=by
      have :=ZS (XR p f) n
      rw[XX (by rw[Zl];omega)] at this
      omega
    omega
theorem Qqr{p:Nat}(hp:0<p){f:List Int}(h:(XR p f).length=(Xa f).length)(h0:0<(XR p f).length):md p (ldP f)=XW (XR p f)∧md p (ldP f)≠0:=by
  obtain⟨n,hn⟩: ∃n,(Xa f).length=n+1:=⟨(Xa f).length -1,by omega⟩
  have h1:=(XK hp f).2 (by omega)
  have e:XW (XR p f)=md p (ldP f):=by
    unfold XW
    rw[h,hn,Nat.add_sub_cancel,QjO,QrR hn]
  exact⟨e.symm,by rw[←e];unfold XW;omega⟩
theorem Qjw{p:Nat}(hp:Xk p){f:List Int}{ds:List (List Nat)}(hf:Zv p (zl (XS p (XO p (XR p f)))) ds)(h:(XR p f).length=(Xa f).length)(h0:0<(XR p f).length): ¬Qut p f (Ql0 p ds):=by
  have hp0:0<p:=by have :=hp.1;omega
  obtain⟨h1,h2⟩:=Qqr hp0 h h0
  rw[QbW hp.1 hf.mon]
  have hc:=XK hp0 f
  rw[hc.nrm] at hf
  intro hb
  rcases hb with hb|hb
  · exact h2 hb
  · refine hb ?_
    rw[Qez,Qez]
    refine QtC hp0 ((QeB hp0 ds _).trans ?_)
    obtain⟨_,_,h3⟩:=QjD hp hc h0
    refine(((CgV.refl _ _).mul hf.prod).trans ?_).trans h3.symm
    refine CgV.eqv fun x=> ?_
    rw[Xc,Xm,h1]
    simp only[zl,List.map,evI];grind
end Go.Gx
namespace Go.Gx
theorem QiE{b:List Int}{m:Nat}{L:Int}(hL:co b m=L)(hb: ∀i,m<i→co b i=0): ∀(k:Nat)(a:List Int),(∀i,m+k≤i→co a i=0)→
    ∃q R:List Int,(∀x:Rat,evQ a x*((L:Int):Rat)^k=evQ q x*evQ b x+evQ R x)∧ ∀i,m≤i→co R i=0
  |0,a,ha=>⟨[],a,fun x=>by simp [evQ];grind,fun i hi=>ha i (by omega)⟩
  |k+1,a,ha=>by
    obtain⟨q,R,h1,h2⟩:=QiE hL hb k (XD (Xf a L) (Xg (List.replicate k 0++[co a (m+k)]) b)) fun i hi=>by
      rw[ZG,Xi,QmM]
      rw[if_pos (by omega)]
      rcases Nat.lt_or_ge (m+k) i with h|h
      · rw[ha i (by omega),hb (i -k) (by omega)];omega
      · obtain rfl:i=m+k:=by omega
        rw[Nat.add_sub_cancel,hL];omega
    refine⟨Xx q (Xf (List.replicate k 0++[co a (m+k)]) (L^k)),R,fun x=> ?_,h2⟩
    have :=h1 x
    rw[Qcf,XB,Qa2] at this
    rw[Yn,XB,QgO,Rat.pow_succ]
    grind
theorem QvL{a b:List Int}(hb:1≤(Xa b).length)(hab:(Xa b).length≤(Xa a).length): ∃q R,Psd a b q R:=by
  obtain⟨d,hd⟩: ∃d,(Xa b).length=d+1:=⟨(Xa b).length -1,by omega⟩
  have⟨h1,h2,_⟩:=Zj hd
  obtain⟨q,R,h3,h4⟩:=QiE h1 h2 ((Xa a).length -d) a fun i hi=>(XA a).1 i (by omega)
  refine⟨q,Xa R,fun x=> ?_,?_,XV _⟩
  · rw[hd,Nat.add_sub_cancel,Zt];exact h3 x
  · have h5:=(XA R).2
    rcases h5 with h5|h5
    · omega
    · have : ¬d≤(Xa R).length -1:=fun h=>h5 (h4 _ h)
      omega
theorem QjP{a0 b0:List Int}(hc:InI (P a0) (P b0) 1): ∀(N:Nat)(a b:List Int)(l s D:Int),QcU a0 b0 a b l s D→(Xa b).length≤N→2≤(Xa a).length→
    Sr 0 a0 b0 ((Xa a0).length -1) ((Xa b0).length -1) 0≠0
  |0,a,b,l,s,D,h,hN,_=>by have :=h.pb;omega
  |N+1,a,b,l,s,D,h,hN,h2=>by
    have hpb:=h.pb
    have hle:=h.sub.le
    by_cases h1:(Xa b).length=1
    · have e1:=h.sub.sr 0 0 (Nat.zero_le _) (by omega)
      have e2:=h.sub.top
      have e3:=h.sub.hb
      rw[h1] at e1 e2 e3
      rw[Qj0 (a:=a) (n:=(Xa a).length -1) (m:=0) rfl (fun x hx=>e3 x hx) (by omega)] at e1
      intro h0
      rw[h0,Int.natAbs_zero,Nat.mul_zero,Int.natAbs_pow] at e1
      have :0<(co b 0).natAbs^ ((Xa a).length -1 -0):=Nat.pow_pos (by rw[Nat.sub_self] at e2;omega)
      omega
    · obtain⟨q,R,p⟩:=QvL (a:=a) hpb (by omega)
      by_cases hR:R.length=0
      · exfalso
        have hg:=h.done p hR
        obtain⟨u,v,e⟩:=hc
        have hd:P b∣ (1:QP):=by rw[e];exact Qa7 (XJ _ hg.1) (XJ _ hg.2.1)
        have :=Qaj hd QkP
        rw[Qwi,Yj] at this
        omega
      · obtain⟨r,hr⟩: ∃r,r=(Xa R).map (fun x=>x.tdiv D):=⟨_,rfl⟩
        have hq:=h.quo p hr
        have hlt:=p.lt
        rcases Nat.lt_or_ge (Xa b).length (Xa a).length with hlt'|hge
        · exact QjP hc N b r _ _ _ (h.next p hr hR (.inr ⟨hlt',rfl⟩) rfl) (by omega) (by omega)
        · exact QjP hc N b r _ _ _ (h.next p hr hR (.inl ⟨by omega,rfl⟩) rfl) (by omega) (by omega)
theorem QvR{a b:List Int}(hc:InI (P a) (P b) 1)(h1:(Xa b).length≤(Xa a).length)(h2:1≤(Xa b).length)(h3:2≤(Xa a).length):Sr 0 a b ((Xa a).length -1) ((Xa b).length -1) 0≠0:=
  QjP hc _ a b _ _ _ (QcU.start h1 h2 rfl) (Nat.le_refl _) h3
theorem Qgy(b:List Int){t:Nat}: ∀{n:Nat},t<n→ ∃X,rowsOf b n=X++cs b t::rowsOf b t
  |0,h=>by omega
  |n+1,h=>by
    rcases Nat.lt_or_ge t n with h1|h1
    · obtain⟨X,hX⟩:=Qgy b h1
      exact⟨cs b n::X,by rw[rowsOf,hX];rfl⟩
    · obtain rfl:t=n:=by omega
      exact⟨[],rfl⟩
theorem QjR{q b:List Int}{d c:Nat}(hq: ∀u,d≤u→co q u=0):Ye (fun u=>co q u*cs b u c) d=co (Xg q b) c:=by
  have :=QoM (a:=Xg q b) (b:=b) (q:=q) (r:=[]) (L:=1) (β:=0) (d:=d) (fun u hu=>hq u (by omega)) (fun x=>by simp) 0 c
  rw[YA,hq d (Nat.le_refl _)] at this
  simp only[Nat.zero_add,Int.one_mul,Int.zero_mul,Int.add_zero] at this
  have e:co (Xg q b) c=cs (Xg q b) 0 c:=by unfold cs;simp
  rw[e,this,Int.zero_add]
theorem QoF{p n:Nat}{a g:List Int}{q:List Nat}{e:Nat}(hq:XE p q)(hg:Mon g e)(ha: ∀i,n<i→co a i=0)(h:CgV (p:Int) a (Xg (zl q) g)):(∀i,n<i+e→co (zl q) i=0)∧(∀i,i+e=n→(p:Int)∣co a n -co (zl q) i):=by
  have hz: ∀i,q.length≤i→co (zl q) i=0:=fun i hi=>XX (by rw[Zl];exact hi)
  have h1: ∀i,n<i+e→co (zl q) i=0:=fun i hi=>by
    apply Classical.byContradiction
    intro h0
    have hil:i<q.length:=by apply Nat.lt_of_not_le;exact fun hc=>h0 (hz i hc)
    have hlast:=hq.2 (by omega)
    have htop:=(Qf8 (f:=zl q) (g:=g) (m:=q.length -1) (n:=e) (fun j hj=>hz j (by omega)) hg.2).1
    rw[hg.1,Int.mul_one,ZS] at htop
    obtain⟨k,hk⟩:=h.cof (q.length -1+e)
    rw[htop,ha _ (by omega)] at hk
    have hlt:=hq.1 (q.getD (q.length -1) 0) (by
      have :q.length -1<q.length:=by omega
      simp only[List.getD,List.getElem?_eq_getElem this,Option.getD_some];exact List.getElem_mem this)
    have :((p:Nat):Int)∣ (q.getD (q.length -1) 0:Nat):=⟨-k,by grind⟩
    have :=Nat.le_of_dvd hlast (Int.ofNat_dvd.1 this)
    omega
  refine⟨h1,fun i hi=> ?_⟩
  have htop:=(Qf8 (f:=zl q) (g:=g) (m:=i) (n:=e) (fun j hj=>h1 j (by omega)) hg.2).1
  rw[hg.1,Int.mul_one,hi] at htop
  obtain⟨k,hk⟩:=h.cof n
  rw[htop] at hk
  exact⟨k,by omega⟩
theorem QtH{p n m:Nat}{a b:List Int}(hp:Xk p)(hn:1≤n)(ha: ∀i,n<i→co a i=0)(hb: ∀i,m<i→co b i=0)(hl: ¬(p:Int)∣co a n)(hr: ¬(p:Int)∣Sr 0 a b n m 0):Cop (p:Int) a b:=by
  have hp0:0<p:=by have :=hp.1;omega
  have hA:=XK hp0 a
  have hB:=XK hp0 b
  have cA:=YW hp0 a
  have cB:=YW hp0 b
  have hA0:0<(XR p a).length:=by
    apply Nat.pos_of_ne_zero
    intro h0
    obtain⟨k,hk⟩:=cA.cof n
    rw[ZS,List.eq_nil_of_length_eq_zero h0] at hk
    exact hl ⟨-k,by simp at hk;grind⟩
  by_cases hg:(XN p (XR p a) (XR p b)).length≤1
  · exact(ZC hp hA hB (by omega) hg).cg cA cB
  exfalso
  have hM:=Qac hp hA hB (by omega) (by omega)
  obtain⟨⟨w1,d1⟩,⟨w2,d2⟩⟩:=QbS hp _ (XR p a) (XR p b) hA hB (Nat.le_refl _) (by omega)
  change CgV (p:Int) (zl (XR p a)) (Xg w1 (zl (XN p (XR p a) (XR p b)))) at d1
  change CgV (p:Int) (zl (XR p b)) (Xg w2 (zl (XN p (XR p a) (XR p b)))) at d2
  generalize hgG:XN p (XR p a) (XR p b)=G at *
  have hGm:=hM.mz
  have hGl:=hM.pos
  obtain⟨e,he⟩: ∃e,G.length -1=e:=⟨_,rfl⟩
  rw[he] at hGm
  obtain⟨q1,hq1⟩: ∃q,XR p w1=q:=⟨_,rfl⟩
  obtain⟨q2,hq2⟩: ∃q,XR p w2=q:=⟨_,rfl⟩
  have k1:CgV (p:Int) a (Xg (zl q1) (zl G)):=cA.symm.trans (d1.trans ((by rw[←hq1];exact(YW hp0 w1).symm:CgV (p:Int) w1 (zl q1)).mul (CgV.refl _ _)))
  have k2:CgV (p:Int) b (Xg (zl q2) (zl G)):=cB.symm.trans (d2.trans ((by rw[←hq2];exact(YW hp0 w2).symm:CgV (p:Int) w2 (zl q2)).mul (CgV.refl _ _)))
  have⟨z1,t1⟩:=QoF (by rw[←hq1];exact XK hp0 _) hGm ha k1
  have⟨z2,_⟩:=QoF (by rw[←hq2];exact XK hp0 _) hGm hb k2
  have hen:e≤n:=by
    apply Nat.le_of_not_lt
    intro hlt
    refine hl ?_
    obtain⟨k,hk⟩:=k1.cof n
    have h0:co (Xg (zl q1) (zl G)) n=0:=by
      have hz: ∀i,co (zl q1) i=0:=fun i=>z1 i (by omega)
      rw[←QjR (d:=0) fun u _=>hz u];rfl
    rw[h0] at hk
    exact⟨k,by omega⟩
  obtain⟨t0,ht0⟩: ∃t0,t0+e=n:=⟨n -e,by omega⟩
  have hc:=t1 t0 ht0
  obtain⟨X,hX⟩:=Qgy b (show t0<n by omega)
  have hcomb:CgV (p:Int) (Xg (zl q2) a) (Xg (zl q1) b):=by
    obtain⟨u,hu⟩:=k1
    obtain⟨v,hv⟩:=k2
    refine⟨XD (Xg (zl q2) u) (Xg (zl q1) v),fun x=> ?_⟩
    have a1:=hu x;have a2:=hv x
    simp only[Xc,Xh] at a1 a2⊢
    rw[a1,a2];grind
  obtain⟨z,hz⟩:=hcomb
  have hzc: ∀c,co (Xg (zl q2) a) c=co (Xg (zl q1) b) c+(p:Int)*co z c:=fun c=>by
    have :=Qni (f:=Xg (zl q2) a) (g:=Xx (Xg (zl q1) b) (Xf z p)) (fun x=>by rw[Xd,Xm,hz x]) c
    rw[this,Xv,Xi,Int.mul_comm]
  obtain⟨cl,hcl⟩: ∃cl,QaL (n+m -0 -1) (n+m -2*0 -1)++[0]=cl:=⟨_,rfl⟩
  have hM:=Qai cl
  have hS:Sr 0 a b n m 0=det cl ((rowsOf a m++X)++cs b t0::rowsOf b t0):=by
    unfold Sr;rw[hcl,Nat.sub_zero,Nat.sub_zero,hX,List.append_assoc]
  have e1:=hM.smul (rowsOf a m++X) (co (zl q1) t0) (cs b t0) (rowsOf b t0)
  have e2:=Qeq hM (rowsOf a m++X) (rowsOf b t0) (fun c=>co (zl q1) t0*cs b t0 c) (fun t=>co (zl q1) t) (fun t=>cs b t) t0 (fun t ht=> .inr (Qdd ht))
  have e3:=Qeq hM (rowsOf a m++X) (rowsOf b t0) (fun c=>co (zl q1) t0*cs b t0 c+Ye (fun t=>co (zl q1) t*cs b t c) t0) (fun t=> -co (zl q2) t) (fun t=>cs a t) m (fun t ht=> .inl (List.mem_append_left _ (Qdd ht)))
  have e4:(fun c=>(co (zl q1) t0*cs b t0 c+Ye (fun t=>co (zl q1) t*cs b t c) t0)+Ye (fun t=> -co (zl q2) t*cs a t c) m)=(fun c=>(p:Int)*(fun c=> -co z c) c):=by
    funext c
    have s1:co (zl q1) t0*cs b t0 c+Ye (fun t=>co (zl q1) t*cs b t c) t0=co (Xg (zl q1) b) c:=by
      rw[←QjR (d:=t0+1) fun u hu=>z1 u (by omega),YA];omega
    have s2:Ye (fun t=> -co (zl q2) t*cs a t c) m= -co (Xg (zl q2) a) c:=by
      rw[←QjR (d:=m) fun u hu=>z2 u (by omega)]
      have : ∀n,Ye (fun t=> -co (zl q2) t*cs a t c) n= -Ye (fun t=>co (zl q2) t*cs a t c) n:=fun n=>by
        induction n with
        |zero=>rfl
        |succ n ih=>rw[YA,YA,ih,Int.neg_mul];omega
      exact this m
    rw[s1,s2,hzc c];grind
  rw[e4,hM.smul] at e3
  have e5:co (zl q1) t0*Sr 0 a b n m 0=(p:Int)*det cl ((rowsOf a m++X)++(fun c=> -co z c)::rowsOf b t0):=by rw[e3,e2,e1,hS]
  have hpd:(p:Int)∣co (zl q1) t0*Sr 0 a b n m 0:=⟨_,e5⟩
  have hcp: ¬(p:Int)∣co (zl q1) t0:=fun h=>hl (by have :=Int.dvd_add hc h;rwa [Int.sub_add_cancel] at this)
  have hgc:Int.gcd (co (zl q1) t0) (p:Int)=1:=by
    have h1:=QgU (n:=1) hp (a:=co (zl q1) t0) (fun h0=>hcp (by
      have :=QcZ hp0 (a:=co (zl q1) t0) (b:=0) (by rw[h0,Yb])
      obtain⟨k,hk⟩:=this
      exact⟨k,by omega⟩))
    rwa [Nat.pow_one] at h1
  exact hr (QcC hgc hpd)
def ppN(n:Nat):Nat:=match n with
  |0=>1
  |n+1=>if ZN n then n*ppN n else ppN n
def pbN(S:Nat→Bool):Nat→Nat
  |0=>1
  |n+1=>if ZN n&& !S n then n*pbN S n else pbN S n
def QeU(S:Nat→Bool):Nat→Nat
  |0=>0
  |n+1=>if ZN n&&S n then QeU S n+1 else QeU S n
theorem QvG{S:Nat→Bool}{B:Nat}(hB:1≤B): ∀n,n≤B→ppN n≤pbN S n*B^QeU S n
  |0,_=>by simp [ppN,pbN,QeU]
  |n+1,hn=>by
    have ih:=QvG (S:=S) hB n (by omega)
    unfold ppN pbN QeU
    cases hp:ZN n<;>cases hs:S n<;>simp only[Bool.false_and,Bool.true_and,Bool.not_false,Bool.not_true,if_false,if_true,Bool.false_eq_true]
    · exact ih
    · exact ih
    · rw[Nat.mul_assoc];exact Nat.mul_le_mul_left _ ih
    · rw[Nat.pow_succ,←Nat.mul_assoc,Nat.mul_comm n]
      exact Nat.mul_le_mul ih (by omega)
theorem QrY{S:Nat→Bool}{q:Nat}(hq:Xk q): ∀n,n≤q→n≤4096→Nat.gcd q (pbN S n)=1
  |0,_,_=>Nat.gcd_one_right _
  |n+1,h,h4=>by
    have ih:=QrY (S:=S) hq n (by omega) (by omega)
    unfold pbN
    split
    · rename_i hn
      have hp:Xk n:=(ZZ (by omega)).1 (by simp only[Bool.and_eq_true] at hn;exact hn.1)
      have h1:Nat.gcd q n=1:=by rw[Nat.gcd_comm];exact hq.2 n (by have :=hp.1;omega) (by omega)
      exact Nat.Coprime.mul_right h1 ih
    · exact ih
theorem QrZ{S:Nat→Bool}{E:Nat}(hE: ∀q,Xk q→q<4096→S q=false→q∣E): ∀n,n≤4096→pbN S n∣E
  |0,_=>Nat.one_dvd _
  |n+1,h=>by
    have ih:=QrZ hE n (by omega)
    unfold pbN
    split
    · rename_i hn
      simp only[Bool.and_eq_true,Bool.not_eq_true'] at hn
      have hp:Xk n:=(ZZ (by omega)).1 hn.1
      exact Nat.Coprime.mul_dvd_of_dvd_of_dvd (QrY hp n (Nat.le_refl _) (by omega)) (hE n hp (by omega) hn.2) ih
    · exact ih
theorem QpI{S:Nat→Bool}{E B:Nat}(hB:1≤B)(hB4:B≤4096)(hE0:0<E)(hE: ∀q,Xk q→q<4096→S q=false→q∣E)(h:E*B^4<ppN B):5≤QeU S B:=by
  apply Nat.le_of_not_lt
  intro hc
  have h1:=QvG (S:=S) hB B (Nat.le_refl _)
  have h2:=Nat.le_of_dvd hE0 (QrZ (S:=S) hE B hB4)
  have h3:B^QeU S B≤B^4:=Nat.pow_le_pow_right hB (by omega)
  have :=Nat.mul_le_mul h2 h3
  omega
theorem cnt_mono{S:Nat→Bool}{n:Nat}: ∀{m},n≤m→QeU S n≤QeU S m
  |0,h=>by rw[show n=0 by omega];exact Nat.le_refl _
  |m+1,h=>by
    rcases Nat.lt_or_ge m n with h1|h1
    · rw[show n=m+1 by omega];exact Nat.le_refl _
    · have :=cnt_mono (S:=S) h1
      have h2:QeU S m≤QeU S (m+1):=by
        show _≤ if ZN m&&S m then QeU S m+1 else QeU S m
        split<;>omega
      omega
theorem Qtv:2^5600<ppN 4096:=by decide+kernel
end Go.Gx
namespace Go.Gx
def Qbx(p:Nat)(f:List Int):Prop:=md p (ldP f)≠0∧(XN p (XR p f) (XR p (Xn (zl (XR p f))))).length=1
instance{p:Nat}{f:List Int}:Decidable (Qbx p f):=inferInstanceAs (Decidable (_∧_))
structure Qlv (p:Nat) (f:List Int) (l:List (List Nat)):Prop where
  pr:Xk p
  lead:md p (ldP f)≠0
  mon: ∀d∈l,Zw p d
  whole: ∀d∈l,Whole p d
  pw:Pw (p:Int) (l.map zl)
  good: ¬Qut p f l
section
variable{p:Nat}{f:List Int}{l:List (List Nat)}
theorem Qqg(hp:Xk p)(hs:Qbx p f)(hf:Zv p (zl (XS p (XO p (XR p f)))) l):Qlv p f l:=by
  have hp0:0<p:=by have :=hp.1;omega
  have⟨l1,l2⟩:=QkB hp0 hs.1
  have hc:=XK hp0 f
  have hg:=Qjw hp hf l1 l2
  rw[QbW hp.1 hf.mon] at hg
  have hq:=(QfB hp hc hs.2).2
  rw[hc.nrm] at hf
  exact⟨hp,hs.1,hf.mon,hf.whole,hf.pw hq,hg⟩
theorem Qlv.same(h:Qlv p f l):XO p (QcM p [md p (ldP f)] l)=XO p (XR p f):=by
  rcases Classical.em (XO p (QcM p [md p (ldP f)] l)=XO p (XR p f)) with h1|h1
  · exact h1
  · exact absurd (.inr h1) h.good
theorem Qlv.cg(h:Qlv p f l):CgV (p:Int) (Xf (pL (l.map zl)) (ldP f)) f:=by
  have hp0:0<p:=by have :=h.pr.1;omega
  have h1:=QnM hp0 (ld:=ldP f) (CgV.refl (p:Int) (pL (l.map zl)))
  have h2:=QeB hp0 l [md p (ldP f)]
  have h3:=QbK hp0 (QcM p [md p (ldP f)] l)
  rw[h.same] at h3
  exact h1.trans (h2.symm.trans (h3.symm.trans ((QbK hp0 _).trans (YW hp0 f))))
theorem Qlv.coa(h:Qlv p f l):CoA p l:=fun i j a b hij ha hb=>by
  have hma:=h.mon a (List.mem_of_getElem? ha)
  have hmb:=h.mon b (List.mem_of_getElem? hb)
  have h1:=h.pw.at i j (zl a) (zl b) (by omega) (by simp [ha]) (by simp [hb])
  unfold GC
  rw[hma.can.nrm,hmb.can.nrm]
  exact QdO h.pr hma.can hmb.can (by have :=hma.pos;omega) h1
theorem Qlv.start{k e:Nat}{L0 L1:List (List Int)}(h:Qlv p f l)(hn:Nrm f)(hk:1≤k)(hb:HB f (p^k))(hr:LReach p k f (Qae p l) (Qae p (Qaq p l)) L0 L1 e)(hx:e=k∨QfU f L0):
    QeK p k (L0.zip l) f∧(L0.zip l).map Prod.fst=L0∧L0.length=l.length:=by
  have hp2:=h.pr.1
  have em:=QbW hp2 h.mon
  obtain⟨n,hi⟩:=QkC h.pr h.mon (by rw[em];exact h.coa) (by rw[em];exact h.good) (by rw[em];exact hr)
  have hl:=(QkD hi).1
  have e1:(L0.zip l).map Prod.fst=L0:=by rw[List.map_fst_zip (by omega)]
  have e2:(L0.zip l).map Prod.snd=l:=by rw[List.map_snd_zip (by omega)]
  refine⟨⟨h.pr,hk,hn,h.lead,fun z hz=> ?_,?_,?_,hb⟩,e1,hl⟩
  · obtain⟨i,hiz⟩:=List.getElem?_of_mem hz
    rw[List.getElem?_zip_eq_some] at hiz
    obtain⟨h1,h2⟩:=hiz
    have hm:=h.mon z.2 (List.mem_of_getElem? h2)
    have hb':(Qae p l)[i]? =some (Xa (z.2.map (QdX p))):=by unfold Qae;rw[List.getElem?_map,h2];rfl
    obtain⟨d,m1,m2,m3⟩:=hi.fit.at i z.1 _ h1 hb'
    have m4:=hm.mon hp2
    have ed:=m2.same m4
    subst ed
    exact⟨hm,h.whole z.2 (List.mem_of_getElem? h2),⟨_,m1,hm.mz⟩,m3.trans (QgB p z.2)⟩
  · have :(L0.zip l).map (fun z:List Int×List Nat=>zl z.2)=l.map zl:=by rw[←e2,List.map_map];simp [e2,Function.comp_def]
    rw[this];exact h.pw
  · unfold pA
    rw[e1]
    exact QnN hi hx
def QgH(ds:List Nat)(φ:Nat→Bool):Prop:= ∀S C:List Nat,Spl ds S C→φ S.sum=true
theorem QhD{α:Type}{a:α}: ∀{Z S C:List α},Spl (Z++[a]) S C→(∃S',S=S'++[a]∧Spl Z S' C)∨ ∃C',C=C'++[a]∧Spl Z S C'
  | [],S,C,h=>by
    cases h with
    |l h=>cases h;exact .inl ⟨[],rfl,.nil⟩
    |r h=>cases h;exact .inr ⟨[],rfl,.nil⟩
  |b::Z,S,C,h=>by
    cases h with
    |l h=>
      rcases QhD h with⟨S',rfl,h1⟩| ⟨C',rfl,h1⟩
      · exact .inl ⟨b::S',rfl,h1.l⟩
      · exact .inr ⟨C',rfl,h1.l⟩
    |r h=>
      rcases QhD h with⟨S',rfl,h1⟩| ⟨C',rfl,h1⟩
      · exact .inl ⟨S',rfl,h1.r⟩
      · exact .inr ⟨b::C',rfl,h1.r⟩
theorem QgH.nil{φ:Nat→Bool}(h:φ 0=true):QgH [] φ:=fun S C hs=>by cases hs;exact h
theorem QgH.next{ds:List Nat}{d:Nat}{φ ψ:Nat→Bool}(h:QgH ds φ)(e: ∀j,ψ j=if d≤j then φ j||φ (j -d) else φ j):QgH (ds++[d]) ψ:=fun S C hs=>by
  rw[e]
  rcases QhD hs with⟨S',rfl,h1⟩| ⟨C',rfl,h1⟩
  · have h2:=h S' C h1
    rw[List.sum_append,if_pos (by simp)]
    simp [h2]
  · have h2:=h S C' h1
    split<;>simp [h2]
theorem Qn0: ∀{Z:LZs},(∀z∈Z,Mon z.1 (z.2.length -1))→Mon (pA Z) (Z.map fun z=>z.2.length -1).sum
  | [],_=>Qat
  |z::Z,h=>(h z (by simp)).mul (Qn0 fun y hy=>h y (by simp [hy]))
theorem QrB{q d:Nat}{A g:List Int}(hq:2≤q)(hgc:Int.gcd (ldP g) (q:Int)=1)(h0:ldP g≠0)(hd:Mon A d)(hc:CgV (q:Int) (Xf A (ldP g)) g):(Xa g).length=d+1:=by
  obtain⟨b,hb⟩:=Qa5 h0
  have⟨h1,h2,_⟩:=Zj hb
  have hdv: ∀i,(q:Int)∣ldP g*co A i -co g i:=fun i=>by
    obtain⟨k,hk⟩:=hc.cof i
    rw[Xi] at hk
    exact⟨k,by rw[Int.mul_comm (ldP g)];omega⟩
  rcases Nat.lt_trichotomy b d with hlt|heq|hgt
  · exfalso
    have :=hdv d
    rw[hd.1,h2 d hlt,Int.sub_zero] at this
    have :=QcC hgc this
    have :=Int.le_of_dvd (by omega) this
    omega
  · omega
  · exfalso
    have :=hdv b
    rw[hd.2 b hgt,h1,Int.mul_zero,Int.zero_sub] at this
    have h3:(q:Int)∣ldP g*1:=by rw[Int.mul_one];exact(Int.dvd_neg).1 this
    have :=QcC hgc h3
    have :=Int.le_of_dvd (by omega) this
    omega
def Qbw(f:List Int)(φ:Nat→Bool):Prop:= ∀g h:List Int,P f=P g*P h→φ ((Xa g).length -1)=true
theorem Qlv.poss{φ:Nat→Bool}(h:Qlv p f l)(hφ:QgH (l.map fun d=>d.length -1) φ):Qbw f φ:=fun g r e=>by
  have hz: ∀z∈l.map fun d=>(zl d,d),LZ p z:=fun z hz=>by
    obtain⟨d,hd,rfl⟩:=List.mem_map.1 hz
    exact⟨h.mon d hd,h.whole d hd,⟨_,(h.mon d hd).mz,(h.mon d hd).mz⟩,CgV.refl _ _⟩
  have e1:(l.map fun d=>(zl d,d)).map (fun z:List Int×List Nat=>zl z.2)=l.map zl:=by rw[List.map_map];rfl
  have e2:pA (l.map fun d=>(zl d,d))=pL (l.map zl):=by unfold pA;rw[List.map_map];rfl
  obtain⟨S,C,hS,cS,_⟩:=Qfp (N:=1) h.pr hz (by rw[e1];exact h.pw) (Nat.le_refl _) h.lead (by rw[e2,Nat.pow_one];exact h.cg) e
  have el:=QcH e
  have hl:=h.lead
  rw[el] at hl
  have hlg:=(Qbn (by have :=h.pr.1;omega) hl).1
  have ng:ldP g≠0:=fun h0=>hlg (by rw[h0];exact Yb p)
  have hmS:Mon (pA S) (S.map fun z=>z.2.length -1).sum:=Qn0 fun z hz'=>by
    obtain⟨d,hd,rfl⟩:=List.mem_map.1 (hS.mem.1 z hz')
    exact(h.mon d hd).mz
  have hd:=QrB (q:=p^1) (by have :=h.pr.1;rw[Nat.pow_one];omega) (QaZ (N:=1) h.pr hlg) ng hmS cS
  have hs:=hS.map fun z:List Int×List Nat=>z.2.length -1
  rw[List.map_map] at hs
  rw[hd,Nat.add_sub_cancel]
  exact hφ _ _ hs
theorem Qbw.and{φ ψ:Nat→Bool}(h:Qbw f φ)(k:Qbw f ψ):Qbw f fun j=>φ j&&ψ j:=fun g r e=>by show(φ _&&ψ _)=true;rw[h g r e,k g r e];rfl
theorem Qbw.zero{φ:Nat→Bool}(h:Qbw f φ):φ 0=true:=h [1] f (by rw[Qcw,QbD])
theorem Qbw.top{φ:Nat→Bool}(h:Qbw f φ):φ ((Xa f).length -1)=true:=h f [1] (by rw[Qcw,QaE])
def Qkf(φ:Nat→Bool):Nat→Nat
  |0=>0
  |n+1=>if φ n then Qkf φ n+1 else Qkf φ n
theorem Qkg{φ:Nat→Bool}{j:Nat}: ∀{n},j<n→φ j=true→1≤Qkf φ n
  |n+1,h,hj=>by
    unfold Qkf
    by_cases e:j=n
    · subst e;rw[if_pos hj];omega
    · have :=Qkg (n:=n) (by omega) hj;split<;>omega
theorem Qkh{φ:Nat→Bool}{j:Nat}(h0:φ 0=true): ∀{n},0<j→j<n→φ j=true→2≤Qkf φ n
  |n+1,h,h1,hj=>by
    unfold Qkf
    by_cases e:j=n
    · subst e;rw[if_pos hj];have :=Qkg (φ:=φ) (j:=0) (n:=j) h h0;omega
    · have :=Qkh h0 (n:=n) h (by omega) hj;split<;>omega
theorem Qta{φ:Nat→Bool}(hn:Nrm f)(h2:2≤f.length)(h:Qbw f φ)(hc:Qkf φ f.length=2):Irr (P f):=by
  apply Classical.byContradiction
  intro hni
  obtain⟨a,b,ha,hb,eab,la,lb⟩:=Qbo hn h2 hni
  have h3:=h a b eab
  rw[ha.t] at h3
  have hdl:a.length+b.length=f.length+1:=by
    have :=Zd ha.ne hb.ne
    rw[←eab,Yj,Yj,Yj,ha.t,hb.t,hn.t] at this
    omega
  have ht:=h.top
  rw[hn.t] at ht
  have h4:=Qkh h.zero (n:=f.length -1) (by omega) (by omega) h3
  have h5:Qkf φ f.length=Qkf φ (f.length -1)+1:=by
    obtain⟨n,hn1⟩: ∃n,f.length=n+1:=⟨f.length -1,by omega⟩
    rw[hn1,Nat.add_sub_cancel] at ht⊢
    show(if φ n then Qkf φ n+1 else Qkf φ n)=_
    rw[if_pos ht]
  omega
end
end Go.Gx
namespace Go.Gx
theorem Qqt{p:Nat}(hp:0<p){z:Int}(h: ¬(p:Int)∣z):md p z≠0:=fun h0=>h (by
  obtain⟨k,hk⟩:=QcZ hp (a:=z) (b:=0) (by rw[h0,Yb])
  exact⟨k,by omega⟩)
theorem Qj1{p:Nat}{f:List Int}(hp:Xk p)(hl: ¬(p:Int)∣ldP f)(hc:Cop (p:Int) f (Xn f)):Qbx p f:=by
  have hp0:0<p:=by have :=hp.1;omega
  have hl':=Qqt hp0 hl
  have⟨l1,l2⟩:=QkB hp0 hl'
  have cA:=YW hp0 f
  have cB:=YW hp0 (Xn (zl (XR p f)))
  have h2:Cop (p:Int) (zl (XR p f)) (zl (XR p (Xn (zl (XR p f))))):=hc.cg cA.symm ((Qep cA).symm.trans cB.symm)
  have h3:=QdO hp (XK hp0 _) (XK hp0 _) (by omega) h2
  have h4:=Qjv hp (XK hp0 _) (XK hp0 _) (by omega) h3
  exact⟨hl',by rw[h4];rfl⟩
theorem Qs5{f:List Int}{B C H N:Nat}(h2:2≤(Xa f).length)(hN:2*(Xa f).length≤N+3)(hs:Qem (P f) (der (P f)))(hH:1≤H)(ha: ∀i,(co f i).natAbs≤C)(hb: ∀i,(co (Xn f) i).natAbs≤H)(hCH:C≤H)(hB:1≤B)(hB4:B≤4096)(hE:C*(N*H)^N*B^4<ppN B):
    5≤QeU (fun p=>decide (Qbx p f)) B:=by
  obtain⟨n,hn⟩: ∃n,(Xa f).length=n+1:=⟨(Xa f).length -1,by omega⟩
  have⟨l1,l2,l3⟩:=Zj hn
  have hdl:co (Xn f) (n -1)≠0:=by
    rw[XZ,show n -1+1=n by omega,l1]
    exact Int.mul_ne_zero l3 (by omega)
  have hdz: ∀i,n -1<i→co (Xn f) i=0:=fun i hi=>by rw[XZ,l2 _ (by omega),Int.zero_mul]
  have hdt:(Xa (Xn f)).length=n:=QfH (fun i hi=>hdz i (by omega)) (.inr hdl)
  rw[QgV] at hs
  have hr:=QvR hs (by omega) (by omega) (by omega)
  rw[hn,hdt,Nat.add_sub_cancel] at hr
  have hbd:=Qsl (a:=f) (b:=Xn f) (n:=n) (m:=n -1) (k:=0) (j:=0) (N:=N) (fun i=>Nat.le_trans (ha i) hCH) hb hH (by omega) (Nat.zero_le _) (by omega)
  have hld:(ldP f).natAbs≤C:=by rw[←l1];exact ha n
  have hEle:(ldP f).natAbs*(Sr 0 f (Xn f) n (n -1) 0).natAbs≤C*(N*H)^N:=Nat.mul_le_mul hld hbd
  refine QpI (E:=(ldP f).natAbs*(Sr 0 f (Xn f) n (n -1) 0).natAbs) hB hB4 (Nat.mul_pos (by omega) (by omega)) (fun q hq _ hs'=> ?_) (Nat.lt_of_le_of_lt (Nat.mul_le_mul_right _ hEle) hE)
  have hns: ¬Qbx q f:=of_decide_eq_false hs'
  apply Classical.byContradiction
  intro hnd
  refine hns (Qj1 hq (fun hd=>hnd ?_) (QtH hq (n:=n) (m:=n -1) (by omega) l2 hdz (fun hd=>hnd ?_) fun hd=>hnd ?_))
  · exact Nat.dvd_trans (Int.ofNat_dvd_left.1 hd) (Nat.dvd_mul_right _ _)
  · rw[l1] at hd;exact Nat.dvd_trans (Int.ofNat_dvd_left.1 hd) (Nat.dvd_mul_right _ _)
  · exact Nat.dvd_trans (Int.ofNat_dvd_left.1 hd) (Nat.dvd_mul_left _ _)
theorem QpX{f:List Int}{C n:Nat}(ha: ∀i,(co f i).natAbs≤C)(hn:(Xa f).length≤n+1)(i:Nat):(co (Xn f) i).natAbs≤n*C:=by
  rw[XZ]
  rcases Nat.lt_or_ge i n with h|h
  · rw[Int.natAbs_mul,Nat.mul_comm];exact Nat.mul_le_mul (by omega) (ha _)
  · rw[(XA f).1 (i+1) (by omega),Int.zero_mul];simp
theorem Qu5{f:List Int}(h2:2≤(Xa f).length)(hl:(Xa f).length≤10)(hs:Qem (P f) (der (P f)))(ha: ∀i,(co f i).natAbs≤2^256):5≤QeU (fun p=>decide (Qbx p f)) 4096:=by
  refine Qs5 (C:=2^256) (H:=9*2^256) (N:=17) h2 (by omega) hs (by decide+kernel) ha (QpX ha hl) (by decide+kernel) (by decide) (by decide) (Nat.lt_trans ?_ Qtv)
  decide+kernel
def Bof(n:Nat):Nat:=if n≤10 then 4096 else if n≤11 then 1024 else 128
theorem Quu(n:Nat):Bof n≤4096:=by unfold Bof;split<;>(try split)<;>decide
theorem Qsd{n p:Nat}(hn:n≤17)(hp:p<Bof n):p^ ((n -1)/2+1)≤9223372036854775808:=by
  unfold Bof at hp
  split at hp
  · exact Nat.le_trans (Nat.pow_le_pow_left (Nat.le_of_lt hp) _) (Nat.le_trans (Nat.pow_le_pow_right (by decide) (show(n -1)/2+1≤5 by omega)) (by decide+kernel))
  · split at hp
    · exact Nat.le_trans (Nat.pow_le_pow_left (Nat.le_of_lt hp) _) (Nat.le_trans (Nat.pow_le_pow_right (by decide) (show(n -1)/2+1≤6 by omega)) (by decide+kernel))
    · exact Nat.le_trans (Nat.pow_le_pow_left (Nat.le_of_lt hp) _) (Nat.le_trans (Nat.pow_le_pow_right (by decide) (show(n -1)/2+1≤9 by omega)) (by decide+kernel))
end Go.Gx
namespace Go.Gx
theorem Qig{f g:List Int}(h: ∀i,co f i=co g i):hgt f=hgt g:=
  Nat.le_antisymm (Qih f fun i=>by rw[h];exact Qd9 g i) (Qih g fun i=>by rw[←h];exact Qd9 f i)
theorem Qm5{f g h:List Int}{n:Nat}(hn:(Xa f).length=n+1)(h11:n≤11)(e:P f=P g*P h):hgt g≤2^n*rtN (n+1)*hgt f:=by
  have hf0:P f≠0:=fun h0=>by rw[←Ya,Yj] at h0;omega
  have hg0:P g≠0:=fun h0=>hf0 (by rw[e,h0,XG])
  have hh0:P h≠0:=fun h0=>hf0 (by rw[e,h0,Ys])
  have hd:=Zd hg0 hh0
  rw[←e,Yj,Yj,Yj,hn] at hd
  have lg:(Xa g).length≠0:=fun h0=>hg0 (by rw[←Ya,Yj,h0])
  have lh:(Xa h).length≠0:=fun h0=>hh0 (by rw[←Ya,Yj,h0])
  have hs:=(XA h).2.resolve_left lh
  have hne:Xa h≠ []:=fun h0=>lh (by rw[h0];rfl)
  have hy:(Xa h).getLast hne≠0:=by
    intro h0
    refine hs ?_
    rw[←Xo]
    have :co (Xa h) ((Xa h).length -1)=(Xa h).getLast hne:=by
      rw[List.getLast_eq_getElem]
      simp [co,List.getD,List.getElem?_eq_getElem (show(Xa h).length -1<(Xa h).length by omega)]
    rw[this,h0]
  have hsp:(Xa h).dropLast++[(Xa h).getLast hne]=Xa h:=List.dropLast_concat_getLast hne
  have hdl:(Xa h).dropLast.length=(Xa h).length -1:=List.length_dropLast
  have hb:=Qha (f:=Xa g) (g:=(Xa h).dropLast) (fun h0=>lg (by rw[h0];rfl)) _ hy (by rw[hdl];omega)
  rw[hsp,hdl,show(Xa g).length -1+((Xa h).length -1)=n by omega,show(Xa g).length+((Xa h).length -1)=n+1 by omega] at hb
  have e1:hgt (Xa g)=hgt g:=Qig fun i=>Xo g i
  have e2:hgt (Xg (Xa g) (Xa h))=hgt f:=Qig fun i=>QgE (by rw[Zb,Yf,Yf,e]) i
  rw[e1,e2] at hb
  exact hb
theorem Qva{f:List Int}{n:Nat}(hn:(Xa f).length=n+1)(h11:n≤11):HB f (2*((ldP f).natAbs*(2^n*rtN (n+1)*hgt f))+1):=fun g h e i=>by
  have h1:=Qm5 hn h11 e
  have h2:=Qd9 g i
  rw[Int.natAbs_mul]
  have :=Nat.mul_le_mul_left (ldP f).natAbs (Nat.le_trans h2 h1)
  omega
theorem HB.mono{f:List Int}{m m':Nat}(h:HB f m)(hm:m≤m'):HB f m':=fun g k e i=>Nat.lt_of_lt_of_le (h g k e i) hm
end Go.Gx
