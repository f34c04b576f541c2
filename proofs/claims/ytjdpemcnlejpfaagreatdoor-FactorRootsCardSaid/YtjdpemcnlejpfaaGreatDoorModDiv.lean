/-
  ModDiv, ModGcd, PrimeTab, ModSym, Det, Subres, Gauss, CountMath, Norm, Bound
-/
import Derived.Test.YtjdpemcnlejpfaaGreatDoorDivMath2
set_option linter.all false
namespace Go.Gx
def Xk(p:Nat):Prop:=2≤p∧ ∀a,0<a→a<p→Nat.gcd a p=1
def Qa9(p:Nat)(g:List Nat)(n c k:Nat)(r:List Nat):List Nat:=(List.range r.length).map fun i=>if n≤i∧i -n<k then(r.getD i 0+c*g.getD (i -n) 0 % p) % p else r.getD i 0
theorem YS{p n c k:Nat}{g r:List Nat}:(Qa9 p g n c k r).length=r.length:=by simp [Qa9]
theorem Zz{p n c k:Nat}{g r:List Nat}(i:Nat)(hi:i<r.length):(Qa9 p g n c k r).getD i 0=if n≤i∧i -n<k then(r.getD i 0+c*g.getD (i -n) 0 % p) % p else r.getD i 0:=by
  simp only[Qa9]
  rw[List.getD,List.getElem?_map,List.getElem?_range hi]
  rfl
theorem Qly{p n c:Nat}{g r:List Nat}:Qa9 p g n c 0 r=r:=by
  refine QcJ YS fun i=> ?_
  rcases Nat.lt_or_ge i r.length with h|h
  · rw[Zz i h,if_neg (by omega)]
  · simp [List.getD,List.getElem?_eq_none,YS,h]
theorem Qlx{p n c k v:Nat}{g r:List Nat}(hk:n+k<r.length)(hv:v=((Qa9 p g n c k r).getD (n+k) 0+c*g.getD k 0 % p) % p):(Qa9 p g n c k r).set (n+k) v=Qa9 p g n c (k+1) r:=by
  refine QcJ (by simp [YS]) fun i=> ?_
  rw[Qc7 _ _ _ (by rw[YS];exact hk)]
  rcases Nat.lt_or_ge i r.length with h|h
  · by_cases hi:i=n+k
    · subst hi
      rw[if_pos rfl,hv,Zz (k:=k) _ hk,if_neg (by omega),Zz (k:=k+1) _ hk,if_pos (by omega),show n+k -n=k by omega]
    · rw[if_neg hi,Zz (k:=k) i h,Zz (k:=k+1) i h]
      by_cases h1:n≤i∧i -n<k
      · rw[if_pos h1,if_pos (by omega)]
      · rw[if_neg h1,if_neg (by omega)]
  · rw[if_neg (by omega)]
    simp [List.getD,List.getElem?_eq_none,YS,h]
theorem QgI{p n c k:Nat}{g r:List Nat}(hr: ∀d∈r,d<p)(hp:0<p): ∀d∈Qa9 p g n c k r,d<p:=fun d hd=>by
  obtain⟨i,hi,rfl⟩:=List.getElem_of_mem hd
  have hi2:i<r.length:=by rw[←YS (p:=p) (n:=n) (c:=c) (k:=k) (g:=g)];exact hi
  have h:=Zz (p:=p) (n:=n) (c:=c) (k:=k) (g:=g) i hi2
  rw[List.getD,List.getElem?_eq_getElem hi,Option.getD_some] at h
  rw[h]
  split
  · exact Nat.mod_lt _ hp
  · rw[List.getD,List.getElem?_eq_getElem hi2,Option.getD_some];exact hr _ (List.getElem_mem hi2)
def Ze(p inv:Nat)(g:List Nat):Nat→List Nat×List Nat→List Nat×List Nat
  |0,s=>s
  |n+1,(q,r)=>let c:=r.getD (n+(g.length -1)) 0*inv % p;Ze p inv g n (q.set n c,if c=0 then r else Qa9 p g n (p -c) g.length r)
def XH(p:Nat)(f g:List Nat):List Nat×List Nat:=
  if f.length≤g.length -1 then([],f)
  else let s:=Ze p (ZL p (g.getD (g.length -1) 0)) g (f.length -(g.length -1)) (List.replicate (f.length -(g.length -1)) 0,f);(YK s.1,YK s.2)
theorem Qh5{p inv:Nat}{g:List Nat}: ∀(n:Nat)(q r:List Nat),(Ze p inv g n (q,r)).1.length=q.length∧(Ze p inv g n (q,r)).2.length=r.length
  |0,q,r=>⟨rfl,rfl⟩
  |n+1,q,r=>by
    rw[Ze]
    have⟨h1,h2⟩:=Qh5 (p:=p) (inv:=inv) (g:=g) n (q.set n (r.getD (n+(g.length -1)) 0*inv % p)) (if r.getD (n+(g.length -1)) 0*inv % p=0 then r else Qa9 p g n (p -r.getD (n+(g.length -1)) 0*inv % p) g.length r)
    refine⟨h1.trans (by simp),h2.trans ?_⟩
    split
    · rfl
    · exact YS
theorem QgZ{p inv:Nat}{g:List Nat}(hp:0<p): ∀(n:Nat)(q r:List Nat),(∀d∈q,d<p)→(∀d∈r,d<p)→(∀d∈(Ze p inv g n (q,r)).1,d<p)∧ ∀d∈(Ze p inv g n (q,r)).2,d<p
  |0,q,r,h1,h2=>⟨h1,h2⟩
  |n+1,q,r,h1,h2=>by
    rw[Ze]
    refine QgZ hp n _ _ (fun d hd=> ?_) fun d hd=> ?_
    · rcases List.mem_or_eq_of_mem_set hd with h|h
      · exact h1 d h
      · rw[h];exact Nat.mod_lt _ hp
    · split at hd
      · exact h2 d hd
      · exact QgI h2 hp d hd
theorem bez(a b:Nat): ∃u v:Int,u*a+v*b=(Nat.gcd a b:Nat):=by
  induction a using Nat.strongRecOn generalizing b with
  |ind a ih=>
    rcases Nat.eq_zero_or_pos a with h|h
    · subst h;exact⟨0,1,by simp⟩
    · obtain⟨u,v,e⟩:=ih (b % a) (Nat.mod_lt _ h) a
      rw[←Nat.gcd_rec] at e
      refine⟨v -u*(b/a:Nat),u,?_⟩
      have hm:((a*(b/a)+b % a:Nat):Int)=b:=by rw[Nat.div_add_mod]
      simp only[Int.natCast_add,Int.natCast_mul] at hm
      rw[←e]
      grind
theorem Qak{p a:Nat}(hp:Xk p)(ha:0<a)(hap:a<p):ZL p a<p∧a*ZL p a % p=1:=by
  have hg:=hp.2 a ha hap
  have h2:=hp.1
  obtain⟨u,v,e⟩:=bez a p
  rw[hg] at e
  have h1:a*md p u % p=1 % p:=by
    rw[QnU (by omega),Nat.mod_eq_of_lt (by omega:1<p)]
    have c:Cg p ((a:Int)*(md p u:Nat)) 1:=(Cg.mul (Cg.refl p _) (QlF (by omega) u)).trans ⟨-v,by grind⟩
    rw[Qfm (by omega) c]
    exact QdQ (r:=1) (by omega)
  have h3:=Qjx (by omega) (Qej (by omega) u) h1
  rw[h3]
  exact⟨Qej (by omega) u,by rw[h1,Nat.mod_eq_of_lt (by omega)]⟩
theorem Qh6{p:Nat}{g:List Nat}(hp:Xk p)(hg:0<g.length)(hl:0<g.getD (g.length -1) 0)(hlt: ∀d∈g,d<p): ∀(n:Nat)(q r:List Nat),(∀d∈r,d<p)→r.length=n+(g.length -1)∨n+(g.length -1)≤r.length→(∀i,n+(g.length -1)≤i→r.getD i 0=0)→
    ∀i,g.length -1≤i→(Ze p (ZL p (g.getD (g.length -1) 0)) g n (q,r)).2.getD i 0=0
  |0,q,r,_,_,h=>fun i hi=>h i (by omega)
  |n+1,q,r,hr,hrl,h=>by
    rw[Ze]
    have hp2:=hp.1
    have hgl:g.getD (g.length -1) 0<p:=by
      rw[List.getD,List.getElem?_eq_getElem (by omega),Option.getD_some];exact hlt _ (List.getElem_mem _)
    have⟨hi1,hi2⟩:=Qak hp hl hgl
    have hrlen:n+(g.length -1)<r.length:=by omega
    refine Qh6 hp hg hl hlt n _ _ ?_ ?_ ?_
    · split
      · exact hr
      · exact QgI hr (by omega)
    · right
      split
      · omega
      · rw[YS];omega
    · intro i hi
      have hrn:r.getD (n+(g.length -1)) 0<p:=by
        rw[List.getD,List.getElem?_eq_getElem hrlen,Option.getD_some];exact hr _ (List.getElem_mem _)
      split
      · rename_i hc
        rcases Nat.lt_or_ge (n+(g.length -1)) i with h1|h1
        · exact h i (by omega)
        · obtain rfl:i=n+(g.length -1):=by omega
          have c1:Cg p ((r.getD (n+(g.length -1)) 0:Nat):Int) 0:=by
            have a1:Cg p (((r.getD (n+(g.length -1)) 0:Nat):Int)*(ZL p (g.getD (g.length -1) 0):Nat)) 0:=by
              have :=(Zq (p:=p) (r.getD (n+(g.length -1)) 0*ZL p (g.getD (g.length -1) 0))).symm
              rw[hc] at this
              simpa using this
            have a2:Cg p (((g.getD (g.length -1) 0:Nat):Int)*(ZL p (g.getD (g.length -1) 0):Nat)) 1:=by
              have :=(Zq (p:=p) (g.getD (g.length -1) 0*ZL p (g.getD (g.length -1) 0))).symm
              rw[hi2] at this
              simpa using this
            have a3:=Cg.mul (Cg.refl p ((r.getD (n+(g.length -1)) 0:Nat):Int)) a2
            have a4:=Cg.mul a1 (Cg.refl p ((g.getD (g.length -1) 0:Nat):Int))
            rw[Int.mul_one] at a3
            refine a3.symm.trans ?_
            rw[Int.zero_mul] at a4
            rw[show ∀x y z:Int,x*(y*z)=x*z*y by intros;grind]
            exact a4
          have :=(QdQ hrn).symm.trans (Qfm (by omega) c1)
          rw[this,Yb]
      · rcases Nat.lt_or_ge i r.length with h0|h0
        · rw[Zz i h0]
          rcases Nat.lt_or_ge (n+(g.length -1)) i with h1|h1
          · rw[if_neg (by omega)];exact h i (by omega)
          · obtain rfl:i=n+(g.length -1):=by omega
            rw[if_pos (by omega),show n+(g.length -1) -n=g.length -1 by omega]
            generalize hcc:r.getD (n+(g.length -1)) 0*ZL p (g.getD (g.length -1) 0) % p=c
            have hcp:c<p:=by rw[←hcc];exact Nat.mod_lt _ (by omega)
            have a1:Cg p ((c:Nat):Int) (((r.getD (n+(g.length -1)) 0:Nat):Int)*(ZL p (g.getD (g.length -1) 0):Nat)):=by
              rw[←hcc];refine(Zq _).trans ?_;rw[Int.natCast_mul];exact Cg.refl p _
            have a2:Cg p (((g.getD (g.length -1) 0:Nat):Int)*(ZL p (g.getD (g.length -1) 0):Nat)) 1:=by
              have :=(Zq (p:=p) (g.getD (g.length -1) 0*ZL p (g.getD (g.length -1) 0))).symm
              rw[hi2] at this
              simpa using this
            have a3:Cg p (((r.getD (n+(g.length -1)) 0+(p -c)*g.getD (g.length -1) 0 % p:Nat)):Int) 0:=by
              rw[Int.natCast_add]
              have b1:Cg p (((p -c)*g.getD (g.length -1) 0 % p:Nat):Int) (-(c:Int)*(g.getD (g.length -1) 0:Nat)):=by
                refine(Zq _).trans ?_
                rw[Int.natCast_mul]
                exact(Qf6 (Nat.le_of_lt hcp)).mul (Cg.refl p _)
              refine((Cg.refl p _).add b1).trans ?_
              have b2:Cg p (-(c:Int)*(g.getD (g.length -1) 0:Nat)) (-((r.getD (n+(g.length -1)) 0:Nat):Int)):=by
                refine(a1.neg.mul (Cg.refl p _)).trans ?_
                have b3:=((Cg.refl p ((r.getD (n+(g.length -1)) 0:Nat):Int)).mul a2).neg
                rw[Int.mul_one] at b3
                rw[show ∀x y z:Int,-(x*y)*z= -(x*(z*y)) by intros;grind]
                exact b3
              have b4:=(Cg.refl p ((r.getD (n+(g.length -1)) 0:Nat):Int)).add b2
              rw[show ∀x:Int,x+ -x=0 by intros;omega] at b4
              exact b4
            have a4:=Qfm (by omega) ((Zq (p:=p) (r.getD (n+(g.length -1)) 0+(p -c)*g.getD (g.length -1) 0 % p)).trans a3)
            rw[Yb,QdQ (Nat.mod_lt _ (by omega))] at a4
            exact a4
        · rw[List.getD,List.getElem?_eq_none (by rw[YS];omega)];rfl
theorem Qa0{p:Nat}{f g:List Nat}(hp:Xk p)(hg:0<g.length)(hl:0<g.getD (g.length -1) 0)(hlt: ∀d∈g,d<p)(hf: ∀d∈f,d<p):(XH p f g).2.length<g.length:=by
  unfold XH
  split
  · dsimp only;omega
  · rename_i h
    dsimp only
    have h1:=Qh6 hp hg hl hlt (f.length -(g.length -1)) (List.replicate (f.length -(g.length -1)) 0) f hf (.inr (by omega)) (fun i hi=>by rw[List.getD,List.getElem?_eq_none (by omega)];rfl)
    have h2:(YK (Ze p (ZL p (g.getD (g.length -1) 0)) g (f.length -(g.length -1)) (List.replicate (f.length -(g.length -1)) 0,f)).2).length≤g.length -1:=by
      apply Nat.le_of_not_lt
      intro hn
      generalize hX:(Ze p (ZL p (g.getD (g.length -1) 0)) g (f.length -(g.length -1)) (List.replicate (f.length -(g.length -1)) 0,f)).2=X at *
      have e:YK X=X.take (YK X).length:=QdZ isZ X
      rcases Xw (YK X) with h0| ⟨k,x,h0⟩
      · rw[h0] at hn;simp at hn
      · have h3:=Qbs isZ X h0
        have h4:k.length+1=(YK X).length:=by rw[h0];simp
        have h5:X.getD k.length 0=x:=by
          have h6:(YK X).getD k.length 0=x:=by rw[h0];simp [List.getD]
          rw[e] at h6
          rw[←h6]
          simp only[List.getD]
          rw[List.getElem?_take_of_lt (by omega)]
        rw[h1 k.length (by omega)] at h5
        subst h5
        simp [isZ] at h3
    omega
theorem QsH{p:Nat}{f g:List Nat}(hp:0<p)(hf: ∀d∈f,d<p):(∀d∈(XH p f g).1,d<p)∧ ∀d∈(XH p f g).2,d<p:=by
  unfold XH
  split
  · exact⟨fun d hd=>(by cases hd),hf⟩
  · have h:=QgZ (inv:=ZL p (g.getD (g.length -1) 0)) (g:=g) hp (f.length -(g.length -1)) (List.replicate (f.length -(g.length -1)) 0) f (fun d hd=>by rw[List.eq_of_mem_replicate hd];exact hp) hf
    exact⟨fun d hd=>h.1 d (Qb7 _ _ hd),fun d hd=>h.2 d (Qb7 _ _ hd)⟩
end Go.Gx
namespace Go.Gx
def XE(p:Nat)(l:List Nat):Prop:=(∀d∈l,d<p)∧(l.length≠0→0<l.getD (l.length -1) 0)
theorem XE.nil{p:Nat}:XE p []:=⟨fun d hd=>(by cases hd),fun h=>absurd rfl h⟩
theorem QcW{p:Nat}{l:List Nat}(h: ∀d∈l,d<p):XE p (YK l):=by
  refine⟨fun d hd=>h d (Qb7 _ _ hd),fun hn=> ?_⟩
  rcases Xw (YK l) with h0| ⟨k,x,h0⟩
  · rw[h0] at hn;exact absurd rfl hn
  · have h3:=Qbs isZ l h0
    rw[h0]
    simp [List.getD]
    simp [isZ] at h3
    omega
theorem XK{p:Nat}(hp:0<p)(l:List Int):XE p (XR p l):=QcW fun d hd=>by
  obtain⟨z,_,rfl⟩:=List.mem_map.1 hd
  exact Qej hp z
theorem YX{p:Nat}(hp:0<p)(l:List Nat):XE p (XO p l):=by rw[Qez];exact XK hp _
theorem XE.trim{p:Nat}{l:List Nat}(h:XE p l):YK l=l:=by
  rcases Xw l with h0| ⟨k,x,h0⟩
  · subst h0;rfl
  · subst h0
    have h1:=h.2 (by simp)
    simp [List.getD] at h1
    exact XU isZ k x (by simp [isZ];omega)
theorem XE.nrm{p:Nat}{l:List Nat}(h:XE p l):XO p l=l:=by
  have e:l.map (· % p)=l:=by
    conv=>rhs;rw[←List.map_id l]
    exact List.map_congr_left fun a ha=>Nat.mod_eq_of_lt (h.1 a ha)
  unfold XO
  rw[e];exact h.trim
theorem XE.last{p:Nat}{l:List Nat}(h:XE p l)(hl:0<l.length):0<l.getD (l.length -1) 0∧l.getD (l.length -1) 0<p:=by
  refine⟨h.2 (by omega),?_⟩
  rw[List.getD,List.getElem?_eq_getElem (by omega),Option.getD_some]
  exact h.1 _ (List.getElem_mem _)
theorem QaB{p:Nat}{f g:List Nat}(hp:0<p)(hf:XE p f):XE p (XH p f g).1∧XE p (XH p f g).2:=by
  have h:=QsH (g:=g) hp hf.1
  unfold XH at h⊢
  split
  · exact⟨XE.nil,hf⟩
  · rename_i hh
    rw[if_neg hh] at h
    have h2:=QgZ (inv:=ZL p (g.getD (g.length -1) 0)) (g:=g) hp (f.length -(g.length -1)) (List.replicate (f.length -(g.length -1)) 0) f (fun d hd=>by rw[List.eq_of_mem_replicate hd];exact hp) hf.1
    exact⟨QcW h2.1,QcW h2.2⟩
def Qbp(p:Nat)(f:List Nat)(c:Nat):List Nat:=YK (f.map fun a=>a*c % p)
def XW(f:List Nat):Nat:=f.getD (f.length -1) 0
def XS(p:Nat)(f:List Nat):List Nat:=if f.length=0 then [] else Qbp p f (ZL p (XW f))
def Qau(p:Nat)(f g:List Nat):List Nat:=XR p (Xg (zl (XO p f)) (zl (XO p g)))
def QhQ(p:Nat)(f g:List Nat):List Nat:=XR p (XD (zl f) (zl g))
def Qpr(p:Nat)(f g:List Nat):List Nat:=XR p (Xx (zl f) (zl g))
theorem QeM{p:Nat}(hp:0<p)(f:List Nat)(c:Nat):XE p (Qbp p f c):=QcW fun d hd=>by
  obtain⟨a,_,rfl⟩:=List.mem_map.1 hd
  exact Nat.mod_lt _ hp
theorem QdC{p:Nat}(hp:0<p)(f:List Nat):XE p (XS p f):=by
  unfold XS
  split
  · exact XE.nil
  · exact QeM hp _ _
def QaP(p:Nat):Nat→List Nat→List Nat→List Nat
  |0,f,_=>XS p f
  |n+1,f,g=>if g.length=0 then XS p f else QaP p n g (XH p f g).2
def XN(p:Nat)(f g:List Nat):List Nat:=QaP p g.length f g
def Qbg(p:Nat):Nat→List Nat→List Nat→List Nat→List Nat→List Nat
  |0,f,_,u,_=>Qbp p u (ZL p (XW f))
  |n+1,f,g,u,v=>if g.length=0 then Qbp p u (ZL p (XW f)) else Qbg p n g (XH p f g).2 v (QhQ p u (Qau p (XH p f g).1 v))
def QmO(p:Nat)(f g:List Nat):List Nat:=Qbg p g.length f g [1] []
theorem Qbk{p:Nat}{f g:List Nat}(hg:g.length=0)(n:Nat):QaP p n f g=XS p f:=by
  cases n with
  |zero=>rfl
  |succ n=>rw[QaP,if_pos hg]
theorem QeX{p:Nat}{f g u v:List Nat}(hg:g.length=0)(n:Nat):Qbg p n f g u v=Qbp p u (ZL p (XW f)):=by
  cases n with
  |zero=>rfl
  |succ n=>rw[Qbg,if_pos hg]
theorem Qgk{p:Nat}(hp:Xk p): ∀(n m:Nat)(f g:List Nat),XE p f→XE p g→g.length≤n→g.length≤m→QaP p n f g=QaP p m f g
  |n,m,f,g,hf,hg,hn,hm=>by
    rcases Nat.eq_zero_or_pos g.length with h0|h0
    · rw[Qbk h0,Qbk h0]
    · match n,m,hn,hm with
      |0,_,hn,_=>omega
      |_,0,_,hm=>omega
      |n+1,m+1,hn,hm=>
        rw[QaP,QaP,if_neg (by omega),if_neg (by omega)]
        have hl:=hg.last h0
        have h1:=Qa0 hp h0 hl.1 hg.1 hf.1
        exact Qgk hp n m g _ hg (QaB (by have :=hp.1;omega) hf).2 (by omega) (by omega)
theorem Qf9{p:Nat}(hp:Xk p): ∀(n m:Nat)(f g u v:List Nat),XE p f→XE p g→g.length≤n→g.length≤m→Qbg p n f g u v=Qbg p m f g u v
  |n,m,f,g,u,v,hf,hg,hn,hm=>by
    rcases Nat.eq_zero_or_pos g.length with h0|h0
    · rw[QeX h0,QeX h0]
    · match n,m,hn,hm with
      |0,_,hn,_=>omega
      |_,0,_,hm=>omega
      |n+1,m+1,hn,hm=>
        rw[Qbg,Qbg,if_neg (by omega),if_neg (by omega)]
        have hl:=hg.last h0
        have h1:=Qa0 hp h0 hl.1 hg.1 hf.1
        exact Qf9 hp n m g _ _ _ hg (QaB (by have :=hp.1;omega) hf).2 (by omega) (by omega)
theorem Qql{p:Nat}(hp:Xk p){f g:List Nat}(hf:XE p f)(hg:XE p g)(h0:0<g.length):XN p f g=XN p g (XH p f g).2:=by
  have hl:=hg.last h0
  have h1:=Qa0 hp h0 hl.1 hg.1 hf.1
  have h2:=(QaB (g:=g) (by have :=hp.1;omega) hf).2
  unfold XN
  obtain⟨n,hn⟩: ∃n,g.length=n+1:=⟨g.length -1,by omega⟩
  rw[hn,QaP,if_neg (by omega)]
  exact Qgk hp _ _ _ _ hg h2 (by omega) (Nat.le_refl _)
theorem Qnt{p:Nat}{f g:List Nat}(h0:g.length=0):XN p f g=XS p f:=Qbk h0 _
theorem QpL{p:Nat}(hp:Xk p){f g u v:List Nat}(hf:XE p f)(hg:XE p g)(h0:0<g.length):Qbg p g.length f g u v=Qbg p (XH p f g).2.length g (XH p f g).2 v (QhQ p u (Qau p (XH p f g).1 v)):=by
  have hl:=hg.last h0
  have h1:=Qa0 hp h0 hl.1 hg.1 hf.1
  have h2:=(QaB (g:=g) (by have :=hp.1;omega) hf).2
  obtain⟨n,hn⟩: ∃n,g.length=n+1:=⟨g.length -1,by omega⟩
  rw[hn,Qbg,if_neg (by omega)]
  exact Qf9 hp _ _ _ _ _ _ hg h2 (by omega) (Nat.le_refl _)
theorem Qsz{p:Nat}{f g u v:List Nat}(h0:g.length=0):Qbg p g.length f g u v=Qbp p u (ZL p (XW f)):=QeX h0 _
def Qb9(p:Nat)(f g:List Nat):List Nat×List Nat×List Nat:=
  let d:=XN p f g
  if g.length=0 then(if f.length=0 then([],[],[]) else(d,[ZL p (XW f)],[]))
  else if g.length=d.length then(d,[],[ZL p (XW g)])
  else let u:=(XH p (QmO p f g) (XH p g d).1).2;(d,u,(XH p (QhQ p d (Qau p u f)) g).1)
end Go.Gx
namespace Go.Gx
theorem Qq3{p c:Nat}{f:List Nat}(hf:0<f.length)(h:XW f*c % p≠0):(Qbp p f c).length=f.length:=by
  have h1:=Qcn (ds:=f.map fun a=>a*c % p) (k:=f.length) (by simp) (fun j hj=>by rw[List.getD,List.getElem?_eq_none (by simpa using hj)];rfl) (.inr (by
    simp only[List.getD,List.getElem?_map,List.getElem?_eq_getElem (show f.length -1<f.length by omega)]
    simp only[XW,List.getD,List.getElem?_eq_getElem (show f.length -1<f.length by omega)] at h
    exact h))
  unfold Qbp
  rw[←h1]
  simp
theorem Qam{p:Nat}{f:List Nat}(hp:Xk p)(hf:XE p f):(XS p f).length=f.length:=by
  unfold XS
  split
  · rename_i h;rw[h];rfl
  · rename_i h
    have hl:=hf.last (by omega)
    refine Qq3 (by omega) ?_
    show f.getD (f.length -1) 0*ZL p (f.getD (f.length -1) 0) % p≠0
    rw[(Qak hp hl.1 hl.2).2];omega
theorem Qg7{p:Nat}(hp:Xk p): ∀(n:Nat)(f g:List Nat),XE p f→XE p g→g.length≤n→0<f.length+g.length→0<(QaP p n f g).length∧(0<g.length→(QaP p n f g).length≤g.length)
  |0,f,g,hf,hg,hn,h=>by
    rw[Qbk (by omega),Qam hp hf];omega
  |n+1,f,g,hf,hg,hn,h=>by
    rcases Nat.eq_zero_or_pos g.length with h0|h0
    · rw[Qbk h0,Qam hp hf];omega
    · rw[QaP,if_neg (by omega)]
      have hl:=hg.last h0
      have h1:=Qa0 hp h0 hl.1 hg.1 hf.1
      have h2:=(QaB (g:=g) (by have :=hp.1;omega) hf).2
      have⟨h3,h4⟩:=Qg7 hp n g _ hg h2 (by omega) (by omega)
      refine⟨h3,fun _=> ?_⟩
      rcases Nat.eq_zero_or_pos (XH p f g).2.length with h5|h5
      · rw[Qbk h5,Qam hp hg];omega
      · have :=h4 h5;omega
theorem QrK{p:Nat}(hp:Xk p){f g:List Nat}(hf:XE p f)(hg:XE p g)(h:0<f.length+g.length):0<(XN p f g).length:=(Qg7 hp _ f g hf hg (Nat.le_refl _) h).1
theorem Qjt{p:Nat}(hp:Xk p){f g:List Nat}(hf:XE p f)(hg:XE p g)(h:0<g.length):(XN p f g).length≤g.length:=(Qg7 hp _ f g hf hg (Nat.le_refl _) (by omega)).2 h
theorem Qc6{p:Nat}(hp:0<p): ∀(n:Nat)(f g:List Nat),XE p (QaP p n f g)
  |0,f,g=>QdC hp f
  |n+1,f,g=>by
    rw[QaP]
    split
    · exact QdC hp f
    · exact Qc6 hp n _ _
theorem Qdv: ∀(l:List Nat),val l=0→ ∀n,l.getD n 0=0
  | [],_,n=>by simp [List.getD]
  |d::l,h,0=>by simp only[val,BS] at h;simp [List.getD];omega
  |d::l,h,n+1=>by
    have :=Qdv l (by simp only[val,BS] at h;omega) n
    simpa [List.getD] using this
theorem Qgf{p inv:Nat}{g:List Nat}: ∀(n:Nat)(q r:List Nat)(i:Nat),n≤i→(Ze p inv g n (q,r)).1.getD i 0=q.getD i 0
  |0,_,_,_,_=>rfl
  |n+1,q,r,i,hi=>by
    rw[Ze]
    rw[Qgf n _ _ i (by omega)]
    simp only[List.getD,List.getElem?_set]
    rw[if_neg (by omega)]
theorem Qp2{p:Nat}{f g:List Nat}(hp:Xk p)(hf:XE p f)(hg:XE p g)(h0:0<g.length)(hl:g.length≤f.length):0<(XH p f g).1.length:=by
  unfold XH
  rw[if_neg (by omega)]
  dsimp only
  obtain⟨n,hn⟩: ∃n,f.length -(g.length -1)=n+1:=⟨f.length -g.length,by omega⟩
  rw[hn]
  have hgl:=hg.last h0
  have hfl:=hf.last (by omega)
  have hiv:=Qak hp hgl.1 hgl.2
  generalize hI:ZL p (g.getD (g.length -1) 0)=I at *
  have hp2:=hp.1
  have htop:(Ze p I g (n+1) (List.replicate (n+1) 0,f)).1.getD n 0≠0:=by
    rw[Ze]
    rw[Qgf n _ _ n (Nat.le_refl _),Qc7 _ _ _ (by simp),if_pos rfl,show n+(g.length -1)=f.length -1 by omega]
    intro h
    have c1:Cg p (((f.getD (f.length -1) 0:Nat):Int)*(I:Nat)) 0:=by
      have :=(Zq (p:=p) (f.getD (f.length -1) 0*I)).symm
      rw[h] at this
      simpa using this
    have c2:Cg p (((g.getD (g.length -1) 0:Nat):Int)*(I:Nat)) 1:=by
      have :=(Zq (p:=p) (g.getD (g.length -1) 0*I)).symm
      rw[hiv.2] at this
      simpa using this
    have c3:=(Cg.refl p ((f.getD (f.length -1) 0:Nat):Int)).mul c2
    rw[Int.mul_one] at c3
    have c4:=c1.mul (Cg.refl p ((g.getD (g.length -1) 0:Nat):Int))
    rw[Int.zero_mul] at c4
    have c5:Cg p ((f.getD (f.length -1) 0:Nat):Int) 0:=by
      refine c3.symm.trans ?_
      rw[show ∀x y z:Int,x*(y*z)=x*z*y by intros;grind]
      exact c4
    have :=(QdQ hfl.2).symm.trans (Qfm (by omega) c5)
    rw[Yb] at this
    omega
  apply Nat.pos_of_ne_zero
  intro hz
  have h1:YK (Ze p I g (n+1) (List.replicate (n+1) 0,f)).1=[]:=List.eq_nil_of_length_eq_zero hz
  have h2:=QhL (Ze p I g (n+1) (List.replicate (n+1) 0,f)).1
  rw[h1] at h2
  exact htop (Qdv _ h2.symm n)
theorem QsG{p:Nat}{f g:List Nat}:(XH p f g).1.length≤f.length+1 -g.length∧(XH p f g).2.length≤f.length:=by
  unfold XH
  split
  · exact⟨Nat.zero_le _,Nat.le_refl _⟩
  · rename_i h
    dsimp only
    have⟨h1,h2⟩:=Qh5 (p:=p) (inv:=ZL p (g.getD (g.length -1) 0)) (g:=g) (f.length -(g.length -1)) (List.replicate (f.length -(g.length -1)) 0) f
    have h3:=QaV isZ (Ze p (ZL p (g.getD (g.length -1) 0)) g (f.length -(g.length -1)) (List.replicate (f.length -(g.length -1)) 0,f)).1
    have h4:=QaV isZ (Ze p (ZL p (g.getD (g.length -1) 0)) g (f.length -(g.length -1)) (List.replicate (f.length -(g.length -1)) 0,f)).2
    simp only[List.length_replicate] at h1
    refine⟨?_,?_⟩
    · show(trimB isZ _).length≤_;omega
    · show(trimB isZ _).length≤_;omega
theorem Ym{p:Nat}{f g q r:List Nat}(hp:Xk p)(hf:XE p f)(hg:XE p g)(h0:0<g.length)(h:XH p f g=(q,r)):XE p q∧XE p r∧r.length<g.length∧q.length≤f.length+1 -g.length∧r.length≤f.length∧(g.length≤f.length→0<q.length):=by
  have h1:=QaB (g:=g) (by have :=hp.1;omega) hf
  have hl:=hg.last h0
  have h2:=Qa0 hp h0 hl.1 hg.1 hf.1
  have h3:=QsG (p:=p) (f:=f) (g:=g)
  have h4:=Qp2 hp hf hg h0
  rw[h] at h1 h2 h3 h4
  exact⟨h1.1,h1.2,h2,h3.1,h3.2,h4⟩
theorem Qp3{p inv c low n:Nat}{g Q R:List Nat}{S:List Nat×List Nat}(h:Ze p inv g n (Q,R)=S)(hn:n=low+1)(hc:c=R.getD (low+(g.length -1)) 0*inv % p)(h0:c=0):Ze p inv g low (Q.set low c,R)=S:=by
  subst hn
  rw[Ze] at h
  rw[←hc,if_pos h0] at h
  exact h
theorem QsI{p inv c low n j:Nat}{g Q R:List Nat}{S:List Nat×List Nat}(h:Ze p inv g n (Q,R)=S)(hn:n=low+1)(hc:c=R.getD (low+(g.length -1)) 0*inv % p)(h0:c≠0)(hj:j=g.length):Ze p inv g low (Q.set low c,Qa9 p g low (p -c) j R)=S:=by
  subst hn hj
  rw[Ze] at h
  rw[←hc,if_neg h0] at h
  exact h
theorem QsJ{p inv n m:Nat}{f g Q R q r:List Nat}(hn: ¬f.length≤g.length -1)(hi:inv=ZL p (g.getD (g.length -1) 0))(h:Ze p inv g n (Q,R)=Ze p inv g m (List.replicate m 0,f))(h0:n=0)(hm:m=f.length -(g.length -1))(hq:q=YK Q)(hr:r=YK R):XH p f g=(q,r):=by
  subst h0 hm hi
  unfold XH
  rw[if_neg hn]
  dsimp only
  rw[←h,hq,hr]
  rfl
end Go.Gx
namespace Go.Gx
theorem xg1{p:Nat}{F G:List Nat}(hf:F.length=0)(hg:G.length=0):Qb9 p F G=([],[],[]):=by unfold Qb9;simp [hf,hg]
theorem xg2{p:Nat}{F G:List Nat}(hf:F.length≠0)(hg:G.length=0):Qb9 p F G=(XN p F G,[ZL p (XW F)],[]):=by unfold Qb9;simp [hf,hg]
theorem xg3{p:Nat}{F G:List Nat}(hg:G.length≠0)(h:G.length=(XN p F G).length):Qb9 p F G=(XN p F G,[],[ZL p (XW G)]):=by unfold Qb9;rw[if_neg hg,if_pos h]
theorem xg4{p:Nat}{F G q1 r1 c u m s q6 r6:List Nat}(hg:G.length≠0)(h:G.length≠ (XN p F G).length)(e1:XH p G (XN p F G)=(q1,r1))(e2:c=QmO p F G)(e3:u=(XH p c q1).2)(e4:m=Qau p u F)(e5:s=QhQ p (XN p F G) m)(e6:XH p s G=(q6,r6)):Qb9 p F G=(XN p F G,u,q6):=by
  unfold Qb9
  rw[if_neg hg,if_neg h]
  dsimp only
  rw[e1]
  dsimp only
  rw[←e2,←e3,←e4,←e5,e6]
end Go.Gx
namespace Go.Gx
def tzF:Nat→Nat→Nat
  |0,_=>0
  |f+1,n=>if n % 2=0 then tzF f (n/2)+1 else 0
def tzN(n:Nat):Nat:=tzF 12 n
def tzA(n:Nat):Nat:=2^tzN n
def tzB(n:Nat):Nat:=tzA n*125613361 % 4294967296
def QyY:List Nat:=[0,1,28,2,29,14,24,3,30,22,20,15,25,17,4,8,31,27,13,23,21,19,16,7,26,12,18,6,11,5,10,9]
def Qy0(n:Nat):Bool:=n==0|| ((BitVec.ofNat 32 n&&&BitVec.ofNat 32 (4294967296 -n)).toNat==tzA n&&tzB n/2^27<32&&QyY[tzB n/2^27]? ==some (tzN n)&&tzN n≤11&&tzA n≤2048&&n % 2^tzN n==0&& (n/2^tzN n) % 2==1)
def upto(f:Nat→Bool):Nat→Bool
  |0=>true
  |n+1=>f n&&upto f n
theorem QyX{f:Nat→Bool}: ∀{n},upto f n=true→ ∀i,i<n→f i=true
  |0,_,i,hi=>by omega
  |n+1,h,i,hi=>by
    simp only[upto,Bool.and_eq_true] at h
    rcases Nat.lt_or_ge i n with h1|h1
    · exact QyX h.2 i h1
    · obtain rfl:i=n:=by omega
      exact h.1
set_option maxRecDepth 100000 in
theorem QyZ:upto Qy0 4096=true:=by decide+kernel
def sqB(n:Nat):Nat→Nat→Bool
  |0,_=>false
  |k+1,x=>x*x % n==n -1||sqB n k (x*x % n)
def QqP(n b t:Nat):Bool:=(b^ ((n -1)/2^t) % n==1||b^ ((n -1)/2^t) % n==n -1)||sqB n (t -1) (b^ ((n -1)/2^t) % n)
def smB(n:Nat):List Nat→Option Bool
  | []=>none
  |p::l=>if n % p=0 then some (n==p) else smB n l
def ZN(n:Nat):Bool:=if n<2 then false else(smB n [2,3,5,7,61]).getD ([2,7,61].all fun b=>QqP n b (tzN (n -1)))
def trB(n:Nat):Bool:=decide (2≤n)&&upto (fun a=>decide (a<2)||decide (n≤a)|| !(n % a==0)) 64
set_option maxRecDepth 100000 in
theorem QoA:upto (fun n=>ZN n==trB n) 4096=true:=by decide+kernel
theorem Qls{n:Nat}(h:0<n∧n<4096):(BitVec.ofNat 32 n&&&BitVec.ofNat 32 (4294967296 -n)).toNat=tzA n∧tzB n/2^27<32∧QyY[tzB n/2^27]? =some (tzN n)∧tzN n≤11∧tzA n≤2048:=by
  have h1:=QyX QyZ n h.2
  simp only[Qy0,Bool.or_eq_true,Bool.and_eq_true,beq_iff_eq,decide_eq_true_eq] at h1
  rcases h1 with h1|h1
  · omega
  · exact⟨h1.1.1.1.1.1.1,h1.1.1.1.1.1.2,h1.1.1.1.1.2,h1.1.1.1.2,h1.1.1.2⟩
theorem Qpc{n:Nat}(hn:n<4096):trB n=true↔Xk n:=by
  simp only[trB,Bool.and_eq_true,decide_eq_true_eq]
  constructor
  · rintro⟨h2,h⟩
    refine⟨h2,fun a h0 h1=> ?_⟩
    have hno: ∀q,2≤q→q<64→q<n→n % q≠0:=fun q a b c=>by
      have :=QyX h q b
      simp only[Bool.or_eq_true,decide_eq_true_eq,Bool.not_eq_true',beq_eq_false_iff_ne] at this
      omega
    have hg1:=Nat.gcd_dvd_right a n
    have hg2:=Nat.le_of_dvd h0 (Nat.gcd_dvd_left a n)
    have hg0:0<Nat.gcd a n:=Nat.gcd_pos_of_pos_left _ h0
    rcases Nat.lt_or_ge 1 (Nat.gcd a n) with h3|h3
    · exfalso
      obtain⟨k,hk⟩:=hg1
      rcases Nat.lt_or_ge (Nat.gcd a n) 64 with h4|h4
      · exact hno _ h3 h4 (by omega) (Nat.mod_eq_zero_of_dvd ⟨k,hk⟩)
      · have hk64:k<64:=by
          rcases Nat.lt_or_ge k 64 with h5|h5
          · exact h5
          · have :=Nat.mul_le_mul h4 h5;omega
        have hk2:2≤k:=by
          rcases Nat.lt_or_ge k 2 with h5|h5
          · rcases(show k=0∨k=1 by omega) with rfl|rfl
            · omega
            · omega
          · exact h5
        have hkn:k<n:=by
          have :=Nat.mul_le_mul_right k h4;omega
        exact hno k hk2 hk64 hkn (Nat.mod_eq_zero_of_dvd ⟨Nat.gcd a n,by rw[Nat.mul_comm];exact hk⟩)
    · omega
  · intro h
    refine⟨h.1,?_⟩
    have : ∀m,upto (fun a=>decide (a<2)||decide (n≤a)|| !(n % a==0)) m=true:=by
      intro m
      induction m with
      |zero=>rfl
      |succ m ih=>
        simp only[upto,Bool.and_eq_true,Bool.or_eq_true,decide_eq_true_eq,Bool.not_eq_true',beq_eq_false_iff_ne]
        refine⟨?_,ih⟩
        rcases Nat.lt_or_ge m 2 with h1|h1
        · exact .inl (.inl h1)
        rcases Nat.lt_or_ge m n with h2|h2
        · refine .inr fun h3=> ?_
          have h4:=h.2 m (by omega) h2
          rw[Nat.gcd_eq_left (Nat.dvd_of_mod_eq_zero h3)] at h4
          omega
        · exact .inl (.inr h2)
    exact this 64
theorem ZZ{n:Nat}(hn:n<4096):ZN n=true↔Xk n:=by
  have h:=QyX QoA n hn
  rw[beq_iff_eq] at h
  rw[h];exact Qpc hn
def PrS(p:Nat):Prop:=Xk p∧p<4096
theorem PrS.two{p:Nat}(h:PrS p):2≤p:=h.1.1
theorem PrS.lt{p:Nat}(h:PrS p):p<4096:=h.2
theorem Qow{n b t x:Nat}(e:x=b^ ((n -1)/2^t) % n)(h:x=1∨x=n -1):true=QqP n b t:=by
  subst e;unfold QqP;rcases h with h|h<;>simp [h]
theorem QvI{n b t x:Nat}(e:x=b^ ((n -1)/2^t) % n)(h: ¬(x=1∨x=n -1)):QqP n b t=sqB n (t -1) x:=by
  subst e;unfold QqP;rw[not_or] at h;simp [h.1,h.2]
theorem Qrg{n t i x y:Nat}{r:Bool}(h:sqB n (t -i) x=r)(hi:i<t)(e:y=x*x % n)(hy:y≠n -1):sqB n (t -(i+1)) y=r:=by
  subst e
  rw[show t -i=(t -(i+1))+1 by omega,sqB] at h
  rw[←h];simp [hy]
theorem Qt1{n t i x y:Nat}{r:Bool}(h:sqB n (t -i) x=r)(hi:i<t)(e:y=x*x % n)(hy:y=n -1):true=r:=by
  subst e
  rw[show t -i=(t -(i+1))+1 by omega,sqB] at h
  rw[←h];simp [hy]
theorem Qt0{n t i x:Nat}{r:Bool}(h:sqB n (t -i) x=r)(hi:t≤i):false=r:=by
  rw[show t -i=0 by omega] at h;exact h
end Go.Gx
namespace Go.Gx
def YY(m:Nat)(z:Int):Int:=if 2*(z % (m:Int))>m then z % (m:Int) -m else z % (m:Int)
theorem Qnf{m:Nat}(z:Int):Cg m (z % (m:Int)) z:=⟨-(z/m),by have :=Int.emod_add_mul_ediv z (m:Int);grind⟩
theorem QfF(m:Nat)(z:Int):Cg m (YY m z) z:=by
  unfold YY
  split
  · exact Cg.trans ⟨-1,by grind⟩ (Qnf z)
  · exact Qnf z
theorem QhI{m:Nat}(hm:0<m)(z:Int): -(m:Int)<2*YY m z∧2*YY m z≤m:=by
  have h0:=Int.emod_nonneg z (show(m:Int)≠0 by omega)
  have h1:=Int.emod_lt_of_pos z (show(0:Int)<m by omega)
  unfold YY
  split<;>omega
theorem QlN{m:Nat}{a b:Int}(h:Cg m a b):a % (m:Int)=b % (m:Int):=by
  obtain⟨k,h⟩:=h
  rw[h,Int.add_mul_emod_self_left]
theorem QdY{m:Nat}{a b:Int}(h:Cg m a b):YY m a=YY m b:=by unfold YY;rw[QlN h]
theorem Qb6{m:Nat}{a:Int}(h1: -(m:Int)<2*a)(h2:2*a≤m):YY m a=a:=by
  unfold YY
  rcases Int.lt_or_le a 0 with h|h
  · have e:a % (m:Int)=a+m:=by
      rw[←Int.add_emod_right]
      exact Int.emod_eq_of_lt (by omega) (by omega)
    rw[e,if_pos (by omega)];omega
  · rcases Int.lt_or_le a m with h3|h3
    · rw[Int.emod_eq_of_lt h h3,if_neg (by omega)]
    · have :a=0∧(m:Int)=0:=by omega
      obtain⟨rfl,h5⟩:=this
      rw[h5];simp
theorem Qdu{m:Nat}(hm:0<m)(z:Int):YY m (YY m z)=YY m z:=Qb6 (QhI hm z).1 (QhI hm z).2
theorem Qbr(m:Nat):YY m 0=0:=by unfold YY;rw[Int.zero_emod,if_neg (by omega)]
def Zg(m:Nat)(f:List Int):List Int:=Xa (f.map (YY m))
theorem Qjh(m:Nat)(f:List Int)(i:Nat):co (f.map (YY m)) i=YY m (co f i):=by
  simp only[co,List.getD,List.getElem?_map]
  cases f[i]? with
  |none=>exact(Qbr m).symm
  |some x=>rfl
theorem Zm(m:Nat)(f:List Int)(i:Nat):co (Zg m f) i=YY m (co f i):=by unfold Zg;rw[Xo,Qjh]
theorem QtD(m:Nat)(f:List Int)(i:Nat):Cg m (co (Zg m f) i) (co f i):=by rw[Zm];exact QfF _ _
theorem Qmc{m:Nat}{f g:List Int}(h: ∀i,Cg m (co f i) (co g i)):Zg m f=Zg m g:=
  YP fun i=>by rw[Qjh,Qjh,QdY (h i)]
theorem QiJ(m:Nat)(f:List Int):Xa (Zg m f)=Zg m f:=Xs ZM _
end Go.Gx
namespace Go.Gx
abbrev Row:=Nat→Int
def lap(D:List Row→Int)(c:Nat):List Row→List Row→Int
  |_,[]=>0
  |pre,r::rs=>r c*D (pre++rs) -lap D c (pre++[r]) rs
def det:List Nat→List Row→Int
  | [],[]=>1
  | [],_::_=>0
  |c::cl,rs=>lap (det cl) c [] rs
structure Qpw (D:List Row→Int):Prop where
  add: ∀(A:List Row)(u v:Row)(B:List Row),D (A++(fun c=>u c+v c)::B)=D (A++u::B)+D (A++v::B)
  smul: ∀(A:List Row)(k:Int)(u:Row)(B:List Row),D (A++(fun c=>k*u c)::B)=k*D (A++u::B)
  alt: ∀(A:List Row)(u:Row)(B:List Row),D (A++u::u::B)=0
section
variable{D:List Row→Int}(h:Qpw D)(c:Nat)
include h
theorem Qfk(A:List Row)(u v:Row): ∀(rs B:List Row),lap D c (A++(fun c=>u c+v c)::B) rs=lap D c (A++u::B) rs+lap D c (A++v::B) rs
  | [],B=>by simp [lap]
  |r::rs,B=>by
    have ih:=Qfk A u v rs (B++[r])
    have h1:=h.add A u v (B++rs)
    simp only[lap,List.append_assoc,List.cons_append] at ih h1⊢
    rw[ih,h1,Int.mul_add];omega
theorem Qea(A:List Row)(k:Int)(u:Row): ∀(rs B:List Row),lap D c (A++(fun c=>k*u c)::B) rs=k*lap D c (A++u::B) rs
  | [],B=>by simp [lap]
  |r::rs,B=>by
    have ih:=Qea A k u rs (B++[r])
    have h1:=h.smul A k u (B++rs)
    simp only[lap,List.append_assoc,List.cons_append] at ih h1⊢
    rw[ih,h1,Int.mul_sub,←Int.mul_assoc,Int.mul_comm (r c) k,Int.mul_assoc]
theorem Qfl(A:List Row)(u:Row): ∀(rs B:List Row),lap D c (A++u::u::B) rs=0
  | [],B=>by simp [lap]
  |r::rs,B=>by
    have ih:=Qfl A u rs (B++[r])
    have h1:=h.alt A u (B++rs)
    simp only[lap,List.append_assoc,List.cons_append] at ih h1⊢
    rw[ih,h1];simp
theorem QnH(u v:Row)(B:List Row): ∀(A pre:List Row),lap D c pre (A++(fun c=>u c+v c)::B)=lap D c pre (A++u::B)+lap D c pre (A++v::B)
  | [],pre=>by
    have h1:=Qfk h c pre u v B []
    simp only[List.nil_append,lap]
    rw[h1,Int.add_mul];omega
  |a::A,pre=>by
    have ih:=QnH u v B A (pre++[a])
    have h1:=h.add (pre++A) u v B
    simp only[List.append_assoc] at h1
    simp only[List.cons_append,lap]
    rw[ih,h1,Int.mul_add];omega
theorem Qkz(k:Int)(u:Row)(B:List Row): ∀(A pre:List Row),lap D c pre (A++(fun c=>k*u c)::B)=k*lap D c pre (A++u::B)
  | [],pre=>by
    have h1:=Qea h c pre k u B []
    simp only[List.nil_append,lap]
    rw[h1,Int.mul_sub,Int.mul_assoc]
  |a::A,pre=>by
    have ih:=Qkz k u B A (pre++[a])
    have h1:=h.smul (pre++A) k u B
    simp only[List.append_assoc] at h1
    simp only[List.cons_append,lap]
    rw[ih,h1,Int.mul_sub,←Int.mul_assoc,Int.mul_comm (a c) k,Int.mul_assoc]
theorem QnI(u:Row)(B:List Row): ∀(A pre:List Row),lap D c pre (A++u::u::B)=0
  | [],pre=>by
    have h1:=Qfl h c pre u B []
    simp only[List.nil_append,lap,List.append_assoc,List.cons_append]
    rw[h1];omega
  |a::A,pre=>by
    have ih:=QnI u B A (pre++[a])
    have h1:=h.alt (pre++A) u B
    simp only[List.append_assoc] at h1
    simp only[List.cons_append,lap]
    rw[ih,h1];simp
end
theorem Qai: ∀cl,Qpw (det cl)
  | []=>⟨fun A u v B=>by cases A<;>simp [det],fun A k u B=>by cases A<;>simp [det],fun A u B=>by cases A<;>simp [det]⟩
  |c::cl=>⟨fun A u v B=>QnH (Qai cl) c u v B A [],fun A k u B=>Qkz (Qai cl) c k u B A [],fun A u B=>QnI (Qai cl) c u B A []⟩
theorem Qky{D:List Row→Int}{c:Nat}: ∀(rs pre:List Row),(∀r∈rs,r c=0)→lap D c pre rs=0
  | [],_,_=>rfl
  |r::rs,pre,h=>by
    simp only[lap]
    rw[h r (by simp),Qky rs _ fun x hx=>h x (by simp [hx])];simp
theorem QgW{c:Nat}{cl:List Nat}{u:Row}{rs:List Row}(h: ∀r∈rs,r c=0):det (c::cl) (u::rs)=u c*det cl rs:=by
  simp only[det,lap,List.nil_append]
  rw[Qky rs _ h];omega
section
variable{D:List Row→Int}(h:Qpw D)
include h
theorem QpY(A:List Row)(u v:Row)(B:List Row):D (A++u::v::B)= -D (A++v::u::B):=by
  have h1:=h.alt A (fun c=>u c+v c) B
  rw[h.add A u v ((fun c=>u c+v c)::B)] at h1
  have h2:=h.add (A++[u]) u v B
  have h3:=h.add (A++[v]) u v B
  simp only[List.append_assoc,List.cons_append,List.nil_append] at h2 h3
  rw[h2,h3,h.alt A u B,h.alt A v B] at h1
  omega
theorem QgX{l l':List Row}(p:l.Perm l'): ∀A,(D (A++l)).natAbs=(D (A++l')).natAbs:=by
  induction p with
  |nil=>intro A;rfl
  |cons x _ ih=>intro A;have :=ih (A++[x]);simpa using this
  |swap x y l=>intro A;rw[QpY h A y x l];omega
  |trans _ _ ih1 ih2=>intro A;rw[ih1 A,ih2 A]
theorem QsE{A B:List Row}{u:Row}(hu:u∈A∨u∈B):D (A++u::B)=0:=by
  have key: ∀l:List Row,(A++u::B).Perm (u::u::l)→D (A++u::B)=0:=fun l p=>by
    have h1:=QgX h p []
    have h2:=h.alt [] u l
    simp only[List.nil_append] at h1 h2
    rw[h2] at h1
    omega
  rcases hu with hu|hu
  · obtain⟨s,t,rfl⟩:=List.append_of_mem hu
    refine key (s++(t++B)) ?_
    refine(List.perm_middle (a:=u) (l₁:=s++u::t) (l₂:=B)).trans (List.Perm.cons u ?_)
    rw[List.append_assoc,List.cons_append]
    exact List.perm_middle
  · obtain⟨s,t,rfl⟩:=List.append_of_mem hu
    refine key (A++(s++t)) ?_
    refine List.perm_middle.trans (List.Perm.cons u ?_)
    rw[←List.append_assoc,←List.append_assoc]
    exact List.perm_middle
theorem Qeq(A B:List Row)(w:Row)(k:Nat→Int)(v:Nat→Row): ∀n,(∀t,t<n→v t∈A∨v t∈B)→D (A++(fun c=>w c+Ye (fun t=>k t*v t c) n)::B)=D (A++w::B)
  |0,_=>by simp [Ye]
  |n+1,hv=>by
    have ih:=Qeq A B w k v n fun t ht=>hv t (by omega)
    have e:(fun c=>w c+Ye (fun t=>k t*v t c) (n+1))=(fun c=>(fun c=>w c+Ye (fun t=>k t*v t c) n) c+(fun c=>k n*v n c) c):=by
      funext c;simp only[Ye];omega
    rw[e,h.add,ih,h.smul,QsE h (hv n (by omega))];omega
end
end Go.Gx
namespace Go.Gx
def rowsOf(f:List Int):Nat→List Row
  |0=>[]
  |n+1=>cs f n::rowsOf f n
def QaL:Nat→Nat→List Nat
  |_,0=>[]
  |hi,n+1=>hi::QaL (hi -1) n
def Sr(k:Nat)(a b:List Int)(n m j:Nat):Int:=det (QaL (n+m -k -1) (n+m -2*k -1)++[j]) (rowsOf a (m -k)++rowsOf b (n -k))
theorem Qdd{f:List Int}{t:Nat}: ∀{n:Nat},t<n→cs f t∈rowsOf f n
  |0,h=>by omega
  |n+1,h=>by
    rcases Nat.lt_or_ge t n with h1|h1
    · exact List.mem_cons_of_mem _ (Qdd h1)
    · obtain rfl:t=n:=by omega
      exact List.mem_cons_self
theorem Qdn{f:List Int}{r:Row}: ∀{n:Nat},r∈rowsOf f n→ ∃t,t<n∧r=cs f t
  |0,h=>by simp [rowsOf] at h
  |n+1,h=>by
    rcases List.mem_cons.1 h with h1|h1
    · exact⟨n,by omega,h1⟩
    · obtain⟨t,h2,h3⟩:=Qdn h1;exact⟨t,by omega,h3⟩
theorem Qb2{D:List Row→Int}(h:Qpw D){a b r:List Int}{L β:Int}{q:Nat→Int}{e:Nat}{Bs:List Row}:
    ∀(i:Nat)(pre:List Row),(∀t,t<i→ ∀c,L*cs a t c=β*cs r t c+Ye (fun u=>q u*cs b (t+u) c) e)→(∀t u,t<i→u<e→cs b (t+u)∈Bs)→
      L^i*D (pre++(rowsOf a i++Bs))=β^i*D (pre++(rowsOf r i++Bs))
  |0,pre,_,_=>by simp [rowsOf]
  |i+1,pre,h1,h2=>by
    have ih:=Qb2 h i (pre++[cs r i]) (fun t ht=>h1 t (by omega)) (fun t u ht hu=>h2 t u (by omega) hu)
    have e1:(fun c=>L*cs a i c)=(fun c=>(fun c=>β*cs r i c) c+Ye (fun u=>q u*cs b (i+u) c) e):=by
      funext c;exact h1 i (by omega) c
    have s1:=h.smul pre L (cs a i) (rowsOf a i++Bs)
    have s2:=h.smul pre β (cs r i) (rowsOf a i++Bs)
    have s3:=Qeq h pre (rowsOf a i++Bs) (fun c=>β*cs r i c) q (fun u=>cs b (i+u)) e (fun u hu=> .inr (List.mem_append_right _ (h2 i u (by omega) hu)))
    rw[←e1,s1,s2] at s3
    simp only[rowsOf,List.cons_append,List.append_assoc,List.nil_append] at ih⊢
    rw[Int.pow_succ,Int.pow_succ,Int.mul_assoc,s3,←Int.mul_assoc,Int.mul_comm (L^i) β,Int.mul_assoc,ih,←Int.mul_assoc,Int.mul_comm β]
theorem Qdo{b r:List Int}{L:Int}{i m s q:Nat}{js:List Nat}(hL:co b m=L)(hb: ∀x,m<x→co b x=0)(hr: ∀t c,t<s→i+m≤c→cs r t c=0):
    ∀p,det (QaL (i+p+m -1) (p+q)++js) (rowsOf b (i+p)++rowsOf r s)=L^p*det (QaL (i+m -1) q++js) (rowsOf b i++rowsOf r s)
  |0=>by simp
  |p+1=>by
    have ih:=Qdo (q:=q) (js:=js) hL hb hr p
    rw[show i+(p+1)+m -1=i+p+m by omega,show p+1+q=(p+q)+1 by omega,show i+(p+1)=(i+p)+1 by omega]
    simp only[QaL,rowsOf,List.cons_append]
    rw[QgW fun x hx=> ?_,ih,←Int.mul_assoc,Int.pow_succ,Int.mul_comm (L^p)]
    · congr 2
      unfold cs;rw[if_pos (by omega),show i+p+m -(i+p)=m by omega,hL]
    · rcases List.mem_append.1 hx with h1|h1
      · obtain⟨t,ht,rfl⟩:=Qdn h1
        unfold cs;rw[if_pos (by omega)];exact hb _ (by omega)
      · obtain⟨t,ht,rfl⟩:=Qdn h1
        exact hr t _ ht (by omega)
theorem QoM{a b q r:List Int}{L β:Int}{d:Nat}(hq: ∀u,d<u→co q u=0)(h: ∀x,L*co a x=co (Xg q b) x+β*co r x)(t c:Nat):
    L*cs a t c=β*cs r t c+Ye (fun u=>co q u*cs b (t+u) c) (d+1):=by
  by_cases hc:t≤c
  · have e0:Ye (fun u=>co q u*cs b (t+u) c) (d+1)=co (Xg q b) (c -t):=by
      rw[Xp]
      unfold conv YB
      have e1:=Qb3 (F:=fun u=>co q u*cs b (t+u) c) (n:=d+1) (m:=max (d+1) (c -t+1)) (by omega) (fun u h1 h2=>by rw[hq u (by omega),Int.zero_mul])
      have e2:=Qb3 (F:=fun u=>co q u*cs b (t+u) c) (n:=c -t+1) (m:=max (d+1) (c -t+1)) (by omega) (fun u h1 h2=>by unfold cs;rw[if_neg (by omega),Int.mul_zero])
      rw[←e1,e2]
      refine Xt fun u hu=> ?_
      unfold cs
      rw[if_pos (by omega),show c -(t+u)=c -t -u by omega]
    have h1:=h (c -t)
    rw[e0]
    unfold cs
    rw[if_pos hc,if_pos hc]
    omega
  · have e0:Ye (fun u=>co q u*cs b (t+u) c) (d+1)=0:=XQ fun u _=>by unfold cs;rw[if_neg (by omega),Int.mul_zero]
    rw[e0]
    unfold cs
    rw[if_neg hc,if_neg hc];simp
theorem Qrh{a b q r:List Int}{L L1 β:Int}{n m d nr k j:Nat}(hL:co b m=L)(hb: ∀x,m<x→co b x=0)(hr: ∀x,nr<x→co r x=0)(hq: ∀u,d<u→co q u=0)
    (h: ∀x,L1*co a x=co (Xg q b) x+β*co r x)(hn:n=m+d)(hnr:nr<m)(hk:k≤nr):
    (L1^ (m -k)*Sr k a b n m j).natAbs=(β^ (m -k)*(L^ (n -nr)*Sr k b r m nr j)).natAbs:=by
  have e1:=Qb2 (Qai (QaL (n+m -k -1) (n+m -2*k -1)++[j])) (a:=a) (b:=b) (r:=r) (L:=L1) (β:=β) (q:=co q) (e:=d+1) (Bs:=rowsOf b (n -k)) (m -k) []
    (fun t _ c=>QoM hq h t c) (fun t u ht hu=>Qdd (by omega))
  have e2:=QgX (Qai (QaL (n+m -k -1) (n+m -2*k -1)++[j])) (List.perm_append_comm (l₁:=rowsOf r (m -k)) (l₂:=rowsOf b (n -k))) []
  have e3:=Qdo (b:=b) (r:=r) (L:=L) (i:=nr -k) (m:=m) (s:=m -k) (q:=m+nr -2*k -1) (js:=[j]) hL hb (fun t c ht hc=>by
    unfold cs;split
    · exact hr _ (by omega)
    · rfl) (n -nr)
  rw[show nr -k+(n -nr)+m -1=n+m -k -1 by omega,show n -nr+(m+nr -2*k -1)=n+m -2*k -1 by omega,show nr -k+(n -nr)=n -k by omega,show nr -k+m -1=m+nr -k -1 by omega] at e3
  simp only[List.nil_append] at e1 e2
  unfold Sr
  rw[e1,Int.natAbs_mul,Int.natAbs_mul,e2,e3]
theorem Qle{a b q R:List Int}{L:Int}{n m d j:Nat}(hL:co b m=L)(hL0:L≠0)(hb: ∀x,m<x→co b x=0)(hr: ∀x,m≤x→co R x=0)(hq: ∀u,d<u→co q u=0)
    (h: ∀x,L^ (d+1)*co a x=co (Xg q b) x+co R x)(hn:n=m+d)(hm:1≤m):(Sr (m -1) a b n m j).natAbs=(co R j).natAbs:=by
  have e1:=Qb2 (Qai (QaL (n+m -(m -1) -1) (n+m -2*(m -1) -1)++[j])) (a:=a) (b:=b) (r:=R) (L:=L^ (d+1)) (β:=1) (q:=co q) (e:=d+1) (Bs:=rowsOf b (n -(m -1))) 1 []
    (fun t _ c=>QoM hq (fun x=>by rw[h x];omega) t c) (fun t u ht hu=>Qdd (by omega))
  have e2:=QgX (Qai (QaL (n+m -(m -1) -1) (n+m -2*(m -1) -1)++[j])) (List.perm_append_comm (l₁:=rowsOf R 1) (l₂:=rowsOf b (n -(m -1)))) []
  have e3:=Qdo (b:=b) (r:=R) (L:=L) (i:=0) (m:=m) (s:=1) (q:=0) (js:=[j]) hL hb (fun t c ht hc=>by
    unfold cs;split
    · exact hr _ (by omega)
    · rfl) (d+1)
  rw[show 0+(d+1)+m -1=n+m -(m -1) -1 by omega,show d+1+0=n+m -2*(m -1) -1 by omega,show 0+(n+m -2*(m -1) -1)=n -(m -1) by omega] at e3
  have e4:det (QaL (0+m -1) 0++[j]) (rowsOf b 0++rowsOf R 1)=co R j:=by
    simp only[QaL,rowsOf,List.nil_append]
    rw[QgW (by simp)]
    simp [det,cs]
  rw[e4] at e3
  simp only[List.nil_append,Int.pow_one,Int.one_mul] at e1 e2
  have e5:(L^ (d+1)).natAbs*(Sr (m -1) a b n m j).natAbs=(L^ (d+1)).natAbs*(co R j).natAbs:=by
    unfold Sr
    rw[←Int.natAbs_mul,show m -(m -1)=1 by omega,e1,e2,e3,Int.natAbs_mul]
    rw[show n+m -2*(m -1) -1=d+1 by omega]
  have hp:(L^ (d+1)).natAbs≠0:=Int.natAbs_ne_zero.2 (Int.pow_ne_zero hL0)
  exact Nat.eq_of_mul_eq_mul_left (by omega) e5
theorem Qj0{a b:List Int}{L:Int}{n m:Nat}(hL:co b m=L)(hb: ∀x,m<x→co b x=0)(hn:m<n):Sr m a b n m m=L^ (n -m):=by
  have e3:=Qdo (b:=b) (r:=[]) (L:=L) (i:=1) (m:=m) (s:=0) (q:=0) (js:=[m]) hL hb (fun t c ht hc=>by omega) (n -m -1)
  unfold Sr
  rw[show 1+(n -m -1)+m -1=n+m -m -1 by omega,show n -m -1+0=n+m -2*m -1 by omega,show 1+(n -m -1)=n -m by omega] at e3
  rw[show m -m=0 by omega]
  simp only[rowsOf,List.append_nil] at e3
  simp only[rowsOf,List.nil_append]
  rw[e3]
  simp only[QaL,List.nil_append]
  rw[QgW (by simp)]
  simp only[det,cs]
  rw[if_pos (by omega),Nat.sub_zero,hL,Int.mul_one,←Int.pow_succ]
  congr 1
  omega
theorem Qt6{L l s s' D X A B u e d:Nat}(hL:0<L)(hl:0<l)(hs:0<s)(hu:1≤u)(he:e≤u)(h1:(L^ (d+1))^u*A=D^u*(L^ (d+u -e)*B))(h2:A=l^u*s^ (u -1+d)*X)(h3:D=l*s^d)
    (h4:(d=0∧s'=s)∨(1≤d∧s'*s^ (d -1)=L^d)):B=L^e*s'^ (u -1)*X:=by
  obtain⟨w,rfl⟩: ∃w,u=w+1:=⟨u -1,by omega⟩
  rw[Nat.add_sub_cancel] at h2⊢
  have key:(L^ (d+1))^ (w+1)*s^ (w+d)=s^ (d*(w+1))*L^ (d+(w+1))*s'^w:=by
    rcases h4 with⟨rfl,rfl⟩| ⟨hd,h4⟩
    · rw[Nat.zero_mul,Nat.pow_zero,Nat.one_mul,←Nat.pow_mul]
      congr 2;omega
    · obtain⟨c,rfl⟩: ∃c,d=c+1:=⟨d -1,by omega⟩
      rw[Nat.add_sub_cancel] at h4
      have e1:s'^w*s^ (c*w)=L^ ((c+1)*w):=by rw[Nat.pow_mul,←Nat.mul_pow,h4,←Nat.pow_mul]
      have e2:s^ ((c+1)*(w+1))=s^ (c*w)*s^ (w+(c+1)):=by rw[←Nat.pow_add];congr 1;rw[Nat.add_mul,Nat.mul_add];omega
      have e3:(L^ (c+1+1))^ (w+1)=L^ (c+1+(w+1))*L^ ((c+1)*w):=by
        rw[←Nat.pow_mul,←Nat.pow_add];congr 1
        rw[Nat.add_mul,Nat.mul_add];omega
      rw[e2,e3,←e1]
      generalize s^ (c*w)=x
      generalize s^ (w+(c+1))=y
      generalize L^ (c+1+(w+1))=z
      generalize s'^w=t
      grind
  have e4:D^ (w+1)=l^ (w+1)*s^ (d*(w+1)):=by rw[h3,Nat.mul_pow,←Nat.pow_mul]
  have e5:L^ (d+(w+1))=L^ (d+(w+1) -e)*L^e:=by rw[←Nat.pow_add];congr 1;omega
  have p1:0<l^ (w+1):=Nat.pow_pos hl
  have p2:0<s^ (d*(w+1)):=Nat.pow_pos hs
  have p3:0<L^ (d+(w+1) -e):=Nat.pow_pos hL
  have e6:l^ (w+1)*(s^ (d*(w+1))*(L^ (d+(w+1) -e)*B))=l^ (w+1)*(s^ (d*(w+1))*(L^ (d+(w+1) -e)*(L^e*s'^w*X))):=by
    rw[e4,h2] at h1
    rw[e5] at key
    generalize l^ (w+1)=x1 at *
    generalize s^ (d*(w+1))=x2 at *
    generalize L^ (d+(w+1) -e)=x3 at *
    generalize L^e=x4 at *
    generalize s'^w=x5 at *
    generalize s^ (w+d)=x6 at *
    generalize(L^ (d+1))^ (w+1)=x7 at *
    have h5:x1*(x2*(x3*B))=x1*(x7*x6)*X:=by rw[←Nat.mul_assoc x1 x2,←h1];grind
    rw[h5,key];grind
  exact Nat.eq_of_mul_eq_mul_left p3 (Nat.eq_of_mul_eq_mul_left p2 (Nat.eq_of_mul_eq_mul_left p1 e6))
structure Qmw (a0 b0:List Int) (n0 m0:Nat) (a b:List Int) (n m:Nat) (l s:Int):Prop where
  le:m≤n
  top:co b m≠0
  hb: ∀x,m<x→co b x=0
  ha: ∀x,n<x→co a x=0
  l0:l≠0
  s0:s≠0
  sr: ∀k j,k≤m→k<n→(Sr k a b n m j).natAbs=l.natAbs^ (m -k)*s.natAbs^ (n -k -1)*(Sr k a0 b0 n0 m0 j).natAbs
section
variable{a0 b0 a b q R r:List Int}{n0 m0 n m d nr:Nat}{l s D l' s':Int}
theorem Qmw.start(h1:m≤n)(h2:co b m≠0)(h3: ∀x,m<x→co b x=0)(h4: ∀x,n<x→co a x=0)(hl:l.natAbs=1)(hs:s.natAbs=1):Qmw a b n m a b n m l s:=
  ⟨h1,h2,h3,h4,by omega,by omega,fun k j _ _=>by rw[hl,hs];simp⟩
theorem Qmw.exact(h:Qmw a0 b0 n0 m0 a b n m l s)(hr: ∀x,m≤x→co R x=0)(hq: ∀u,n -m<u→co q u=0)(hid: ∀x,co b m^ (n -m+1)*co a x=co (Xg q b) x+co R x)(hD:D.natAbs=l.natAbs*s.natAbs^ (n -m))(j:Nat):D∣co R j:=by
  rcases Nat.lt_or_ge j m with hj|hj
  · have e1:=Qle (n:=n) (m:=m) (d:=n -m) (j:=j) rfl h.top h.hb hr hq hid (by have :=h.le;omega) (by omega)
    have e2:=h.sr (m -1) j (by omega) (by have :=h.le;omega)
    rw[e1,show m -(m -1)=1 by omega,show n -(m -1) -1=n -m by omega,Nat.pow_one] at e2
    rw[←Int.natAbs_dvd_natAbs,e2,hD]
    exact Nat.dvd_mul_right _ _
  · rw[hr j hj];exact Int.dvd_zero _
theorem Qmw.reg(h:Qmw a0 b0 n0 m0 a b n m l s)(hn:m<n):s.natAbs^ (n -m -1)∣ (co b m).natAbs^ (n -m):=by
  have e1:=h.sr m m (Nat.le_refl _) hn
  rw[Qj0 rfl h.hb hn,Int.natAbs_pow,Nat.sub_self,Nat.pow_zero,Nat.one_mul] at e1
  rw[e1];exact Nat.dvd_mul_right _ _
theorem Qmw.next(h:Qmw a0 b0 n0 m0 a b n m l s)(hq: ∀u,n -m<u→co q u=0)(hid: ∀x,co b m^ (n -m+1)*co a x=co (Xg q b) x+D*co r x)(hD:D.natAbs=l.natAbs*s.natAbs^ (n -m))
    (ht:co r nr≠0)(hr: ∀x,nr<x→co r x=0)(hnr:nr<m)(hl:l'.natAbs=(co b m).natAbs)(hs:(n=m∧s'=s)∨(m<n∧s'.natAbs*s.natAbs^ (n -m -1)=(co b m).natAbs^ (n -m))):Qmw a0 b0 n0 m0 b r m nr l' s':=by
  have hL:=h.top
  have hle:=h.le
  have h0:=h.l0
  have h1:=h.s0
  refine⟨by omega,ht,hr,h.hb,by omega,?_,fun k j hk hkm=> ?_⟩
  · rcases hs with⟨_,rfl⟩| ⟨_,hs⟩
    · exact h1
    · intro e
      rw[e,Int.natAbs_zero,Nat.zero_mul] at hs
      have :0<(co b m).natAbs^ (n -m):=Nat.pow_pos (by omega)
      omega
  · have e1:=Qrh (n:=n) (m:=m) (d:=n -m) (j:=j) rfl h.hb hr hq hid (by omega) hnr hk
    have e2:=h.sr k j (by omega) (by omega)
    rw[Int.natAbs_mul,Int.natAbs_mul,Int.natAbs_mul,Int.natAbs_pow,Int.natAbs_pow,Int.natAbs_pow,Int.natAbs_pow] at e1
    rw[hl]
    have :=Qt6 (L:=(co b m).natAbs) (l:=l.natAbs) (s:=s.natAbs) (s':=s'.natAbs) (D:=D.natAbs) (X:=(Sr k a0 b0 n0 m0 j).natAbs) (A:=(Sr k a b n m j).natAbs) (B:=(Sr k b r m nr j).natAbs) (u:=m -k) (e:=nr -k) (d:=n -m)
      (by omega) (by omega) (by omega) (by omega) (by omega) (by rw[e1,show n -nr=n -m+(m -k) -(nr -k) by omega]) (by rw[e2,show n -k -1=m -k -1+(n -m) by omega]) hD
      (hs.imp (fun h=>⟨by omega,by rw[h.2]⟩) fun h=>⟨by omega,h.2⟩)
    exact this
end
end Go.Gx
namespace Go.Gx
theorem QkY: ∀(m n:Nat),n≤m→2≤n→ ∃p:Nat,2≤p∧p∣n∧ ∀a b:Nat,p∣a*b→p∣a∨p∣b
  |0,n,h,h2=>by omega
  |m+1,n,h,h2=>by
    by_cases hd: ∃d,2≤d∧d<n∧d∣n
    · obtain⟨d,h3,h4,h5⟩:=hd
      obtain⟨p,hp,hpd,hpp⟩:=QkY m d (by omega) h3
      exact⟨p,hp,Nat.dvd_trans hpd h5,hpp⟩
    · refine⟨n,h2,Nat.dvd_refl n,fun a b hab=> ?_⟩
      have hg:=Nat.gcd_dvd_left n a
      have hg0:0<Nat.gcd n a:=Nat.gcd_pos_of_pos_left _ (by omega)
      have hle:=Nat.le_of_dvd (by omega) hg
      rcases Nat.lt_or_ge (Nat.gcd n a) 2 with h1|h1
      · right
        have :Nat.gcd n a=1:=by omega
        exact Nat.Coprime.dvd_of_dvd_mul_left this hab
      · left
        have :Nat.gcd n a=n:=Classical.byContradiction fun hne=>hd ⟨_,h1,by omega,hg⟩
        rw[←this];exact Nat.gcd_dvd_right n a
theorem Qiy{n:Nat}(h:2≤n): ∃p:Nat,2≤p∧p∣n∧ ∀a b:Int,(p:Int)∣a*b→(p:Int)∣a∨(p:Int)∣b:=by
  obtain⟨p,h1,h2,h3⟩:=QkY n n (Nat.le_refl _) h
  refine⟨p,h1,h2,fun a b hab=> ?_⟩
  rw[Int.ofNat_dvd_left] at hab⊢
  rw[Int.ofNat_dvd_left]
  rw[Int.natAbs_mul] at hab
  exact h3 _ _ hab
theorem QeE{p:Int}{F:Nat→Int}{i:Nat}: ∀n,(∀a,a<n→a≠i→p∣F a)→p∣Ye F n -(if i<n then F i else 0)
  |0,_=>by simp [Ye]
  |n+1,h=>by
    have ih:=QeE (p:=p) (F:=F) (i:=i) n fun a ha hi=>h a (by omega) hi
    rw[YA]
    by_cases h1:n=i
    · subst h1
      rw[if_neg (by omega)] at ih
      rw[if_pos (by omega),show Ye F n+F n -F n=Ye F n -0 by omega]
      exact ih
    · have h2:=h n (by omega) h1
      by_cases h3:i<n
      · rw[if_pos h3] at ih
        rw[if_pos (by omega),show Ye F n+F n -F i=(Ye F n -F i)+F n by omega]
        exact Int.dvd_add ih h2
      · rw[if_neg h3] at ih
        rw[if_neg (by omega),show Ye F n+F n -0=(Ye F n -0)+F n by omega]
        exact Int.dvd_add ih h2
theorem least{Q:Nat→Prop}: ∀n,Q n→ ∃j,Q j∧ ∀i,i<j→ ¬Q i:=fun n=>by
  induction n using Nat.strongRecOn with
  |ind n ih=>
    intro h
    by_cases h1: ∃i,i<n∧Q i
    · obtain⟨i,h2,h3⟩:=h1;exact ih i h2 h3
    · exact⟨n,h,fun i hi hq=>h1 ⟨i,hi,hq⟩⟩
theorem Qff{p:Int}(hp: ∀a b:Int,p∣a*b→p∣a∨p∣b){l d:List Int}(h: ∀i,p∣co (Xg l d) i)(hd: ∃j,¬p∣co d j): ∀i,p∣co l i:=by
  obtain⟨j0,hj0⟩:=hd
  obtain⟨j,hj,hl⟩:=least (Q:=fun j=> ¬p∣co d j) j0 hj0
  intro i
  induction i using Nat.strongRecOn with
  |ind i ih=>
    have h1:=h (i+j)
    rw[Xp] at h1
    have h2:=QeE (p:=p) (F:=fun a=>co l a*co d (i+j -a)) (i:=i) (i+j+1) (fun a ha hai=>by
      rcases Nat.lt_or_ge a i with h3|h3
      · exact Int.dvd_mul_of_dvd_left (ih a h3)
      · exact Int.dvd_mul_of_dvd_right (Classical.not_not.1 (hl (i+j -a) (by omega))))
    rw[if_pos (by omega),show i+j -i=j by omega] at h2
    have h3:p∣co l i*co d j:=by
      have :=Int.dvd_sub h1 h2
      have e:conv l d (i+j) -(Ye (fun a=>co l a*co d (i+j -a)) (i+j+1) -co l i*co d j)=co l i*co d j:=by unfold conv YB;omega
      rwa [e] at this
    exact(hp _ _ h3).resolve_right hj
theorem Zs{k:Nat}: ∀{F:List Int},(∀i,(k:Int)∣co F i)→k∣Xy F
  | [],_=>by simp [Xy]
  |a::F,h=>by
    rw[Qbh]
    refine Nat.dvd_gcd (Zs fun i=> ?_) ?_
    · have :=h (i+1);simpa [co] using this
    · have :=h 0;exact Int.ofNat_dvd_left.1 (by simpa [co] using this)
theorem Qab: ∀(F:List Int)(i:Nat),(Xy F:Int)∣co F i
  | [],i=>by simp [co]
  |a::F,i=>by
    rw[Qbh]
    cases i with
    |zero=>
      have :co (a::F) 0=a:=by simp [co]
      rw[this];exact Int.ofNat_dvd_left.2 (Nat.gcd_dvd_right _ _)
    |succ i=>
      have :co (a::F) (i+1)=co F i:=by simp [co]
      rw[this]
      exact Int.dvd_trans (Int.ofNat_dvd.2 (Nat.gcd_dvd_left _ _)) (Qab F i)
theorem QuI(l:List Int)(p:Int)(i:Nat):co (l.map fun x=>x/p) i=co l i/p:=by
  simp only[co,List.getD,List.getElem?_map]
  cases l[i]? <;>simp
theorem Qu8{d R:List Int}(hd:Xy d=1): ∀(n:Nat)(c:Int)(l:List Int),c.natAbs≤n→c≠0→(∀i,co R i*c=co (Xg l d) i)→ ∃W,∀i,co l i=c*co W i
  |0,c,l,hn,hc,_=>by omega
  |n+1,c,l,hn,hc,h=>by
    by_cases h1:c.natAbs<2
    · have :c=1∨c= -1:=by omega
      refine⟨Xf l c,fun i=> ?_⟩
      rw[Xi]
      rcases this with rfl|rfl<;>omega
    · obtain⟨p,hp2,hpc,hpp⟩:=Qiy (n:=c.natAbs) (by omega)
      have hpc':(p:Int)∣c:=Int.ofNat_dvd_left.2 hpc
      obtain⟨c',rfl⟩:=hpc'
      have hj: ∃j,¬(p:Int)∣co d j:=by
        apply Classical.byContradiction
        intro hn'
        have :p∣Xy d:=Zs fun i=>Classical.byContradiction fun h=>hn' ⟨i,h⟩
        rw[hd] at this
        have :=Nat.le_of_dvd (by omega) this
        omega
      have hl:=Qff hpp (l:=l) (d:=d) (fun i=>by rw[←h i,←Int.mul_assoc,Int.mul_comm (co R i)];exact⟨co R i*c',by rw[Int.mul_assoc]⟩) hj
      have hp0:(p:Int)≠0:=by omega
      have hc':c'≠0:=fun e=>hc (by rw[e,Int.mul_zero])
      have hco: ∀i,co l i=p*co (l.map fun x=>x/ (p:Int)) i:=fun i=>by rw[QuI];exact(Int.mul_ediv_cancel' (hl i)).symm
      have e2: ∀i,co (Xg l d) i=p*co (Xg (l.map fun x=>x/ (p:Int)) d) i:=fun i=>by
        rw[Xp,Xp]
        unfold conv YB
        rw[←Qhv]
        exact Xt fun a _=>by rw[hco a,Int.mul_assoc]
      obtain⟨W,hW⟩:=Qu8 hd n c' (l.map fun x=>x/ (p:Int)) (by
        rw[Int.natAbs_mul] at hn
        have h3:2*c'.natAbs≤(p:Int).natAbs*c'.natAbs:=Nat.mul_le_mul_right _ (by omega)
        have :c'.natAbs≠0:=by omega
        omega) hc' (fun i=>by
        have :=h i
        rw[e2 i,←Int.mul_assoc,Int.mul_comm (co R i),Int.mul_assoc] at this
        exact Int.eq_of_mul_eq_mul_left hp0 this)
      exact⟨W,fun i=>by rw[hco i,hW i,Int.mul_assoc]⟩
theorem QbR{d R:List Int}(hd:Xy d=1)(h:P d∣P R): ∃W,P R=P W*P d:=by
  obtain⟨q,e⟩:=h
  obtain⟨c,l,hc,hq,_⟩:=QbO q
  have e1:P (Xf R c)=P (Xg l d):=by rw[YF,Zb,←hq,e,XI]
  obtain⟨W,hW⟩:=Qu8 hd _ c l (Nat.le_refl _) hc fun i=>by rw[←Xi];exact QgE e1 i
  refine⟨W,?_⟩
  have e2:P l=K c*P W:=by rw[←YF];exact QaJ fun i=>by rw[hW i,Xi,Int.mul_comm]
  refine QP.eq fun x=> ?_
  have h1:=qat e x
  have h2:=qat hq x
  have h3:=qat e2 x
  have h4:=XC hc
  simp only[Xq,v_K] at h1 h2 h3⊢
  grind
theorem Qgj{F G:List Int}(hp:Xy G=1)(hl:ldP G≠0)(h:QrJ F G): ¬P G∣P F:=by
  intro hd
  obtain⟨W,hW⟩:=QbR hp hd
  obtain⟨Q,R,s,hI,hz,hs⟩:=h
  obtain⟨d,hdl⟩:=Qa5 hl
  have⟨hdL,hdz,_⟩:=Zj hdl
  rw[hdl,show d+1 -1=d from rfl] at hz hs
  have e:P R=P (Xg (XD W Q) G):=QP.eq fun x=>by
    have h1:=qat hW x
    have h2:=hI x
    rw[Zb,Qsi]
    simp only[Xq,Qcs,v_P] at h1⊢
    grind
  have hR: ∀n,(∀i,n≤i→co R i=0)→dg (P R)≤n:=fun n hn=>by
    rw[Yj]
    rcases(XA R).2 with h|h
    · omega
    · apply Classical.byContradiction
      intro hc;exact h (hn _ (by omega))
  rcases hs with⟨hs,hs2⟩| ⟨rfl,i,hi⟩
  · apply hs2
    have hU: ∀i,s -1<i→co (XD W Q) i=0:=fun i hi=>by
      by_cases h0:P (XD W Q)=0
      · have :=QgE (h0.trans QdA.symm) i;rw[this];simp [co]
      · have h1:=hR _ hz
        rw[e,Zb] at h1
        have h2:=Zd h0 (g:=P G) (XF.2 (by rw[Yj];omega))
        rw[Yj,Yj G] at h2
        exact(XA _).1 i (by omega)
    rw[QgE e,(Qf8 hU hdz).1,hdL]
    exact Int.dvd_mul_left _ _
  · apply hi
    have h1:=hR d fun i hi=>hz i (by omega)
    have h2:P R=0:=Qe5 (g:=P G) ⟨P (XD W Q),by rw[e,Zb]⟩ (by rw[Yj G];omega)
    have :=QgE (h2.trans QdA.symm) i
    rw[this];simp [co]
theorem Qft(F:List Int):(Yc F).natAbs=Xy F:=by unfold Yc;split<;>omega
theorem Yi{F:List Int}(h:ldP F≠0):Yc F≠0:=by have :=Qc2 h;have :=Qft F;omega
theorem Qoy(F:List Int)(i:Nat):Yc F∣co F i:=by rw[←Int.natAbs_dvd,Qft];exact Qab F i
theorem QmN(l:List Int)(p:Int)(i:Nat):co (l.map fun x=>x.tdiv p) i=(co l i).tdiv p:=by
  simp only[co,List.getD,List.getElem?_map]
  cases l[i]? <;>simp
theorem QeW(F:List Int)(i:Nat):Yc F*co (Xr F) i=co F i:=by
  unfold Xr;rw[QmN,Xo];exact Int.mul_tdiv_cancel' (Qoy F i)
theorem QbJ(F:List Int):P F=K (Yc F)*P (Xr F):=by
  rw[←YF];exact QaJ fun i=>by rw[Xi,Int.mul_comm,QeW]
theorem QaK{F:List Int}(h:ldP F≠0):P (Xr F)=K (1/ (Yc F:Rat))*P F:=QP.eq fun x=>by
  have h1:=qat (QbJ F) x
  have h2:=XC (Yi h)
  simp only[Xq,v_K] at h1⊢
  grind
theorem QhY{F:List Int}(h:ldP F≠0):Xy (Xr F)=1:=by
  have h0:=Qc2 h
  have h1:Xy F*Xy (Xr F)∣Xy F:=Zs fun i=>by
    rw[←QeW F i]
    have :=Qab (Xr F) i
    obtain⟨z,hz⟩:=this
    rw[hz]
    rw[Int.ofNat_dvd_left,Int.natAbs_mul,Int.natAbs_mul,Qft]
    exact⟨z.natAbs,by simp [Nat.mul_assoc]⟩
  have h2:=Nat.le_of_dvd h0 h1
  have h3:Xy (Xr F)≠0:=fun e=>by rw[e,Nat.mul_zero] at h1;have :=Nat.eq_zero_of_zero_dvd h1;omega
  apply Classical.byContradiction
  intro hn
  have :Xy F*2≤Xy F*Xy (Xr F):=Nat.mul_le_mul_left _ (by omega)
  omega
theorem Yz(F:List Int):(Xr F).length=(Xa F).length:=by unfold Xr;simp
theorem QaS(F:List Int):Xa (Xr F)=Xr F:=by
  by_cases h:ldP F=0
  · rw[←Qgt h];rfl
  · refine ZF ?_
    by_cases h0:(Xr F).length=0
    · exact .inl h0
    · right
      intro e
      have h1:=QeW F ((Xr F).length -1)
      rw[e,Int.mul_zero,Yz] at h1
      rw[Yz] at h0
      exact(XA F).2.resolve_left h0 h1.symm
theorem QnK{F:List Int}(h:ldP F≠0):0<ldP (Xr F):=by
  obtain⟨d,hd⟩:=Qa5 h
  have⟨h1,_,_⟩:=Zj hd
  have⟨h2,_,h5⟩:=Zj (G:=Xr F) (d:=d) (by rw[QaS,Yz,hd])
  have h3:=QeW F d
  rw[h1,h2] at h3
  have h4:=Qc2 h
  unfold Yc at h3
  by_cases hn:ldP F<0
  · rw[if_pos hn] at h3
    apply Classical.byContradiction
    intro hc
    have :0≤(Xy F:Int)*(-(ldP (Xr F))):=Int.mul_nonneg (by omega) (by omega)
    have e: -(Xy F:Int)*ldP (Xr F)=(Xy F:Int)*(-(ldP (Xr F))):=by rw[Int.neg_mul,Int.mul_neg]
    omega
  · rw[if_neg hn] at h3
    apply Classical.byContradiction
    intro hc
    have :0≤(Xy F:Int)*(-(ldP (Xr F))):=Int.mul_nonneg (by omega) (by omega)
    rw[Int.mul_neg] at this
    omega
theorem Zf(F:List Int):ldP F=0↔P F=0:=by
  constructor
  · intro h;rw[←Yf,QjC h,QdA]
  · intro h
    have :=QfO (h.trans QdA.symm)
    unfold ldP;rw[this];rfl
theorem Xz(F:List Int):ldP F≠0↔P F≠0:=not_congr (Zf F)
end Go.Gx
namespace Go.Gx
theorem Qim{G:List Int}{x:Int}(h:x=((Xa G).length:Int) -1)(hx: ¬x<0):ldP G≠0:=by
  rw[Xz,XF,Yj];omega
end Go.Gx
namespace Go.Gx
def nrm(l:List Int):Nat:=l.foldr (fun a s=>a.natAbs+s) 0
theorem Qad(a:Int)(l:List Int):nrm (a::l)=a.natAbs+nrm l:=rfl
theorem QkL(l:List Int):nrm l=(co l 0).natAbs+nrm l.tail:=by
  cases l with
  |nil=>simp [nrm,co]
  |cons a l=>simp [Qad,co]
theorem Qob: ∀(n:Nat)(f g:List Int),f.length+g.length≤n→(∀i,co f i=co g i)→nrm f=nrm g
  |0,f,g,hn,_=>by
    have h1:f=[]:=List.eq_nil_of_length_eq_zero (by omega)
    have h2:g=[]:=List.eq_nil_of_length_eq_zero (by omega)
    rw[h1,h2]
  |n+1,f,g,hn,h=>by
    rcases Nat.eq_zero_or_pos (f.length+g.length) with h0|h0
    · have h1:f=[]:=List.eq_nil_of_length_eq_zero (by omega)
      have h2:g=[]:=List.eq_nil_of_length_eq_zero (by omega)
      rw[h1,h2]
    · rw[QkL f,QkL g,h 0,Qob n f.tail g.tail (by simp;omega) (fun i=>by rw[QgT,QgT];exact h (i+1))]
theorem QbY{f g:List Int}(h: ∀i,co f i=co g i):nrm f=nrm g:=Qob _ f g (Nat.le_refl _) h
theorem QkM(f:List Int):nrm (Xa f)=nrm f:=QbY fun i=>Xo f i
theorem QkK: ∀(l:List Int)(i:Nat),(co l i).natAbs≤nrm l
  | [],i=>by simp [co]
  |a::l,0=>by simp [co,Qad]
  |a::l,i+1=>by
    have :=QkK l i
    have e:co (a::l) (i+1)=co l i:=by simp [co]
    rw[e,Qad];omega
theorem Qhj: ∀f g:List Int,nrm (Xx f g)≤nrm f+nrm g
  | [],g=>by rw[QbY (g:=g) (fun i=>by rw[Xv];simp [co])];omega
  |a::f,[]=>by rw[QbY (g:=a::f) (fun i=>by rw[Xv];simp [co])];omega
  |a::f,b::g=>by
    have ih:=Qhj f g
    rw[QbY (g:=(a+b)::Xx f g) (fun i=>by
      rw[Xv]
      cases i with
      |zero=>simp [co]
      |succ i=>
        have :=Xv f g i
        simp only[co,List.getD_cons_succ] at this⊢
        omega)]
    rw[Qad,Qad,Qad]
    omega
theorem Qit(c:Int): ∀f:List Int,nrm (Xf f c)=c.natAbs*nrm f
  | []=>by simp [Xf,nrm]
  |a::f=>by
    have ih:=Qit c f
    simp only[Xf,List.map_cons,Qad,Int.natAbs_mul] at ih⊢
    rw[ih,Nat.mul_add,Nat.mul_comm]
theorem Qhk: ∀f g:List Int,nrm (Xg f g)≤nrm f*nrm g
  | [],g=>by simp [Xg,nrm]
  |a::f,g=>by
    have ih:=Qhk f g
    have h1:=Qhj (Xf g a) (0::Xg f g)
    rw[QbY (Qah a f g),Qad,Nat.add_mul]
    rw[Qit,Qad] at h1
    simp at h1
    omega
theorem Qe3{g:QP}(hg:g≠0)(n:Nat):dg (g^ (n+1))+1=dg (g^n)+dg g:=by rw[XP];exact Zd (ZP hg n) hg
theorem Qh2{g:QP}(hg:2≤dg g): ∀n,n+1≤dg (g^n)
  |0=>by rw[YO];exact Nat.le_of_eq (QuM (by decide)).symm
  |n+1=>by have :=Qe3 (g:=g) (XF.2 (by omega)) n;have :=Qh2 hg n;omega
theorem Qwd{F:List Int}(h:P F=0):(Xa F).length=0:=by rw[←Yj];exact Ya.2 h
end Go.Gx
namespace Go.Gx
def rho(cl:List Nat)(r:Row):Nat:=cl.foldr (fun c s=>(r c).natAbs+s) 0
def Qao(cl:List Nat)(rs:List Row):Nat:=rs.foldr (fun r s=>rho cl r*s) 1
theorem QaH(cl:List Nat)(r:Row)(rs:List Row):Qao cl (r::rs)=rho cl r*Qao cl rs:=rfl
theorem Qht(c:Nat)(cl:List Nat)(r:Row):rho (c::cl) r=(r c).natAbs+rho cl r:=rfl
theorem Qee(cl:List Nat): ∀a b:List Row,Qao cl (a++b)=Qao cl a*Qao cl b
  | [],b=>by simp [Qao]
  |r::a,b=>by rw[List.cons_append,QaH,QaH,Qee cl a b,Nat.mul_assoc]
theorem Qk6(c:Nat)(cl:List Nat): ∀rs:List Row,Qao cl rs≤Qao (c::cl) rs
  | []=>Nat.le_refl _
  |r::rs=>by rw[QaH,QaH];exact Nat.mul_le_mul (by rw[Qht];omega) (Qk6 c cl rs)
theorem QrP{D:List Row→Int}{cl:List Nat}{c:Nat}(hD: ∀rs,(D rs).natAbs≤Qao cl rs): ∀rs pre:List Row,(lap D c pre rs).natAbs≤Qao cl pre*Qao (c::cl) rs
  | [],pre=>by simp [lap]
  |r::rs,pre=>by
    have ih:=QrP (c:=c) hD rs (pre++[r])
    have h1:=hD (pre++rs)
    rw[Qee] at h1 ih
    rw[show Qao cl [r]=rho cl r from Nat.mul_one _] at ih
    have h2:=Qk6 c cl rs
    simp only[lap]
    rw[QaH,Qht]
    have h3:(r c*D (pre++rs)).natAbs≤(r c).natAbs*(Qao cl pre*Qao (c::cl) rs):=by
      rw[Int.natAbs_mul]
      exact Nat.mul_le_mul_left _ (Nat.le_trans h1 (Nat.mul_le_mul_left _ h2))
    have h4:Qao cl pre*(((r c).natAbs+rho cl r)*Qao (c::cl) rs)=(r c).natAbs*(Qao cl pre*Qao (c::cl) rs)+Qao cl pre*rho cl r*Qao (c::cl) rs:=by
      generalize Qao cl pre=x
      generalize Qao (c::cl) rs=y
      generalize(r c).natAbs=z
      generalize rho cl r=t
      grind
    omega
theorem QrD: ∀(cl:List Nat)(rs:List Row),(det cl rs).natAbs≤Qao cl rs
  | [],[]=>by decide
  | [],r::rs=>by simp [det]
  |c::cl,rs=>by
    have :=QrP (c:=c) (QrD cl) rs []
    rw[show Qao cl []=1 from rfl,Nat.one_mul] at this
    exact this
theorem Qr4{r:Row}{H:Nat}(h: ∀c,(r c).natAbs≤H): ∀cl:List Nat,rho cl r≤cl.length*H
  | []=>by simp [rho]
  |c::cl=>by have :=Qr4 h cl;have :=h c;rw[Qht,List.length_cons,Nat.succ_mul];omega
theorem QiK{cl:List Nat}{X:Nat}: ∀rs:List Row,(∀r∈rs,rho cl r≤X)→Qao cl rs≤X^rs.length
  | [],_=>by simp [Qao]
  |r::rs,h=>by
    rw[QaH,List.length_cons,Nat.pow_succ,Nat.mul_comm]
    exact Nat.mul_le_mul (QiK rs fun x hx=>h x (by simp [hx])) (h r (by simp))
theorem Qkk: ∀(n hi:Nat),(QaL hi n).length=n
  |0,_=>rfl
  |n+1,hi=>by simp [QaL,Qkk n]
theorem Qhu(f:List Int): ∀n,(rowsOf f n).length=n
  |0=>rfl
  |n+1=>by simp [rowsOf,Qhu f n]
theorem QuJ{f:List Int}{H:Nat}(h: ∀i,(co f i).natAbs≤H)(t c:Nat):(cs f t c).natAbs≤H:=by
  unfold cs;split
  · exact h _
  · simp
theorem Qsl{a b:List Int}{n m k j H N:Nat}(ha: ∀i,(co a i).natAbs≤H)(hb: ∀i,(co b i).natAbs≤H)(hH:1≤H)(hN:n+m≤N)(hk:k≤m)(hkn:k<n):(Sr k a b n m j).natAbs≤(N*H)^N:=by
  unfold Sr
  refine Nat.le_trans (QrD _ _) (Nat.le_trans (QiK (X:=N*H) _ fun r hr=> ?_) (Nat.pow_le_pow_right (Nat.mul_pos (by omega) hH) ?_))
  · refine Nat.le_trans (Qr4 (H:=H) (fun c=> ?_) _) (Nat.mul_le_mul_right _ (by rw[List.length_append,Qkk];simp;omega))
    rcases List.mem_append.1 hr with h|h
    · obtain⟨t,_,rfl⟩:=Qdn h;exact QuJ ha t c
    · obtain⟨t,_,rfl⟩:=Qdn h;exact QuJ hb t c
  · rw[List.length_append,Qhu,Qhu];omega
end Go.Gx
