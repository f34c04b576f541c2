/-
  PolyMath2, DivMath, ModMath, DivMath2, RatMath, EvMath, EndMath, InvMath
-/
import Derived.Test.YtjdpemcnlejpfaaGreatDoorLaws2
set_option linter.all false
namespace Go.Gx
theorem QaU{F:Nat→Int}{n j:Nat}(hj:j<n)(h: ∀i,i<n→i≠j→F i=0):Ye F n=F j:=by
  induction n with
  |zero=>omega
  |succ n ih=>
    rw[YA]
    by_cases e:n=j
    · subst e
      rw[XQ fun i hi=>h i (by omega) (by omega)];omega
    · rw[ih (by omega) fun i hi hne=>h i (by omega) hne,h n (by omega) e];omega
def Xf(f:List Int)(c:Int):List Int:=f.map (· *c)
def Xn(f:List Int):List Int:=(List.range (f.length -1)).map fun i=>co f (i+1)*((i+1:Nat):Int)
theorem Xi(f:List Int)(c:Int)(i:Nat):co (Xf f c) i=co f i*c:=by
  simp only[co,Xf,List.getD,List.getElem?_map]
  cases f[i]? <;>simp
theorem XZ(f:List Int)(i:Nat):co (Xn f) i=co f (i+1)*((i+1:Nat):Int):=by
  unfold Xn
  rw[ZA]
  split
  · rfl
  · rw[XX (f:=f) (i:=i+1) (by omega)];simp
theorem QbM(f:List Int)(k i:Nat):co (f.take k) i=if i<k then co f i else 0:=by
  simp only[co,List.getD,List.getElem?_take]
  split<;>rfl
theorem Qbq(f:List Int)(c:Int):(Xf f c).length=f.length:=by simp [Xf]
theorem Xe(f:List Int):(Xa f).length≤f.length:=QaV ZM f
theorem Qme{f out:List Int}{k:Nat}{c z:Int}(h:out=(f.take k).map (· *c))(hk:k<f.length)(hz:z=co f k*c):out++[z]=(f.take (k+1)).map (· *c):=by
  rw[List.take_succ_eq_append_getElem hk,List.map_append,←h,hz]
  simp [co,List.getD,hk]
def Zk(g:List Int):Nat→List Int
  |0=>[1]
  |k+1=>Xg (Zk g k) g
def pcs(f g:List Int):Nat→List Int
  |0=>[]
  |k+1=>Xx (pcs f g k) (Xf (Zk g k) (co f k))
def Yw(g:List Int):List Int→List Int
  | []=>[]
  |a::fs=>Xx (Xg (Yw g fs) g) [a]
theorem ZH(f g:List Int)(k:Nat):conv f g k=conv g f k:=Qgb _ _ k
theorem QmW{f f' h g:List Int}(e: ∀i,co h i=co f i+co f' i)(k:Nat):conv h g k=conv f g k+conv f' g k:=by
  rw[ZH h,ZH f,ZH f']
  show YB (co g) (co h) k=_
  rw[show YB (co g) (co h) k=YB (co g) (fun i=>co f i+co f' i) k from QbA (fun _=>rfl) e]
  exact QmV _ _ _ k
theorem Qjl{f h g:List Int}{c:Int}(e: ∀i,co h i=co f i*c)(k:Nat):conv h g k=conv f g k*c:=by
  unfold conv YB
  rw[←QdU]
  refine Xt fun i _=> ?_
  rw[e,Int.mul_assoc,Int.mul_comm c,Int.mul_assoc]
theorem QpS(g:List Int)(k:Nat):conv [] g k=0:=XQ fun i _=>by simp [co]
theorem QkU(a:Int)(f g:List Int): ∀(k i:Nat),co (pcs (a::f) g (k+1)) i=co [a] i+conv (pcs f g k) g i
  |0,i=>by
    show co (Xx [] (Xf [1] (co (a::f) 0))) i=co [a] i+conv [] g i
    rw[Xv,Xi,QpS]
    cases i<;>simp [co]
  |k+1,i=>by
    have ih:=QkU a f g k i
    show co (Xx (pcs (a::f) g (k+1)) (Xf (Zk g (k+1)) (co (a::f) (k+1)))) i=_
    rw[Xv,ih,Xi]
    show _+co (Xg (Zk g k) g) i*_=_
    rw[Xp]
    have e1:conv (pcs f g (k+1)) g i=conv (pcs f g k) g i+conv (Xf (Zk g k) (co f k)) g i:=QmW (fun j=>Xv _ _ j) i
    rw[e1,Qjl (fun j=>Xi (Zk g k) (co f k) j) i]
    have e2:co (a::f) (k+1)=co f k:=by simp [co]
    rw[e2]
    omega
theorem QgR(g:List Int): ∀(f:List Int)(i:Nat),co (Yw g f) i=co (pcs f g f.length) i
  | [],i=>rfl
  |a::f,i=>by
    have ih:=QgR g f
    rw[List.length_cons,QkU]
    show co (Xx (Xg (Yw g f) g) [a]) i=_
    rw[Xv,Xp,YH (f':=pcs f g f.length) (g':=g) ih fun _=>rfl]
    omega
theorem Qiv{f f' g g':List Int}(hf: ∀i,co f i=co f' i)(hg: ∀i,co g i=co g' i): ∀(k i:Nat),co (pcs f g k) i=co (pcs f' g' k) i:=by
  have hp: ∀(k i:Nat),co (Zk g k) i=co (Zk g' k) i:=by
    intro k
    induction k with
    |zero=>intro i;rfl
    |succ k ih=>intro i;show co (Xg _ _) i=co (Xg _ _) i;rw[Xp,Xp];exact YH ih hg
  intro k
  induction k with
  |zero=>intro i;rfl
  |succ k ih=>
    intro i
    show co (Xx _ _) i=co (Xx _ _) i
    rw[Xv,Xv,ih,Xi,Xi,hp,hf]
theorem Qci{g g':List Int}(hg: ∀i,co g i=co g' i): ∀(k i:Nat),co (Zk g k) i=co (Zk g' k) i:=by
  intro k
  induction k with
  |zero=>intro i;rfl
  |succ k ih=>intro i;show co (Xg _ _) i=co (Xg _ _) i;rw[Xp,Xp];exact YH ih hg
theorem QkV{f g:List Int}: ∀(m i:Nat),co (pcs f g (f.length+m)) i=co (pcs f g f.length) i
  |0,i=>rfl
  |m+1,i=>by
    show co (Xx (pcs f g (f.length+m)) (Xf (Zk g (f.length+m)) (co f (f.length+m)))) i=_
    rw[Xv,Xi,XX (f:=f) (i:=f.length+m) (by omega),QkV m i]
    omega
theorem QbN(f g h:List Int)(i:Nat):conv (Xg f g) h i=conv f (Xg g h) i:=by
  show YB (co (Xg f g)) (co h) i=YB (co f) (co (Xg g h)) i
  rw[QbA (f:=co (Xg f g)) (f':=fun j=>conv f g j) (g':=co h) (fun j=>Xp f g j) fun _=>rfl,QbA (f':=co f) (g:=co (Xg g h)) (g':=fun j=>conv g h j) (fun _=>rfl) fun j=>Xp g h j]
  exact(Qjk _ _ _ i).symm
theorem Qot(g:List Int): ∀(k i:Nat),co (Xg g (Zk g k)) i=co (Zk g (k+1)) i:=fun k i=>by
  show _=co (Xg (Zk g k) g) i
  rw[Xp,Xp,ZH]
theorem QjJ(g:List Int): ∀(m i:Nat),co (Zk (Xg g g) m) i=co (Zk g (2*m)) i
  |0,i=>rfl
  |m+1,i=>by
    show co (Xg (Zk (Xg g g) m) (Xg g g)) i=co (Xg (Xg (Zk g (2*m)) g) g) i
    rw[Xp,Xp,YH (f':=Zk g (2*m)) (g':=Xg g g) (QjJ g m) fun _=>rfl,QbN]
theorem pow_odd{R S:List Int}{m:Nat}(i:Nat):co (Xg (Xg R S) (Zk S (2*m))) i=co (Xg R (Zk S (2*m+1))) i:=by
  rw[Xp,Xp,QbN]
  exact YH (fun _=>rfl) (fun j=>Qot S (2*m) j)
end Go.Gx
namespace Go.Gx
theorem Qlq{l:List Int}{k:Nat}(hk:k≤l.length)(hz: ∀j,k≤j→l.getD j 0=0)(hl:k=0∨l.getD (k -1) 0≠0):l.take k=Xa l:=by
  refine(QhJ ZM (l.length -k) l k (by omega) (fun j x hj hx=> ?_) ?_).symm
  · have :=hz j hj;simp [List.getD,hx] at this;simp [ZM,this]
  · rcases Nat.eq_zero_or_pos k with h0|h0
    · exact .inl h0
    · right
      rcases hl with hl|hl
      · omega
      · have hlt:k -1<l.length:=by omega
        refine⟨l[k-1],List.getElem?_eq_getElem hlt,?_⟩
        simp [List.getD,hlt] at hl
        simpa [ZM] using hl
def coI(f:List Int)(i:Int):Int:=if i<0 then 0 else co f i.toNat
theorem QeV(f:List Int)(k:Nat):coI f (k:Int)=co f k:=by simp only[coI];rw[if_neg (by omega),Int.toNat_natCast]
theorem QuH{f:List Int}{i:Int}(h:0≤i):co f i.toNat=coI f i:=by simp only[coI];rw[if_neg (by omega)]
theorem QmK{f:List Int}{i:Int}(h:i<0∨(f.length:Int)≤i):(0:Int)=coI f i:=by
  simp only[coI]
  split
  · rfl
  · exact(XX (by omega)).symm
end Go.Gx
namespace Go.Gx
theorem ZF{f:List Int}(h:f.length=0∨co f (f.length -1)≠0):Canon ZM f:=by
  rcases Xw f with h0| ⟨k,x,rfl⟩
  · subst h0;rfl
  · refine Yp.2 ?_
    rcases h with h|h
    · simp at h
    · have e:co (k++[x]) ((k++[x]).length -1)=x:=by simp [co,List.getD]
      rw[e] at h
      simpa [ZM] using h
theorem YG{f:List Int}(h:Canon ZM f)(hl:f.length≠0):co f (f.length -1)≠0:=by
  rcases Xw f with h0| ⟨k,x,rfl⟩
  · subst h0;simp at hl
  · have e:co (k++[x]) ((k++[x]).length -1)=x:=by simp [co,List.getD]
    rw[e]
    have :=Yp.1 h
    simpa [ZM] using this
theorem Qgd(f:List Int):(Xn f).length=f.length -1:=by simp [Xn]
theorem Qh0{f:List Int}(h:Canon ZM f):Canon ZM (Xn f):=by
  refine ZF ?_
  rw[Qgd]
  by_cases h1:f.length -1=0
  · exact .inl h1
  · right
    have h2:=YG h (by omega)
    rw[XZ,show f.length -1 -1+1=f.length -1 by omega]
    exact Int.mul_ne_zero h2 (by omega)
theorem Qge(f:List Int):Xn (Xa f)=Xa (Xn f):=by
  have h:=Qh0 (Xs ZM f)
  rw[← (h:Xa _=_)]
  refine YP fun i=> ?_
  rw[XZ,XZ,Xo]
theorem Qdg(R:List Int)(i:Nat):conv R [1] i=co R i:=by
  rw[ZH]
  unfold conv YB
  rw[QaU (j:=0) (by omega) (fun t _ hne=>by
    have :co [1] t=0:=XX (by simp;omega)
    rw[this];simp)]
  simp [co]
theorem QqL(F:List Int)(N:Nat):Xa (Xg (Xa [1]) (Zk (Xa F) N))=Xa (Zk F N):=by
  refine YP fun i=> ?_
  rw[Xp,ZH,YH (f':=Zk F N) (g':=[1]) (Qci (fun j=>Xo _ j) N) fun j=>Xo _ j,Qdg]
theorem QqN{R S T R' S':List Int}{m:Nat}(h:Xa (Xg R (Zk S m))=T)(hm:m % 2=1)(hR:R'=Xa (Xg R S))(hS:S'=Xa (Xg S S)):Xa (Xg R' (Zk S' (m/2)))=T:=by
  rw[←h,hR,hS]
  refine YP fun i=> ?_
  have e:=pow_odd (R:=R) (S:=S) (m:=m/2) i
  rw[show 2*(m/2)+1=m by omega] at e
  rw[←e,Xp,Xp]
  exact YH (fun j=>Xo _ j) (fun j=>(Qci (fun t=>Xo _ t) _ j).trans (QjJ S (m/2) j))
theorem Qor{R S T S':List Int}{m:Nat}(h:Xa (Xg R (Zk S m))=T)(hm: ¬m % 2=1)(hS:S'=Xa (Xg S S)):Xa (Xg R (Zk S' (m/2)))=T:=by
  rw[←h,hS]
  refine YP fun i=> ?_
  rw[Xp,Xp]
  refine YH (fun _=>rfl) (fun j=>(Qci (fun t=>Xo _ t) _ j).trans ?_)
  rw[QjJ,show 2*(m/2)=m by omega]
theorem QqM{R S T R':List Int}{m m':Nat}(h:Xa (Xg R (Zk S m))=T)(hm:m=1)(hm':m'=0)(hR:R'=Xa (Xg R S)):Xa (Xg R' (Zk S m'))=T:=by
  subst hm hm'
  rw[←h,hR]
  refine YP fun i=> ?_
  show co (Xg _ [1]) i=co (Xg R (Xg [1] S)) i
  rw[Xp,Qdg,Xo,Xp,Xp]
  refine YH (fun _=>rfl) (fun j=> ?_)
  rw[Xp,ZH,Qdg]
theorem pow_end{R S T:List Int}{m:Nat}(h:Xa (Xg R (Zk S m))=T)(hm:m=0)(hc:Canon ZM R):R=T:=by
  subst hm
  rw[←h]
  conv=>lhs;rw[← (hc:Xa R=R)]
  refine YP fun i=> ?_
  show _=co (Xg R [1]) i
  rw[Xp,Qdg]
theorem Qrm:Xa [1]=[1]:=by decide
end Go.Gx
namespace Go.Gx
theorem QqB(f:List Int):Xf (Xa f) (-1)=Xa (Xf f (-1)):=by
  have h:Canon ZM (Xf (Xa f) (-1)):=by
    refine ZF ?_
    rw[Qbq]
    by_cases h1:(Xa f).length=0
    · exact .inl h1
    · right
      have :=YG (Xs ZM f) h1
      rw[Xi]
      exact Int.mul_ne_zero this (by decide)
  rw[← (h:Xa _=_)]
  refine YP fun i=> ?_
  rw[Xi,Xi,Xo]
end Go.Gx
namespace Go.Gx
structure Qsj (u a b:Nat):Prop where
  sum:a+b*u≤127
  pos:1≤b
  big:b≤254
theorem Qsj.bnd{u a b:Nat}(h:Qsj u a b):a≤127∧b≤254∧(1≤b∧u≤127)∧(0<u→a+b≤127):=by
  have hub:1*u≤b*u:=Nat.mul_le_mul_right _ h.pos
  refine⟨by have :=h.sum;omega,h.big,⟨h.pos,by have :=h.sum;omega⟩,fun hu=> ?_⟩
  have h1:b*1≤b*u:=Nat.mul_le_mul_left _ hu
  have :=h.sum
  omega
theorem Qsj.start{u:Nat}(h:u≤127):Qsj u 0 1:=⟨by omega,by omega,by omega⟩
theorem Qsj.odd{u a b:Nat}(h:Qsj u a b)(hu:u % 2=1):Qsj (u/2^1) (a+b) (2*b):=by
  have h1:=h.sum
  have h2:=h.bnd.2.2.2 (by omega)
  refine⟨?_,by have :=h.pos;omega,by omega⟩
  have e:b*u=b*(2*(u/2)+1):=by rw[show 2*(u/2)+1=u by omega]
  rw[e,Nat.mul_add,Nat.mul_one,←Nat.mul_assoc,Nat.mul_comm b 2] at h1
  show a+b+2*b*(u/2)≤127
  omega
end Go.Gx
namespace Go.Gx
end Go.Gx
namespace Go.Gx
def tay(c:Int):List Int→Nat→Int
  | [],_=>0
  |a::_,0=>a+c*tay c ‹List Int› 0
  |_::l,i+1=>c*tay c l (i+1)+tay c l i
def syn(c:Int):List Int→List Int
  | []=>[]
  |a::l=>(a+c*co (syn c l) 0)::syn c l
theorem Qpa(c:Int): ∀l:List Int,(syn c l).length=l.length
  | []=>rfl
  |a::l=>by simp [syn,Qpa c l]
theorem QgP(c a:Int)(l:List Int):tay c (a::l) 0=a+c*tay c l 0:=rfl
theorem QdD(c a:Int)(l:List Int)(i:Nat):tay c (a::l) (i+1)=c*tay c l (i+1)+tay c l i:=rfl
theorem Qrt(c:Int): ∀(l:List Int),tay c l 0=co (syn c l) 0∧ ∀i,tay c l (i+1)=tay c (syn c l).tail i
  | []=>⟨rfl,fun i=>rfl⟩
  |a::l=>by
    obtain⟨h0,h1⟩:=Qrt c l
    refine⟨by rw[QgP,h0];rfl,fun i=> ?_⟩
    rw[QdD]
    show _=tay c (syn c l) i
    cases hs:syn c l with
    |nil=>
      have :l=[]:=List.eq_nil_of_length_eq_zero (by rw[←Qpa c l,hs];rfl)
      subst this;simp [tay]
    |cons s0 s'=>
      rw[hs] at h0 h1
      simp only[List.tail_cons] at h1
      have h0':tay c l 0=s0:=by rw[h0];rfl
      cases i with
      |zero=>rw[QgP,h1 0,h0'];omega
      |succ i=>rw[QdD,h1 (i+1),h1 i]
theorem QpR(V:List Int)(c:Int): ∀i,conv V [c,1] i=c*co V i+(if i=0 then 0 else co V (i -1)):=by
  intro i
  rw[ZH]
  unfold conv YB
  cases i with
  |zero=>simp [Ye,co]
  |succ i=>
    rw[ZQ,ZQ,XQ (fun t _=>by
      have :co [c,1] (t+1+1)=0:=XX (by simp)
      rw[this];simp)]
    simp [co]
theorem Qct(c:Int): ∀(l:List Int)(i:Nat),co (Yw [c,1] l) i=tay c l i
  | [],i=>by simp [Yw,co,tay]
  |a::l,i=>by
    have ih:=Qct c l
    show co (Xx (Xg (Yw [c,1] l) [c,1]) [a]) i=_
    rw[Xv,Xp,QpR,ih]
    cases i with
    |zero=>rw[if_pos rfl,QgP];simp [co];omega
    |succ i=>rw[if_neg (by omega),QdD,Nat.add_sub_cancel,ih,XX (f:=[a]) (by simp)];omega
theorem QjW{c:Int}{F L:List Int}(h:L=F): ∀j,tay c F j=if j<0 then co L j else tay c (L.drop 0) (j -0):=by
  intro j;subst h;simp
theorem QjV{c:Int}{F L L':List Int}{low:Nat}(h: ∀j,tay c F j=if j<low then co L j else tay c (L.drop low) (j -low))(ht:L'.take low=L.take low)(hd:L'.drop low=syn c (L.drop low)):
    ∀j,tay c F j=if j<low+1 then co L' j else tay c (L'.drop (low+1)) (j -(low+1)):=by
  intro j
  rw[h j]
  by_cases h1:j<low
  · rw[if_pos h1,if_pos (by omega)]
    have e1:=QbM L low j
    have e2:=QbM L' low j
    rw[if_pos h1] at e1 e2
    rw[←e1,←e2,ht]
  · rw[if_neg h1]
    have hs:=Qrt c (L.drop low)
    rw[←hd] at hs
    by_cases h2:j=low
    · subst h2
      rw[if_pos (by omega),Nat.sub_self,hs.1]
      simp [co,List.getD,List.getElem?_drop]
    · rw[if_neg (by omega),show j -low=(j -(low+1))+1 by omega,hs.2,List.tail_drop]
theorem QoU{c:Int}{F L:List Int}{low:Nat}(h: ∀j,tay c F j=if j<low then co L j else tay c (L.drop low) (j -low))(hl:L.length≤low+1): ∀j,co L j=tay c F j:=by
  intro j
  rw[h j]
  split
  · rfl
  · rename_i h1
    by_cases h2:L.length≤low
    · rw[List.drop_of_length_le h2,XX (by omega)];rfl
    · have e:L.drop low=[co L low]:=by
        rw[List.drop_eq_getElem_cons (by omega),List.drop_of_length_le (by omega)]
        simp [co,List.getD,show low<L.length by omega]
      rw[e]
      by_cases h3:j=low
      · subst h3;rw[Nat.sub_self,QgP];simp [tay]
      · rw[XX (f:=L) (i:=j) (by omega),show j -low=(j -low -1)+1 by omega,QdD];simp [tay]
theorem Qrk{c:Int}{L0 L:List Int}{i:Nat}{z:Int}(hi:i<L0.length)(hl:L.length=L0.length)(ht:L.take (i+1)=L0.take (i+1))(hd:L.drop (i+1)=syn c (L0.drop (i+1)))(hz:z=co L i+c*co L (i+1)):
    (L.set i z).take i=L0.take i∧(L.set i z).drop i=syn c (L0.drop i):=by
  constructor
  · have :=congrArg (List.take i) ht
    rw[List.take_take,List.take_take,Nat.min_eq_left (by omega)] at this
    rw[List.take_set_of_le (Nat.le_refl _),this]
  · rw[List.drop_eq_getElem_cons (by simpa [hl] using hi),List.drop_eq_getElem_cons hi]
    simp only[List.getElem_set_self,List.drop_set_of_lt (show i<i+1 by omega)]
    show _=(L0[i]+c*co (syn c (L0.drop (i+1))) 0)::syn c (L0.drop (i+1))
    rw[←hd,hz]
    congr 1
    have e1:co L i=L0[i]:=by
      have :=congrArg (fun l:List Int=>co l i) ht
      simp only[QbM] at this
      rw[if_pos (by omega),if_pos (by omega)] at this
      rw[this];simp [co,List.getD,hi]
    have e2:co L (i+1)=co (L.drop (i+1)) 0:=by simp [co,List.getD,List.getElem?_drop]
    rw[e1,e2]
theorem Qud{c:Int}{L:List Int}{k:Nat}(hk:k+1=L.length):L.drop k=syn c (L.drop k):=by
  rw[List.drop_eq_getElem_cons (by omega),List.drop_of_length_le (by omega)]
  simp [syn,co]
theorem Ql6(g f:List Int)(i:Nat):co (Yw g (Xa f)) i=co (Yw g f) i:=by
  rw[QgR,QgR]
  have h1:=Qiv (f:=Xa f) (f':=f) (g:=g) (g':=g) (fun j=>Xo f j) (fun _=>rfl) (Xa f).length i
  have hl:=Xe f
  obtain⟨m,hm⟩: ∃m,f.length=(Xa f).length+m:=⟨f.length -(Xa f).length,by omega⟩
  have h2:=QkV (f:=Xa f) (g:=g) m i
  rw[←hm] at h2
  rw[←h2]
  exact Qiv (fun j=>Xo f j) (fun _=>rfl) _ i
theorem QoV{c:Int}{F R:List Int}(h: ∀j,co R j=tay c (Xa F) j)(hc:Canon ZM R):R=Xa (Yw [c,1] F):=by
  rw[← (hc:Xa R=R)]
  refine YP fun i=> ?_
  rw[h,←Qct,Ql6]
end Go.Gx
namespace Go.Gx
theorem Qbt.cons{w:World}{S:Nat→Prop}{M:Nat}{l:List RI}{r:RI}(h:Qbt w S M l)(hn:Qay w S r.A r.n r.c r.d)(hm:r.n≤M):Qbt w S M (r::l):=fun x hx=>by
  rcases List.mem_cons.1 hx with h1|h1
  · subst h1;exact⟨hn,hm⟩
  · exact h x h1
theorem Qi8.cons{l:List RI}{r:RI}(h:Qi8 l)(hr:Qux r.neg r.d):Qi8 (r::l):=fun x hx=>by
  rcases List.mem_cons.1 hx with h1|h1
  · subst h1;exact hr
  · exact h x h1
end Go.Gx
namespace Go.Gx
end Go.Gx
namespace Go.Gx
end Go.Gx
namespace Go.Gx
def hgt:List Int→Nat
  | []=>0
  |a::l=>max a.natAbs (hgt l)
theorem QlT(a b:List Int):hgt (a++b)=max (hgt a) (hgt b):=by
  induction a with
  |nil=>simp [hgt]
  |cons x a ih=>simp only[List.cons_append,hgt,ih];omega
theorem Qqn(f:List Int){k:Nat}(hk:k<f.length):hgt (f.take (k+1))=max (hgt (f.take k)) (co f k).natAbs:=by
  rw[List.take_succ_eq_append_getElem hk,QlT]
  simp [hgt,co,List.getD,hk]
end Go.Gx
namespace Go.Gx
end Go.Gx
namespace Go.Gx
theorem Qp1{x y z:Nat}(h:x<z)(hy:y<4294967296):(x*4294967296+y)/z<4294967296:=by
  refine Nat.div_lt_of_lt_mul ?_
  have :(x+1)*4294967296≤z*4294967296:=Nat.mul_le_mul_right _ h
  omega
theorem QsF{X z q m:Nat}(hz:0<z)(hzz:z<4294967296)(hq:X/z<4294967296)(eq:q=X/z % 4294967296)(em:m=X % z % 4294967296):q*z+m=X∧m<z:=by
  have h1:=Nat.mod_lt X hz
  rw[Nat.mod_eq_of_lt hq] at eq
  rw[Nat.mod_eq_of_lt (by omega)] at em
  subst eq em
  refine⟨?_,h1⟩
  have :=Nat.div_add_mod X z
  rw[Nat.mul_comm] at this
  exact this
theorem QgK{x:Nat}(h:x<256):x<2^bl8 x∧(x=0∨2^ (bl8 x -1)≤x)∧bl8 x≤8∧(x=0∨1≤bl8 x):=by
  unfold bl8
  repeat' split
  all_goals simp
  all_goals omega
theorem Qvs{x s y n:Nat}(hy:y=x/2^s)(hlt:y<256)(h0:s=0∨y≠0)(hn:n=s+bl8 y):x<2^n∧(x=0∨2^ (n -1)≤x)∧n≤s+8:=by
  obtain⟨h1,h2,h3,h4⟩:=QgK hlt
  subst hn
  refine⟨?_,?_,by omega⟩
  · rw[Nat.pow_add]
    have :x/2^s<2^bl8 y:=by rw[←hy];exact h1
    have h5:=(Nat.div_lt_iff_lt_mul (Nat.pow_pos (by decide))).1 this
    rw[Nat.mul_comm]
    exact h5
  · rcases h2 with h2|h2
    · rcases h0 with h0|h0
      · subst h0
        left
        rw[h2] at hy
        simpa using hy.symm
      · exact absurd h2 h0
    · right
      have hb:1≤bl8 y:=by
        rcases h4 with h4|h4
        · rw[h4] at h2;simp [bl8] at h2
        · exact h4
      have e:2^ (s+bl8 y -1)=2^ (bl8 y -1)*2^s:=by rw[←Nat.pow_add];congr 1;omega
      rw[e]
      have h5:2^ (bl8 y -1)≤x/2^s:=by rw[←hy];exact h2
      exact(Nat.le_div_iff_mul_le (Nat.pow_pos (by decide))).1 h5
theorem QlV{x n r:Nat}(h0:x≠0)(h1:x<2^n)(h2:x=0∨2^ (n -1)≤x)(h3:n≤32)(hr:r=32 -n):x*2^r<4294967296∧2147483648≤x*2^r∧r≤31:=by
  have hn:1≤n:=by
    rcases Nat.eq_zero_or_pos n with h|h
    · subst h;simp at h1;omega
    · exact h
  have h4:2^ (n -1)≤x:=by rcases h2 with h|h;exact absurd h h0;exact h
  have e1:(4294967296:Nat)=2^n*2^r:=by rw[←Nat.pow_add,hr,show n+(32 -n)=32 by omega]
  have e2:(2147483648:Nat)=2^ (n -1)*2^r:=by rw[←Nat.pow_add,hr,show n -1+(32 -n)=31 by omega]
  refine⟨?_,?_,by omega⟩
  · rw[e1];exact Nat.mul_lt_mul_of_pos_right h1 (Nat.pow_pos (by decide))
  · rw[e2];exact Nat.mul_le_mul_right _ h4
theorem Qw9{d:List Nat}{n:Nat}(hl:d.length=n):(n=0→val d=0)∧(n=1→val d=d.getD 0 0)∧(n=2→val d=d.getD 1 0*4294967296+d.getD 0 0):=by
  match d,hl with
  | [],h=>simp at h;subst h;simp [val]
  | [a],h=>simp at h;subst h;simp [val]
  | [a,b],h=>simp at h;subst h;simp [val,BS];omega
  |a::b::c::d,h=>simp at h;refine⟨by omega,by omega,by omega⟩
theorem QaC{a:List Nat}{k:Nat}(hk:0<k)(hl:k≤a.length):val (a.drop (k -1))=a.getD (k -1) 0+4294967296*val (a.drop k):=by
  rw[List.drop_eq_getElem_cons (show k -1<a.length by omega),show k -1+1=k by omega]
  simp [val,List.getD,show k -1<a.length by omega]
theorem Qm8{a Q:List Nat}{k d r q r':Nat}(hk:0<k)(hl:k≤a.length)(h:val (a.drop k)=d*val Q+r)(he:q*d+r'=r*4294967296+a.getD (k -1) 0):val (a.drop (k -1))=d*val (q::Q)+r':=by
  rw[QaC hk hl,h]
  simp only[val]
  rw[Nat.mul_add,Nat.mul_add]
  have e1:d*(BS*val Q)=4294967296*(d*val Q):=by rw[Nat.mul_left_comm]
  rw[e1]
  have e2:q*d=d*q:=Nat.mul_comm _ _
  omega
theorem Qk5{L:List Nat}{m m' k r:Nat}(hm:m=m'+1)(hk:k=m'):(List.replicate m 0++L).set k r=List.replicate m' 0++(r::L):=by
  subst hm hk
  rw[List.replicate_succ',List.append_assoc,List.set_append_right _ _ (by simp)]
  simp
theorem QjE{P:List Nat}{s:Nat}(h: ∀d∈P,d<BS)(hs:s<4294967296): ∀d∈s::P,d<BS:=by
  intro d hd
  rcases List.mem_cons.1 hd with h1|h1
  · subst h1;exact hs
  · exact h d h1
end Go.Gx
namespace Go.Gx
def Qgh(a b c:Nat):Nat:=(a*4294967296+b)*4294967296+c
def Qgi(d e:Nat):Nat:=d*4294967296+e
theorem Qjp(g d e:Nat):g*Qgi d e=g*d*4294967296+g*e:=by unfold Qgi;rw[Nat.mul_add,Nat.mul_assoc]
def Qdx(a b d g r:Nat):Prop:=g*d+r=a*4294967296+b
theorem Qdx.start1{a b d s c:Nat}(ha:a=d)(hs:s+4294967296*c=b+d):Qdx a b d 4294967295 (s+4294967296*c):=by
  unfold Qdx;subst ha;omega
theorem Qdx.start2{a b d q r:Nat}(h:q*d+r=a*4294967296+b):Qdx a b d q (r+4294967296*0):=by unfold Qdx;omega
theorem Qdx.next{a b d g r s c:Nat}(h:Qdx a b d g r)(hg:0<g)(hs:s+4294967296*c=r+d):Qdx a b d (g -1) (s+4294967296*c):=by
  unfold Qdx at *
  obtain⟨j,rfl⟩: ∃j,g=j+1:=⟨g -1,by omega⟩
  rw[Nat.add_mul,Nat.one_mul] at h
  simp only[Nat.add_sub_cancel]
  omega
theorem Qdx.big{a b d g r:Nat}(h:Qdx a b d g r):(a*4294967296+b)*4294967296=g*d*4294967296+r*4294967296:=by
  unfold Qdx at h
  omega
theorem QrH{a b c d e g r:Nat}(h:Qdx a b d g r)(hle:g*e≤r*4294967296+c):g*Qgi d e≤Qgh a b c:=by
  have e:=Qdx.big h
  rw[Qjp]
  unfold Qgh
  omega
theorem Qqa{a b c d e g s:Nat}(h:Qdx a b d g (s+4294967296*1))(hg:g<4294967296)(he:e<4294967296):g*Qgi d e≤Qgh a b c:=by
  have h1:=Qch hg he
  have h2:g*e≤(s+4294967296*1)*4294967296+c:=by omega
  exact QrH h h2
theorem QuV{a b c d e g r:Nat}(h:Qdx a b d g r)(hgt:r*4294967296+c<g*e):Qgh a b c<g*Qgi d e:=by
  have hb:=Qdx.big h
  rw[Qjp]
  unfold Qgh
  rw[hb,Nat.add_assoc]
  exact Nat.add_lt_add_left hgt _
def Qlu(a b c d e g:Nat):Prop:= ∀q,q≤4294967295→q*Qgi d e≤Qgh a b c→q≤g
theorem Qlu.start1(a b c d e:Nat):Qlu a b c d e 4294967295:=fun _ h _=>h
theorem Qlu.start2{a b c d e q r:Nat}(h:q*d+r=a*4294967296+b)(hr:r<d)(hc:c<4294967296):Qlu a b c d e q:=by
  intro p _ hp
  rw[Qjp] at hp
  unfold Qgh at hp
  rcases Nat.lt_or_ge q p with h1|h1
  · exfalso
    have h2:(q+1)*d≤p*d:=Nat.mul_le_mul_right _ h1
    rw[Nat.add_mul,Nat.one_mul] at h2
    omega
  · exact h1
theorem Qlu.next{a b c d e g:Nat}(h:Qlu a b c d e g)(hn:Qgh a b c<g*Qgi d e):Qlu a b c d e (g -1):=by
  intro q hq hp
  have h1:=h q hq hp
  rcases Nat.eq_or_lt_of_le h1 with h2|h2
  · subst h2;omega
  · omega
theorem QsS{a b c d e g:Nat}(hn:Qgh a b c<g*Qgi d e):0<g:=by
  rcases Nat.eq_zero_or_pos g with h|h
  · subst h;simp at hn
  · exact h
theorem Qko{g e h l r c:Nat}(hm:l+4294967296*h=g*e)(hl:l<4294967296)(hc:c<4294967296):((h<r∨h=r∧l≤c)→g*e≤r*4294967296+c)∧(¬(h<r∨h=r∧l≤c)→r*4294967296+c<g*e):=by
  constructor<;>intro hh<;>omega
theorem QoZ{P Z v:List Nat}{k d bo cy bo' cy' s:Nat}(h:val P+d*val (v.take k)=val (Z.take k)+BS^k*(bo+cy))(hl:P.length=k)(hs:bo+cy+s+d*v.getD k 0=Z.getD k 0+4294967296*(bo'+cy')):
    val (P++[s])+d*val (v.take (k+1))=val (Z.take (k+1))+BS^ (k+1)*(bo'+cy'):=by
  rw[YQ,hl,YZ,YZ,Nat.mul_add d,Nat.pow_succ,Nat.mul_assoc]
  have e1:d*(BS^k*v.getD k 0)=BS^k*(d*v.getD k 0):=Nat.mul_left_comm _ _ _
  have e2:BS^k*(bo+cy+s+d*v.getD k 0)=BS^k*(Z.getD k 0+BS*(bo'+cy')):=by rw[hs]
  rw[Nat.mul_add,Nat.mul_add (BS^k) (bo+cy),Nat.mul_add (BS^k) (Z.getD k 0)] at e2
  rw[e1]
  omega
theorem QtX{P Z v:List Nat}{k d bo cy bo' s:Nat}(h:val P+d*val (v.take k)=val (Z.take k)+BS^k*(bo+cy))(hl:P.length=k)(hv:v.length≤k)(hs:bo+cy+s=Z.getD k 0+4294967296*bo'):
    val (P++[s])+d*val v=val (Z.take (k+1))+BS^ (k+1)*bo':=by
  have h0:v.getD k 0=0:=QaR (n:=k) hv k (Nat.le_refl _)
  have :=QoZ (bo':=bo') (cy':=0) h hl (by rw[h0];omega)
  rw[List.take_of_length_le (show v.length≤k+1 by omega)] at this
  simpa using this
end Go.Gx
namespace Go.Gx
end Go.Gx
namespace Go.Gx
theorem QsR{a b c d e g r o h l:Nat}(hI:Qdx a b d g (r+4294967296*o))(ho:o=0)(hm:l+4294967296*h=g*e)(hl:l<4294967296)(hc:c<4294967296)(ht:h<r∨h=r∧l≤c):g*Qgi d e≤Qgh a b c:=by
  subst ho
  simp only[Nat.mul_zero,Nat.add_zero] at hI
  exact QrH hI ((Qko hm hl hc).1 ht)
theorem QsQ{a b c d e g r o h l:Nat}(hI:Qdx a b d g (r+4294967296*o))(ho:o=0)(hm:l+4294967296*h=g*e)(hl:l<4294967296)(hc:c<4294967296)(ht: ¬(h<r∨h=r∧l≤c)):Qgh a b c<g*Qgi d e:=by
  subst ho
  simp only[Nat.mul_zero,Nat.add_zero] at hI
  exact QuV hI ((Qko hm hl hc).2 ht)
theorem Qnh{a b c d e g s o:Nat}(h:Qdx a b d g (s+4294967296*o))(ho:o=1)(hg:g<4294967296)(he:e<4294967296):g*Qgi d e≤Qgh a b c:=by
  subst ho;exact Qqa h hg he
theorem Qdx.next0{a b d g r s c o:Nat}(h:Qdx a b d g (r+4294967296*o))(ho:o=0)(hg:0<g)(hs:s+4294967296*c=r+d):Qdx a b d (g -1) (s+4294967296*c):=by
  subst ho
  simp only[Nat.mul_zero,Nat.add_zero] at h
  exact h.next hg hs
end Go.Gx
namespace Go.Gx
theorem QnP{x s:Nat}(hs:s≤31):x*2^s % 4294967296=2^s*(x % 2^ (32 -s)):=by
  have e:(4294967296:Nat)=2^s*2^ (32 -s):=by rw[←Nat.pow_add,show s+(32 -s)=32 by omega]
  rw[e,Nat.mul_comm x,Nat.mul_mod_mul_left]
theorem QoX{x s c:Nat}(hx:x<4294967296)(hs:s≤31)(hc:c<2^s):
    x*2^s<9223372036854775808∧c|||x*2^s % 4294967296=c+x*2^s % 4294967296∧c+x*2^s % 4294967296<4294967296∧x*2^s/4294967296<2^s∧2^s≤2147483648:=by
  have hp:(2:Nat)^s≤2147483648:=Nat.pow_le_pow_right (by decide) hs
  have h0:0<(2:Nat)^s:=Nat.pow_pos (by decide)
  have h1:x*2^s≤4294967295*2147483648:=Nat.mul_le_mul (by omega) hp
  refine⟨by omega,?_,?_,?_,hp⟩
  · rw[QnP hs,Nat.or_comm,Qod _ _ _ hc,Nat.add_comm]
  · rw[QnP hs]
    have e:(4294967296:Nat)=2^s*2^ (32 -s):=by rw[←Nat.pow_add,show s+(32 -s)=32 by omega]
    have h2:x % 2^ (32 -s)<2^ (32 -s):=Nat.mod_lt _ (Nat.pow_pos (by decide))
    have h3:2^s*(x % 2^ (32 -s)+1)≤2^s*2^ (32 -s):=Nat.mul_le_mul_left _ h2
    rw[←e,Nat.mul_add,Nat.mul_one] at h3
    omega
  · refine Nat.div_lt_of_lt_mul ?_
    exact Nat.mul_lt_mul_of_pos_right hx h0
theorem QtT{P Z:List Nat}{w k c t:Nat}(hP:P.length=k)(ht:t=w+k):(List.replicate w 0++(P++(c::Z))).getD t 0=c:=by
  subst ht
  simp only[List.getD]
  rw[List.getElem?_append_right (by simp),List.length_replicate,Nat.add_sub_cancel_left,List.getElem?_append_right (by omega),hP,Nat.sub_self]
  rfl
theorem Qq6{P Z:List Nat}{w k c t v:Nat}(hP:P.length=k)(ht:t=w+k):(List.replicate w 0++(P++(c::Z))).set t v=List.replicate w 0++(P++(v::Z)):=by
  subst ht
  rw[List.set_append_right _ _ (by simp),List.length_replicate,Nat.add_sub_cancel_left,List.set_append_right _ _ (by omega),hP,Nat.sub_self,List.set_cons_zero]
theorem Qq7{P:List Nat}{w k t m m' v h:Nat}(hP:P.length=k)(ht:t=w+(k+1))(hm:m=m'+1):(List.replicate w 0++(P++(v::List.replicate m 0))).set t h=List.replicate w 0++((P++[v])++(h::List.replicate m' 0)):=by
  subst ht hm
  rw[List.set_append_right _ _ (by simp),List.length_replicate,Nat.add_sub_cancel_left,List.set_append_right _ _ (by omega),hP,show k+1 -k=1 by omega,List.replicate_succ]
  simp
theorem Qq8{P a:List Nat}{k c c' s v:Nat}(h:val P+BS^k*c=val (a.take k)*2^s)(hl:P.length=k)(hv:v+4294967296*c'=a.getD k 0*2^s+c):val (P++[v])+BS^ (k+1)*c'=val (a.take (k+1))*2^s:=by
  rw[Qer h hl hv,YZ,Nat.add_mul,Nat.mul_assoc]
theorem QtS{P a:List Nat}{k c s w m n:Nat}(h:val P+BS^k*c=val (a.take k)*2^s)(hl:P.length=k)(ha:a.length≤k)(hm:m=0)(hn:n=32*w+s):val (List.replicate w 0++(P++(c::List.replicate m 0)))=val a*2^n:=by
  subst hm hn
  rw[val_append,Qdw,List.length_replicate,List.replicate_zero,YQ,hl,h,Yh a ha,Nat.pow_add,Nat.pow_mul,Nat.zero_add]
  show(2^32)^w*(val a*2^s)=_
  rw[Nat.mul_left_comm]
theorem Qvt{P:List Nat}{w m c:Nat}(h: ∀d∈P,d<BS)(hc:c<4294967296): ∀d∈List.replicate w 0++(P++(c::List.replicate m 0)),d<BS:=by
  intro d hd
  rcases List.mem_append.1 hd with h1|h1
  · have :=List.eq_of_mem_replicate h1;subst this;decide
  · rcases List.mem_append.1 h1 with h2|h2
    · exact h d h2
    · rcases List.mem_cons.1 h2 with h3|h3
      · subst h3;exact hc
      · have :=List.eq_of_mem_replicate h3;subst this;decide
theorem QoY{T:List Nat}{k s:Nat}(hT: ∀d∈T,d<BS)(hs:s≤31):val T/2^s/BS^k % BS=(T.getD k 0+T.getD (k+1) 0*4294967296)/2^s % 4294967296:=by
  rw[Nat.div_div_eq_div_mul,Nat.mul_comm,←Nat.div_div_eq_div_mul,←Qpk]
  rw[show vb 4294967296 T/BS^k=vb 4294967296 (T.drop k) from Qsa T hT k]
  rw[Qpj,Qpj (T.drop k).tail]
  have e0:(T.drop k).getD 0 0=T.getD k 0:=by simp [List.getD,List.getElem?_drop]
  have e1:(T.drop k).tail.getD 0 0=T.getD (k+1) 0:=by simp [List.getD,List.getElem?_drop]
  rw[e0,e1,Nat.mul_add]
  have hp:(4294967296:Nat)=2^s*2^ (32 -s):=by rw[←Nat.pow_add,show s+(32 -s)=32 by omega]
  have e2: ∀r:Nat,(T.getD k 0+(4294967296*T.getD (k+1) 0+4294967296*(4294967296*r)))=(T.getD k 0+T.getD (k+1) 0*4294967296)+2^s*(4294967296*(2^ (32 -s)*r)):=by
    intro r
    have e3:2^s*(4294967296*(2^ (32 -s)*r))=4294967296*(4294967296*r):=by
      rw[Nat.mul_left_comm,←Nat.mul_assoc (2^s),←hp]
    rw[e3]
    omega
  rw[e2,Nat.add_mul_div_left _ _ (Nat.pow_pos (by decide)),Nat.add_mul_mod_self_left]
theorem Qlb{T P:List Nat}{k s t:Nat}(hT: ∀d∈T,d<BS)(hs:s≤31)(h:val P=val T/2^s % BS^k)(hl:P.length=k)(ht:t=(T.getD k 0+T.getD (k+1) 0*4294967296)/2^s % 4294967296):val (P++[t])=val T/2^s % BS^ (k+1):=by
  rw[YQ,hl,h,ht,←QoY hT hs,←Nat.mod_pow_succ]
theorem QtV{a T P:List Nat}{k w s n m:Nat}(ha: ∀d∈a,d<BS)(hT:T=a.drop w)(h:val P=val T/2^s % BS^k)(hk:T.length≤k)(hn:n=32*w+s):val (P++List.replicate m 0)=val a/2^n:=by
  have hTd: ∀d∈T,d<BS:=fun d hd=>by rw[hT] at hd;exact ha d (List.mem_of_mem_drop hd)
  have h1:val T<BS^k:=Nat.lt_of_lt_of_le (Za T hTd) (Nat.pow_le_pow_right (by decide) hk)
  have h2:val T/2^s<BS^k:=Nat.lt_of_le_of_lt (Nat.div_le_self _ _) h1
  rw[Qco,h,Nat.mod_eq_of_lt h2,hn,Nat.pow_add,←Nat.div_div_eq_div_mul,Nat.pow_mul]
  have h3:val a/ (2^32)^w=val (a.drop w):=by rw[←Qpk,←Qpk];exact Qsa a ha w
  rw[h3,←hT]
theorem Qq9{a:List Nat}{w n l:Nat}(ha: ∀d∈a,d<BS)(hl:a.length=l)(hw:l≤w)(hn:32*w≤n):(0:Nat)=val a/2^n:=by
  have h1:=Za a ha
  refine(Nat.div_eq_of_lt (Nat.lt_of_lt_of_le h1 ?_)).symm
  rw[hl,show(BS:Nat)=2^32 from rfl,←Nat.pow_mul]
  exact Nat.pow_le_pow_right (by decide) (by omega)
end Go.Gx
namespace Go.Gx
theorem QtG{w n:Nat}:List.replicate w 0++((0:Nat)::List.replicate (n -0) 0)=List.replicate (w+n+1) 0:=by
  rw[←List.replicate_succ,List.replicate_append_replicate]
  congr 1
end Go.Gx
namespace Go.Gx
def md(p:Nat)(z:Int):Nat:=(z % (p:Int)).toNat
theorem Qvw{p r:Nat}{z k:Int}(hr:r<p)(h:z=r+(p:Int)*k):md p z=r:=by
  have h2:((r:Int) % (p:Int))=r:=Int.emod_eq_of_lt (by omega) (by omega)
  unfold md
  rw[h,Int.add_mul_emod_self_left,h2]
  omega
theorem QlX{p:Nat}(hp:0<p)(z:Int): ∃k:Int,z=md p z+(p:Int)*k:=by
  have h0:=Int.emod_nonneg z (show(p:Int)≠0 by omega)
  have h1:=Int.emod_add_mul_ediv z (p:Int)
  refine⟨z/p,?_⟩
  unfold md
  omega
theorem Qej{p:Nat}(hp:0<p)(z:Int):md p z<p:=by
  have h0:=Int.emod_nonneg z (show(p:Int)≠0 by omega)
  have h2:=Int.emod_lt_of_pos z (show(0:Int)<p by omega)
  unfold md
  omega
def Cg(p:Nat)(a b:Int):Prop:= ∃k:Int,a=b+(p:Int)*k
theorem Cg.refl(p:Nat)(a:Int):Cg p a a:=⟨0,by grind⟩
theorem Cg.symm{p:Nat}{a b:Int}(h:Cg p a b):Cg p b a:=by obtain⟨k,h⟩:=h;exact⟨-k,by grind⟩
theorem Cg.trans{p:Nat}{a b c:Int}(h:Cg p a b)(g:Cg p b c):Cg p a c:=by obtain⟨k,h⟩:=h;obtain⟨l,g⟩:=g;exact⟨k+l,by grind⟩
theorem Cg.add{p:Nat}{a b c d:Int}(h:Cg p a b)(g:Cg p c d):Cg p (a+c) (b+d):=by obtain⟨k,h⟩:=h;obtain⟨l,g⟩:=g;exact⟨k+l,by grind⟩
theorem Cg.sub{p:Nat}{a b c d:Int}(h:Cg p a b)(g:Cg p c d):Cg p (a -c) (b -d):=by obtain⟨k,h⟩:=h;obtain⟨l,g⟩:=g;exact⟨k -l,by grind⟩
theorem Cg.neg{p:Nat}{a b:Int}(h:Cg p a b):Cg p (-a) (-b):=by obtain⟨k,h⟩:=h;exact⟨-k,by grind⟩
theorem Cg.mul{p:Nat}{a b c d:Int}(h:Cg p a b)(g:Cg p c d):Cg p (a*c) (b*d):=by obtain⟨k,h⟩:=h;obtain⟨l,g⟩:=g;exact⟨k*d+b*l+p*k*l,by grind⟩
theorem Cg.self{p:Nat}(k:Int):Cg p ((p:Int)*k) 0:=⟨k,by grind⟩
theorem QlF{p:Nat}(hp:0<p)(z:Int):Cg p (md p z:Nat) z:=Cg.symm (QlX hp z)
theorem Zq{p:Nat}(a:Nat):Cg p ((a % p:Nat):Int) a:=by
  refine⟨-((a/p:Nat):Int),?_⟩
  have h:((p*(a/p)+a % p:Nat):Int)=a:=by rw[Nat.div_add_mod]
  simp only[Int.natCast_add,Int.natCast_mul] at h
  grind
theorem Qfm{p:Nat}(hp:0<p){a b:Int}(h:Cg p a b):md p a=md p b:=by
  obtain⟨k,h⟩:=h
  obtain⟨l,e⟩:=QlX hp b
  exact Qvw (k:=l+k) (Qej hp b) (by rw[h];grind)
theorem QcZ{p:Nat}(hp:0<p){a b:Int}(h:md p a=md p b):Cg p a b:=(QlF hp a).symm.trans (by rw[h];exact QlF hp b)
theorem QlY{p r:Nat}{z:Int}(hr:r<p)(h:Cg p (r:Int) z):r=md p z:=by
  obtain⟨k,h⟩:=h
  exact(Qvw (k:= -k) hr (by grind)).symm
theorem Qgn{p:Nat}(hp:0<p)(a:Nat):md p (a:Int)=a % p:=(QlY (Nat.mod_lt a hp) (Zq a)).symm
theorem QdQ{p r:Nat}(hr:r<p):md p (r:Int)=r:=(QlY hr (Cg.refl p _)).symm
theorem Qf6{p a:Nat}(ha:a≤p):Cg p ((p -a:Nat):Int) (-(a:Int)):=⟨1,by omega⟩
theorem QrU{p:Nat}(hp:0<p)(a:Nat):(p -a % p) % p=md p (-(a:Int)):=
  QlY (Nat.mod_lt _ hp) ((Zq _).trans ((Qf6 (Nat.le_of_lt (Nat.mod_lt a hp))).trans (Zq a).neg))
theorem Qvv{p:Nat}(hp:0<p)(a b:Nat):(a+b) % p=md p ((a:Int)+b):=by
  rw[←Int.natCast_add,Qgn hp]
theorem QnU{p:Nat}(hp:0<p)(a b:Nat):a*b % p=md p ((a:Int)*b):=by
  rw[←Int.natCast_mul,Qgn hp]
theorem Qvx{p:Nat}(hp:0<p)(a b:Nat):(a+(p -b % p) % p) % p=md p ((a:Int) -b):=by
  refine QlY (Nat.mod_lt _ hp) ((Zq _).trans ?_)
  rw[Int.natCast_add,QrU hp,show(a:Int) -b=a+ -(b:Int) by omega]
  exact(Cg.refl p _).add (QlF hp _)
def zl(l:List Nat):List Int:=l.map fun a=>((a:Nat):Int)
theorem Zl(l:List Nat):(zl l).length=l.length:=by simp [zl]
theorem ZS(l:List Nat)(i:Nat):co (zl l) i=((l.getD i 0:Nat):Int):=by
  simp only[co,zl,List.getD,List.getElem?_map]
  cases l[i]? <;>rfl
def XR(p:Nat)(l:List Int):List Nat:=YK (l.map (md p))
def QdX(p a:Nat):Int:=if 2*(a % p)>p then((a % p:Nat):Int) -p else((a % p:Nat):Int)
def ZL(p a:Nat):Nat:=((List.range p).find? fun x=>a*x % p==1 % p).getD 0
theorem Qjx{p a x:Nat}(hp:0<p)(hx:x<p)(h:a*x % p=1 % p):ZL p a=x:=by
  unfold ZL
  cases hf:(List.range p).find? fun x=>a*x % p==1 % p with
  |none=>
    have :=List.find?_eq_none.1 hf x (List.mem_range.2 hx)
    simp [h] at this
  |some y=>
    have h1:=List.find?_some hf
    have h2:=List.mem_range.1 (List.mem_of_find?_eq_some hf)
    simp only[beq_iff_eq] at h1
    show y=x
    have c1:Cg p ((a:Int)*x) 1:=by
      have :=(Zq (p:=p) (a*x)).symm;rw[h] at this;simpa using this.trans (Zq 1)
    have c2:Cg p ((a:Int)*y) 1:=by
      have :=(Zq (p:=p) (a*y)).symm;rw[h1] at this;simpa using this.trans (Zq 1)
    have c3:Cg p ((a:Int)*x*y) y:=by simpa using c1.mul (Cg.refl p (y:Int))
    have c4:Cg p ((a:Int)*x*y) x:=by
      have :=c2.mul (Cg.refl p (x:Int))
      rw[show(a:Int)*y*x=a*x*y by grind,Int.one_mul] at this
      exact this
    have c5:=c3.symm.trans c4
    exact(QdQ h2).symm.trans ((Qfm hp c5).trans (QdQ hx))
end Go.Gx
namespace Go.Gx
structure Qi9 (m a r s:Nat) (x y:Int):Prop where
  g:Nat.gcd r s=1
  cx:Cg m (x*a) r
  cy:Cg m (y*a) s
  b:x.natAbs*s+y.natAbs*r=m
  sg:(0≤x∧y≤0)∨(x≤0∧0≤y)
  bx:x.natAbs≤m
  by_:y.natAbs≤m
  rm:r≤m
  sm:s≤m
theorem Qi9.start{m a:Nat}(hm:0<m)(h:Nat.gcd a m=1):Qi9 m a (a % m) m 1 0:=by
  refine⟨?_,?_,?_,by simp,.inl ⟨by omega,by omega⟩,by simp;omega,by simp,Nat.le_of_lt (Nat.mod_lt _ hm),Nat.le_refl _⟩
  · rw[←Nat.gcd_rec,Nat.gcd_comm];exact h
  · rw[Int.one_mul];exact(Zq a).symm
  · rw[Int.zero_mul];exact⟨-1,by omega⟩
theorem Qi9.nx{m a r s:Nat}{x y:Int}(h:Qi9 m a r s x y):(x -((r/s:Nat):Int)*y).natAbs=x.natAbs+(r/s)*y.natAbs:=by
  rcases h.sg with⟨h1,h2⟩| ⟨h1,h2⟩
  · have h3:((r/s:Nat):Int)*y≤0:=Int.mul_nonpos_of_nonneg_of_nonpos (Int.natCast_nonneg _) h2
    have e:((r/s:Nat):Int)*y= -(((r/s)*y.natAbs:Nat):Int):=by
      rw[Int.natCast_mul,show((y.natAbs:Nat):Int)= -y by omega];grind
    omega
  · have h3:0≤((r/s:Nat):Int)*y:=Int.mul_nonneg (Int.natCast_nonneg _) h2
    have e:((r/s:Nat):Int)*y=(((r/s)*y.natAbs:Nat):Int):=by
      rw[Int.natCast_mul,show((y.natAbs:Nat):Int)=y by omega]
    omega
theorem Qi9.nb{m a r s:Nat}{x y:Int}(h:Qi9 m a r s x y)(hs:0<s):x.natAbs+(r/s)*y.natAbs≤m:=by
  have h1:=h.b
  have h2:(r/s)*s≤r:=Nat.div_mul_le_self r s
  have h3:y.natAbs*((r/s)*s)≤y.natAbs*r:=Nat.mul_le_mul_left _ h2
  have h4:(x.natAbs+(r/s)*y.natAbs)*s≤m:=by
    rw[Nat.add_mul,Nat.mul_comm (r/s) y.natAbs,Nat.mul_assoc];omega
  have h5:(x.natAbs+(r/s)*y.natAbs)*1≤(x.natAbs+(r/s)*y.natAbs)*s:=Nat.mul_le_mul_left _ hs
  omega
theorem Qi9.qb{m a r s:Nat}{x y:Int}(h:Qi9 m a r s x y)(hs:0<s):(((r/s:Nat):Int)*y).natAbs≤m:=by
  have :=h.nb hs
  rw[Int.natAbs_mul,Int.natAbs_natCast];omega
theorem Qi9.step{m a r s:Nat}{x y:Int}(h:Qi9 m a r s x y)(hs:0<s):Qi9 m a s (r % s) y (x -((r/s:Nat):Int)*y):=by
  have hd:s*(r/s)+r % s=r:=Nat.div_add_mod r s
  refine⟨?_,h.cy,?_,?_,?_,h.by_,?_,h.sm,Nat.le_trans (Nat.le_of_lt (Nat.mod_lt _ hs)) h.sm⟩
  · rw[Nat.gcd_comm,←Nat.gcd_rec,Nat.gcd_comm];exact h.g
  · have h1:=h.cx.sub ((Cg.refl m ((r/s:Nat):Int)).mul h.cy)
    have e1:(x -((r/s:Nat):Int)*y)*a=x*a -((r/s:Nat):Int)*(y*a):=by grind
    have e2:((r % s:Nat):Int)=(r:Int) -((r/s:Nat):Int)*s:=by
      have :((s*(r/s)+r % s:Nat):Int)=r:=by rw[hd]
      simp only[Int.natCast_add,Int.natCast_mul] at this
      grind
    rw[e1,e2];exact h1
  · rw[h.nx,←h.b,Nat.add_mul]
    have :y.natAbs*r=y.natAbs*(r % s)+(r/s)*y.natAbs*s:=by
      conv=>lhs;rw[←hd]
      rw[Nat.mul_add,Nat.mul_comm (r/s) y.natAbs,Nat.mul_assoc,Nat.mul_comm s (r/s)];omega
    omega
  · rcases h.sg with⟨h1,h2⟩| ⟨h1,h2⟩
    · right
      have h3:((r/s:Nat):Int)*y≤0:=Int.mul_nonpos_of_nonneg_of_nonpos (Int.natCast_nonneg _) h2
      exact⟨h2,by omega⟩
    · left
      have h3:0≤((r/s:Nat):Int)*y:=Int.mul_nonneg (Int.natCast_nonneg _) h2
      exact⟨h2,by omega⟩
  · rw[h.nx];exact h.nb hs
theorem Qi9.done{m a r:Nat}{x y:Int}(h:Qi9 m a r 0 x y)(hm:0<m):r=1∧md m x=ZL m a:=by
  have h1:=h.g
  rw[Nat.gcd_zero_right] at h1
  refine⟨h1,(Qjx hm (Qej hm x) ?_).symm⟩
  have h2:=h.cx
  rw[h1] at h2
  rw[QnU hm,←Qgn hm 1]
  refine Qfm hm (Cg.trans ((Cg.refl m _).mul (QlF hm x)) ?_)
  rw[Int.mul_comm];exact h2
theorem Quf{m:Nat}(hm:0<m)(x:Int):(x.tmod m+m).tmod m=((md m x:Nat):Int)∧ -(m:Int)<x.tmod m∧x.tmod m<m:=by
  have h1:=Int.tmod_lt_of_pos x (show(0:Int)<m by omega)
  have h2:=Int.lt_tmod_of_pos x (show(0:Int)<m by omega)
  refine⟨?_,h2,h1⟩
  have h3:Cg m (x.tmod m) x:=⟨-(x.tdiv m),by have :=Int.tmod_add_mul_tdiv x (m:Int);grind⟩
  have h4:Cg m ((x.tmod m+m).tmod m) (x.tmod m+m):=⟨-((x.tmod m+m).tdiv m),by have :=Int.tmod_add_mul_tdiv (x.tmod m+m) (m:Int);grind⟩
  have h5:0≤(x.tmod m+m).tmod m:=Int.tmod_nonneg _ (by omega)
  have h6:=Int.tmod_lt_of_pos (x.tmod m+m) (show(0:Int)<m by omega)
  obtain⟨r,hr⟩: ∃r:Nat,(x.tmod m+m).tmod m=r:=⟨((x.tmod m+m).tmod m).toNat,by omega⟩
  rw[hr] at h4 h6⊢
  have h7:Cg m (r:Int) x:=h4.trans ((h3.add (⟨1,by omega⟩:Cg m (m:Int) 0)).trans (by rw[Int.add_zero];exact Cg.refl _ _))
  rw[QlY (by omega) h7]
end Go.Gx
namespace Go.Gx
end Go.Gx
namespace Go.Gx
theorem Qp5{d:List Nat}{n:Nat}(hn:2≤n)(hl:d.length=n):val (d.drop (n -2))=Qgi (d.getD (n -1) 0) (d.getD (n -2) 0):=by
  have e1:=QaC (a:=d) (k:=n -1) (by omega) (by omega)
  have e2:=QaC (a:=d) (k:=n) (by omega) (by omega)
  rw[List.drop_of_length_le (show d.length≤n by omega)] at e2
  rw[show n -2=n -1 -1 by omega,e1,e2]
  simp only[Qgi,val]
  omega
theorem QlM{d:List Nat}{n:Nat}(hn:2≤n)(hl:d.length=n+1):val (d.drop (n -2))=Qgh (d.getD n 0) (d.getD (n -1) 0) (d.getD (n -2) 0):=by
  have e1:=QaC (a:=d) (k:=n -1) (by omega) (by omega)
  have e2:=QaC (a:=d) (k:=n) (by omega) (by omega)
  have e3:=QaC (a:=d) (k:=n+1) (by omega) (by omega)
  rw[List.drop_of_length_le (show d.length≤n+1 by omega),Nat.add_sub_cancel] at e3
  rw[show n -2=n -1 -1 by omega,e1,e2,e3]
  simp only[Qgh,val]
  omega
theorem Qw8{d:List Nat}{n k X:Nat}(hd: ∀x∈d,x<BS)(hn:2≤n)(hl:n -2≤d.length)(hX:val (d.drop (n -2))=X):BS^ (n -2)*X≤val d∧val d<BS^ (n -2)*(X+1):=by
  have h1:=Yg d (k:=n -2) hl
  have h2:=Za (d.take (n -2)) fun x hx=>hd x (List.mem_of_mem_take hx)
  rw[List.length_take,Nat.min_eq_left hl] at h2
  rw[hX] at h1
  rw[Nat.mul_add,Nat.mul_one]
  omega
theorem Qng{E V U v P g:Nat}(hE:0<E)(hv1:E*V≤v)(hv2:v<E*(V+1))(hp1:E*U≤P)(hp2:P<E*(U+1))(hok:g*V≤U)(hmx: ∀q,q≤4294967295→q*V≤U→q≤g)(hg:g≤4294967295)(hPv:P<v*4294967296)(hV:4294967296≤V):
    P/v≤g∧(0<g→(g -1)*v≤P)∧(g*v≤P→P -g*v<v):=by
  have hv0:0<v:=by
    have :E*1≤E*V:=Nat.mul_le_mul_left _ (by omega)
    omega
  have hq:P/v≤g:=by
    refine hmx _ ?_ ?_
    · have :P/v<4294967296:=Nat.div_lt_of_lt_mul hPv
      omega
    · have h1:P/v*v≤P:=Nat.div_mul_le_self _ _
      have h2:P/v*(E*V)≤P/v*v:=Nat.mul_le_mul_left _ hv1
      have h3:E*(P/v*V)<E*(U+1):=by rw[Nat.mul_left_comm];omega
      have :=Nat.lt_of_mul_lt_mul_left h3
      omega
  refine⟨hq,fun h0=> ?_,fun hle=> ?_⟩
  · obtain⟨j,rfl⟩: ∃j,g=j+1:=⟨g -1,by omega⟩
    rw[Nat.add_sub_cancel]
    have h1:E*((j+1)*V)≤E*U:=Nat.mul_le_mul_left _ hok
    have h2:(j+1)*v≤(j+1)*(E*(V+1)):=Nat.mul_le_mul_left _ (by omega)
    have h3:(j+1)*(E*(V+1))=E*((j+1)*V)+E*(j+1):=by
      rw[Nat.mul_left_comm,Nat.mul_add (j+1),Nat.mul_one,Nat.mul_add]
    have h4:E*(j+1)≤E*V:=Nat.mul_le_mul_left _ (by omega)
    rw[Nat.add_mul,Nat.one_mul] at h2
    omega
  · have h1:g≤P/v:=(Nat.le_div_iff_mul_le hv0).2 hle
    have h2:g=P/v:=by omega
    have h3:=Nat.div_add_mod P v
    have h4:=Nat.mod_lt P hv0
    rw[Nat.mul_comm,←h2] at h3
    omega
theorem Qv0{E V U v P a b c d e:Nat}(hE:0<E)(hv2:v<E*(V+1))(hp1:E*U≤P)(hPv:P<v*4294967296)(hU:U=Qgh a b c)(hV:V=Qgi d e)(he:e<4294967296):a≤d:=by
  have h1:v*4294967296≤E*(V+1)*4294967296:=Nat.mul_le_mul_right _ (by omega)
  have h2:E*U<E*((V+1)*4294967296):=by rw[←Nat.mul_assoc];omega
  have h3:=Nat.lt_of_mul_lt_mul_left h2
  subst hU hV
  unfold Qgh Qgi at h3
  omega
structure QhR (D v Q:List Nat) (k N:Nat):Prop where
  eq:val D+val v*(BS^k*val Q)=N
  lt:val D<val v*BS^k
theorem QhR.part{D v Q:List Nat}{k N n:Nat}(h:QhR D v Q k N)(hk:0<k)(hl:k -1+n+1≤D.length)(hv:val v<BS^n):
    val D=val (D.take (k -1))+BS^ (k -1)*val ((D.drop (k -1)).take (n+1))∧val ((D.drop (k -1)).take (n+1))<val v*4294967296∧val ((D.drop (k -1)).drop (n+1))=0:=by
  have e1:=Yg D (k:=k -1) (by omega)
  have e2:=Yg (D.drop (k -1)) (k:=n+1) (by simp;omega)
  have hk1:BS^k=BS^ (k -1)*4294967296:=by rw[←Nat.pow_succ];congr 1;omega
  have h1:=h.lt
  rw[hk1,←Nat.mul_assoc,Nat.mul_comm (val v) (BS^ (k -1)),Nat.mul_assoc] at h1
  have h2:BS^ (k -1)*val (D.drop (k -1))<BS^ (k -1)*(val v*4294967296):=by omega
  have h3:=Nat.lt_of_mul_lt_mul_left h2
  have h4:val ((D.drop (k -1)).drop (n+1))=0:=by
    rcases Nat.eq_zero_or_pos (val ((D.drop (k -1)).drop (n+1))) with h0|h0
    · exact h0
    · exfalso
      have h5:BS^ (n+1)*1≤BS^ (n+1)*val ((D.drop (k -1)).drop (n+1)):=Nat.mul_le_mul_left _ h0
      have h6:(val v+1)*4294967296≤BS^n*4294967296:=Nat.mul_le_mul_right _ hv
      have h7:BS^ (n+1)=BS^n*4294967296:=Nat.pow_succ _ _
      rw[Nat.mul_one] at h5
      omega
  rw[h4,Nat.mul_zero,Nat.add_zero] at e2
  refine⟨by rw[←e2];exact e1,by rw[←e2];exact h3,h4⟩
theorem QhR.step{D v Q Zr:List Nat}{k N n q:Nat}(h:QhR D v Q k N)(hk:0<k)(hl:k -1+n+1≤D.length)(hv:val v<BS^n)(hDt: ∀d∈D,d<BS)(hZ:Zr.length=(D.drop (k -1)).length)
    (hd:Zr.drop (n+1)=(D.drop (k -1)).drop (n+1))(he:val (Zr.take (n+1))+q*val v=val ((D.drop (k -1)).take (n+1)))(hlt:val (Zr.take (n+1))<val v):QhR (D.take (k -1)++Zr) v (q::Q) (k -1) N:=by
  obtain⟨h1,h2,h3⟩:=h.part hk hl hv
  have e2:=Yg Zr (k:=n+1) (by rw[hZ];simp;omega)
  rw[hd,h3,Nat.mul_zero,Nat.add_zero] at e2
  have e3:val (D.take (k -1)++Zr)=val (D.take (k -1))+BS^ (k -1)*val (Zr.take (n+1)):=by
    rw[val_append,List.length_take,Nat.min_eq_left (by omega),e2]
  have hk1:BS^k=BS^ (k -1)*BS:=by rw[←Nat.pow_succ];congr 1;omega
  have hU:val (D.take (k -1))<BS^ (k -1):=by
    have :=Za (D.take (k -1)) fun d hd'=>hDt d (List.mem_of_mem_take hd')
    rwa [List.length_take,Nat.min_eq_left (by omega)] at this
  constructor
  · rw[e3,←h.eq,h1,←he,hk1]
    simp only[val]
    rw[Nat.mul_add (BS^ (k -1)) (val (Zr.take (n+1))),Nat.mul_add (BS^ (k -1)) q,Nat.mul_add (val v),Nat.mul_assoc (BS^ (k -1)) BS]
    have :val v*(BS^ (k -1)*q)=BS^ (k -1)*(q*val v):=by rw[Nat.mul_left_comm,Nat.mul_comm (val v)]
    omega
  · rw[e3]
    have h5:BS^ (k -1)*(val (Zr.take (n+1))+1)≤BS^ (k -1)*val v:=Nat.mul_le_mul_left _ hlt
    rw[Nat.mul_add,Nat.mul_one] at h5
    rw[Nat.mul_comm (val v)]
    omega
theorem Qsn{Pz Z1 Z2 v B q bo cr:Nat}(he:Z1+(q+1)*v=Pz+B*bo)(hb:bo≠0)(hbo:bo≤1)(h2:Z2+B*cr=Z1+v)(hZ2:Z2<B)(hle:q*v≤Pz)(hnl:Pz<(q+1)*v)(hvB:v<B):Z2+q*v=Pz∧Z2<v:=by
  have h1:bo=1:=by omega
  subst h1
  rw[Nat.add_mul,Nat.one_mul] at he hnl
  have hcr:cr=1:=by
    rcases Nat.lt_trichotomy cr 1 with h|h|h
    · have :cr=0:=by omega
      subst this;simp at h2;omega
    · exact h
    · have :B*2≤B*cr:=Nat.mul_le_mul_left _ h
      omega
  subst hcr
  omega
theorem Qek{Z1 P q v B bo:Nat}(he:Z1+q*v=P+B*bo)(hZ:Z1<B):(bo=0↔q*v≤P):=by
  constructor
  · intro h;subst h;omega
  · intro h
    rcases Nat.eq_zero_or_pos bo with h0|h0
    · exact h0
    · have :B*1≤B*bo:=Nat.mul_le_mul_left _ h0
      omega
theorem QqC{b v:List Nat}{n s:Nat}(hb: ∀d∈b,d<BS)(hl:b.length=n)(hn:0<n)(h1:b.getD (n -1) 0*2^s<4294967296)(h2:2147483648≤b.getD (n -1) 0*2^s)(hs:s≤31)(hv:val v=val b*2^s)(hvt: ∀d∈v,d<BS)(hc:Canon isZ v):
    v.length=n∧2147483648≤v.getD (n -1) 0:=by
  have e1:=Yg b (k:=n -1) (by omega)
  have e2:=QaC (a:=b) (k:=n) hn (by omega)
  rw[List.drop_of_length_le (show b.length≤n by omega)] at e2
  have h3:=Za (b.take (n -1)) fun d hd=>hb d (List.mem_of_mem_take hd)
  rw[List.length_take,Nat.min_eq_left (by omega)] at h3
  have e3:val b=val (b.take (n -1))+BS^ (n -1)*b.getD (n -1) 0:=by rw[e1,e2];simp [val]
  have hp:0<(2:Nat)^s:=Nat.pow_pos (by decide)
  have hB:BS^n=BS^ (n -1)*4294967296:=by rw[←Nat.pow_succ];congr 1;omega
  have e4:(b.getD (n -1) 0+1)*2^s≤4294967296:=by
    have e:(4294967296:Nat)=2^ (32 -s)*2^s:=by rw[←Nat.pow_add,show 32 -s+s=32 by omega]
    have h5:b.getD (n -1) 0*2^s<2^ (32 -s)*2^s:=by rw[←e];exact h1
    have h6:=Nat.lt_of_mul_lt_mul_right h5
    have h7:(b.getD (n -1) 0+1)*2^s≤2^ (32 -s)*2^s:=Nat.mul_le_mul_right _ h6
    rw[←e] at h7
    exact h7
  have hup:val v<BS^n:=by
    rw[hv,hB]
    have h5:val b+1≤BS^ (n -1)*(b.getD (n -1) 0+1):=by rw[Nat.mul_add,Nat.mul_one];omega
    have h6:(val b+1)*2^s≤BS^ (n -1)*(b.getD (n -1) 0+1)*2^s:=Nat.mul_le_mul_right _ h5
    have h7:BS^ (n -1)*((b.getD (n -1) 0+1)*2^s)≤BS^ (n -1)*4294967296:=Nat.mul_le_mul_left _ e4
    rw[Nat.mul_assoc] at h6
    rw[Nat.add_mul,Nat.one_mul] at h6
    omega
  have hlo:BS^ (n -1)*2147483648≤val v:=by
    rw[hv,e3,Nat.add_mul,Nat.mul_assoc]
    have :BS^ (n -1)*2147483648≤BS^ (n -1)*(b.getD (n -1) 0*2^s):=Nat.mul_le_mul_left _ h2
    omega
  have hle:v.length≤n:=Qbm hc hup
  have hge:n≤v.length:=by
    rcases Nat.lt_or_ge v.length n with h5|h5
    · exfalso
      have h6:=Za v hvt
      have h7:BS^v.length≤BS^ (n -1):=Nat.pow_le_pow_right (by decide) (by omega)
      have h8:BS^ (n -1)*1≤BS^ (n -1)*2147483648:=Nat.mul_le_mul_left _ (by decide)
      omega
    · exact h5
  refine⟨by omega,?_⟩
  have e5:=Yg v (k:=n -1) (by omega)
  have e6:=QaC (a:=v) (k:=n) hn (by omega)
  rw[List.drop_of_length_le (show v.length≤n by omega)] at e6
  have h5:=Za (v.take (n -1)) fun d hd=>hvt d (List.mem_of_mem_take hd)
  rw[List.length_take,Nat.min_eq_left (by omega)] at h5
  have e7:val v=val (v.take (n -1))+BS^ (n -1)*v.getD (n -1) 0:=by rw[e5,e6];simp [val]
  have h6:BS^ (n -1)*2147483648<BS^ (n -1)*(v.getD (n -1) 0+1):=by rw[Nat.mul_add,Nat.mul_one];omega
  have :=Nat.lt_of_mul_lt_mul_left h6
  omega
theorem QhR.start{D v:List Nat}{k N m n s va:Nat}(hD:val D=N)(hN:N=va*2^s)(hva:va<BS^ (m -1))(hs:s≤31)(hv:BS^ (n -1)*2147483648≤val v)(hn:0<n)(hk:k=m -n)(hm:n≤m):QhR D v [] k N:=by
  refine⟨by simp [val,hD],?_⟩
  rw[hD,hN,hk]
  have h1:va*2^s<BS^ (m -1)*2^s:=Nat.mul_lt_mul_of_pos_right hva (Nat.pow_pos (by decide))
  have h2:BS^ (m -1)*2^s≤BS^ (m -1)*2147483648:=Nat.mul_le_mul_left _ (Nat.pow_le_pow_right (by decide) hs)
  have h3:BS^ (n -1)*2147483648*BS^ (m -n)≤val v*BS^ (m -n):=Nat.mul_le_mul_right _ hv
  have e:BS^ (n -1)*2147483648*BS^ (m -n)=BS^ (m -1)*2147483648:=by
    rw[Nat.mul_right_comm,←Nat.pow_add];congr 2;omega
  omega
theorem QhR.fin{D v Q b:List Nat}{N s va r:Nat}(h:QhR D v Q 0 N)(hN:N=va*2^s)(hv:val v=val b*2^s)(hr:r=val D/2^s):va=val b*val Q+r∧r<val b:=by
  have h1:=h.eq
  have h2:=h.lt
  simp only[Nat.pow_zero,Nat.one_mul,Nat.mul_one] at h1 h2
  have hp:0<(2:Nat)^s:=Nat.pow_pos (by decide)
  rw[hv,hN] at h1
  rw[hv] at h2
  have h3:val b*2^s*val Q=val b*val Q*2^s:=Nat.mul_right_comm _ _ _
  rw[h3] at h1
  have hle:val b*val Q≤va:=by
    have :val b*val Q*2^s≤va*2^s:=by omega
    exact Nat.le_of_mul_le_mul_right this hp
  have h4:val D=(va -val b*val Q)*2^s:=by rw[Nat.sub_mul];omega
  rw[hr,h4,Nat.mul_div_cancel _ hp]
  refine⟨by omega,?_⟩
  rw[h4] at h2
  exact Nat.lt_of_mul_lt_mul_right h2
end Go.Gx
namespace Go.Gx
theorem QmD{d:List Nat}{n:Nat}(hc:Canon isZ d)(hl:d.length=n)(hn:n≠0):d.getD (n -1) 0≠0:=by
  rcases Xw d with h| ⟨k,x,rfl⟩
  · subst h;simp at hl;omega
  · have h1:=Yp.1 hc
    have h2:x≠0:=by intro e;subst e;simp [isZ] at h1
    simp at hl
    subst hl
    simpa [List.getD] using h2
theorem QtU{a d:List Nat}{n s va:Nat}(ha: ∀x∈a,x<BS)(hl:a.length=n)(hva:val a=va)(hd:val d=va*2^s)(hs:s≤31):val d<BS^ (n+1):=by
  have h1:=Za a ha
  rw[hl,hva] at h1
  have h2:(2:Nat)^s≤2147483648:=Nat.pow_le_pow_right (by decide) hs
  have h3:va*2^s≤va*2147483648:=Nat.mul_le_mul_left _ h2
  have h4:BS^ (n+1)=BS^n*4294967296:=Nat.pow_succ _ _
  omega
theorem QvZ{d:List Nat}{n:Nat}(hl:d.length=n)(hn:0<n):BS^ (n -1)*d.getD (n -1) 0≤val d:=by
  have e1:=Yg d (k:=n -1) (by omega)
  have e2:=QaC (a:=d) (k:=n) hn (by omega)
  rw[e2,Nat.mul_add] at e1
  omega
theorem Qom{D:List Nat}{j m i:Nat}(h:i<m):((D.drop j).take m).getD i 0=D.getD (j+i) 0:=by
  simp [List.getD,List.getElem?_take,h,List.getElem?_drop]
theorem Qq0{L:List Nat}{m r:Nat}:(List.replicate m 0++(r::L)).getD m 0=r:=by
  simp only[List.getD]
  rw[List.getElem?_append_right (by simp)]
  simp
end Go.Gx
namespace Go.Gx
end Go.Gx
namespace Go.Gx
theorem QoK{L:List Nat}{m r x:Nat}:(List.replicate m 0++(x::L)).set m r=List.replicate m 0++(r::L):=by
  rw[List.set_append_right _ _ (by simp)]
  simp
end Go.Gx
namespace Go.Gx
theorem Qju{m n G:Nat}(h:Nat.gcd m n=G):Nat.gcd n (m % n)=G:=by rw[←h,Nat.gcd_comm m n,Nat.gcd_rec n m,Nat.gcd_comm]
theorem QmC{d:List Nat}{n:Nat}(hc:Canon isZ d)(hl:d.length=n)(hn:n≠0):0<val d:=Quj hc (by intro e;subst e;simp at hl;omega)
end Go.Gx
namespace Go.Gx
end Go.Gx
namespace Go.Gx
def evQ:List Int→Rat→Rat
  | [],_=>0
  |a::l,q=>(a:Rat)+q*evQ l q
theorem QgO(d:Int)(k:Nat):((d^k:Int):Rat)=(d:Rat)^k:=by
  induction k with
  |zero=>simp
  |succ k ih=>rw[Int.pow_succ,Rat.intCast_mul,ih,Rat.pow_succ]
theorem XC{d:Int}(h:d≠0):(d:Rat)≠0:=fun e=>h (Rat.intCast_inj.1 (by rw[e];rfl))
theorem Qkr(f:List Int)(q:Rat):evQ f q=((co f 0:Int):Rat)+q*evQ f.tail q:=by
  cases f with
  |nil=>simp [evQ,co];grind
  |cons a l=>simp [evQ,co]
theorem QgT(f:List Int)(i:Nat):co f.tail i=co f (i+1):=by cases f<;>simp [co]
theorem Qnl(q:Rat): ∀(n:Nat)(f g:List Int),f.length+g.length≤n→(∀i,co f i=co g i)→evQ f q=evQ g q
  |0,f,g,hn,_=>by
    have h1:f=[]:=List.eq_nil_of_length_eq_zero (by omega)
    have h2:g=[]:=List.eq_nil_of_length_eq_zero (by omega)
    rw[h1,h2]
  |n+1,f,g,hn,h=>by
    rcases Nat.eq_zero_or_pos (f.length+g.length) with h0|h0
    · have h1:f=[]:=List.eq_nil_of_length_eq_zero (by omega)
      have h2:g=[]:=List.eq_nil_of_length_eq_zero (by omega)
      rw[h1,h2]
    · rw[Qkr f,Qkr g,h 0,Qnl q n f.tail g.tail (by simp;omega) (fun i=>by rw[QgT,QgT];exact h (i+1))]
theorem YI{f g:List Int}(q:Rat)(h: ∀i,co f i=co g i):evQ f q=evQ g q:=Qnl q _ f g (Nat.le_refl _) h
theorem Zt(f:List Int)(q:Rat):evQ (Xa f) q=evQ f q:=YI q fun i=>Xo f i
theorem Yn(q:Rat): ∀f g:List Int,evQ (Xx f g) q=evQ f q+evQ g q
  | [],g=>by rw[YI q (g:=g) (fun i=>by rw[Xv];simp [co])];simp [evQ];grind
  |a::f,[]=>by rw[YI q (g:=a::f) (fun i=>by rw[Xv];simp [co])];simp [evQ];grind
  |a::f,b::g=>by
    rw[YI q (g:=(a+b)::Xx f g) (fun i=>by
      rw[Xv]
      cases i with
      |zero=>simp [co]
      |succ i=>
        have :=Xv f g i
        simp only[co,List.getD_cons_succ] at this⊢
        omega)]
    simp only[evQ,Yn q f g,Rat.intCast_add]
    grind
theorem XB(q:Rat)(c:Int): ∀f:List Int,evQ (Xf f c) q=(c:Rat)*evQ f q
  | []=>by simp [Xf,evQ]
  |a::f=>by
    have ih:=XB q c f
    simp only[Xf,List.map_cons,evQ,Rat.intCast_mul] at ih⊢
    rw[ih]
    grind
theorem Qah(a:Int)(f g:List Int)(k:Nat):co (Xg (a::f) g) k=co (Xx (Xf g a) (0::Xg f g)) k:=by
  rw[Xp,Xv,Xi]
  unfold conv YB
  rw[ZQ]
  cases k with
  |zero=>simp [Ye,co,Int.mul_comm]
  |succ k=>
    have e1:co (0::Xg f g) (k+1)=conv f g k:=by rw[←Xp];simp [co]
    rw[e1]
    unfold conv YB
    have e2:Ye (fun i=>co (a::f) (i+1)*co g (k+1 -(i+1))) (k+1)=Ye (fun i=>co f i*co g (k -i)) (k+1):=Xt fun i _=>by simp [co]
    rw[e2]
    simp [co,Int.mul_comm]
theorem Qa2(q:Rat): ∀f g:List Int,evQ (Xg f g) q=evQ f q*evQ g q
  | [],g=>by simp [Xg,evQ]
  |a::f,g=>by
    rw[YI q (Qah a f g),Yn,XB]
    simp only[evQ,Qa2 q f g]
    simp
    grind
theorem YU(q:Rat)(g:List Int): ∀f:List Int,evQ (Yw g f) q=evQ f (evQ g q)
  | []=>rfl
  |a::f=>by
    show evQ (Xx (Xg (Yw g f) g) [a]) q=_
    rw[Yn,Qa2,YU q g f]
    simp only[evQ]
    grind
end Go.Gx
namespace Go.Gx
def evI:List Int→Int→Int
  | [],_=>0
  |a::l,x=>a+x*evI l x
theorem Zn(x:Int): ∀f:List Int,evQ f (x:Rat)=((evI f x:Int):Rat)
  | []=>rfl
  |a::l=>by simp only[evQ,evI,Zn x l,Rat.intCast_add,Rat.intCast_mul]
theorem Qka{x:Int}{H:Nat}(hx:(H:Int)+2≤x∨x≤ -((H:Int)+2)): ∀(F:List Int),F.length≠0→co F (F.length -1)≠0→hgt F≤H→evI F x≠0∧(0<x→(0<evI F x↔0<co F (F.length -1)))∧(x<0→(0<evI F x↔(if(F.length -1) % 2=0 then 0<co F (F.length -1) else co F (F.length -1)<0)))
  | [],h,_,_=>absurd rfl h
  | [a],_,h1,_=>by simp [evI,co] at h1⊢;exact h1
  |a::b::l,_,h1,h2=>by
    have e1:co (a::b::l) ((a::b::l).length -1)=co (b::l) ((b::l).length -1):=by simp [co]
    rw[e1] at h1⊢
    simp only[hgt] at h2
    have ih:=Qka hx (b::l) (by simp) h1 (by simp only[hgt];omega)
    have ha:a.natAbs≤H:=by omega
    show a+x*evI (b::l) x≠0∧(0<x→(0<a+x*evI (b::l) x↔_))∧(x<0→(0<a+x*evI (b::l) x↔_))
    generalize evI (b::l) x=E at *
    generalize co (b::l) ((b::l).length -1)=c at *
    obtain⟨hE,hp,hn⟩:=ih
    have hl:(a::b::l).length -1=(b::l).length -1+1:=by simp
    rw[hl]
    generalize(b::l).length -1=k at *
    rcases hx with hx|hx
    · rcases Int.lt_or_gt_of_ne hE with h|h
      · have h3:x*E≤x*(-1):=Int.mul_le_mul_of_nonneg_left (by omega) (by omega)
        refine⟨by omega,fun _=>⟨fun h4=>by omega,fun h4=> ?_⟩,fun h4=>by omega⟩
        have :=(hp (by omega)).2 h4;omega
      · have h3:x*1≤x*E:=Int.mul_le_mul_of_nonneg_left (by omega) (by omega)
        refine⟨by omega,fun _=>⟨fun _=>(hp (by omega)).1 h,fun h4=>by omega⟩,fun h4=>by omega⟩
    · have hn':=hn (by omega)
      rcases Int.lt_or_gt_of_ne hE with h|h
      · have h3:(-x)*1≤(-x)*(-E):=Int.mul_le_mul_of_nonneg_left (by omega) (by omega)
        rw[Int.neg_mul_neg] at h3
        have hpos:0<a+x*E:=by omega
        refine⟨by omega,fun h4=>by omega,fun _=>⟨fun _=> ?_,fun _=>hpos⟩⟩
        have hne: ¬(if k % 2=0 then 0<c else c<0):=fun h5=>by have :=hn'.2 h5;omega
        by_cases hk:k % 2=0
        · rw[if_pos hk] at hne;rw[if_neg (by omega)];omega
        · rw[if_neg hk] at hne;rw[if_pos (by omega)];omega
      · have h3:(-x)*1≤(-x)*E:=Int.mul_le_mul_of_nonneg_left (by omega) (by omega)
        have e3:(-x)*E= -(x*E):=Int.neg_mul x E
        have hneg:a+x*E<0:=by omega
        refine⟨by omega,fun h4=>by omega,fun _=>⟨fun h4=>by omega,fun h5=> ?_⟩⟩
        exfalso
        have h6:=hn'.1 h
        by_cases hk:k % 2=0
        · rw[if_pos hk] at h6;rw[if_neg (by omega)] at h5;omega
        · rw[if_neg hk] at h6;rw[if_pos (by omega)] at h5;omega
end Go.Gx
namespace Go.Gx
end Go.Gx
namespace Go.Gx
theorem Qqd{f:List Int}(h: ∀x:Int,evI f x=0):Xa f=[]:=by
  by_cases h0:(Xa f).length=0
  · exact List.eq_nil_of_length_eq_zero h0
  · exfalso
    have hl:=YG (Xs ZM f) h0
    have hb:=Qka (x:=(hgt (Xa f):Int)+2) (H:=hgt (Xa f)) (.inl (Int.le_refl _)) (Xa f) h0 hl (Nat.le_refl _)
    apply hb.1
    have e:((evI (Xa f) ((hgt (Xa f):Int)+2):Int):Rat)=((evI f ((hgt (Xa f):Int)+2):Int):Rat):=by rw[←Zn,←Zn,Zt]
    rw[Rat.intCast_inj.1 e]
    exact h _
theorem Qcf(q:Rat)(f g:List Int):evQ (XD f g) q=evQ f q -evQ g q:=by
  rw[YI q (g:=Xx f (Xf g (-1))) (fun i=>by rw[ZG,Xv,Xi];omega),Yn,XB]
  show evQ f q+((-1:Int):Rat)*evQ g q=_
  have :((-1:Int):Rat)= -1:=rfl
  rw[this];grind
theorem QjI{f g:List Int}(h: ∀x:Int,evQ f (x:Rat)=evQ g (x:Rat)):Xa f=Xa g:=by
  have h1:Xa (XD f g)=[]:=Qqd fun x=>by
    have :=Qcf (x:Rat) f g
    rw[h x,Zn] at this
    have e:evQ g (x:Rat) -evQ g (x:Rat)=((0:Int):Rat):=by
      have :((0:Int):Rat)=0:=rfl
      rw[this];grind
    rw[e] at this
    exact Rat.intCast_inj.1 this
  refine YP fun i=> ?_
  have h2:=Xo (XD f g) i
  rw[h1,ZG] at h2
  have :co [] i=0:=by simp [co]
  omega
end Go.Gx
namespace Go.Gx
theorem Qed(F G:List Int)(k:Nat):co (Xn (Xg F G)) k=co (Xx (Xg (Xn F) G) (Xg F (Xn G))) k:=by
  rw[XZ,Xp,Xv,Xp,Xp]
  have hA:conv (Xn F) G k=Ye (fun j=>((j:Nat):Int)*(co F j*co G (k+1 -j))) (k+2):=by
    rw[ZQ]
    unfold conv YB
    rw[Xt (G:=fun i=>((i+1:Nat):Int)*(co F (i+1)*co G (k+1 -(i+1)))) (fun i hi=>by
      rw[XZ,show k+1 -(i+1)=k -i by omega];grind)]
    simp
  have hB:conv F (Xn G) k=Ye (fun j=>((k+1 -j:Nat):Int)*(co F j*co G (k+1 -j))) (k+2):=by
    rw[YA]
    unfold conv YB
    rw[Xt (G:=fun j=>((k+1 -j:Nat):Int)*(co F j*co G (k+1 -j))) (fun i hi=>by
      rw[XZ,show k -i+1=k+1 -i by omega];grind)]
    simp
  rw[hA,hB,←Qcl]
  unfold conv YB
  rw[←QdU]
  refine Xt fun j hj=> ?_
  have e:((j:Nat):Int)+((k+1 -j:Nat):Int)=((k+1:Nat):Int):=by omega
  rw[←Int.add_mul,e,Int.mul_comm]
theorem QlJ(F G:List Int):Xa (Xa (Xn (Xa (Xg F G))))=Xa (Xa (Xx (Xa (Xg (Xa (Xn F)) G)) (Xa (Xg F (Xa (Xn G)))))):=by
  refine YP fun i=> ?_
  rw[Xo,Xo,XZ,Xo,←XZ,Qed,Xv,Xv,Xo,Xo,Xp,Xp,Xp,Xp]
  congr 1
  · exact(YH (fun j=>Xo _ j) fun _=>rfl).symm
  · exact(YH (fun _=>rfl) fun j=>Xo _ j).symm
end Go.Gx
