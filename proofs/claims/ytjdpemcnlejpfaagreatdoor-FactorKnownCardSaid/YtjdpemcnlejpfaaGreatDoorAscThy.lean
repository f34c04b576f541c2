/-
  AscThy, TryThy, FcThy, EisThy, ShfThy, FitThy
-/
import Derived.Test.YtjdpemcnlejpfaaGreatDoorDecP
import Derived.Test.YtjdpemcnlejpfaaGreatDoorKnown2
import Derived.Test.YtjdpemcnlejpfaaGreatDoorPolyMath2
set_option linter.all false
namespace Go.Gx
def Asc(n:Nat):Nat→List Nat→Prop
  |_,[]=>True
  |lo,a::l=>lo≤a∧a<n∧Asc n (a+1) l
def Lx:List Nat→List Nat→Prop
  |a::l,b::l'=>a<b∨a=b∧Lx l l'
  |_,_=>False
theorem Asc.mono{n:Nat}: ∀{l:List Nat}{lo lo':Nat},Asc n lo l→lo'≤lo→Asc n lo' l
  | [],_,_,_,_=>trivial
  |_::_,_,_,⟨h1,h2,h3⟩,h=>⟨by omega,h2,h3⟩
theorem Asc.len{n:Nat}: ∀{l:List Nat}{lo:Nat},Asc n lo l→l=[]∨lo+l.length≤n
  | [],_,_=> .inl rfl
  |a::l,lo,⟨h1,h2,h3⟩=> .inr (by
      rcases h3.len with h|h
      · subst h;simp;omega
      · simp only[List.length_cons];omega)
theorem Asc.mem{n:Nat}: ∀{l:List Nat}{lo:Nat},Asc n lo l→ ∀a∈l,lo≤a∧a<n
  | [],_,_,a,ha=>by cases ha
  |b::l,lo,⟨h1,h2,h3⟩,a,ha=>by
    rcases List.mem_cons.1 ha with rfl|ha
    · exact⟨h1,h2⟩
    · have :=h3.mem a ha;exact⟨by omega,this.2⟩
theorem QeL{n:Nat}: ∀(k s lo:Nat),lo≤s→s+k≤n→Asc n lo (List.range' s k)
  |0,_,_,_,_=>trivial
  |k+1,s,lo,h1,h2=>by rw[List.range'_succ];exact⟨h1,by omega,QeL k (s+1) (s+1) (Nat.le_refl _) (by omega)⟩
theorem Qhh: ∀{a b:List Nat},a.length=b.length→a=b∨Lx a b∨Lx b a
  | [],[],_=> .inl rfl
  |x::a,y::b,h=>by
    rcases Nat.lt_trichotomy x y with h1|rfl|h1
    · exact .inr (.inl (.inl h1))
    · rcases Qhh (a:=a) (b:=b) (by simpa using h) with h2|h2|h2
      · exact .inl (by rw[h2])
      · exact .inr (.inl (.inr ⟨rfl,h2⟩))
      · exact .inr (.inr (.inr ⟨rfl,h2⟩))
    · exact .inr (.inr (.inl h1))
  | [],_::_,h=>by simp at h
  |_::_,[],h=>by simp at h
theorem QnS{n:Nat}: ∀{c:List Nat}{lo:Nat},Asc n lo c→ ¬Lx (List.range' (n -c.length) c.length) c
  | [],_,_,h=>h
  |a::l,lo,ha,h=>by
    have hl:=ha.len.resolve_left (by simp)
    obtain⟨h1,h2,h3⟩:=ha
    have h4:=h3.len
    have ha:a+1+l.length≤n:=by
      rcases h4 with h4|h4
      · subst h4;simp;omega
      · exact h4
    rw[List.length_cons,List.range'_succ] at h
    rcases h with h| ⟨h5,h⟩
    · omega
    · rw[show n -(l.length+1)+1=n -l.length by omega] at h
      exact QnS h3 h
theorem QnT{n:Nat}: ∀{c:List Nat}{lo:Nat},Asc n lo c→ ¬Lx c (List.range' lo c.length)
  | [],_,_,h=>h
  |a::l,lo,⟨h1,h2,h3⟩,h=>by
    rw[List.length_cons,List.range'_succ] at h
    rcases h with h| ⟨h5,h⟩
    · omega
    · subst h5;exact QnT h3 h
structure Nx (n:Nat) (c c1:List Nat):Prop where
  asc:Asc n 0 c1
  len:c1.length=c.length
  nx: ∀c',Asc n 0 c'→c'.length=c.length→Lx c' c1→c'=c∨Lx c' c
  lt:Lx c c1
def Qsg(n:Nat)(c:List Nat):Prop:= ∀c',Asc n 0 c'→c'.length=c.length→c'=c∨Lx c' c
theorem QrW{n x m:Nat}: ∀{pre t:List Nat}{lo:Nat},Asc n lo (pre++x::t)→x+1+(m+1)≤n→Asc n lo (pre++List.range' (x+1) (m+1))
  | [],t,lo,⟨h1,_,_⟩,h=>QeL _ _ _ (by omega) h
  |a::pre,t,lo,⟨h1,h2,h3⟩,h=>⟨h1,h2,QrW h3 h⟩
theorem QvA{n x m:Nat}: ∀{pre c':List Nat}{lo:Nat},Asc n lo c'→c'.length=pre.length+(m+1)→Lx c' (pre++List.range' (x+1) (m+1))→c'=pre++x::List.range' (n -m) m∨Lx c' (pre++x::List.range' (n -m) m)
  | [],[],_,_,hl,_=>by simp at hl
  | [],y::r,lo,⟨h1,h2,h3⟩,hl,h=>by
    rw[List.nil_append,List.range'_succ] at h
    have hr:r.length=m:=by simpa using hl
    rcases h with h| ⟨rfl,h⟩
    · rcases Nat.lt_or_ge y x with h4|h4
      · exact .inr (.inl h4)
      · obtain rfl:y=x:=by omega
        have hm:=QnS h3
        rw[hr] at hm
        rcases Qhh (a:=r) (b:=List.range' (n -m) m) (by simp [hr]) with h5|h5|h5
        · exact .inl (by rw[h5];rfl)
        · exact .inr (.inr ⟨rfl,h5⟩)
        · exact absurd h5 hm
    · have :=QnT h3
      rw[hr] at this
      exact absurd h this
  |a::pre,[],_,_,hl,_=>by simp at hl
  |a::pre,b::r,lo,⟨h1,h2,h3⟩,hl,h=>by
    rcases h with h| ⟨rfl,h⟩
    · exact .inr (.inl h)
    · rcases QvA h3 (by simp at hl;omega) h with h4|h4
      · exact .inl (by rw[h4];rfl)
      · exact .inr (.inr ⟨rfl,h4⟩)
theorem QrT{x:Nat}{t t':List Nat}: ∀pre:List Nat,Lx (pre++x::t) (pre++(x+1)::t')
  | []=> .inl (by omega)
  |_::pre=> .inr ⟨rfl,QrT pre⟩
def rkL(n:Nat):List Nat→Nat
  | []=>0
  |a::l=>a*(n+1)^l.length+rkL n l
theorem Qq1{n:Nat}: ∀{l:List Nat},(∀a∈l,a≤n)→rkL n l<(n+1)^l.length
  | [],_=>by simp [rkL]
  |a::l,h=>by
    have h1:=Qq1 (n:=n) (l:=l) fun b hb=>h b (by simp [hb])
    have h2:=h a (by simp)
    have h3:a*(n+1)^l.length+(n+1)^l.length≤(n+1)^ (l.length+1):=by
      rw[Nat.pow_succ,Nat.mul_comm ((n+1)^l.length),←Nat.succ_mul]
      exact Nat.mul_le_mul_right _ (by omega)
    show a*(n+1)^l.length+rkL n l<(n+1)^ (l.length+1)
    omega
theorem QvS{n:Nat}: ∀{a b:List Nat},a.length=b.length→(∀x∈a,x≤n)→Lx a b→rkL n a<rkL n b
  |x::a,y::b,hl,ha,h=>by
    have hl':a.length=b.length:=by simpa using hl
    have h1:=Qq1 (n:=n) (l:=a) fun z hz=>ha z (by simp [hz])
    show x*(n+1)^a.length+rkL n a<y*(n+1)^b.length+rkL n b
    rw[←hl']
    rcases h with h| ⟨rfl,h⟩
    · have h2:x*(n+1)^a.length+(n+1)^a.length≤y*(n+1)^a.length:=by
        rw[←Nat.succ_mul];exact Nat.mul_le_mul_right _ (by omega)
      omega
    · have :=QvS hl' (fun z hz=>ha z (by simp [hz])) h
      omega
  | [],_,_,_,h=>h.elim
  |_::_,[],_,_,h=>h.elim
theorem QpF{n i:Nat}{c:List Nat}(h:Asc n 0 c)(hi:i<c.length)(hd:c.drop (i+1)=List.range' (n -(c.length -(i+1))) (c.length -(i+1)))(hx:c.getD i 0≠n -c.length+i):
    Nx n c (c.take i++List.range' (c.getD i 0+1) (c.length -i)):=by
  have hn:=h.len.resolve_left (by intro e;subst e;simp at hi)
  have hs:c=c.take i++c.getD i 0::List.range' (n -(c.length -(i+1))) (c.length -(i+1)):=by
    rw[←hd]
    simp [List.getD,hi]
  obtain⟨m,hm⟩: ∃m,c.length -i=m+1:=⟨c.length -i -1,by omega⟩
  have hm':c.length -(i+1)=m:=by omega
  have htl:(c.take i).length=i:=by rw[List.length_take];omega
  rw[hm'] at hs
  have hxm:c.getD i 0+(m+1)≤n:=by
    have h1:Asc n 0 (c.take i++c.getD i 0::List.range' (n -m) m):=by rw[←hs];exact h
    have key: ∀{pre:List Nat}{lo:Nat}{x:Nat}{t:List Nat},Asc n lo (pre++x::t)→x+(t.length+1)≤n:=by
      intro pre
      induction pre with
      |nil=>
        intro lo x t h2
        have :=h2.len.resolve_left (by simp)
        obtain⟨_,h4,h5⟩:=h2
        rcases h5.len with h6|h6
        · subst h6;simp;omega
        · omega
      |cons a pre ih=>intro lo x t h2;exact ih h2.2.2
    have :=key h1
    simpa using this
  have hx1:c.getD i 0+1+(m+1)≤n:=by omega
  rw[hm]
  refine⟨QrW (t:=List.range' (n -m) m) (by rw[←hs];exact h) hx1,by rw[List.length_append,htl,List.length_range'];omega,fun c' hc hl hlx=> ?_,?_⟩
  · have :=QvA hc (by rw[htl];omega) hlx
    rw[←hs] at this
    exact this
  · conv=>lhs;rw[hs]
    rw[List.range'_succ]
    exact QrT _
theorem QpE{n:Nat}{c:List Nat}(hd:c=List.range' (n -c.length) c.length):Qsg n c:=fun c' hc hl=>by
  rcases Qhh hl with h|h|h
  · exact .inl h
  · exact .inr h
  · rw[hd,←hl] at h;exact absurd h (QnS hc)
def Qmr(c:List Nat)(i x j:Nat):List Nat:=c.take i++(List.range' (x+1) (j -i)++c.drop j)
theorem QpC{c:List Nat}{i x j:Nat}(hi:i<j)(hj:j≤c.length):(Qmr c i x j).length=c.length:=by
  simp [Qmr];omega
theorem QlB{c:List Nat}{i x:Nat}(hi:i<c.length):c.set i (x+1)=Qmr c i x (i+1):=by
  unfold Qmr
  rw[show i+1 -i=1 by omega,List.set_eq_take_append_cons_drop,if_pos hi]
  rfl
theorem QpB{c:List Nat}{i x j:Nat}(hi:i<j)(hj:j≤c.length):(Qmr c i x j).getD (j -1) 0=x+(j -i):=by
  have h1:(c.take i).length=i:=by rw[List.length_take];omega
  unfold Qmr
  rw[List.getD,List.getElem?_append_right (by omega),h1,List.getElem?_append_left (by rw[List.length_range'];omega),List.getElem?_range' (by omega)]
  simp;omega
theorem QpD{c:List Nat}{i x j:Nat}(hi:i<j)(hj:j<c.length):(Qmr c i x j).set j (x+(j -i)+1)=Qmr c i x (j+1):=by
  have h1:(c.take i).length=i:=by rw[List.length_take];omega
  unfold Qmr
  rw[List.set_append_right _ _ (by omega),h1,List.set_append_right _ _ (by rw[List.length_range'];omega),List.length_range',Nat.sub_self,List.drop_eq_getElem_cons hj,List.set_cons_zero,show j+1 -i=(j -i)+1 by omega,List.range'_concat,List.append_assoc,Nat.one_mul,show x+(j -i)+1=x+1+(j -i) by omega]
  rfl
theorem QpA{c:List Nat}{i x:Nat}(hi:i<c.length):Qmr c i x c.length=c.take i++List.range' (x+1) (c.length -i):=by
  unfold Qmr;rw[List.drop_length,List.append_nil]
theorem QpG{n:Nat}{c:List Nat}{i:Nat}(hi:i<c.length)(hx:c.getD i 0=n -c.length+i)(hn:c.length≤n)(hd:c.drop (i+1)=List.range' (n -(c.length -(i+1))) (c.length -(i+1))):c.drop i=List.range' (n -(c.length -i)) (c.length -i):=by
  rw[List.drop_eq_getElem_cons hi,hd]
  have :c[i]=n -c.length+i:=by rw[←hx];simp [List.getD,hi]
  rw[this,show c.length -i=(c.length -(i+1))+1 by omega,List.range'_succ]
  congr 1
  · omega
  · congr 1;omega
def Qdh{α:Type}:Nat→List α→List Nat→List α
  |_,[],_=>[]
  |o,a::Z,c=>if o∈c then Qdh (o+1) Z c else a::Qdh (o+1) Z c
theorem Qiu{α:Type}{c:List Nat}{a:α}: ∀{Z:List α}{o:Nat},Qdh o (Z++[a]) c=Qdh o Z c++ if o+Z.length∈c then [] else [a]
  | [],o=>by simp [Qdh]
  |b::Z,o=>by
    simp only[List.cons_append,Qdh,List.length_cons]
    rw[Qiu (Z:=Z),show o+1+Z.length=o+(Z.length+1) by omega]
    split<;>rfl
theorem QkQ{α:Type}{b:Nat}{l:List Nat}: ∀{Z:List α}{o:Nat},b<o→Qdh o Z (b::l)=Qdh o Z l
  | [],_,_=>rfl
  |a::Z,o,h=>by
    simp only[Qdh,List.mem_cons]
    rw[QkQ (Z:=Z) (by omega)]
    by_cases h1:o∈l
    · rw[if_pos (.inr h1),if_pos h1]
    · rw[if_neg fun h2=>h2.elim (fun e=>by omega) h1,if_neg h1]
theorem QhC{α:Type}(d:α): ∀(Z:List α)(o:Nat)(c:List Nat),Asc (o+Z.length) o c→Spl Z (c.map fun i=>Z.getD (i -o) d) (Qdh o Z c)
  | [],o,[],_=> .nil
  | [],o,a::l,⟨h1,h2,_⟩=>by simp at h2;omega
  |a::Z,o,[],_=>by
    have :=QhC d Z (o+1) [] trivial
    simp only[Qdh,List.map_nil,List.not_mem_nil,if_false] at this⊢
    exact .r this
  |a::Z,o,b::l,⟨h1,h2,h3⟩=>by
    have e:o+1+Z.length=o+(a::Z).length:=by simp;omega
    rcases Nat.lt_or_ge o b with hb|hb
    · have :=QhC d Z (o+1) (b::l) (by rw[e];exact⟨hb,h2,h3⟩)
      have hno: ¬o∈b::l:=fun hm=>by
        have :=Asc.mem (lo:=o+1) (n:=o+(a::Z).length) (l:=b::l) ⟨hb,h2,h3⟩ o hm
        omega
      rw[Qdh,if_neg hno]
      refine(show(b::l).map (fun i=>(a::Z).getD (i -o) d)=(b::l).map (fun i=>Z.getD (i -(o+1)) d) from List.map_congr_left fun i hi=> ?_)▸ .r this
      have :=Asc.mem (lo:=o+1) (n:=o+(a::Z).length) (l:=b::l) ⟨hb,h2,h3⟩ i hi
      rw[show i -o=(i -(o+1))+1 by omega]
      rfl
    · obtain rfl:b=o:=by omega
      have :=QhC d Z (b+1) l (by rw[e];exact h3)
      rw[Qdh,if_pos (by simp),QkQ (by omega),List.map_cons,Nat.sub_self]
      refine(show l.map (fun i=>(a::Z).getD (i -b) d)=l.map (fun i=>Z.getD (i -(b+1)) d) from List.map_congr_left fun i hi=> ?_)▸ .l this
      have :=h3.mem i hi
      rw[show i -b=(i -(b+1))+1 by omega]
      rfl
theorem Qso{α:Type}(d:α){Z S C:List α}(h:Spl Z S C): ∀o,∃c,Asc (o+Z.length) o c∧c.length=S.length∧S=c.map fun i=>Z.getD (i -o) d:=by
  induction h with
  |nil=>exact fun o=>⟨[],trivial,rfl,rfl⟩
  | @l a Z S C _ ih=>
    intro o
    obtain⟨c,h1,h2,h3⟩:=ih (o+1)
    have e:o+1+Z.length=o+(a::Z).length:=by simp;omega
    rw[e] at h1
    refine⟨o::c,⟨Nat.le_refl _,by simp,h1⟩,by simp [h2],?_⟩
    rw[List.map_cons,Nat.sub_self]
    refine congrArg (a:: ·) (h3.trans (List.map_congr_left fun i hi=> ?_))
    have :=h1.mem i hi
    rw[show i -o=(i -(o+1))+1 by omega]
    rfl
  | @r a Z S C _ ih=>
    intro o
    obtain⟨c,h1,h2,h3⟩:=ih (o+1)
    have e:o+1+Z.length=o+(a::Z).length:=by simp;omega
    rw[e] at h1
    refine⟨c,h1.mono (by omega),h2,h3.trans (List.map_congr_left fun i hi=> ?_)⟩
    have :=h1.mem i hi
    rw[show i -o=(i -(o+1))+1 by omega]
    rfl
def QfA(Z:LZs)(c:List Nat):LZs:=c.map fun i=>Z.getD i ([],[])
theorem QcN{Z:LZs}{c:List Nat}(h:Asc Z.length 0 c):Spl Z (QfA Z c) (Qdh 0 Z c):=by
  have :=QhC (([],[]):List Int×List Nat) Z 0 c (by rw[Nat.zero_add];exact h)
  simpa [QfA] using this
theorem Qpe{p N:Nat}{Z:LZs}{f:List Int}{c:List Nat}(hl:Qsg Z.length c)(ht: ∀c',Asc Z.length 0 c'→c'.length=c.length→(c'=c∨Lx c' c)→ ∀g,¬GoodS p N f (QfA Z c') g):
    ∀S C g,Spl Z S C→S.length=c.length→ ¬GoodS p N f S g:=fun S C g hS hlen hg=>by
  obtain⟨c',h1,h2,h3⟩:=Qso (([],[]):List Int×List Nat) hS 0
  rw[Nat.zero_add] at h1
  have e:S=QfA Z c':=by rw[h3];simp [QfA]
  exact ht c' h1 (by omega) (hl c' h1 (by omega)) g (e▸hg)
end Go.Gx
namespace Go.Gx
def QiP(L:List (List Int))(c:List Nat):List (List Int):=c.map fun i=>L.getD i []
def QpU(m:Nat)(ld:Int)(l:List (List Int)):Int:=l.foldl (fun a u=>YY m (a*evI u 0)) ld
def Qi6(m:Nat)(X:List Int)(l:List (List Int)):List Int:=l.foldl (fun a u=>Zg m (Xa (Xg a u))) X
def Qd8(l:List (List Int)):Nat:=(l.map fun u=>(Xa u).length -1).sum
theorem Qkl(m:Nat)(ld:Int)(l:List (List Int))(u:List Int):QpU m ld (l++[u])=YY m (QpU m ld l*evI u 0):=by unfold QpU;rw[List.foldl_append];rfl
theorem QkX(m:Nat)(X:List Int)(l:List (List Int))(u:List Int):Qi6 m X (l++[u])=Zg m (Xa (Xg (Qi6 m X l) u)):=by unfold Qi6;rw[List.foldl_append];rfl
theorem Qp6(l:List (List Int))(u:List Int):Qd8 (l++[u])=Qd8 l+((Xa u).length -1):=by unfold Qd8;rw[List.map_append,List.sum_append];simp
theorem QtL(L:List (List Int))(c:List Nat):(QiP L c).length=c.length:=by simp [QiP]
theorem Qk9{L:List (List Int)}{c:List Nat}{k:Nat}(h:k<c.length):(QiP L c).take (k+1)=(QiP L c).take k++[L.getD (c.getD k 0) []]:=by
  rw[List.take_add_one]
  congr 1
  simp [QiP,h,List.getD]
theorem Qrz(m:Nat): ∀(l:List (List Int))(a:Int),Cg m (QpU m a l) (a*evI (pL l) 0)
  | [],a=>by show Cg m a _;rw[show pL []=[1] from rfl];simp only[evI];rw[show a*(1+0*0)=a by omega];exact Cg.refl _ _
  |u::l,a=>by
    have h:=Qrz m l (YY m (a*evI u 0))
    have e:QpU m a (u::l)=QpU m (YY m (a*evI u 0)) l:=rfl
    rw[e]
    refine h.trans ?_
    rw[show pL (u::l)=Xg u (pL l) from rfl,Xc,←Int.mul_assoc]
    exact(QfF m _).mul (Cg.refl _ _)
theorem QuK{m:Nat}(hm:0<m){l:List (List Int)}(h:l≠ [])(a:Int):QpU m a l=YY m (a*evI (pL l) 0):=by
  rw[←QdY (Qrz m l a)]
  have hs:l.dropLast++[l.getLast h]=l:=List.dropLast_concat_getLast h
  rw[←hs,Qkl,Qdu hm]
theorem Qr2(m:Nat): ∀(l:List (List Int))(X:List Int),CgV (m:Int) (Qi6 m X l) (Xg X (pL l))
  | [],X=>CgV.eqv fun x=>by show evI X x=_;rw[show pL []=[1] from rfl,Xc];simp only[evI];grind
  |u::l,X=>by
    have h:=Qr2 m l (Zg m (Xa (Xg X u)))
    have e:Qi6 m X (u::l)=Qi6 m (Zg m (Xa (Xg X u))) l:=rfl
    rw[e]
    refine h.trans ((((CgV.red _).trans (CgV.eqv fun x=>QaD _ x)).mul (CgV.refl _ _)).trans (CgV.eqv fun x=> ?_))
    rw[show pL (u::l)=Xg u (pL l) from rfl]
    simp only[Xc];grind
theorem QvJ{m:Nat}(hm:0<m){l:List (List Int)}(h:l≠ [])(a:Int):Qi6 m [a] l=Zg m (Xf (pL l) a):=by
  have h1:Zg m (Qi6 m [a] l)=Zg m (Xf (pL l) a):=Qmc fun i=>by
    obtain⟨k,hk⟩:=((Qr2 m l [a]).trans (CgV.eqv (g:=Xf (pL l) a) fun x=>by simp only[Xc,Xm,evI];grind)).cof i
    exact⟨k,by omega⟩
  have hs:l.dropLast++[l.getLast h]=l:=List.dropLast_concat_getLast h
  rw[←h1,←hs,QkX]
  generalize Xa (Xg (Qi6 m [a] l.dropLast) (l.getLast h))=Y
  have e:Xa (Zg m Y)=Xa (Zg m (Zg m Y)):=YP fun i=>by rw[Zm,Zm,Zm,Qdu hm]
  rwa [QiJ,QiJ] at e
theorem QvT{Z:LZs}{c:List Nat}(h: ∀i∈c,i<Z.length):QiP (Z.map Prod.fst) c=(QfA Z c).map Prod.fst:=by
  unfold QiP QfA
  rw[List.map_map]
  refine List.map_congr_left fun i hi=> ?_
  have :=h i hi
  simp [List.getD,this]
theorem QkR{α β:Type}(f:α→β)(c:List Nat): ∀(Z:List α)(o:Nat),Qdh o (Z.map f) c=(Qdh o Z c).map f
  | [],_=>rfl
  |a::Z,o=>by
    simp only[List.map_cons,Qdh]
    rw[QkR f c Z]
    split<;>rfl
end Go.Gx
namespace Go.Gx
theorem Qns{F:List Int}{l:List (List Int×Nat)}{u:Int}(hn: ∀x∈l,Nrm x.1)(hi: ∀x∈l,Irr (P x.1))(hk: ∀x∈l,1≤x.2)(hs:l.Pairwise fun a b=>Qbv a.1 b.1<0)(hu:u≠0)(e:P F=K (u:Rat)*ZO l):Qbb F l:=by
  obtain⟨b,hb,eb⟩:=QbZ hn
  have hb0:ZO l≠0:=by rw[←eb];exact hb.ne
  have hd:l.Pairwise fun a b=>a.1≠b.1:=hs.imp fun {a b} h e=>by rw[e,QbL] at h;omega
  have hur:(u:Rat)≠0:=XC hu
  have hF:P F≠0:=by rw[e];exact QaT (Qpv hur) hb0
  refine⟨hF,hn,hi,hk,fun x hx=> ?_,fun π hπ hd'=> ?_,hs⟩
  · rw[e,Qj4 (hi x hx) hur hb0]
    exact(QeJ (hi x hx) hn hi hd).1 x hx (XL _)
  · rw[e,Qjo hur] at hd'
    apply Classical.byContradiction
    intro hno
    have h0:=(QeJ hπ hn hi hd).2 fun x hx h=>hno ⟨x,hx,Qal hπ (hi x hx) h⟩
    have :=(XM hπ hb0).1 hd'
    omega
theorem Qbb.mem{F:List Int}{fs gs:List (List Int×Nat)}(h:Qbb F fs)(k:Qbb F gs): ∀x∈fs,x∈gs:=fun x hx=>by
  have hv:=h.v x hx
  have h1:=h.k1 x hx
  obtain⟨y,hy,hd⟩:=k.all _ (h.irr x hx) ((XM (h.irr x hx) h.ne).2 (by omega))
  have e:=ZX (k.n y hy) (h.n x hx) (k.irr y hy) (h.irr x hx) hd
  have e2:=k.v y hy
  rw[e] at e2
  rw[show x=y from Prod.ext e.symm (hv.symm.trans e2)];exact hy
theorem Qbb.uniq{F:List Int}{fs gs:List (List Int×Nat)}(h:Qbb F fs)(k:Qbb F gs):fs=gs:=by
  have key: ∀{l:List (List Int×Nat)},Qbb F l→l=(l.map Prod.fst).map fun a=>(a,va (P a) (P F)):=fun {l} hl=>by
    rw[List.map_map]
    conv=>lhs;rw[←List.map_id l]
    exact List.map_congr_left fun x hx=>Prod.ext rfl (hl.v x hx).symm
  have e:fs.map Prod.fst=gs.map Prod.fst:=QiR (List.pairwise_map.2 h.asc) (List.pairwise_map.2 k.asc) fun a=>⟨fun ha=>by
    obtain⟨x,hx,rfl⟩:=List.mem_map.1 ha;exact List.mem_map_of_mem (h.mem k x hx),fun ha=>by
    obtain⟨x,hx,rfl⟩:=List.mem_map.1 ha;exact List.mem_map_of_mem (k.mem h x hx)⟩
  rw[key h,key k,e]
theorem Qsr{g:List Int}{n:Nat}(hn:(Xa g).length=n+1):(ldP g*QmA g).natAbs=(ldP g).natAbs*(2^n*rtN (n+1)*hgt g):=by
  rw[QmA,if_neg (fun e=>by rw[e] at hn;simp at hn),hn,Nat.add_sub_cancel,Int.natAbs_mul]
  congr 1
  rw[←Int.natCast_mul,←Int.natCast_mul,Int.natAbs_natCast]
  simp only[Nat.mul_comm,Nat.mul_left_comm]
theorem rt5(n:Nat):rtN n≤5:=by unfold rtN;(repeat' split)<;>omega
theorem Qny{F g:List Int}{n H:Nat}(hn:(Xa F).length≤n+1)(h11:n≤11)(hF0:P F≠0)(hg:Nrm g)(hd:P g∣P F)(hH: ∀i,(co F i).natAbs≤H):hgt g≤2^n*5*H∧g.length≤n+1:=by
  obtain⟨W,e⟩:=QbR hg.c hd
  rw[XT] at e
  obtain⟨k,hk⟩: ∃k,(Xa F).length=k+1:=⟨(Xa F).length -1,by have :=XF.1 hF0;rw[Yj] at this;omega⟩
  have h1:=Qm5 hk (by omega) e
  have h2:hgt F≤H:=Qih F hH
  have h3:=Qaj hd hF0
  rw[Yj,Yj,hg.t] at h3
  refine⟨Nat.le_trans h1 (Nat.mul_le_mul (Nat.mul_le_mul (Nat.pow_le_pow_right (by decide) (by omega)) (rt5 _)) h2),by omega⟩
theorem Qvc:HB [] 1:=fun g h _ i=>by
  have :ldP []=0:=by decide
  rw[this,Int.zero_mul];decide
theorem Qix{F:List Int}(h:P F=0):Xr F=[]:=by
  have h1:=Yz F
  rw[←Ya,Yj] at h
  exact List.eq_nil_of_length_eq_zero (by omega)
theorem ZY{F:List Int}(h:P F=0):Yc F=0:=by
  have h1:ldP F=0:=Classical.byContradiction fun h2=>(Xz F).1 h2 h
  have h2: ∀i,(0:Int)∣co F i:=fun i=>by
    have :co F i=0:=by
      have :=QgE (f:=F) (g:=[]) (by rw[h];exact(QP.eq fun x=>by rw[v_P,v_0];rfl)) i
      rw[this];simp [co]
    rw[this];exact Int.dvd_zero _
  have h3:((Xy F:Nat):Int)=0:=by
    apply Classical.byContradiction
    intro h4
    have h5:=Qix h
    have h6:=Xe F
    have h7:Xy F=Xy (Xa F):=(QaF F).symm
    have h8:Xa F=[]:=by
      have :=Yj F
      rw[h,Ya.2 rfl] at this
      exact List.eq_nil_of_length_eq_zero this.symm
    rw[h7,h8] at h4
    exact h4 (by decide)
  unfold Yc
  rw[h3];split<;>rfl
def Quw(F:List Int)(fs:List (List Int×Nat)):Prop:=P F=0∧fs=[]∨Qbb F fs∧fs.length≤289
theorem Quw.fac{F:List Int}{fs:List (List Int×Nat)}(h:Quw F fs)(hF:P F≠0):Qbb F fs∧fs.length≤289:=h.resolve_left fun h=>hF h.1
theorem Quw.nil{F:List Int}{fs:List (List Int×Nat)}(h:Quw F fs)(hF:P F=0):fs=[]:=(h.resolve_right fun h=>h.1.ne hF).2
end Go.Gx
namespace Go.Gx
theorem QoB{p:Nat}(hp:Xk p){a b:Int}(h:(p:Int)∣a*b):(p:Int)∣a∨(p:Int)∣b:=by
  have hp0:0<p:=by have :=hp.1;omega
  by_cases ha:(p:Int)∣a
  · exact .inl ha
  · refine .inr (QcC (c:=a) ?_ h)
    have h1:=QgU (n:=1) hp (a:=a) (fun h0=>ha (by
      obtain⟨k,hk⟩:=QcZ hp0 (a:=a) (b:=0) (by rw[h0,Yb])
      exact⟨k,by omega⟩))
    rwa [Nat.pow_one] at h1
theorem Qtn{f:List Int}(h0:P f≠0)(h2:2≤(Xa f).length)(h: ¬Irr (P f)): ∃A b:List Int,2≤(Xa A).length∧2≤(Xa b).length∧P f=P A*P b:=by
  have hl:=(Xz f).2 h0
  have hc:=Yi hl
  have hn:=YD h0
  have hni: ¬Irr (P (Xr f)):=fun hi=>h (by
    have e:=QbJ f
    refine⟨by rw[Yj];exact h2,fun a b eab=> ?_⟩
    have hk:(K (1/ (Yc f:Rat))*a)*b=P (Xr f):=QP.eq fun x=>by
      have a1:=qat (QaK hl) x
      have a2:=qat eab x
      simp only[Xq,v_K] at a1 a2⊢
      rw[a1,a2];grind
    rcases hi.2 _ _ hk.symm with h1|h1
    · refine .inl ?_
      rwa [Qar (by have :=XC hc;grind)] at h1
    · exact .inr h1)
  obtain⟨a,b,ha,hb,eab,la,lb⟩:=Qbo hn (by rw[Yz];exact h2) hni
  refine⟨Xf a (Yc f),b,by rw[Qcm a hc,ha.t];exact la,by rw[hb.t];exact lb,?_⟩
  rw[YF,QbJ f,eab,XI]
theorem Qp8{p n:Nat}(hp:Xk p){f:List Int}(hn:(Xa f).length=n+1)(h1:1≤n)(hl: ¬(p:Int)∣co f n)(hd: ∀i,i<n→(p:Int)∣co f i)(h0: ¬(p:Int)*p∣co f 0):Irr (P f):=by
  apply Classical.byContradiction
  intro hni
  have hf0:P f≠0:=fun h0=>by rw[←Ya,Yj] at h0;omega
  obtain⟨A,b,lA,lb,e⟩:=Qtn hf0 (by omega) hni
  have hdg:=Zd (f:=P A) (g:=P b) (fun h=>by rw[←Ya,Yj] at h;omega) (fun h=>by rw[←Ya,Yj] at h;omega)
  rw[←e,Yj,Yj,Yj,hn] at hdg
  obtain⟨u,hu⟩: ∃u,(Xa A).length=u+1:=⟨(Xa A).length -1,by omega⟩
  obtain⟨v,hv⟩: ∃v,(Xa b).length=v+1:=⟨(Xa b).length -1,by omega⟩
  have⟨a1,a2,_⟩:=Zj hu
  have⟨b1,b2,_⟩:=Zj hv
  have hco: ∀i,co f i=co (Xg A b) i:=fun i=>QgE (by rw[e,Zb]) i
  have htop:=(Qf8 a2 b2).1
  rw[show u+v=n by omega,←hco] at htop
  obtain⟨i,hi,hil⟩:=least (Q:=fun j=> ¬(p:Int)∣co A j) u (fun h=>hl (by rw[htop];exact Int.dvd_mul_of_dvd_left h))
  obtain⟨j,hj,hjl⟩:=least (Q:=fun j=> ¬(p:Int)∣co b j) v (fun h=>hl (by rw[htop];exact Int.dvd_mul_of_dvd_right h))
  have hiu:i≤u:=by
    apply Nat.le_of_not_lt
    intro h
    exact hi (by rw[a2 i h];exact Int.dvd_zero _)
  have hjv:j≤v:=by
    apply Nat.le_of_not_lt
    intro h
    exact hj (by rw[b2 j h];exact Int.dvd_zero _)
  have h2:=QeE (p:=(p:Int)) (F:=fun a=>co A a*co b (i+j -a)) (i:=i) (i+j+1) (fun a ha hai=>by
    rcases Nat.lt_or_ge a i with h3|h3
    · exact Int.dvd_mul_of_dvd_left (Classical.not_not.1 (hil a h3))
    · exact Int.dvd_mul_of_dvd_right (Classical.not_not.1 (hjl (i+j -a) (by omega))))
  rw[if_pos (by omega),show i+j -i=j by omega] at h2
  have h3:co f (i+j)=Ye (fun a=>co A a*co b (i+j -a)) (i+j+1):=by rw[hco,Xp];rfl
  rw[←h3] at h2
  have hij:i+j=n:=by
    apply Classical.byContradiction
    intro hne
    have h4:=Int.dvd_sub (hd (i+j) (by omega)) h2
    rw[show co f (i+j) -(co f (i+j) -co A i*co b j)=co A i*co b j by omega] at h4
    exact(QoB hp h4).elim hi hj
  refine h0 ?_
  have c0:co f 0=co A 0*co b 0:=by rw[hco,Xp];show 0+co A 0*co b (0 -0)=_;rw[Int.zero_add]
  rw[c0]
  exact Int.mul_dvd_mul (Classical.not_not.1 (hil 0 (by omega))) (Classical.not_not.1 (hjl 0 (by omega)))
end Go.Gx
namespace Go.Gx
def shZ(c:Int)(f:List Int):List Int:=Xa (Yw [c,1] f)
theorem Qpg(c:Int)(f:List Int)(x:Rat):(P (shZ c f)).v x=(P f).v (x+(c:Rat)):=by
  unfold shZ
  rw[Yf,v_P,v_P,YU]
  congr 1
  simp only[evQ]
  rw[Yt];grind
theorem QjU(c:Int)(f:List Int):P (shZ (-c) (shZ c f))=P f:=QP.eq fun x=>by
  rw[Qpg,Qpg,Rat.intCast_neg]
  congr 1;grind
theorem QtQ(c:Int)(f:QP): ∃g:QP,∀x,g.v x=f.v (x+(c:Rat)):=by
  obtain⟨r,l,_,e⟩:=Qgx f
  exact⟨K r*P (shZ c l),fun x=>by rw[Xq,Qpg,e,Xq,v_K,v_K]⟩
theorem Qe4(c:Int)(f:List Int):dg (P (shZ c f))≤dg (P f):=by
  have h: ∀l:List Int,(Yw [c,1] l).length≤l.length∨True:=fun _=> .inr trivial
  have key: ∀l:List Int,∀i,l.length≤i→co (Yw [c,1] l) i=0:=by
    intro l
    induction l with
    |nil=>intro i _;simp [Yw,co]
    |cons a l ih=>
      intro i hi
      have hp:P (Yw [c,1] (a::l))=P (Xx [a] (Xx (Xf (Yw [c,1] l) c) (0::Yw [c,1] l))):=QP.eq fun x=>by
        rw[v_P,v_P,YU,Yn,Yn,XB]
        simp only[evQ]
        rw[YU]
        simp only[evQ]
        rw[Yt]
        grind
      rw[QgE hp i,Xv,Xv,Xi]
      simp only[List.length_cons] at hi
      obtain⟨j,rfl⟩: ∃j,i=j+1:=⟨i -1,by omega⟩
      have e1:co [a] (j+1)=0:=XX (by simp)
      have e2:co (0::Yw [c,1] l) (j+1)=co (Yw [c,1] l) j:=by simp [co]
      rw[e1,e2,ih (j+1) (by omega),ih j (by omega)];omega
  rw[Yj,Yj]
  unfold shZ
  rw[XV]
  have hc:P (Yw [c,1] f)=P (Yw [c,1] (Xa f)):=QP.eq fun x=>by rw[v_P,v_P,YU,YU,Zt]
  rw[QfO hc]
  have :=(XA (Yw [c,1] (Xa f))).2
  rcases this with h|h
  · omega
  · have : ¬(Xa f).length≤(Xa (Yw [c,1] (Xa f))).length -1:=fun h'=>h (key _ _ h')
    omega
theorem Qh4(c:Int)(f:List Int):dg (P (shZ c f))=dg (P f):=by
  have h1:=Qe4 c f
  have h2:=Qe4 (-c) (shZ c f)
  rw[QjU] at h2
  omega
def Shd(c:Int)(f g:QP):Prop:= ∀x,g.v x=f.v (x+(c:Rat))
theorem Shd.Z(c:Int)(f:List Int):Shd c (P f) (P (shZ c f)):=Qpg c f
theorem Shd.back{c:Int}{f g:QP}(h:Shd c f g):Shd (-c) g f:=fun x=>by
  rw[h,Rat.intCast_neg];congr 1;grind
theorem Shd.mul{c:Int}{f g f' g':QP}(h:Shd c f f')(k:Shd c g g'):Shd c (f*g) (f'*g'):=fun x=>by rw[Xq,Xq,h,k]
theorem Shd.eq{c:Int}{f g g':QP}(h:Shd c f g)(k:Shd c f g'):g=g':=QP.eq fun x=>by rw[h,k]
theorem Shd.dg{c:Int}{f g:QP}(h:Shd c f g):dg g=dg f:=by
  obtain⟨r,l,hr,e⟩:=Qgx f
  have :g=K r*P (shZ c l):=QP.eq fun x=>by rw[h,Xq,Qpg,e,Xq,v_K,v_K]
  rw[this,e,Qar hr,Qar hr,Qh4]
theorem Shd.dvd{c:Int}{f g f' g':QP}(h:Shd c f f')(k:Shd c g g')(hd:f∣g):f'∣g':=by
  obtain⟨q,e⟩:=hd
  obtain⟨q',hq⟩:=QtQ c q
  exact⟨q',QP.eq fun x=>by rw[k,e,Xq,Xq,h,hq]⟩
theorem Shd.irr{c:Int}{f f':QP}(h:Shd c f f')(hi:Irr f):Irr f':=by
  refine⟨by rw[h.dg];exact hi.1,fun a b e=> ?_⟩
  obtain⟨a',ha⟩:=QtQ (-c) a
  obtain⟨b',hb⟩:=QtQ (-c) b
  have e':f=a'*b':=by
    have h1:Shd (-c) f' (a'*b'):=by rw[e];exact Shd.mul ha hb
    exact h.back.eq h1
  rcases hi.2 a' b' e' with h1|h1
  · exact .inl (by rw[←h1,Shd.dg (c:= -c) ha])
  · exact .inr (by rw[←h1,Shd.dg (c:= -c) hb])
theorem Shd.pow{c:Int}{f f':QP}(h:Shd c f f')(n:Nat):Shd c (f^n) (f'^n):=fun x=>by rw[QfY,QfY,h]
theorem Shd.va{c:Int}{π π' f f':QP}(h:Shd c π π')(k:Shd c f f')(hπ:Irr π)(hf:f≠0):va π' f'=va π f:=by
  have hπ':=h.irr hπ
  have hf':f'≠0:=XF.2 (by rw[k.dg];exact XF.1 hf)
  refine Nat.le_antisymm ?_ ?_
  · refine(QaW hπ hf _).1 ((h.back.pow _).dvd k.back ((QaW hπ' hf' _).2 (Nat.le_refl _)))
  · refine(QaW hπ' hf' _).1 ((h.pow _).dvd k ((QaW hπ hf _).2 (Nat.le_refl _)))
theorem QeF(c:Int)(f:List Int):Xa (shZ c f)=shZ c f:=XV _
theorem Qr6{d:Int}(c:Int): ∀{f:List Int},(∀i,d∣co f i)→ ∀i,d∣co (Yw [c,1] f) i
  | [],_,i=>by simp [Yw,co]
  |a::l,h,i=>by
    have hl: ∀i,d∣co l i:=fun i=>by have :=h (i+1);simpa [co] using this
    have ih:=Qr6 c hl
    have hp:P (Yw [c,1] (a::l))=P (Xx [a] (Xx (Xf (Yw [c,1] l) c) (0::Yw [c,1] l))):=QP.eq fun x=>by
      rw[v_P,v_P,YU,Yn,Yn,XB]
      simp only[evQ]
      rw[YU]
      simp only[evQ]
      rw[Yt]
      grind
    rw[QgE hp i,Xv,Xv,Xi]
    refine Int.dvd_add ?_ (Int.dvd_add (Int.dvd_trans (ih i) (Int.dvd_mul_right _ _)) ?_)
    · cases i with
      |zero=>simpa [co] using h 0
      |succ j=>rw[XX (by simp)];exact Int.dvd_zero _
    · cases i with
      |zero=>simp [co]
      |succ j=>simpa [co] using ih j
theorem QwQ(c:Int){f:List Int}(h:ldP f≠0):ldP (shZ c f)=ldP f:=by
  obtain⟨n,hn⟩:=Qa5 h
  have hd:=Qh4 c f
  rw[Yj,Yj,hn] at hd
  have⟨a1,a2,_⟩:=Zj hn
  have⟨b1,b2,_⟩:=Zj hd
  rw[←a1,←b1]
  have key: ∀(l:List Int)(n:Nat),l.length≤n+1→co (Yw [c,1] l) n=co l n:=by
    intro l
    induction l with
    |nil=>intro n _;simp [Yw,co]
    |cons a l ih=>
      intro n hl
      have hp:P (Yw [c,1] (a::l))=P (Xx [a] (Xx (Xf (Yw [c,1] l) c) (0::Yw [c,1] l))):=QP.eq fun x=>by
        rw[v_P,v_P,YU,Yn,Yn,XB]
        simp only[evQ]
        rw[YU]
        simp only[evQ]
        rw[Yt]
        grind
      have hz:co (Yw [c,1] l) n=0:=by
        have h1:=Qe4 c l
        rw[Yj,Yj] at h1
        have h2:=(XA (Yw [c,1] l)).1 n (by unfold shZ at h1;rw[XV] at h1;have :=Xe l;simp at hl;omega)
        exact h2
      rw[QgE hp n,Xv,Xv,Xi,hz]
      cases n with
      |zero=>simp [co]
      |succ m=>
        have e1:co [a] (m+1)=0:=XX (by simp)
        have e2:co (0::Yw [c,1] l) (m+1)=co (Yw [c,1] l) m:=by simp [co]
        rw[e1,e2,ih m (by simp at hl;omega)]
        simp [co]
  have hc:P (shZ c f)=P (Yw [c,1] (Xa f)):=QP.eq fun x=>by unfold shZ;rw[Yf,v_P,v_P,YU,YU,Zt]
  rw[QgE hc n,key (Xa f) n (by omega),Xo]
theorem QvV(c:Int){f:List Int}(h:Nrm f):Nrm (shZ c f):=by
  have h0:ldP f≠0:=by have :=h.s;omega
  refine⟨?_,by rw[QwQ c h0];exact h.s,QeF c f⟩
  have h1: ∀i,((Xy (shZ c f):Nat):Int)∣co f i:=fun i=>by
    have h2:=Qr6 (-c) (Qab (shZ c f)) i
    have h3:=QgE (QjU c f) i
    unfold shZ at h3 h2
    rw[Xo] at h3
    rw[←h3];exact h2
  have h2:=Zs h1
  rw[h.c] at h2
  exact Nat.eq_one_of_dvd_one h2
end Go.Gx
namespace Go.Gx
theorem Qr3:Xk 2:=⟨by decide,fun a h0 h1=>by
  rw[show a=1 by omega];decide⟩
theorem QrN:Irr (P [1,0,0,0,1]):=by
  have h:Shd 1 (P [1,0,0,0,1]) (P [2,4,6,4,1]):=fun x=>by
    rw[v_P,v_P]
    simp only[evQ,Yt]
    have e2:((2:Int):Rat)=2:=rfl
    have e4:((4:Int):Rat)=4:=rfl
    have e6:((6:Int):Rat)=6:=rfl
    have e0:((0:Int):Rat)=0:=rfl
    rw[e2,e4,e6,e0]
    grind
  refine h.back.irr ?_
  refine Qp8 (n:=4) Qr3 (by decide) (by decide) (by decide) (fun i hi=> ?_) (by decide)
  match i,hi with
  |0,_=>decide
  |1,_=>decide
  |2,_=>decide
  |3,_=>decide
theorem Qnr:Qbb [0,0,-4,-4] [([0,1],2),([1,1],1)]:=by
  have hn: ∀x∈[(([0,1]:List Int),2),([1,1],1)],Nrm x.1:=fun x hx=>by
    rcases List.mem_cons.1 hx with rfl|hx
    · exact⟨by decide,by decide,by decide⟩
    rcases List.mem_cons.1 hx with rfl|hx
    · exact⟨by decide,by decide,by decide⟩
    cases hx
  refine Qns (u:= -4) hn (fun x hx=>QbV ?_) (fun x hx=> ?_) (by decide) (by decide) (QP.eq fun x=> ?_)
  · rw[Yj]
    rcases List.mem_cons.1 hx with rfl|hx
    · decide
    rcases List.mem_cons.1 hx with rfl|hx
    · decide
    cases hx
  · rcases List.mem_cons.1 hx with rfl|hx
    · decide
    rcases List.mem_cons.1 hx with rfl|hx
    · decide
    cases hx
  · simp only[ZO,Xq,QfY,v_K,v_P,evQ,Yt]
    rw[show(1:QP).v x=1 from by rw[←Qcw,v_P];simp only[evQ,Yt];grind]
    have e4:((-4:Int):Rat)= -4:=rfl
    have e0:((0:Int):Rat)=0:=rfl
    rw[e4,e0]
    grind
theorem QqQ:Yc [0,0,-4,-4]= -4:=by decide
theorem QsM{p:Nat}(hp:Xk p){a b:Int}(l:List Int)(ha: ¬(p:Int)∣a)(hb: ¬(p:Int)∣b):(Xa ((b*(p:Int)::l.map fun x=>x*(p:Int))++[a])).length=l.length+2∧Irr (P ((b*(p:Int)::l.map fun x=>x*(p:Int))++[a])):=by
  have ha0:a≠0:=fun e=>ha (by rw[e];exact Int.dvd_zero _)
  have ht:Xa ((b*(p:Int)::l.map fun x=>x*(p:Int))++[a])=(b*(p:Int)::l.map fun x=>x*(p:Int))++[a]:=XU ZM _ a (by simp [ZM,ha0])
  have hn:(Xa ((b*(p:Int)::l.map fun x=>x*(p:Int))++[a])).length=l.length+1+1:=by rw[ht];simp
  refine⟨hn,Qp8 hp hn (by omega) ?_ (fun i hi=> ?_) ?_⟩
  · have :co ((b*(p:Int)::l.map fun x=>x*(p:Int))++[a]) (l.length+1)=a:=by
      simp only[co,List.getD]
      rw[List.getElem?_append_right (by simp)]
      simp
    rw[this];exact ha
  · have :co ((b*(p:Int)::l.map fun x=>x*(p:Int))++[a]) i=co ((b::l).map fun x=>x*(p:Int)) i:=by
      simp only[co,List.getD]
      rw[List.getElem?_append_left (by simp;omega)]
      rfl
    rw[this]
    simp only[co,List.getD,List.getElem?_map]
    cases(b::l)[i]? with
    |none=>exact Int.dvd_zero _
    |some x=>exact Int.dvd_mul_left _ _
  · show ¬(p:Int)*p∣b*p
    intro h
    exact hb (Int.dvd_of_mul_dvd_mul_right (by have :=hp.1;omega) h)
theorem QjX{n:Nat}{l:List Nat}(hl:l=[2,3,5,7,11,13]):Xk (l.getD (n % 6) 0)∧l.getD (n % 6) 0≤13:=by
  subst hl
  have h: ∀k,k<6→(2≤[2,3,5,7,11,13].getD k 0∧ ∀a,a<[2,3,5,7,11,13].getD k 0→0<a→Nat.gcd a ([2,3,5,7,11,13].getD k 0)=1)∧[2,3,5,7,11,13].getD k 0≤13:=by decide
  have⟨⟨h1,h2⟩,h3⟩:=h (n % 6) (Nat.mod_lt _ (by decide))
  exact⟨⟨h1,fun a h0 h=>h2 a h h0⟩,h3⟩
end Go.Gx
