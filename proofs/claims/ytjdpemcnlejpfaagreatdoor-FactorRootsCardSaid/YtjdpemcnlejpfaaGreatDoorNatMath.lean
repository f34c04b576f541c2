/-
  NatMath, NatMath2, IntMath, VbMath, Laws3, PolyPreds, PolyMath, PolyMath2, DivMath
-/
import Derived.Test.YtjdpemcnlejpfaaGreatDoorCore
import Derived.Laws.Strings
import Derived.Scope
set_option linter.all false
namespace Go.Gx
theorem Qer{P:List Nat}{k c c' X x s:Nat}(h:val P+BS^k*c=X)(hl:P.length=k)(hs:s+BS*c'=x+c):val (P++[s])+BS^ (k+1)*c'=X+BS^k*x:=by
  rw[YQ,hl,Nat.pow_succ,Nat.mul_assoc,Nat.add_assoc,←Nat.mul_add,hs,Nat.mul_add,←h]
  omega
theorem Yh(ds:List Nat){k:Nat}(h:ds.length≤k):val (ds.take k)=val ds:=by rw[List.take_of_length_le h]
theorem Qcb{P a b:List Nat}{k c c' s:Nat}(h:val P+BS^k*c=val (a.take k)+val (b.take k))(hl:P.length=k)(hs:s+4294967296*c'=a.getD k 0+b.getD k 0+c):
    val (P++[s])+BS^ (k+1)*c'=val (a.take (k+1))+val (b.take (k+1)):=by
  replace hs:s+BS*c'=a.getD k 0+b.getD k 0+c:=hs
  rw[Qer h hl hs,YZ,YZ,Nat.mul_add]
  omega
theorem YL{P:List Nat}{s:Nat}(h: ∀d∈P,d<BS)(hs:s<4294967296): ∀d∈P++[s],d<BS:=by
  intro d hd
  rcases List.mem_append.1 hd with h1|h1
  · exact h d h1
  · simp at h1;subst h1;exact hs
theorem QcK{P:List Nat}{m:Nat}(h: ∀d∈P,d<BS): ∀d∈P++List.replicate m 0,d<BS:=by
  intro d hd
  rcases List.mem_append.1 hd with h1|h1
  · exact h d h1
  · have :=List.eq_of_mem_replicate h1;subst this;decide
theorem Qsm{P a b:List Nat}{c:Nat}{n:Nat}(h:val P+BS^n*c=val (a.take n)+val (b.take n))(hl:P.length=n)(ha:a.length≤n)(hb:b.length≤n):val (P++[c])=val a+val b:=by
  rw[YQ,hl,h,Yh a ha,Yh b hb]
theorem Qlf{P a b:List Nat}{k c c' s:Nat}(h:val P+val (b.take k)=val (a.take k)+BS^k*c)(hl:P.length=k)(hs:s+b.getD k 0+c=a.getD k 0+4294967296*c'):
    val (P++[s])+val (b.take (k+1))=val (a.take (k+1))+BS^ (k+1)*c':=by
  replace hs:s+b.getD k 0+c=a.getD k 0+BS*c':=hs
  rw[YQ,hl,YZ,YZ,Nat.pow_succ,Nat.mul_assoc]
  have e:BS^k*(s+b.getD k 0+c)=BS^k*(a.getD k 0+BS*c'):=by rw[hs]
  rw[Nat.mul_add,Nat.mul_add,Nat.mul_add] at e
  omega
theorem Qt5{P a b:List Nat}{c n:Nat}(h:val P+val (b.take n)=val (a.take n)+BS^n*c)(hl:P.length=n)(hlt: ∀d∈P,d<BS)(ha:a.length≤n)(hb:b.length≤n)(hle:val b≤val a):val P=val a -val b:=by
  rw[Yh a ha,Yh b hb] at h
  have h1:=Za P hlt
  rw[hl] at h1
  rcases Nat.eq_zero_or_pos c with h0|h0
  · subst h0;simp at h;omega
  · have :BS^n*1≤BS^n*c:=Nat.mul_le_mul_left _ h0
    omega
theorem ZJ{P:List Nat}{m m' k s:Nat}(hk:P.length=k)(hm:m=m'+1):(P++List.replicate m 0).set k s=(P++[s])++List.replicate m' 0:=by
  subst hk hm
  rw[Qqj P (m'+1) s (by omega)]
  simp
theorem QkA{P:List Nat}{m k s:Nat}(hk:P.length=k)(hm:m=1):(P++List.replicate m 0).set k s=P++[s]:=by
  subst hm
  rw[ZJ (m':=0) hk rfl];simp
theorem Qch{x y:Nat}(hx:x<4294967296)(hy:y<4294967296):x*y≤18446744065119617025:=by
  have :=Nat.mul_le_mul (Nat.le_sub_one_of_lt hx) (Nat.le_sub_one_of_lt hy)
  simpa using this
theorem Qku{a b:List Nat}(hl:a.length=b.length)(h: ∀j,a.getD j 0=b.getD j 0):a=b:=by
  apply List.ext_getElem hl
  intro i h1 h2
  have :=h i
  simpa [List.getD,h1,h2] using this
theorem Yg(a:List Nat){k:Nat}(hk:k≤a.length):val a=val (a.take k)+BS^k*val (a.drop k):=by
  have :=val_append (a.take k) (a.drop k)
  rw[List.take_append_drop,List.length_take,Nat.min_eq_left hk] at this
  exact this
theorem QgD{a b:List Nat}{k:Nat}(hl:a.length=b.length)(ha: ∀d∈a,d<BS)(heq: ∀j,k≤j→a.getD j 0=b.getD j 0)(hk:0<k)(hkl:k≤a.length)(hlt:a.getD (k -1) 0<b.getD (k -1) 0):val a<val b:=by
  obtain⟨i,rfl⟩: ∃i,k=i+1:=⟨k -1,by omega⟩
  simp only[Nat.add_sub_cancel] at hlt
  have hd:a.drop (i+1)=b.drop (i+1):=by
    apply Qku (by simp [hl])
    intro j
    have :=heq (i+1+j) (by omega)
    simpa [List.getD,List.getElem?_drop] using this
  rw[Yg a hkl,Yg b (k:=i+1) (by omega),hd,YZ,YZ]
  have h1:val (a.take i)<BS^ (a.take i).length:=Za _ fun d hd=>ha d (List.mem_of_mem_take hd)
  rw[List.length_take,Nat.min_eq_left (by omega)] at h1
  have h2:BS^i*(a.getD i 0+1)≤BS^i*b.getD i 0:=Nat.mul_le_mul_left _ hlt
  rw[Nat.mul_add,Nat.mul_one] at h2
  omega
theorem Qaf{a b:List Nat}(ha: ∀d∈a,d<BS)(hb:Canon isZ b)(h:a.length<b.length):val a<val b:=by
  rcases Xw b with h0| ⟨k,x,rfl⟩
  · subst h0;simp at h
  · have hx:isZ x=false:=Yp.1 hb
    have h1:=Za a ha
    rw[YQ]
    simp at h
    have h2:BS^a.length≤BS^k.length:=Nat.pow_le_pow_right (by decide) (by omega)
    have h3:x≠0:=by intro e;subst e;simp [isZ] at hx
    have h4:BS^k.length*1≤BS^k.length*x:=Nat.mul_le_mul_left _ (by omega)
    omega
theorem QsP{a b:List Nat}{k:Nat}(h: ∀j,k≤j→a.getD j 0=b.getD j 0)(h1:a.getD (k -1) 0=b.getD (k -1) 0): ∀j,k -1≤j→a.getD j 0=b.getD j 0:=by
  intro j hj
  rcases Nat.lt_or_ge j k with hl|hl
  · have :j=k -1:=by omega
    subst this;exact h1
  · exact h j hl
theorem QuU{a b:List Nat}{n:Nat}(ha:a.length≤n)(hb:b.length≤n): ∀j,n≤j→a.getD j 0=b.getD j 0:=by
  intro j hj
  rw[QaR ha j hj,QaR hb j hj]
theorem QgN{a b:List Nat}(ha: ∀d∈a,d<BS)(hb: ∀d∈b,d<BS)(ca:Canon isZ a)(cb:Canon isZ b)(h:val a=val b):a=b:=by
  have hl:a.length=b.length:=by
    rcases Nat.lt_trichotomy a.length b.length with h1|h1|h1
    · have :=Qaf ha cb h1;omega
    · exact h1
    · have :=Qaf hb ca h1;omega
  clear ca cb
  induction a generalizing b with
  |nil=>cases b with |nil=>rfl|cons x b=>simp at hl
  |cons d a ih=>
    cases b with
    |nil=>simp at hl
    |cons x b=>
      simp only[val] at h
      have h1:d<4294967296:=ha d (by simp)
      have h2:x<4294967296:=hb x (by simp)
      have h3:d+4294967296*val a=x+4294967296*val b:=h
      have e1:d=x:=by omega
      subst e1
      have e2:=ih (b:=b) (fun y hy=>ha y (by simp [hy])) (fun y hy=>hb y (by simp [hy])) (by omega) (by simpa using hl)
      rw[e2]
theorem Qd5{a b:List Nat}(ha: ∀d∈a,d<BS)(hb:Canon isZ b)(h:val b≤val a):b.length≤a.length:=by
  rcases Nat.lt_or_ge a.length b.length with h1|h1
  · have :=Qaf ha hb h1;omega
  · exact h1
theorem Qco(P:List Nat)(m:Nat):val (P++List.replicate m 0)=val P:=by
  induction m with
  |zero=>simp
  |succ m ih=>
    rw[List.replicate_succ',←List.append_assoc,QbF,ih]
theorem Qth{R Q Z:List Nat}{k:Nat}(hR:R.length=k)(hk:k<Q.length):(R++Q.drop k++Z).getD k 0=Q.getD k 0:=by
  subst hR
  simp only[List.getD,List.append_assoc]
  rw[List.getElem?_append_right (Nat.le_refl _),Nat.sub_self,List.getElem?_append_left (by simp;omega),List.getElem?_drop]
  simp
theorem Qti{R Q Z:List Nat}{k s:Nat}(hR:R.length=k)(hk:k<Q.length):(R++Q.drop k++Z).set k s=(R++[s])++Q.drop (k+1)++Z:=by
  subst hR
  rw[List.append_assoc,List.set_append_right _ _ (Nat.le_refl _),Nat.sub_self,List.drop_eq_getElem_cons hk,List.cons_append,List.set_cons_zero]
  simp
theorem Qqz{R Q b:List Nat}{i j c c' x s:Nat}(h:val R+BS^ (i+j)*c=val (Q.take (i+j))+BS^i*(x*val (b.take j)))(hR:R.length=i+j)(hs:s+4294967296*c'=Q.getD (i+j) 0+x*b.getD j 0+c):
    val (R++[s])+BS^ (i+j+1)*c'=val (Q.take (i+j+1))+BS^i*(x*val (b.take (j+1))):=by
  have e:=Qer (x:=Q.getD (i+j) 0+x*b.getD j 0) h hR (by rw[show BS*c'=4294967296*c' from rfl];omega)
  rw[e,YZ,YZ,Nat.mul_add,Nat.mul_add x,Nat.mul_add (BS^i)]
  have e2:BS^ (i+j)*(x*b.getD j 0)=BS^i*(x*(BS^j*b.getD j 0)):=by
    rw[Nat.pow_add]
    rw[Nat.mul_assoc,Nat.mul_left_comm (BS^j) x]
  omega
theorem Qn4{q x y c s c':Nat}(hq:q<4294967296)(hx:x<4294967296)(hy:y<4294967296)(hc:c<4294967296)(h:s+4294967296*c'=q+x*y+c):c'<4294967296:=by
  have :=Qch hx hy
  omega
theorem Qtm{R Q a b:List Nat}{i nb c:Nat}(h:val R+BS^ (i+nb)*c=val (Q.take (i+nb))+BS^i*(a.getD i 0*val (b.take nb)))(hR:R.length=i+nb)(hQ:Q.length≤i+nb)(hb:b.length≤nb)(hv:val Q=val (a.take i)*val b):
    val (R++[c])=val (a.take (i+1))*val b:=by
  rw[YQ,hR,h,Yh Q hQ,Yh b hb,hv,YZ,Nat.add_mul,Nat.mul_assoc]
theorem Qqy{Q a b:List Nat}{i:Nat}(hx:a.getD i 0=0)(hv:val Q=val (a.take i)*val b):val (Q++[0])=val (a.take (i+1))*val b:=by
  rw[QbF,hv,YZ,hx];simp
theorem QqY{m m':Nat}(h:m=m'+1):([0]:List Nat)++List.replicate m' 0=List.replicate m 0:=by subst h;rfl
theorem Qdw(m:Nat):val (List.replicate m 0)=0:=by
  have :=Qco [] m
  simpa [val] using this
theorem QtJ{R Q:List Nat}{k t m m' s:Nat}(hR:R.length=k)(hj:k=Q.length)(ht:t=k)(hm:m=m'+1):(R++Q.drop k++List.replicate m 0).set t s=(R++[s])++List.replicate m' 0:=by
  subst ht
  rw[List.drop_of_length_le (by omega),List.append_nil]
  exact ZJ hR hm
end Go.Gx
namespace Go.Gx
theorem Qhy{U P Z:List Nat}{o k t:Nat}(hU:U.length=o)(hP:P.length=k)(hk:k<Z.length)(ht:t=o+k):(U++(P++Z.drop k)).getD t 0=Z.getD k 0:=by
  subst hU hP ht
  simp only[List.getD]
  rw[List.getElem?_append_right (by omega),Nat.add_sub_cancel_left,List.getElem?_append_right (Nat.le_refl _),Nat.sub_self,List.getElem?_drop,Nat.add_zero]
theorem QdV{U P Z:List Nat}{o k t s:Nat}(hU:U.length=o)(hP:P.length=k)(hk:k<Z.length)(ht:t=o+k):(U++(P++Z.drop k)).set t s=U++((P++[s])++Z.drop (k+1)):=by
  subst hU hP ht
  rw[List.set_append_right _ _ (by omega),Nat.add_sub_cancel_left,List.set_append_right _ _ (Nat.le_refl _),Nat.sub_self,List.drop_eq_getElem_cons hk,List.set_cons_zero]
  simp
theorem QrS{U P Z:List Nat}{k:Nat}(h: ∀d∈U++Z,d<BS)(hP: ∀d∈P,d<BS): ∀d∈U++(P++Z.drop k),d<BS:=by
  intro d hd
  rcases List.mem_append.1 hd with h1|h1
  · exact h d (by simp [h1])
  · rcases List.mem_append.1 h1 with h2|h2
    · exact hP d h2
    · exact h d (by simp [List.mem_of_mem_drop h2])
theorem QlA{P Z x:List Nat}{k n:Nat}(h:val P+BS^k*0=val (Z.take k)+val (x.take k))(hP:P.length=k)(hZ:Z.length=n)(hk:k≤n)(hx:x.length≤k):val (P++Z.drop k)+BS^n*0=val Z+val x:=by
  rw[val_append,hP,Yg Z (k:=k) (by omega)]
  rw[Yh x hx] at h
  omega
theorem Qlz{P Z x:List Nat}{k n c:Nat}(h:val P+BS^k*c=val (Z.take k)+val (x.take k))(hP:P.length=k)(hZ:Z.length=n)(hk:k=n)(hx:x.length≤k):val (P++Z.drop k)+BS^n*c=val Z+val x:=by
  subst hk
  rw[List.drop_of_length_le (by omega),List.append_nil,h,Yh x hx,Yh Z (by omega)]
theorem Qbm{a:List Nat}(ca:Canon isZ a){k:Nat}(h:val a<BS^k):a.length≤k:=by
  rcases Nat.lt_or_ge k a.length with h1|h1
  · rcases Xw a with h0| ⟨l,x,rfl⟩
    · subst h0;simp at h1
    · have hx:isZ x=false:=Yp.1 ca
      have h3:x≠0:=by intro e;subst e;simp [isZ] at hx
      rw[YQ] at h
      simp at h1
      have h2:BS^k≤BS^l.length:=Nat.pow_le_pow_right (by decide) (by omega)
      have h4:BS^l.length*1≤BS^l.length*x:=Nat.mul_le_mul_left _ (by omega)
      omega
  · exact h1
theorem QdR{a b:List Nat}(ha: ∀d∈a,d<BS)(hb: ∀d∈b,d<BS):val a*val b<BS^ (a.length+b.length):=by
  rw[Nat.pow_add]
  exact Nat.mul_lt_mul'' (Za a ha) (Za b hb)
theorem QlU{a b lo hi r:List Nat}{h c n z:Nat}(ha:h≤a.length)(hlt: ∀d∈a,d<BS)(hbt: ∀d∈b,d<BS)(hn:n=a.length+b.length)(hlo:val lo=val (a.take h)*val b)(hhi:val hi=val (a.drop h)*val b)
    (hll:h≤lo.length)(hz:lo.length+z=n)(hr:r.length=n -h)(he:val r+BS^ (n -h)*c=val ((lo++List.replicate z 0).drop h)+val hi):val ((lo++List.replicate z 0).take h++r)=val a*val b:=by
  have hlen:(lo++List.replicate z 0).length=n:=by simp;omega
  have hs:=Yg (lo++List.replicate z 0) (k:=h) (by omega)
  rw[Qco] at hs
  have hab:val a*val b=val lo+BS^h*val hi:=by
    rw[Yg a ha,Nat.add_mul,hlo,hhi,Nat.mul_assoc]
  have hlt2:=QdR hlt hbt
  rw[←hn] at hlt2
  rw[val_append,List.length_take,Nat.min_eq_left (by omega)]
  generalize val ((lo++List.replicate z 0).take h)=L at *
  generalize val ((lo++List.replicate z 0).drop h)=H at *
  have hp:BS^n=BS^h*BS^ (n -h):=by rw[←Nat.pow_add];congr 1;omega
  rcases Nat.eq_zero_or_pos c with h0|h0
  · subst h0
    have :val r=H+val hi:=by simpa using he
    rw[this,Nat.mul_add,hab]
    omega
  · exfalso
    have h1:BS^ (n -h)*1≤BS^ (n -h)*c:=Nat.mul_le_mul_left _ h0
    have h2:BS^h*BS^ (n -h)≤BS^h*(H+val hi):=Nat.mul_le_mul_left _ (by omega)
    rw[Nat.mul_add] at h2
    omega
theorem Qqp{a0 a1 b0 b1 m s lo hi:Nat}(hm:m=(a0+a1)*(b0+b1))(hlo:lo=a0*b0)(hhi:hi=a1*b1)(hs:s=m -(lo+hi)):s=a0*b1+a1*b0:=by
  subst hm hlo hhi
  rw[hs,Nat.add_mul,Nat.mul_add,Nat.mul_add]
  omega
theorem Qtb{a0 a1 b0 b1:Nat}:a0*b0+a1*b1≤(a0+a1)*(b0+b1):=by
  rw[Nat.add_mul,Nat.mul_add,Nat.mul_add];omega
theorem Qkx{a b X a0 a1 b0 b1:Nat}(ha:a=a0+X*a1)(hb:b=b0+X*b1):a*b=a0*b0+X*(a0*b1+a1*b0)+X*X*(a1*b1):=by
  subst ha hb
  simp only[Nat.add_mul,Nat.mul_add,Nat.mul_assoc,Nat.mul_left_comm,Nat.mul_comm]
  omega
theorem Qjz{a b:List Nat}{h n m:Nat}(ha:h≤a.length)(hb:h≤b.length)(hlt: ∀d∈a,d<BS)(hbt: ∀d∈b,d<BS)(hn:n=a.length+b.length)
    (hm:m=val (a.take h)*val (b.drop h)+val (a.drop h)*val (b.take h)):m<BS^ (n -h):=by
  have h1:=Qkx (Yg a ha) (Yg b hb)
  have h2:=QdR hlt hbt
  rw[←hn,h1,←hm] at h2
  have hp:BS^n=BS^h*BS^ (n -h):=by rw[←Nat.pow_add];congr 1;omega
  rw[hp] at h2
  rcases Nat.lt_or_ge m (BS^ (n -h)) with h3|h3
  · exact h3
  · exfalso
    have h4:BS^h*BS^ (n -h)≤BS^h*m:=Nat.mul_le_mul_left _ h3
    omega
theorem QnG{a b lo hi r:List Nat}{h c n m:Nat}(ha:h≤a.length)(hb:h≤b.length)(hlt: ∀d∈a,d<BS)(hbt: ∀d∈b,d<BS)(hn:n=a.length+b.length)
    (hlo:val lo=val (a.take h)*val (b.take h))(hhi:val hi=val (a.drop h)*val (b.drop h))(hm:m=val (a.take h)*val (b.drop h)+val (a.drop h)*val (b.take h))
    (hll:lo.length=h+h)(hhl:hi.length=n -(h+h))(hr:r.length=n -h)(he:val r+BS^ (n -h)*c=val ((lo++hi).drop h)+m):val ((lo++hi).take h++r)=val a*val b:=by
  have h2n:h+h≤n:=by omega
  have hs:=Yg (lo++hi) (k:=h) (by simp;omega)
  rw[val_append,hll,Nat.pow_add] at hs
  have hab:=Qkx (Yg a ha) (Yg b hb)
  rw[←hm,←hlo,←hhi] at hab
  have hlt2:=QdR hlt hbt
  rw[←hn] at hlt2
  rw[val_append,List.length_take,Nat.min_eq_left (by simp;omega)]
  generalize val ((lo++hi).take h)=L at *
  generalize val ((lo++hi).drop h)=H at *
  have hp:BS^n=BS^h*BS^ (n -h):=by rw[←Nat.pow_add];congr 1;omega
  rcases Nat.eq_zero_or_pos c with h0|h0
  · subst h0
    have :val r=H+m:=by simpa using he
    rw[this,Nat.mul_add,hab]
    omega
  · exfalso
    have h1:BS^ (n -h)*1≤BS^ (n -h)*c:=Nat.mul_le_mul_left _ h0
    have h2:BS^h*BS^ (n -h)≤BS^h*(H+m):=Nat.mul_le_mul_left _ (by omega)
    rw[Nat.mul_add] at h2
    omega
theorem QlI{lo:List Nat}{n m:Nat}(h:lo.length=m)(hm:m≤n):(List.replicate n 0).take 0++lo++(List.replicate n 0).drop (0+m)=lo++List.replicate (n -m) 0:=by
  simp
theorem Qjm{lo hi:List Nat}{k m t:Nat}(hk:lo.length=k)(hh:hi.length=m)(ht:t=k):(lo++List.replicate m 0).take t++hi++(lo++List.replicate m 0).drop (t+m)=lo++hi:=by
  subst ht hk hh
  simp
theorem Qdb{a b:List Nat}(ha: ∀d∈a,d<BS)(hb: ∀d∈b,d<BS): ∀d∈a++b,d<BS:=by
  intro d hd
  rcases List.mem_append.1 hd with h|h
  · exact ha d h
  · exact hb d h
theorem Qey{a b:List Nat}(h: ∀d∈a++b,d<BS): ∀d∈b,d<BS:=fun d hd=>h d (by simp [hd])
theorem QnR{a:List Nat}{k:Nat}(h: ∀d∈a,d<BS): ∀d∈a.take k,d<BS:=fun d hd=>h d (List.mem_of_mem_take hd)
end Go.Gx
namespace Go.Gx
def Qux(g:Bool)(d:List Nat):Prop:=Canon isZ d∧(g=true→d≠ [])
def Qru(x y:Int):Int:=if x<y then -1 else if y<x then 1 else 0
theorem Quj{d:List Nat}(cn:Canon isZ d)(h:d≠ []):0<val d:=by
  rcases Xw d with h0| ⟨k,x,rfl⟩
  · exact absurd h0 h
  · have hx:isZ x=false:=Yp.1 cn
    have h3:x≠0:=by intro e;subst e;simp [isZ] at hx
    rw[YQ]
    have h4:0<BS^k.length*x:=Nat.mul_pos (Nat.pow_pos (by decide)) (by omega)
    omega
theorem Qmo(g:Bool)(d:List Nat):(Qul g d=val d)∨(Qul g d= -(val d:Int)):=by cases g<;>simp [Qul]
theorem Zi(x y:Int):(Qru x y= -1∧x<y)∨(Qru x y=0∧x=y)∨(Qru x y=1∧y<x):=by
  unfold Qru
  rcases Int.lt_trichotomy x y with h|h|h
  · simp [h]
  · simp [h]
  · simp [h,Int.not_lt.2 (Int.le_of_lt h)]
theorem Quq(g:Bool)(d:List Nat):val d=(Qul g d).natAbs:=by rcases Qmo g d with h|h<;>omega
end Go.Gx
namespace Go.Gx
def vb(b:Nat):List Nat→Nat
  | []=>0
  |d::ds=>d+b*vb b ds
theorem Qpk(ds:List Nat):vb 4294967296 ds=val ds:=by
  induction ds with
  |nil=>rfl
  |cons d ds ih=>simp only[vb,val,ih]
section
variable{B:Nat}
theorem QiZ(a b:List Nat):vb B (a++b)=vb B a+B^a.length*vb B b:=by
  induction a with
  |nil=>simp [vb]
  |cons d a ih=>simp only[List.cons_append,vb,ih,List.length_cons,Nat.pow_succ];rw[Nat.mul_add,←Nat.mul_assoc,Nat.mul_comm (B^a.length) B,Nat.add_assoc]
theorem Qj5(a:List Nat)(d:Nat):vb B (a++[d])=vb B a+B^a.length*d:=by
  rw[QiZ];simp [vb]
theorem Qi0(a:List Nat):vb B (a++[0])=vb B a:=by rw[Qj5];simp
theorem Quk(ds:List Nat):vb B (YK ds)=vb B ds:=by
  have h: ∀(m:Nat)(l:List Nat),l.length=m→vb B (YK l)=vb B l:=by
    intro m
    induction m with
    |zero=>intro l hl;simp [List.eq_nil_of_length_eq_zero hl,trimB]
    |succ m ih=>
      intro l hl
      rcases Xw l with h0| ⟨l',y,rfl⟩
      · subst h0;simp at hl
      · cases hy:isZ y with
        |true=>
          have :y=0:=by simpa [isZ] using hy
          subst this
          show vb B (trimB isZ _)=_
          rw[YV isZ l' 0 hy,Qi0]
          exact ih l' (by simpa using hl)
        |false=>
          show vb B (trimB isZ _)=_
          rw[XU isZ l' y hy]
  exact h _ ds rfl
theorem Qmm: ∀(ds:List Nat),(∀d∈ds,d<B)→vb B ds<B^ds.length
  | [],_=>by simp [vb]
  |d::ds,h=>by
    have h1:=h d (by simp)
    have h2:=Qmm ds fun x hx=>h x (by simp [hx])
    simp only[vb,List.length_cons,Nat.pow_succ]
    have h3:B*(vb B ds+1)≤B*B^ds.length:=Nat.mul_le_mul_left _ h2
    rw[Nat.mul_comm (B^ds.length) B]
    have :B*(vb B ds+1)=B*vb B ds+B:=by rw[Nat.mul_add,Nat.mul_one]
    omega
theorem Qpj(a:List Nat):vb B a=a.getD 0 0+B*vb B a.tail:=by cases a<;>simp [vb]
theorem Qsa(ds:List Nat)(h: ∀d∈ds,d<B)(q:Nat):vb B ds/B^q=vb B (ds.drop q):=by
  rcases Nat.lt_or_ge q ds.length with hq|hq
  · have e:=QiZ (B:=B) (ds.take q) (ds.drop q)
    rw[List.take_append_drop,List.length_take,Nat.min_eq_left (by omega)] at e
    have h1:vb B (ds.take q)<B^q:=by
      have :=Qmm (ds.take q) fun d hd=>h d (List.mem_of_mem_take hd)
      rwa [List.length_take,Nat.min_eq_left (by omega)] at this
    rw[e,Nat.add_mul_div_left _ _ (by omega),Nat.div_eq_of_lt h1,Nat.zero_add]
  · rw[List.drop_of_length_le hq]
    have h1:=Qmm ds h
    rcases Nat.eq_zero_or_pos B with h0|h0
    · subst h0
      have :ds=[]:=by
        cases ds with
        |nil=>rfl
        |cons d ds=>have :=h d (by simp);omega
      subst this;simp [vb]
    · exact Nat.div_eq_of_lt (Nat.lt_of_lt_of_le h1 (Nat.pow_le_pow_right h0 hq))
theorem QgM{ds:List Nat}(hc:Canon isZ ds)(h:ds≠ [])(h0:0<B):B^ (ds.length -1)≤vb B ds:=by
  rcases Xw ds with h1| ⟨k,x,rfl⟩
  · exact absurd h1 h
  · have hx:=Yp.1 hc
    have hx0:x≠0:=by intro e;subst e;simp [isZ] at hx
    rw[Qj5]
    have :B^k.length*1≤B^k.length*x:=Nat.mul_le_mul_left _ (by omega)
    simp
    omega
theorem QmB{ds:List Nat}{m:Nat}(hc:Canon isZ ds)(h1:1<B)(h:vb B ds<B^m):ds.length≤m:=by
  rcases Nat.lt_or_ge m ds.length with hm|hm
  · have h2:=QgM hc (by intro e;subst e;simp at hm) (by omega:0<B)
    have h3:B^m≤B^ (ds.length -1):=Nat.pow_le_pow_right (by omega) (by omega)
    omega
  · exact hm
theorem Qf1{ds:List Nat}(hc:Canon isZ ds)(h0:0<B)(h:vb B ds=0):ds=[]:=by
  rcases List.eq_nil_or_concat ds with h1| ⟨k,x,h1⟩
  · exact h1
  · have :=QgM hc (by rw[h1];simp) h0
    have h2:0<B^ (ds.length -1):=Nat.pow_pos h0
    omega
end
end Go.Gx
namespace Go.Gx
end Go.Gx
namespace Go.Gx
end Go.Gx
namespace Go.Gx
end Go.Gx
namespace Go.Gx
open Go.RowKit
def bl8(x:Nat):Nat:=if x=0 then 0 else if x<2 then 1 else if x<4 then 2 else if x<8 then 3 else if x<16 then 4 else if x<32 then 5 else if x<64 then 6 else if x<128 then 7 else 8
def QwU(s:ByteArray):Bool:=s.size==256&& (List.range 256).all fun i=>(s.data.getD i 0).toNat==bl8 i
section
variable{P:Program}{n:Nat}{e:Nat→Value}{w:World}{ty:TypeId}{pos:String}{af:Array Edge}{gd:Option (Nat×Bool)}
theorem QwB{d:Option Nat}{t:TypeId}{x y:Operand}{s:ByteArray}{k:IntKind}{z:Int}(i:Nat)(ht:P.underlying t=some .string)(hx:ev n e x= .string s)(hs:QwU s=true)(hy:ev n e y= .int k z)(hz:z=(i:Int))(hi:i<256):
    Ev P n e ⟨d,.index t x y,ty,pos,af,gd⟩ w (.int .u8 ((bl8 i:Nat):Int)):=by
  unfold QwU at hs
  simp only[Bool.and_eq_true,beq_iff_eq,List.all_eq_true,List.mem_range] at hs
  have h1:=hs.2 i hi
  have hlt:i<s.size:=by rw[hs.1];exact hi
  have h2:(s[i]'hlt).toNat=bl8 i:=by
    rw[←h1]
    show(s.data[i]'hlt).toNat=_
    have :i<s.data.size:=hlt
    have e0:s.data.getD i 0=s.data[i]:=by unfold Array.getD;rw[dif_pos this];rfl
    rw[e0]
  have hr:=run_index_string (P:=P) w t s k z ht
  rw[dif_pos ⟨by omega,by rw[hz];exact_mod_cast hlt⟩] at hr
  have e3:z.toNat=i:=by omega
  simp only[Ev,execOp,hx,hy,hr,Sem.run_bind,Result.andThen_ok]
  subst hz
  simp [h2]
theorem Qod(a b s:Nat)(hb:b<2^s):2^s*a|||b=2^s*a+b:=(Nat.two_pow_add_eq_or_of_lt hb a).symm
theorem Qu1{d:Option Nat}{t t':TypeId}{x y:Operand}{a b c:Nat}(hx:ev n e x= .int .u64 (a:Int))(hy:ev n e y= .int .u64 (b:Int))(ha:a<18446744073709551616)(hb:b<18446744073709551616)(hc:a|||b=c):
    Ev P n e ⟨d,.binOp .or t x y t',ty,pos,af,gd⟩ w (.int .u64 (c:Int)):=by
  have e1:(Op.intBits .or .u64 (a:Int) (b:Int))=pure (.int .u64 (IntKind.u64.wrap ((BitVec.ofInt 64 (a:Int)|||BitVec.ofInt 64 (b:Int)).toNat:Int))):=rfl
  have e2:(BitVec.ofInt 64 (a:Int)|||BitVec.ofInt 64 (b:Int)).toNat=c:=by
    have h1:BitVec.ofInt 64 (a:Int)=BitVec.ofNat 64 a:=by simp
    have h2:BitVec.ofInt 64 (b:Int)=BitVec.ofNat 64 b:=by simp
    rw[h1,h2,BitVec.toNat_or,BitVec.toNat_ofNat,BitVec.toNat_ofNat,Nat.mod_eq_of_lt ha,Nat.mod_eq_of_lt hb,hc]
  have hlt:c<18446744073709551616:=by rw[←e2];exact BitVec.isLt _
  rw[e2,Qur (z:=(c:Int)) ⟨rfl,by omega,by omega⟩] at e1
  simp only[Ev,execOp,hx,hy,eqGuard,binOp,e1]
  simp
theorem QsX{d:Option Nat}{t t':TypeId}{x y:Operand}{a b c:Nat}(hx:ev n e x= .int .u32 (a:Int))(hy:ev n e y= .int .u32 (b:Int))(ha:a<4294967296)(hb:b<4294967296)(hc:a|||b=c):
    Ev P n e ⟨d,.binOp .or t x y t',ty,pos,af,gd⟩ w (.int .u32 (c:Int)):=by
  have h:=QrI (P:=P) (w:=w) (d:=d) (t:=t) (t':=t') (ty:=ty) (pos:=pos) (af:=af) (gd:=gd) hx hy
  have e2:(BitVec.ofNat 32 a|||BitVec.ofNat 32 b).toNat=c:=by
    rw[BitVec.toNat_or,BitVec.toNat_ofNat,BitVec.toNat_ofNat,Nat.mod_eq_of_lt ha,Nat.mod_eq_of_lt hb,hc]
  rw[e2] at h
  exact h
end
theorem QtR{a b:Int}{x s:Nat}(ha:a=(x:Int))(hb:b=(s:Int))(hs:s≤64)(hx:x*2^s<18446744073709551616):IntKind.u64.wrap (a*2^ (min b.toNat IntKind.u64.bits))=((x*2^s:Nat):Int):=by
  subst ha hb
  have e:min (s:Int).toNat IntKind.u64.bits=s:=by rw[Int.toNat_natCast];exact Nat.min_eq_left hs
  rw[e]
  exact Qur ⟨by simp,by omega,by omega⟩
end Go.Gx
namespace Go.Gx
section
variable{Q:Exit→Act→World→Prop}{a:Act}{w:World}
end
end Go.Gx
namespace Go.Gx
section
variable{P:Program}{n:Nat}{e:Nat→Value}{w:World}{ty:TypeId}{pos:String}{af:Array Edge}{gd:Option (Nat×Bool)}
end
end Go.Gx
namespace Go.Gx
open Go.RowKit
variable{dfs:List Deferred}
structure RI where
  neg:Bool
  A:Option Addr
  n:Nat
  c:Nat
  d:List Nat
def RI.cells(r:RI):List Value:=[.bool r.neg,.slice r.A r.n r.c]
def RI.z(r:RI):Int:=Qul r.neg r.d
def RI.zero:RI:=⟨false,none,0,0,[]⟩
def RI.isZ(r:RI):Bool:=decide (r.z=0)
def ZT(l:List RI):List Value:=l.flatMap RI.cells
abbrev zs(l:List RI):List Int:=l.map RI.z
abbrev co(f:List Int)(i:Nat):Int:=f.getD i 0
def ZM(x:Int):Bool:=decide (x=0)
abbrev Xa(l:List Int):List Int:=trimB ZM l
theorem Qcc(l:List RI):(ZT l).length=l.length*2:=by
  induction l with
  |nil=>rfl
  |cons r l ih=>simp only[ZT,List.flatMap_cons,List.length_append,List.length_cons] at ih⊢;rw[ih];simp [RI.cells];omega
theorem Qcy(r:RI)(l:List RI):ZT (r::l)= .bool r.neg:: .slice r.A r.n r.c::ZT l:=by simp [ZT,RI.cells]
theorem Qje(l:List RI): ∀k,ZT (l.take k)=(ZT l).take (k*2):=by
  induction l with
  |nil=>intro k;simp [ZT]
  |cons r l ih=>
    intro k
    cases k with
    |zero=>simp [ZT]
    |succ k=>rw[List.take_succ_cons,Qcy,Qcy,ih,show(k+1)*2=k*2+1+1 by omega];simp
theorem Qf3{l:List RI}: ∀{i:Nat}{r:RI},l[i]? =some r→(ZT l)[i*2]? =some (.bool r.neg)∧(ZT l)[i*2+1]? =some (.slice r.A r.n r.c):=by
  induction l with
  |nil=>intro i r h;simp at h
  |cons x l ih=>
    intro i r h
    rw[Qcy]
    cases i with
    |zero=>simp at h;subst h;simp
    |succ i=>
      simp at h
      have :=ih h
      rw[show(i+1)*2=i*2+1+1 by omega]
      simpa using this
def Qbt(w:World)(S:Nat→Prop)(M:Nat)(l:List RI):Prop:= ∀r∈l,Qay w S r.A r.n r.c r.d∧r.n≤M
section alln
variable{w w':World}{S S' G:Nat→Prop}{M M':Nat}{l l':List RI}
theorem Qbt.frm(h:Qbt w S M l)(f:Frm G w w')(hd: ∀b,S b→ ¬G b):Qbt w' S M l:=fun r hr=>⟨(h r hr).1.frm f hd,(h r hr).2⟩
theorem Qbt.frmB(h:Qbt w S M l)(f:Frm G w w')(hd: ∀b,b<w.heap.size→S b→ ¬G b):Qbt w' S M l:=fun r hr=>⟨(h r hr).1.frmB f hd,(h r hr).2⟩
theorem Qbt.t(h:Qbt w S M l)(f:Frm G w w':=by exact zrd)(hd: ∀b,b<w.heap.size→S b→ ¬G b:=by exact zq6):Qbt w' S M l:=h.frmB f hd
theorem Qbt.ext(h:Qbt w S M l)(f:Ext w w'):Qbt w' S M l:=fun r hr=>⟨(h r hr).1.ext f,(h r hr).2⟩
theorem Qbt.sub(h:Qbt w S M l)(hs: ∀b,b<w.heap.size→S b→S' b):Qbt w S' M l:=fun r hr=>⟨(h r hr).1.sub hs,(h r hr).2⟩
theorem Qbt.le(h:Qbt w S M l)(hm:M≤M'):Qbt w S M' l:=fun r hr=>⟨(h r hr).1,Nat.le_trans (h r hr).2 hm⟩
theorem Qbt.nil:Qbt w S M []:=fun r hr=>by cases hr
theorem Qbt.app(h:Qbt w S M l)(h':Qbt w S M l'):Qbt w S M (l++l'):=fun x hx=>by
  rcases List.mem_append.1 hx with h1|h1
  · exact h x h1
  · exact h' x h1
theorem Qbt.set{r:RI}{i:Nat}(h:Qbt w S M l)(hn:Qay w S r.A r.n r.c r.d)(hm:r.n≤M):Qbt w S M (l.set i r):=fun x hx=>by
  rcases List.mem_or_eq_of_mem_set hx with h1|h1
  · exact h x h1
  · subst h1;exact⟨hn,hm⟩
theorem Qbt.take(h:Qbt w S M l)(k:Nat):Qbt w S M (l.take k):=fun x hx=>h x (List.mem_of_mem_take hx)
theorem Qbt.drop(h:Qbt w S M l)(k:Nat):Qbt w S M (l.drop k):=fun x hx=>h x (List.mem_of_mem_drop hx)
end alln
def Yk(w:World)(S:Nat→Prop)(A:Option Addr)(n c:Nat)(l:List RI)(M:Nat):Prop:=Rd w S A n c 2 (ZT l)∧Qbt w S M l
section polyr
variable{w w':World}{S S' G:Nat→Prop}{A:Option Addr}{n c M M':Nat}{l:List RI}
theorem Yk.frm(h:Yk w S A n c l M)(f:Frm G w w')(hd: ∀b,S b→ ¬G b):Yk w' S A n c l M:=⟨h.1.frm f hd,h.2.frm f hd⟩
theorem Yk.frmB(h:Yk w S A n c l M)(f:Frm G w w')(hd: ∀b,b<w.heap.size→S b→ ¬G b):Yk w' S A n c l M:=⟨h.1.frmB f hd,h.2.frmB f hd⟩
theorem Yk.t(h:Yk w S A n c l M)(f:Frm G w w':=by exact zrd)(hd: ∀b,b<w.heap.size→S b→ ¬G b:=by exact zq6):Yk w' S A n c l M:=h.frmB f hd
theorem Yk.ext(h:Yk w S A n c l M)(f:Ext w w'):Yk w' S A n c l M:=⟨h.1.ext f,h.2.ext f⟩
theorem Yk.sub(h:Yk w S A n c l M)(hs: ∀b,b<w.heap.size→S b→S' b):Yk w S' A n c l M:=⟨h.1.sub hs,h.2.sub hs⟩
theorem Yk.low(h:Yk w S A n c l M):Yk w (· <w.heap.size) A n c l M:=h.sub fun _ hb _=>hb
theorem Yk.le(h:Yk w S A n c l M)(hm:M≤M'):Yk w S A n c l M':=⟨h.1,h.2.le hm⟩
theorem Yk.nil:Yk w S none 0 0 [] M:=⟨Rd.nil,Qbt.nil⟩
theorem Yk.len(h:Yk w S A n c l M):l.length=n:=by have :=h.1.1;rw[Qcc] at this;omega
theorem Yk.cap(h:Yk w S A n c l M):n≤c:=h.1.2.1
theorem Yk.max(h:Yk w S A n c l M):c≤9223372036854775807:=h.1.2.2.1
theorem Yk.base(h:Yk w S A n c l M)(hn:0<n): ∃b off,A=some ⟨b,off,none⟩:=h.1.base hn
theorem Yk.take{m:Nat}(h:Yk w S A n c l M)(hm:m≤n):Yk w S A m c (l.take m) M:=by
  refine⟨?_,h.2.take m⟩
  have :=h.1.take hm
  rw[←Qje] at this
  exact this
theorem Yk.at_{b off i:Nat}(h:Yk w S (some ⟨b,off,none⟩) n c l M)(hi:i<n):
    ∃neg A' n' c' d',l[i]? =some ⟨neg,A',n',c',d'⟩∧w.cell? ⟨b,off+i*2,none⟩=some (.bool neg)∧w.cell? ⟨b,off+i*2+1,none⟩=some (.slice A' n' c')∧Qay w S A' n' c' d'∧n'≤M∧S b∧b<w.heap.size∧Qul neg d'=co (zs l) i:=by
  have hl:i<l.length:=by rw[h.len];exact hi
  obtain⟨r,hr⟩: ∃r,l[i]? =some r:=⟨_,List.getElem?_eq_getElem hl⟩
  obtain⟨neg,A',n',c',d'⟩:=r
  have hc:=Qf3 hr
  have hm:=h.2 _ (List.mem_of_getElem? hr)
  obtain⟨b',off',e,hS,hb,_⟩:=h.1.2.2.2 (by omega)
  injection e with e
  injection e with e1 e2
  subst e1 e2
  refine⟨neg,A',n',c',d',hr,h.1.cell hc.1,h.1.cell hc.2,hm.1,hm.2,hS,hb,?_⟩
  simp [List.getD,List.getElem?_map,hr,RI.z]
theorem Yk.of_blk{g:Nat}{t:TypeId}(h:Blk w g t (ZT l))(ha:Qbt w S M l)(hS:S g)(hl:l.length=n)(hc:n≤c)(hm:c≤Qax):Yk w S (some ⟨g,0,none⟩) n c l M:=
  ⟨Rd.of_blk h hS (by rw[Qcc,hl]) hc hm,ha⟩
end polyr
theorem Blk.int{w:World}{g:Nat}{t:TypeId}{l:List RI}{i:Nat}(h:Blk w g t (ZT l))(hi:i<l.length): ∃neg A' n' c' d',l[i]? =some ⟨neg,A',n',c',d'⟩∧w.cell? ⟨g,i*2,none⟩=some (.bool neg)∧w.cell? ⟨g,i*2+1,none⟩=some (.slice A' n' c')∧Qul neg d'=co (zs l) i:=by
  obtain⟨r,hr⟩: ∃r,l[i]? =some r:=⟨_,List.getElem?_eq_getElem hi⟩
  obtain⟨neg,A',n',c',d'⟩:=r
  have hc:=Qf3 hr
  exact⟨neg,A',n',c',d',hr,h.at_ hc.1,h.at_ hc.2,by simp [List.getD,List.getElem?_map,hr,RI.z]⟩
section
variable{P:Program}{n:Nat}{e:Nat→Value}{w:World}{K:Act→World→Prop}{Q:Exit→Act→World→Prop}{ty:TypeId}{pos:String}{af:Array Edge}{gd:Option (Nat×Bool)}
end
theorem QcS{l:List Int}{n:Nat}(h:l.length≤n): ∀j,n≤j→l.getD j 0=0:=by
  intro j hj;simp [List.getD,List.getElem?_eq_none (by omega:l.length≤j)]
def YR(w:World)(S:Nat→Prop)(A:Option Addr)(n c:Nat)(xs:List Int):Prop:=Rd w S A n c 1 (xs.map (Value.int .i64))∧ ∀x∈xs,-9223372036854775808≤x∧x≤9223372036854775807
section intsr
variable{w w':World}{S S' G:Nat→Prop}{A:Option Addr}{n c:Nat}{xs:List Int}
theorem YR.frmB(h:YR w S A n c xs)(f:Frm G w w')(hd: ∀b,b<w.heap.size→S b→ ¬G b):YR w' S A n c xs:=⟨h.1.frmB f hd,h.2⟩
theorem YR.t(h:YR w S A n c xs)(f:Frm G w w':=by exact zrd)(hd: ∀b,b<w.heap.size→S b→ ¬G b:=by exact zq6):YR w' S A n c xs:=h.frmB f hd
theorem YR.ext(h:YR w S A n c xs)(f:Ext w w'):YR w' S A n c xs:=⟨h.1.ext f,h.2⟩
theorem YR.sub(h:YR w S A n c xs)(hs: ∀b,b<w.heap.size→S b→S' b):YR w S' A n c xs:=⟨h.1.sub hs,h.2⟩
theorem YR.low(h:YR w S A n c xs):YR w (· <w.heap.size) A n c xs:=⟨h.1.low,h.2⟩
theorem YR.nil:YR w S none 0 0 []:=⟨Rd.nil,by simp⟩
theorem YR.len(h:YR w S A n c xs):xs.length=n:=by have :=h.1.1;simpa using this
theorem YR.cap(h:YR w S A n c xs):n≤c:=h.1.2.1
theorem YR.max(h:YR w S A n c xs):c≤9223372036854775807:=h.1.2.2.1
theorem YR.base(h:YR w S A n c xs)(hn:0<n): ∃b off,A=some ⟨b,off,none⟩:=h.1.base hn
theorem YR.cell{b off:Nat}(h:YR w S (some ⟨b,off,none⟩) n c xs){i:Nat}(hi:i<n):w.cell? ⟨b,off+i,none⟩=some (.int .i64 (xs.getD i 0)):=by
  refine h.1.cell ?_
  have hl:i<xs.length:=by rw[h.len];exact hi
  simp [List.getElem?_map,List.getElem?_eq_getElem hl]
theorem YR.of_blk{g:Nat}{t:TypeId}(h:Blk w g t (xs.map (Value.int .i64)))(hS:S g)(hd: ∀x∈xs,-9223372036854775808≤x∧x≤9223372036854775807)(hl:xs.length=n)(hc:n≤c)(hm:c≤Qax):YR w S (some ⟨g,0,none⟩) n c xs:=
  ⟨Rd.of_blk h hS (by simpa using hl) hc hm,hd⟩
end intsr
end Go.Gx
namespace Go.Gx
def Ye(F:Nat→Int):Nat→Int
  |0=>0
  |n+1=>Ye F n+F n
theorem YA(F:Nat→Int)(n:Nat):Ye F (n+1)=Ye F n+F n:=rfl
theorem Xt{F G:Nat→Int}: ∀{n:Nat},(∀i,i<n→F i=G i)→Ye F n=Ye G n
  |0,_=>rfl
  |n+1,h=>by rw[Ye,Ye,Xt fun i hi=>h i (by omega),h n (by omega)]
theorem XQ{F:Nat→Int}{n:Nat}(h: ∀i,i<n→F i=0):Ye F n=0:=by
  induction n with
  |zero=>rfl
  |succ n ih=>rw[Ye,ih fun i hi=>h i (by omega),h n (by omega)];rfl
theorem Qb3{F:Nat→Int}{n m:Nat}(hm:n≤m)(h: ∀i,n≤i→i<m→F i=0):Ye F m=Ye F n:=by
  induction m with
  |zero=>
      have :n=0:=by omega
      subst this;rfl
  |succ m ih=>
    rcases Nat.lt_or_ge n (m+1) with h1|h1
    · rw[Ye,ih (by omega) fun i h2 h3=>h i h2 (by omega),h m (by omega) (by omega)];omega
    · have :n=m+1:=by omega
      subst this;rfl
theorem Qcl(F G:Nat→Int)(n:Nat):Ye (fun i=>F i+G i) n=Ye F n+Ye G n:=by
  induction n with
  |zero=>rfl
  |succ n ih=>simp only[Ye,ih];omega
theorem Qhv(c:Int)(F:Nat→Int)(n:Nat):Ye (fun i=>c*F i) n=c*Ye F n:=by
  induction n with
  |zero=>simp [Ye]
  |succ n ih=>simp only[Ye,ih,Int.mul_add]
theorem QdU(c:Int)(F:Nat→Int)(n:Nat):Ye (fun i=>F i*c) n=Ye F n*c:=by
  induction n with
  |zero=>simp [Ye]
  |succ n ih=>simp only[Ye,ih,Int.add_mul]
theorem ZQ(F:Nat→Int)(n:Nat):Ye F (n+1)=F 0+Ye (fun i=>F (i+1)) n:=by
  induction n with
  |zero=>simp [Ye]
  |succ n ih=>rw[Ye,ih,Ye];omega
theorem Qk8(F:Nat→Int): ∀(n:Nat),Ye F n=Ye (fun i=>F (n -1 -i)) n
  |0=>rfl
  |n+1=>by
    rw[ZQ fun i=>F (n+1 -1 -i),Ye,Qk8 F n]
    simp only[Nat.add_sub_cancel,Nat.sub_zero]
    rw[Xt (G:=fun i=>F (n -(i+1))) fun i hi=>by congr 1;omega]
    omega
theorem XX{f:List Int}{i:Nat}(h:f.length≤i):co f i=0:=QcS (Nat.le_refl _) i h
def YB(f g:Nat→Int)(k:Nat):Int:=Ye (fun i=>f i*g (k -i)) (k+1)
abbrev conv(f g:List Int)(k:Nat):Int:=YB (co f) (co g) k
def Xx(f g:List Int):List Int:=(List.range (max f.length g.length)).map fun i=>co f i+co g i
def XD(f g:List Int):List Int:=(List.range (max f.length g.length)).map fun i=>co f i -co g i
def Xg(f g:List Int):List Int:=if f.length=0∨g.length=0 then [] else(List.range (f.length+g.length -1)).map fun k=>conv f g k
theorem ZA{F:Nat→Int}{n i:Nat}:co ((List.range n).map F) i=if i<n then F i else 0:=by
  simp only[co,List.getD,List.getElem?_map,List.getElem?_range']
  by_cases h:i<n
  · rw[List.getElem?_range h];simp [h]
  · rw[List.getElem?_eq_none (by simp;omega)];simp [h]
theorem Xv(f g:List Int)(i:Nat):co (Xx f g) i=co f i+co g i:=by
  rw[Xx,ZA]
  split
  · rfl
  · rw[XX (f:=f) (by omega),XX (f:=g) (by omega)];rfl
theorem ZG(f g:List Int)(i:Nat):co (XD f g) i=co f i -co g i:=by
  rw[XD,ZA]
  split
  · rfl
  · rw[XX (f:=f) (by omega),XX (f:=g) (by omega)];rfl
theorem QpP{f g:List Int}{k:Nat}(h:f.length+g.length≤k+1)(h0:f.length≠0∨g.length≠0∨True):conv f g k=0:=by
  refine XQ fun i hi=> ?_
  rcases Nat.lt_or_ge i f.length with h1|h1
  · rw[XX (f:=g) (i:=k -i) (by omega),Int.mul_zero]
  · rw[XX h1,Int.zero_mul]
theorem Xp(f g:List Int)(k:Nat):co (Xg f g) k=conv f g k:=by
  unfold Xg
  split
  · rename_i h
    rcases h with h|h
    · have :f=[]:=List.eq_nil_of_length_eq_zero h
      subst this
      refine(XQ fun i _=> ?_).symm
      simp
    · have :g=[]:=List.eq_nil_of_length_eq_zero h
      subst this
      refine(XQ fun i _=> ?_).symm
      simp
  · rename_i h
    rw[ZA]
    split
    · rfl
    · exact(QpP (by omega) (.inr (.inr trivial))).symm
theorem Xo(f:List Int)(i:Nat):co (Xa f) i=co f i:=by
  have h: ∀(m:Nat)(f:List Int),f.length=m→ ∀i,co (Xa f) i=co f i:=by
    intro m
    induction m with
    |zero=>intro l hl i;simp [List.eq_nil_of_length_eq_zero hl,trimB]
    |succ m ih=>
      intro l hl i
      rcases Xw l with h0| ⟨l',y,rfl⟩
      · subst h0;simp at hl
      · cases hy:ZM y with
        |true=>
          show co (trimB ZM _) i=_
          rw[YV _ _ _ hy]
          have h1:=ih l' (by simpa using hl) i
          rw[show co (trimB ZM l') i=co l' i from h1]
          have :y=0:=by simpa [ZM] using hy
          subst this
          simp only[co,List.getD]
          rcases Nat.lt_trichotomy i l'.length with h2|h2|h2
          · rw[List.getElem?_append_left h2]
          · subst h2;simp
          · rw[List.getElem?_eq_none (by omega),List.getElem?_eq_none (by simp;omega)]
        |false=>
          show co (trimB ZM _) i=_
          rw[XU _ _ _ hy]
  exact h _ f rfl i
theorem Qrw{f g:List Int}(hf:Canon ZM f)(hg:Canon ZM g)(h: ∀i,co f i=co g i):f=g:=by
  have key: ∀{f g:List Int},Canon ZM f→(∀i,co f i=co g i)→f.length≤g.length:=by
    intro f g hf h
    rcases Xw f with h0| ⟨k,x,rfl⟩
    · subst h0;simp
    · have hx:ZM x=false:=Yp.1 hf
      have h1:=h k.length
      rcases Nat.lt_or_ge k.length g.length with h2|h2
      · simp;omega
      · rw[XX h2] at h1
        simp [co,List.getD] at h1
        subst h1;simp [ZM] at hx
  have hl:f.length=g.length:=Nat.le_antisymm (key hf h) (key hg fun i=>(h i).symm)
  apply List.ext_getElem hl
  intro i h1 h2
  have :=h i
  simpa [co,List.getD,h1,h2] using this
theorem YP{f g:List Int}(h: ∀i,co f i=co g i):Xa f=Xa g:=
  Qrw (Xs _ _) (Xs _ _) fun i=>by rw[Xo,Xo,h]
theorem QmX(f g:List Int)(k:Nat):conv (Xa f) (Xa g) k=conv f g k:=by
  refine Xt fun i _=> ?_
  rw[Xo,Xo]
theorem Yo{f g:List Int}(hf:f.length≠0)(hg:g.length≠0):(Xg f g).length=f.length+g.length -1:=by
  unfold Xg
  rw[if_neg (by omega)]
  simp
theorem Ql7{f g:List Int}(hf:Canon ZM f)(hg:Canon ZM g):Canon ZM (Xg f g):=by
  by_cases h0:f.length=0∨g.length=0
  · unfold Xg;rw[if_pos h0];exact QcX _
  · rcases Xw f with h1| ⟨f',x,rfl⟩
    · subst h1;simp at h0
    · rcases Xw g with h2| ⟨g',y,rfl⟩
      · subst h2;simp at h0
      · have hx:ZM x=false:=Yp.1 hf
        have hy:ZM y=false:=Yp.1 hg
        have hx':x≠0:=by simpa [ZM] using hx
        have hy':y≠0:=by simpa [ZM] using hy
        have hlen:(Xg (f'++[x]) (g'++[y])).length=f'.length+g'.length+1:=by rw[Yo (by simp) (by simp)];simp;omega
        rcases Xw (Xg (f'++[x]) (g'++[y])) with h3| ⟨p,z,h3⟩
        · rw[h3] at hlen;simp at hlen
        · rw[h3,Yp]
          have hp:p.length=f'.length+g'.length:=by rw[h3] at hlen;simpa using hlen
          have hz:z=conv (f'++[x]) (g'++[y]) (f'.length+g'.length):=by
            rw[←Xp,h3]
            simp [co,List.getD,←hp]
          have hc:conv (f'++[x]) (g'++[y]) (f'.length+g'.length)=x*y:=by
            unfold conv YB
            rw[Qb3 (n:=f'.length+1) (by omega) fun i h4 h5=>by rw[XX (by simp;omega),Int.zero_mul]]
            rw[Ye,XQ fun i hi=>by rw[XX (f:=g'++[y]) (by simp;omega),Int.mul_zero]]
            simp [co,List.getD]
          rw[hz,hc]
          simp [ZM,hx',hy']
theorem QqA(f g:List Int):Xg (Xa f) (Xa g)=Xa (Xg f g):=
  Qrw (Ql7 (Xs _ _) (Xs _ _)) (Xs _ _) fun i=>by rw[Xp,QmX,Xo,Xp]
theorem Qgb(f g:Nat→Int)(k:Nat):YB f g k=YB g f k:=by
  unfold YB
  rw[Qk8]
  refine Xt fun i hi=> ?_
  rw[show k+1 -1 -i=k -i by omega,show k -(k -i)=i by omega,Int.mul_comm]
theorem QbA{f f' g g':Nat→Int}{k:Nat}(hf: ∀i,f i=f' i)(hg: ∀i,g i=g' i):YB f g k=YB f' g' k:=
  Xt fun i _=>by rw[hf,hg]
theorem tri(F:Nat→Nat→Int): ∀(k:Nat),Ye (fun i=>Ye (fun j=>F i j) (k -i+1)) (k+1)=Ye (fun s=>Ye (fun i=>F i (s -i)) (s+1)) (k+1)
  |0=>rfl
  |k+1=>by
    have e1:Ye (fun i=>Ye (fun j=>F i j) (k+1 -i+1)) (k+1+1)=Ye (fun i=>Ye (fun j=>F i j) (k -i+1)) (k+1)+Ye (fun i=>F i (k+1 -i)) (k+1+1):=by
      rw[YA _ (k+1),YA (fun i=>F i (k+1 -i)) (k+1)]
      rw[Xt (G:=fun i=>Ye (fun j=>F i j) (k -i+1)+F i (k+1 -i)) fun i hi=>by
        rw[show k+1 -i+1=(k -i+1)+1 by omega,YA,show k -i+1=k+1 -i by omega]]
      rw[Qcl,Nat.sub_self]
      simp only[Ye]
      omega
    rw[e1,tri F k,←YA (fun s=>Ye (fun i=>F i (s -i)) (s+1)) (k+1)]
theorem Qjk(f g h:Nat→Int)(k:Nat):YB f (fun i=>YB g h i) k=YB (fun i=>YB f g i) h k:=by
  have e1:YB f (fun i=>YB g h i) k=Ye (fun i=>Ye (fun j=>f i*(g j*h (k -i -j))) (k -i+1)) (k+1):=by
    unfold YB
    refine Xt fun i _=> ?_
    rw[←Qhv]
  have e2:YB (fun i=>YB f g i) h k=Ye (fun s=>Ye (fun i=>f i*(g (s -i)*h (k -s))) (s+1)) (k+1):=by
    unfold YB
    refine Xt fun s _=> ?_
    rw[←QdU]
    refine Xt fun i _=> ?_
    rw[Int.mul_assoc]
  rw[e1,tri fun i j=>f i*(g j*h (k -i -j)),e2]
  refine Xt fun s hs=>Xt fun i hi=> ?_
  rw[show k -i -(s -i)=k -s by omega]
end Go.Gx
namespace Go.Gx
theorem QsB{f g:List Int}{k i:Nat}(hi:i=k+1 -g.length):(0:Int)=Ye (fun t=>co f t*co g (k -t)) i:=
  (XQ fun t ht=>by rw[XX (f:=g) (i:=k -t) (by omega),Int.mul_zero]).symm
theorem QpQ{f g:List Int}{k i:Nat}{x:Int}(h:x=Ye (fun t=>co f t*co g (k -t)) i)(hi:i≤k+1)(hx: ¬((i:Int)≤((min k (f.length -1):Nat):Int))):x=conv f g k:=by
  rw[h]
  refine(Qb3 hi fun t h1 h2=> ?_).symm
  rw[XX (f:=f) (by omega),Int.zero_mul]
theorem QqJ{f g:List Int}(hf:f.length≠0)(hg:g.length≠0){N:Nat}(hN:N=f.length+g.length -1):(List.range N).map (fun k=>conv f g k)=Xg f g:=by
  subst hN
  unfold Xg
  rw[if_neg (by omega)]
def YT(f g:List Int):Nat→Int
  |0=>0
  |k+1=>if co f k=co g k then YT f g k else Qru (co f k) (co g k)
def Qbv(f g:List Int):Int:=if f.length<g.length then -1 else if g.length<f.length then 1 else YT f g f.length
theorem QeS{f g:List Int}{k:Nat}{X:Int}(h:X=YT f g k)(hk:0<k)(he:co f (k -1)=co g (k -1)):X=YT f g (k -1):=by
  obtain⟨i,rfl⟩: ∃i,k=i+1:=⟨k -1,by omega⟩
  simp only[Nat.add_sub_cancel] at he⊢
  rw[h,YT,if_pos he]
theorem QcA{f g:List Int}{k:Nat}{X:Int}(h:X=YT f g k)(hk:0<k)(he:co f (k -1)≠co g (k -1)):X=Qru (co f (k -1)) (co g (k -1)):=by
  obtain⟨i,rfl⟩: ∃i,k=i+1:=⟨k -1,by omega⟩
  simp only[Nat.add_sub_cancel] at he⊢
  rw[h,YT,if_neg he]
theorem QhU{x y:Int}:Qru x y=0↔x=y:=by
  have :=Zi x y;omega
theorem QeT{f g:List Int}: ∀{k:Nat},YT f g k=0↔ ∀i,i<k→co f i=co g i
  |0=>by simp [YT]
  |k+1=>by
    rw[YT]
    split
    · rename_i h
      rw[QeT]
      constructor
      · intro h1 i hi
        rcases Nat.lt_or_ge i k with h2|h2
        · exact h1 i h2
        · have :i=k:=by omega
          subst this;exact h
      · intro h1 i hi;exact h1 i (by omega)
    · rename_i h
      rw[QhU]
      exact⟨fun h1=>absurd h1 h,fun h1=>absurd (h1 k (by omega)) h⟩
theorem Qag{f g:List Int}:Qbv f g=0↔f=g:=by
  unfold Qbv
  split
  · rename_i h;constructor
    · intro h1;omega
    · intro h1;subst h1;omega
  · split
    · rename_i h;constructor
      · intro h1;omega
      · intro h1;subst h1;omega
    · rw[QeT]
      constructor
      · intro h
        apply List.ext_getElem (by omega)
        intro i h1 h2
        have :=h i h1
        simpa [co,List.getD,h1,h2] using this
      · intro h;subst h;intros;rfl
theorem QmJ{f g:List Int}(h:f.length<g.length):(-1:Int)=Qbv f g:=by simp [Qbv,h]
theorem QmI{f g:List Int}(h:g.length<f.length):(1:Int)=Qbv f g:=by simp [Qbv,h,Nat.lt_asymm h]
theorem QmH{f g:List Int}(h:f.length=g.length){n:Nat}(hn:f.length=n):Qbv f g=YT f g n:=by
  subst hn;simp [Qbv,h]
end Go.Gx
namespace Go.Gx
theorem Qq2{x:Int}{f g:List Int}(h:x=Qbv f g):decide (x=0)=decide (f=g):=by
  by_cases hf:f=g
  · rw[h,Qag.2 hf];simp [hf]
  · simp [h,Qag,hf]
end Go.Gx
namespace Go.Gx
theorem YH{f f' g g':List Int}{k:Nat}(hf: ∀i,co f i=co f' i)(hg: ∀i,co g i=co g' i):conv f g k=conv f' g' k:=QbA hf hg
end Go.Gx
namespace Go.Gx
def Qi8(l:List RI):Prop:= ∀r∈l,Qux r.neg r.d
theorem Qux.zero:Qux false []:=⟨QcX _,fun h=>by cases h⟩
theorem Qi8.nil:Qi8 []:=fun r hr=>by cases hr
theorem Qi8.app{l l':List RI}(h:Qi8 l)(h':Qi8 l'):Qi8 (l++l'):=fun x hx=>by
  rcases List.mem_append.1 hx with h1|h1
  · exact h x h1
  · exact h' x h1
theorem Qi8.trim{l:List RI}(h:Qi8 l):Qi8 (trimB RI.isZ l):=fun x hx=>h x (Qb7 _ _ hx)
theorem Qi8.set{l:List RI}{i:Nat}{r:RI}(h:Qi8 l)(hr:Qux r.neg r.d):Qi8 (l.set i r):=fun x hx=>by
  rcases List.mem_or_eq_of_mem_set hx with h1|h1
  · exact h x h1
  · subst h1;exact hr
end Go.Gx
namespace Go.Gx
theorem QaU{F:Nat→Int}{n j:Nat}(hj:j<n)(h: ∀i,i<n→i≠j→F i=0):Ye F n=F j:=by
  induction n with
  |zero=>omega
  |succ n ih=>
    rw[YA]
    by_cases e:n=j
    · subst e
      rw[XQ fun i hi=>h i (by omega) (by omega)];omega
    · rw[ih (by omega) fun i hi hne=>h i (by omega) hne,h n (by omega) e];omega
def Xf(f:List Int)(c:Int):List Int:=f.map (· *c)
def Xn(f:List Int):List Int:=(List.range (f.length -1)).map fun i=>co f (i+1)*((i+1:Nat):Int)
theorem Xi(f:List Int)(c:Int)(i:Nat):co (Xf f c) i=co f i*c:=by
  simp only[co,Xf,List.getD,List.getElem?_map]
  cases f[i]? <;>simp
theorem XZ(f:List Int)(i:Nat):co (Xn f) i=co f (i+1)*((i+1:Nat):Int):=by
  unfold Xn
  rw[ZA]
  split
  · rfl
  · rw[XX (f:=f) (i:=i+1) (by omega)];simp
theorem QbM(f:List Int)(k i:Nat):co (f.take k) i=if i<k then co f i else 0:=by
  simp only[co,List.getD,List.getElem?_take]
  split<;>rfl
theorem Qbq(f:List Int)(c:Int):(Xf f c).length=f.length:=by simp [Xf]
theorem Xe(f:List Int):(Xa f).length≤f.length:=QaV ZM f
theorem Qme{f out:List Int}{k:Nat}{c z:Int}(h:out=(f.take k).map (· *c))(hk:k<f.length)(hz:z=co f k*c):out++[z]=(f.take (k+1)).map (· *c):=by
  rw[List.take_succ_eq_append_getElem hk,List.map_append,←h,hz]
  simp [co,List.getD,hk]
def Zk(g:List Int):Nat→List Int
  |0=>[1]
  |k+1=>Xg (Zk g k) g
def pcs(f g:List Int):Nat→List Int
  |0=>[]
  |k+1=>Xx (pcs f g k) (Xf (Zk g k) (co f k))
def Yw(g:List Int):List Int→List Int
  | []=>[]
  |a::fs=>Xx (Xg (Yw g fs) g) [a]
theorem ZH(f g:List Int)(k:Nat):conv f g k=conv g f k:=Qgb _ _ k
theorem Qci{g g':List Int}(hg: ∀i,co g i=co g' i): ∀(k i:Nat),co (Zk g k) i=co (Zk g' k) i:=by
  intro k
  induction k with
  |zero=>intro i;rfl
  |succ k ih=>intro i;show co (Xg _ _) i=co (Xg _ _) i;rw[Xp,Xp];exact YH ih hg
theorem QbN(f g h:List Int)(i:Nat):conv (Xg f g) h i=conv f (Xg g h) i:=by
  show YB (co (Xg f g)) (co h) i=YB (co f) (co (Xg g h)) i
  rw[QbA (f:=co (Xg f g)) (f':=fun j=>conv f g j) (g':=co h) (fun j=>Xp f g j) fun _=>rfl,QbA (f':=co f) (g:=co (Xg g h)) (g':=fun j=>conv g h j) (fun _=>rfl) fun j=>Xp g h j]
  exact(Qjk _ _ _ i).symm
theorem Qot(g:List Int): ∀(k i:Nat),co (Xg g (Zk g k)) i=co (Zk g (k+1)) i:=fun k i=>by
  show _=co (Xg (Zk g k) g) i
  rw[Xp,Xp,ZH]
theorem QjJ(g:List Int): ∀(m i:Nat),co (Zk (Xg g g) m) i=co (Zk g (2*m)) i
  |0,i=>rfl
  |m+1,i=>by
    show co (Xg (Zk (Xg g g) m) (Xg g g)) i=co (Xg (Xg (Zk g (2*m)) g) g) i
    rw[Xp,Xp,YH (f':=Zk g (2*m)) (g':=Xg g g) (QjJ g m) fun _=>rfl,QbN]
theorem pow_odd{R S:List Int}{m:Nat}(i:Nat):co (Xg (Xg R S) (Zk S (2*m))) i=co (Xg R (Zk S (2*m+1))) i:=by
  rw[Xp,Xp,QbN]
  exact YH (fun _=>rfl) (fun j=>Qot S (2*m) j)
end Go.Gx
namespace Go.Gx
theorem Qlq{l:List Int}{k:Nat}(hk:k≤l.length)(hz: ∀j,k≤j→l.getD j 0=0)(hl:k=0∨l.getD (k -1) 0≠0):l.take k=Xa l:=by
  refine(QhJ ZM (l.length -k) l k (by omega) (fun j x hj hx=> ?_) ?_).symm
  · have :=hz j hj;simp [List.getD,hx] at this;simp [ZM,this]
  · rcases Nat.eq_zero_or_pos k with h0|h0
    · exact .inl h0
    · right
      rcases hl with hl|hl
      · omega
      · have hlt:k -1<l.length:=by omega
        refine⟨l[k-1],List.getElem?_eq_getElem hlt,?_⟩
        simp [List.getD,hlt] at hl
        simpa [ZM] using hl
def coI(f:List Int)(i:Int):Int:=if i<0 then 0 else co f i.toNat
theorem QeV(f:List Int)(k:Nat):coI f (k:Int)=co f k:=by simp only[coI];rw[if_neg (by omega),Int.toNat_natCast]
theorem QuH{f:List Int}{i:Int}(h:0≤i):co f i.toNat=coI f i:=by simp only[coI];rw[if_neg (by omega)]
theorem QmK{f:List Int}{i:Int}(h:i<0∨(f.length:Int)≤i):(0:Int)=coI f i:=by
  simp only[coI]
  split
  · rfl
  · exact(XX (by omega)).symm
end Go.Gx
namespace Go.Gx
theorem ZF{f:List Int}(h:f.length=0∨co f (f.length -1)≠0):Canon ZM f:=by
  rcases Xw f with h0| ⟨k,x,rfl⟩
  · subst h0;rfl
  · refine Yp.2 ?_
    rcases h with h|h
    · simp at h
    · have e:co (k++[x]) ((k++[x]).length -1)=x:=by simp [co,List.getD]
      rw[e] at h
      simpa [ZM] using h
theorem YG{f:List Int}(h:Canon ZM f)(hl:f.length≠0):co f (f.length -1)≠0:=by
  rcases Xw f with h0| ⟨k,x,rfl⟩
  · subst h0;simp at hl
  · have e:co (k++[x]) ((k++[x]).length -1)=x:=by simp [co,List.getD]
    rw[e]
    have :=Yp.1 h
    simpa [ZM] using this
theorem Qgd(f:List Int):(Xn f).length=f.length -1:=by simp [Xn]
theorem Qh0{f:List Int}(h:Canon ZM f):Canon ZM (Xn f):=by
  refine ZF ?_
  rw[Qgd]
  by_cases h1:f.length -1=0
  · exact .inl h1
  · right
    have h2:=YG h (by omega)
    rw[XZ,show f.length -1 -1+1=f.length -1 by omega]
    exact Int.mul_ne_zero h2 (by omega)
theorem Qge(f:List Int):Xn (Xa f)=Xa (Xn f):=by
  have h:=Qh0 (Xs ZM f)
  rw[← (h:Xa _=_)]
  refine YP fun i=> ?_
  rw[XZ,XZ,Xo]
theorem Qdg(R:List Int)(i:Nat):conv R [1] i=co R i:=by
  rw[ZH]
  unfold conv YB
  rw[QaU (j:=0) (by omega) (fun t _ hne=>by
    have :co [1] t=0:=XX (by simp;omega)
    rw[this];simp)]
  simp [co]
theorem QqL(F:List Int)(N:Nat):Xa (Xg (Xa [1]) (Zk (Xa F) N))=Xa (Zk F N):=by
  refine YP fun i=> ?_
  rw[Xp,ZH,YH (f':=Zk F N) (g':=[1]) (Qci (fun j=>Xo _ j) N) fun j=>Xo _ j,Qdg]
theorem QqN{R S T R' S':List Int}{m:Nat}(h:Xa (Xg R (Zk S m))=T)(hm:m % 2=1)(hR:R'=Xa (Xg R S))(hS:S'=Xa (Xg S S)):Xa (Xg R' (Zk S' (m/2)))=T:=by
  rw[←h,hR,hS]
  refine YP fun i=> ?_
  have e:=pow_odd (R:=R) (S:=S) (m:=m/2) i
  rw[show 2*(m/2)+1=m by omega] at e
  rw[←e,Xp,Xp]
  exact YH (fun j=>Xo _ j) (fun j=>(Qci (fun t=>Xo _ t) _ j).trans (QjJ S (m/2) j))
theorem Qor{R S T S':List Int}{m:Nat}(h:Xa (Xg R (Zk S m))=T)(hm: ¬m % 2=1)(hS:S'=Xa (Xg S S)):Xa (Xg R (Zk S' (m/2)))=T:=by
  rw[←h,hS]
  refine YP fun i=> ?_
  rw[Xp,Xp]
  refine YH (fun _=>rfl) (fun j=>(Qci (fun t=>Xo _ t) _ j).trans ?_)
  rw[QjJ,show 2*(m/2)=m by omega]
theorem QqM{R S T R':List Int}{m m':Nat}(h:Xa (Xg R (Zk S m))=T)(hm:m=1)(hm':m'=0)(hR:R'=Xa (Xg R S)):Xa (Xg R' (Zk S m'))=T:=by
  subst hm hm'
  rw[←h,hR]
  refine YP fun i=> ?_
  show co (Xg _ [1]) i=co (Xg R (Xg [1] S)) i
  rw[Xp,Qdg,Xo,Xp,Xp]
  refine YH (fun _=>rfl) (fun j=> ?_)
  rw[Xp,ZH,Qdg]
theorem pow_end{R S T:List Int}{m:Nat}(h:Xa (Xg R (Zk S m))=T)(hm:m=0)(hc:Canon ZM R):R=T:=by
  subst hm
  rw[←h]
  conv=>lhs;rw[← (hc:Xa R=R)]
  refine YP fun i=> ?_
  show _=co (Xg R [1]) i
  rw[Xp,Qdg]
theorem Qrm:Xa [1]=[1]:=by decide
end Go.Gx
namespace Go.Gx
theorem QqB(f:List Int):Xf (Xa f) (-1)=Xa (Xf f (-1)):=by
  have h:Canon ZM (Xf (Xa f) (-1)):=by
    refine ZF ?_
    rw[Qbq]
    by_cases h1:(Xa f).length=0
    · exact .inl h1
    · right
      have :=YG (Xs ZM f) h1
      rw[Xi]
      exact Int.mul_ne_zero this (by decide)
  rw[← (h:Xa _=_)]
  refine YP fun i=> ?_
  rw[Xi,Xi,Xo]
end Go.Gx
namespace Go.Gx
structure Qsj (u a b:Nat):Prop where
  sum:a+b*u≤127
  pos:1≤b
  big:b≤254
theorem Qsj.bnd{u a b:Nat}(h:Qsj u a b):a≤127∧b≤254∧(1≤b∧u≤127)∧(0<u→a+b≤127):=by
  have hub:1*u≤b*u:=Nat.mul_le_mul_right _ h.pos
  refine⟨by have :=h.sum;omega,h.big,⟨h.pos,by have :=h.sum;omega⟩,fun hu=> ?_⟩
  have h1:b*1≤b*u:=Nat.mul_le_mul_left _ hu
  have :=h.sum
  omega
theorem Qsj.start{u:Nat}(h:u≤127):Qsj u 0 1:=⟨by omega,by omega,by omega⟩
theorem Qsj.odd{u a b:Nat}(h:Qsj u a b)(hu:u % 2=1):Qsj (u/2^1) (a+b) (2*b):=by
  have h1:=h.sum
  have h2:=h.bnd.2.2.2 (by omega)
  refine⟨?_,by have :=h.pos;omega,by omega⟩
  have e:b*u=b*(2*(u/2)+1):=by rw[show 2*(u/2)+1=u by omega]
  rw[e,Nat.mul_add,Nat.mul_one,←Nat.mul_assoc,Nat.mul_comm b 2] at h1
  show a+b+2*b*(u/2)≤127
  omega
end Go.Gx
namespace Go.Gx
end Go.Gx
namespace Go.Gx
def syn(c:Int):List Int→List Int
  | []=>[]
  |a::l=>(a+c*co (syn c l) 0)::syn c l
end Go.Gx
namespace Go.Gx
theorem Qbt.cons{w:World}{S:Nat→Prop}{M:Nat}{l:List RI}{r:RI}(h:Qbt w S M l)(hn:Qay w S r.A r.n r.c r.d)(hm:r.n≤M):Qbt w S M (r::l):=fun x hx=>by
  rcases List.mem_cons.1 hx with h1|h1
  · subst h1;exact⟨hn,hm⟩
  · exact h x h1
theorem Qi8.cons{l:List RI}{r:RI}(h:Qi8 l)(hr:Qux r.neg r.d):Qi8 (r::l):=fun x hx=>by
  rcases List.mem_cons.1 hx with h1|h1
  · subst h1;exact hr
  · exact h x h1
end Go.Gx
namespace Go.Gx
end Go.Gx
namespace Go.Gx
end Go.Gx
namespace Go.Gx
def hgt:List Int→Nat
  | []=>0
  |a::l=>max a.natAbs (hgt l)
theorem QlT(a b:List Int):hgt (a++b)=max (hgt a) (hgt b):=by
  induction a with
  |nil=>simp [hgt]
  |cons x a ih=>simp only[List.cons_append,hgt,ih];omega
theorem Qqn(f:List Int){k:Nat}(hk:k<f.length):hgt (f.take (k+1))=max (hgt (f.take k)) (co f k).natAbs:=by
  rw[List.take_succ_eq_append_getElem hk,QlT]
  simp [hgt,co,List.getD,hk]
end Go.Gx
namespace Go.Gx
end Go.Gx
namespace Go.Gx
theorem Qp1{x y z:Nat}(h:x<z)(hy:y<4294967296):(x*4294967296+y)/z<4294967296:=by
  refine Nat.div_lt_of_lt_mul ?_
  have :(x+1)*4294967296≤z*4294967296:=Nat.mul_le_mul_right _ h
  omega
theorem QsF{X z q m:Nat}(hz:0<z)(hzz:z<4294967296)(hq:X/z<4294967296)(eq:q=X/z % 4294967296)(em:m=X % z % 4294967296):q*z+m=X∧m<z:=by
  have h1:=Nat.mod_lt X hz
  rw[Nat.mod_eq_of_lt hq] at eq
  rw[Nat.mod_eq_of_lt (by omega)] at em
  subst eq em
  refine⟨?_,h1⟩
  have :=Nat.div_add_mod X z
  rw[Nat.mul_comm] at this
  exact this
theorem QgK{x:Nat}(h:x<256):x<2^bl8 x∧(x=0∨2^ (bl8 x -1)≤x)∧bl8 x≤8∧(x=0∨1≤bl8 x):=by
  unfold bl8
  repeat' split
  all_goals simp
  all_goals omega
theorem Qvs{x s y n:Nat}(hy:y=x/2^s)(hlt:y<256)(h0:s=0∨y≠0)(hn:n=s+bl8 y):x<2^n∧(x=0∨2^ (n -1)≤x)∧n≤s+8:=by
  obtain⟨h1,h2,h3,h4⟩:=QgK hlt
  subst hn
  refine⟨?_,?_,by omega⟩
  · rw[Nat.pow_add]
    have :x/2^s<2^bl8 y:=by rw[←hy];exact h1
    have h5:=(Nat.div_lt_iff_lt_mul (Nat.pow_pos (by decide))).1 this
    rw[Nat.mul_comm]
    exact h5
  · rcases h2 with h2|h2
    · rcases h0 with h0|h0
      · subst h0
        left
        rw[h2] at hy
        simpa using hy.symm
      · exact absurd h2 h0
    · right
      have hb:1≤bl8 y:=by
        rcases h4 with h4|h4
        · rw[h4] at h2;simp [bl8] at h2
        · exact h4
      have e:2^ (s+bl8 y -1)=2^ (bl8 y -1)*2^s:=by rw[←Nat.pow_add];congr 1;omega
      rw[e]
      have h5:2^ (bl8 y -1)≤x/2^s:=by rw[←hy];exact h2
      exact(Nat.le_div_iff_mul_le (Nat.pow_pos (by decide))).1 h5
theorem QlV{x n r:Nat}(h0:x≠0)(h1:x<2^n)(h2:x=0∨2^ (n -1)≤x)(h3:n≤32)(hr:r=32 -n):x*2^r<4294967296∧2147483648≤x*2^r∧r≤31:=by
  have hn:1≤n:=by
    rcases Nat.eq_zero_or_pos n with h|h
    · subst h;simp at h1;omega
    · exact h
  have h4:2^ (n -1)≤x:=by rcases h2 with h|h;exact absurd h h0;exact h
  have e1:(4294967296:Nat)=2^n*2^r:=by rw[←Nat.pow_add,hr,show n+(32 -n)=32 by omega]
  have e2:(2147483648:Nat)=2^ (n -1)*2^r:=by rw[←Nat.pow_add,hr,show n -1+(32 -n)=31 by omega]
  refine⟨?_,?_,by omega⟩
  · rw[e1];exact Nat.mul_lt_mul_of_pos_right h1 (Nat.pow_pos (by decide))
  · rw[e2];exact Nat.mul_le_mul_right _ h4
theorem Qw9{d:List Nat}{n:Nat}(hl:d.length=n):(n=0→val d=0)∧(n=1→val d=d.getD 0 0)∧(n=2→val d=d.getD 1 0*4294967296+d.getD 0 0):=by
  match d,hl with
  | [],h=>simp at h;subst h;simp [val]
  | [a],h=>simp at h;subst h;simp [val]
  | [a,b],h=>simp at h;subst h;simp [val,BS];omega
  |a::b::c::d,h=>simp at h;refine⟨by omega,by omega,by omega⟩
theorem QaC{a:List Nat}{k:Nat}(hk:0<k)(hl:k≤a.length):val (a.drop (k -1))=a.getD (k -1) 0+4294967296*val (a.drop k):=by
  rw[List.drop_eq_getElem_cons (show k -1<a.length by omega),show k -1+1=k by omega]
  simp [val,List.getD,show k -1<a.length by omega]
theorem Qm8{a Q:List Nat}{k d r q r':Nat}(hk:0<k)(hl:k≤a.length)(h:val (a.drop k)=d*val Q+r)(he:q*d+r'=r*4294967296+a.getD (k -1) 0):val (a.drop (k -1))=d*val (q::Q)+r':=by
  rw[QaC hk hl,h]
  simp only[val]
  rw[Nat.mul_add,Nat.mul_add]
  have e1:d*(BS*val Q)=4294967296*(d*val Q):=by rw[Nat.mul_left_comm]
  rw[e1]
  have e2:q*d=d*q:=Nat.mul_comm _ _
  omega
theorem Qk5{L:List Nat}{m m' k r:Nat}(hm:m=m'+1)(hk:k=m'):(List.replicate m 0++L).set k r=List.replicate m' 0++(r::L):=by
  subst hm hk
  rw[List.replicate_succ',List.append_assoc,List.set_append_right _ _ (by simp)]
  simp
theorem QjE{P:List Nat}{s:Nat}(h: ∀d∈P,d<BS)(hs:s<4294967296): ∀d∈s::P,d<BS:=by
  intro d hd
  rcases List.mem_cons.1 hd with h1|h1
  · subst h1;exact hs
  · exact h d h1
end Go.Gx
namespace Go.Gx
def Qgh(a b c:Nat):Nat:=(a*4294967296+b)*4294967296+c
def Qgi(d e:Nat):Nat:=d*4294967296+e
theorem Qjp(g d e:Nat):g*Qgi d e=g*d*4294967296+g*e:=by unfold Qgi;rw[Nat.mul_add,Nat.mul_assoc]
def Qdx(a b d g r:Nat):Prop:=g*d+r=a*4294967296+b
theorem Qdx.start1{a b d s c:Nat}(ha:a=d)(hs:s+4294967296*c=b+d):Qdx a b d 4294967295 (s+4294967296*c):=by
  unfold Qdx;subst ha;omega
theorem Qdx.start2{a b d q r:Nat}(h:q*d+r=a*4294967296+b):Qdx a b d q (r+4294967296*0):=by unfold Qdx;omega
theorem Qdx.next{a b d g r s c:Nat}(h:Qdx a b d g r)(hg:0<g)(hs:s+4294967296*c=r+d):Qdx a b d (g -1) (s+4294967296*c):=by
  unfold Qdx at *
  obtain⟨j,rfl⟩: ∃j,g=j+1:=⟨g -1,by omega⟩
  rw[Nat.add_mul,Nat.one_mul] at h
  simp only[Nat.add_sub_cancel]
  omega
theorem Qdx.big{a b d g r:Nat}(h:Qdx a b d g r):(a*4294967296+b)*4294967296=g*d*4294967296+r*4294967296:=by
  unfold Qdx at h
  omega
theorem QrH{a b c d e g r:Nat}(h:Qdx a b d g r)(hle:g*e≤r*4294967296+c):g*Qgi d e≤Qgh a b c:=by
  have e:=Qdx.big h
  rw[Qjp]
  unfold Qgh
  omega
theorem Qqa{a b c d e g s:Nat}(h:Qdx a b d g (s+4294967296*1))(hg:g<4294967296)(he:e<4294967296):g*Qgi d e≤Qgh a b c:=by
  have h1:=Qch hg he
  have h2:g*e≤(s+4294967296*1)*4294967296+c:=by omega
  exact QrH h h2
theorem QuV{a b c d e g r:Nat}(h:Qdx a b d g r)(hgt:r*4294967296+c<g*e):Qgh a b c<g*Qgi d e:=by
  have hb:=Qdx.big h
  rw[Qjp]
  unfold Qgh
  rw[hb,Nat.add_assoc]
  exact Nat.add_lt_add_left hgt _
def Qlu(a b c d e g:Nat):Prop:= ∀q,q≤4294967295→q*Qgi d e≤Qgh a b c→q≤g
theorem Qlu.start1(a b c d e:Nat):Qlu a b c d e 4294967295:=fun _ h _=>h
theorem Qlu.start2{a b c d e q r:Nat}(h:q*d+r=a*4294967296+b)(hr:r<d)(hc:c<4294967296):Qlu a b c d e q:=by
  intro p _ hp
  rw[Qjp] at hp
  unfold Qgh at hp
  rcases Nat.lt_or_ge q p with h1|h1
  · exfalso
    have h2:(q+1)*d≤p*d:=Nat.mul_le_mul_right _ h1
    rw[Nat.add_mul,Nat.one_mul] at h2
    omega
  · exact h1
theorem Qlu.next{a b c d e g:Nat}(h:Qlu a b c d e g)(hn:Qgh a b c<g*Qgi d e):Qlu a b c d e (g -1):=by
  intro q hq hp
  have h1:=h q hq hp
  rcases Nat.eq_or_lt_of_le h1 with h2|h2
  · subst h2;omega
  · omega
theorem QsS{a b c d e g:Nat}(hn:Qgh a b c<g*Qgi d e):0<g:=by
  rcases Nat.eq_zero_or_pos g with h|h
  · subst h;simp at hn
  · exact h
theorem Qko{g e h l r c:Nat}(hm:l+4294967296*h=g*e)(hl:l<4294967296)(hc:c<4294967296):((h<r∨h=r∧l≤c)→g*e≤r*4294967296+c)∧(¬(h<r∨h=r∧l≤c)→r*4294967296+c<g*e):=by
  constructor<;>intro hh<;>omega
theorem QoZ{P Z v:List Nat}{k d bo cy bo' cy' s:Nat}(h:val P+d*val (v.take k)=val (Z.take k)+BS^k*(bo+cy))(hl:P.length=k)(hs:bo+cy+s+d*v.getD k 0=Z.getD k 0+4294967296*(bo'+cy')):
    val (P++[s])+d*val (v.take (k+1))=val (Z.take (k+1))+BS^ (k+1)*(bo'+cy'):=by
  rw[YQ,hl,YZ,YZ,Nat.mul_add d,Nat.pow_succ,Nat.mul_assoc]
  have e1:d*(BS^k*v.getD k 0)=BS^k*(d*v.getD k 0):=Nat.mul_left_comm _ _ _
  have e2:BS^k*(bo+cy+s+d*v.getD k 0)=BS^k*(Z.getD k 0+BS*(bo'+cy')):=by rw[hs]
  rw[Nat.mul_add,Nat.mul_add (BS^k) (bo+cy),Nat.mul_add (BS^k) (Z.getD k 0)] at e2
  rw[e1]
  omega
theorem QtX{P Z v:List Nat}{k d bo cy bo' s:Nat}(h:val P+d*val (v.take k)=val (Z.take k)+BS^k*(bo+cy))(hl:P.length=k)(hv:v.length≤k)(hs:bo+cy+s=Z.getD k 0+4294967296*bo'):
    val (P++[s])+d*val v=val (Z.take (k+1))+BS^ (k+1)*bo':=by
  have h0:v.getD k 0=0:=QaR (n:=k) hv k (Nat.le_refl _)
  have :=QoZ (bo':=bo') (cy':=0) h hl (by rw[h0];omega)
  rw[List.take_of_length_le (show v.length≤k+1 by omega)] at this
  simpa using this
end Go.Gx
namespace Go.Gx
end Go.Gx
namespace Go.Gx
theorem QsR{a b c d e g r o h l:Nat}(hI:Qdx a b d g (r+4294967296*o))(ho:o=0)(hm:l+4294967296*h=g*e)(hl:l<4294967296)(hc:c<4294967296)(ht:h<r∨h=r∧l≤c):g*Qgi d e≤Qgh a b c:=by
  subst ho
  simp only[Nat.mul_zero,Nat.add_zero] at hI
  exact QrH hI ((Qko hm hl hc).1 ht)
theorem QsQ{a b c d e g r o h l:Nat}(hI:Qdx a b d g (r+4294967296*o))(ho:o=0)(hm:l+4294967296*h=g*e)(hl:l<4294967296)(hc:c<4294967296)(ht: ¬(h<r∨h=r∧l≤c)):Qgh a b c<g*Qgi d e:=by
  subst ho
  simp only[Nat.mul_zero,Nat.add_zero] at hI
  exact QuV hI ((Qko hm hl hc).2 ht)
theorem Qnh{a b c d e g s o:Nat}(h:Qdx a b d g (s+4294967296*o))(ho:o=1)(hg:g<4294967296)(he:e<4294967296):g*Qgi d e≤Qgh a b c:=by
  subst ho;exact Qqa h hg he
theorem Qdx.next0{a b d g r s c o:Nat}(h:Qdx a b d g (r+4294967296*o))(ho:o=0)(hg:0<g)(hs:s+4294967296*c=r+d):Qdx a b d (g -1) (s+4294967296*c):=by
  subst ho
  simp only[Nat.mul_zero,Nat.add_zero] at h
  exact h.next hg hs
end Go.Gx
namespace Go.Gx
theorem QnP{x s:Nat}(hs:s≤31):x*2^s % 4294967296=2^s*(x % 2^ (32 -s)):=by
  have e:(4294967296:Nat)=2^s*2^ (32 -s):=by rw[←Nat.pow_add,show s+(32 -s)=32 by omega]
  rw[e,Nat.mul_comm x,Nat.mul_mod_mul_left]
theorem QoX{x s c:Nat}(hx:x<4294967296)(hs:s≤31)(hc:c<2^s):
    x*2^s<9223372036854775808∧c|||x*2^s % 4294967296=c+x*2^s % 4294967296∧c+x*2^s % 4294967296<4294967296∧x*2^s/4294967296<2^s∧2^s≤2147483648:=by
  have hp:(2:Nat)^s≤2147483648:=Nat.pow_le_pow_right (by decide) hs
  have h0:0<(2:Nat)^s:=Nat.pow_pos (by decide)
  have h1:x*2^s≤4294967295*2147483648:=Nat.mul_le_mul (by omega) hp
  refine⟨by omega,?_,?_,?_,hp⟩
  · rw[QnP hs,Nat.or_comm,Qod _ _ _ hc,Nat.add_comm]
  · rw[QnP hs]
    have e:(4294967296:Nat)=2^s*2^ (32 -s):=by rw[←Nat.pow_add,show s+(32 -s)=32 by omega]
    have h2:x % 2^ (32 -s)<2^ (32 -s):=Nat.mod_lt _ (Nat.pow_pos (by decide))
    have h3:2^s*(x % 2^ (32 -s)+1)≤2^s*2^ (32 -s):=Nat.mul_le_mul_left _ h2
    rw[←e,Nat.mul_add,Nat.mul_one] at h3
    omega
  · refine Nat.div_lt_of_lt_mul ?_
    exact Nat.mul_lt_mul_of_pos_right hx h0
theorem QtT{P Z:List Nat}{w k c t:Nat}(hP:P.length=k)(ht:t=w+k):(List.replicate w 0++(P++(c::Z))).getD t 0=c:=by
  subst ht
  simp only[List.getD]
  rw[List.getElem?_append_right (by simp),List.length_replicate,Nat.add_sub_cancel_left,List.getElem?_append_right (by omega),hP,Nat.sub_self]
  rfl
theorem Qq6{P Z:List Nat}{w k c t v:Nat}(hP:P.length=k)(ht:t=w+k):(List.replicate w 0++(P++(c::Z))).set t v=List.replicate w 0++(P++(v::Z)):=by
  subst ht
  rw[List.set_append_right _ _ (by simp),List.length_replicate,Nat.add_sub_cancel_left,List.set_append_right _ _ (by omega),hP,Nat.sub_self,List.set_cons_zero]
theorem Qq7{P:List Nat}{w k t m m' v h:Nat}(hP:P.length=k)(ht:t=w+(k+1))(hm:m=m'+1):(List.replicate w 0++(P++(v::List.replicate m 0))).set t h=List.replicate w 0++((P++[v])++(h::List.replicate m' 0)):=by
  subst ht hm
  rw[List.set_append_right _ _ (by simp),List.length_replicate,Nat.add_sub_cancel_left,List.set_append_right _ _ (by omega),hP,show k+1 -k=1 by omega,List.replicate_succ]
  simp
theorem Qq8{P a:List Nat}{k c c' s v:Nat}(h:val P+BS^k*c=val (a.take k)*2^s)(hl:P.length=k)(hv:v+4294967296*c'=a.getD k 0*2^s+c):val (P++[v])+BS^ (k+1)*c'=val (a.take (k+1))*2^s:=by
  rw[Qer h hl hv,YZ,Nat.add_mul,Nat.mul_assoc]
theorem QtS{P a:List Nat}{k c s w m n:Nat}(h:val P+BS^k*c=val (a.take k)*2^s)(hl:P.length=k)(ha:a.length≤k)(hm:m=0)(hn:n=32*w+s):val (List.replicate w 0++(P++(c::List.replicate m 0)))=val a*2^n:=by
  subst hm hn
  rw[val_append,Qdw,List.length_replicate,List.replicate_zero,YQ,hl,h,Yh a ha,Nat.pow_add,Nat.pow_mul,Nat.zero_add]
  show(2^32)^w*(val a*2^s)=_
  rw[Nat.mul_left_comm]
theorem Qvt{P:List Nat}{w m c:Nat}(h: ∀d∈P,d<BS)(hc:c<4294967296): ∀d∈List.replicate w 0++(P++(c::List.replicate m 0)),d<BS:=by
  intro d hd
  rcases List.mem_append.1 hd with h1|h1
  · have :=List.eq_of_mem_replicate h1;subst this;decide
  · rcases List.mem_append.1 h1 with h2|h2
    · exact h d h2
    · rcases List.mem_cons.1 h2 with h3|h3
      · subst h3;exact hc
      · have :=List.eq_of_mem_replicate h3;subst this;decide
theorem QoY{T:List Nat}{k s:Nat}(hT: ∀d∈T,d<BS)(hs:s≤31):val T/2^s/BS^k % BS=(T.getD k 0+T.getD (k+1) 0*4294967296)/2^s % 4294967296:=by
  rw[Nat.div_div_eq_div_mul,Nat.mul_comm,←Nat.div_div_eq_div_mul,←Qpk]
  rw[show vb 4294967296 T/BS^k=vb 4294967296 (T.drop k) from Qsa T hT k]
  rw[Qpj,Qpj (T.drop k).tail]
  have e0:(T.drop k).getD 0 0=T.getD k 0:=by simp [List.getD,List.getElem?_drop]
  have e1:(T.drop k).tail.getD 0 0=T.getD (k+1) 0:=by simp [List.getD,List.getElem?_drop]
  rw[e0,e1,Nat.mul_add]
  have hp:(4294967296:Nat)=2^s*2^ (32 -s):=by rw[←Nat.pow_add,show s+(32 -s)=32 by omega]
  have e2: ∀r:Nat,(T.getD k 0+(4294967296*T.getD (k+1) 0+4294967296*(4294967296*r)))=(T.getD k 0+T.getD (k+1) 0*4294967296)+2^s*(4294967296*(2^ (32 -s)*r)):=by
    intro r
    have e3:2^s*(4294967296*(2^ (32 -s)*r))=4294967296*(4294967296*r):=by
      rw[Nat.mul_left_comm,←Nat.mul_assoc (2^s),←hp]
    rw[e3]
    omega
  rw[e2,Nat.add_mul_div_left _ _ (Nat.pow_pos (by decide)),Nat.add_mul_mod_self_left]
theorem Qlb{T P:List Nat}{k s t:Nat}(hT: ∀d∈T,d<BS)(hs:s≤31)(h:val P=val T/2^s % BS^k)(hl:P.length=k)(ht:t=(T.getD k 0+T.getD (k+1) 0*4294967296)/2^s % 4294967296):val (P++[t])=val T/2^s % BS^ (k+1):=by
  rw[YQ,hl,h,ht,←QoY hT hs,←Nat.mod_pow_succ]
theorem QtV{a T P:List Nat}{k w s n m:Nat}(ha: ∀d∈a,d<BS)(hT:T=a.drop w)(h:val P=val T/2^s % BS^k)(hk:T.length≤k)(hn:n=32*w+s):val (P++List.replicate m 0)=val a/2^n:=by
  have hTd: ∀d∈T,d<BS:=fun d hd=>by rw[hT] at hd;exact ha d (List.mem_of_mem_drop hd)
  have h1:val T<BS^k:=Nat.lt_of_lt_of_le (Za T hTd) (Nat.pow_le_pow_right (by decide) hk)
  have h2:val T/2^s<BS^k:=Nat.lt_of_le_of_lt (Nat.div_le_self _ _) h1
  rw[Qco,h,Nat.mod_eq_of_lt h2,hn,Nat.pow_add,←Nat.div_div_eq_div_mul,Nat.pow_mul]
  have h3:val a/ (2^32)^w=val (a.drop w):=by rw[←Qpk,←Qpk];exact Qsa a ha w
  rw[h3,←hT]
theorem Qq9{a:List Nat}{w n l:Nat}(ha: ∀d∈a,d<BS)(hl:a.length=l)(hw:l≤w)(hn:32*w≤n):(0:Nat)=val a/2^n:=by
  have h1:=Za a ha
  refine(Nat.div_eq_of_lt (Nat.lt_of_lt_of_le h1 ?_)).symm
  rw[hl,show(BS:Nat)=2^32 from rfl,←Nat.pow_mul]
  exact Nat.pow_le_pow_right (by decide) (by omega)
end Go.Gx
namespace Go.Gx
theorem QtG{w n:Nat}:List.replicate w 0++((0:Nat)::List.replicate (n -0) 0)=List.replicate (w+n+1) 0:=by
  rw[←List.replicate_succ,List.replicate_append_replicate]
  congr 1
end Go.Gx
