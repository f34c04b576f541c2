/-
  DivMath2, RatMath, EvMath, EndMath, InvMath, SqMath, SqMath2, QPoly, RatThy, ModMath, MulIMath, ModMath2
-/
import Derived.Test.YtjdpemcnlejpfaaGreatDoorNatMath
set_option linter.all false
namespace Go.Gx
theorem Qp5{d:List Nat}{n:Nat}(hn:2≤n)(hl:d.length=n):val (d.drop (n -2))=Qgi (d.getD (n -1) 0) (d.getD (n -2) 0):=by
  have e1:=QaC (a:=d) (k:=n -1) (by omega) (by omega)
  have e2:=QaC (a:=d) (k:=n) (by omega) (by omega)
  rw[List.drop_of_length_le (show d.length≤n by omega)] at e2
  rw[show n -2=n -1 -1 by omega,e1,e2]
  simp only[Qgi,val]
  omega
theorem QlM{d:List Nat}{n:Nat}(hn:2≤n)(hl:d.length=n+1):val (d.drop (n -2))=Qgh (d.getD n 0) (d.getD (n -1) 0) (d.getD (n -2) 0):=by
  have e1:=QaC (a:=d) (k:=n -1) (by omega) (by omega)
  have e2:=QaC (a:=d) (k:=n) (by omega) (by omega)
  have e3:=QaC (a:=d) (k:=n+1) (by omega) (by omega)
  rw[List.drop_of_length_le (show d.length≤n+1 by omega),Nat.add_sub_cancel] at e3
  rw[show n -2=n -1 -1 by omega,e1,e2,e3]
  simp only[Qgh,val]
  omega
theorem Qw8{d:List Nat}{n k X:Nat}(hd: ∀x∈d,x<BS)(hn:2≤n)(hl:n -2≤d.length)(hX:val (d.drop (n -2))=X):BS^ (n -2)*X≤val d∧val d<BS^ (n -2)*(X+1):=by
  have h1:=Yg d (k:=n -2) hl
  have h2:=Za (d.take (n -2)) fun x hx=>hd x (List.mem_of_mem_take hx)
  rw[List.length_take,Nat.min_eq_left hl] at h2
  rw[hX] at h1
  rw[Nat.mul_add,Nat.mul_one]
  omega
theorem Qng{E V U v P g:Nat}(hE:0<E)(hv1:E*V≤v)(hv2:v<E*(V+1))(hp1:E*U≤P)(hp2:P<E*(U+1))(hok:g*V≤U)(hmx: ∀q,q≤4294967295→q*V≤U→q≤g)(hg:g≤4294967295)(hPv:P<v*4294967296)(hV:4294967296≤V):
    P/v≤g∧(0<g→(g -1)*v≤P)∧(g*v≤P→P -g*v<v):=by
  have hv0:0<v:=by
    have :E*1≤E*V:=Nat.mul_le_mul_left _ (by omega)
    omega
  have hq:P/v≤g:=by
    refine hmx _ ?_ ?_
    · have :P/v<4294967296:=Nat.div_lt_of_lt_mul hPv
      omega
    · have h1:P/v*v≤P:=Nat.div_mul_le_self _ _
      have h2:P/v*(E*V)≤P/v*v:=Nat.mul_le_mul_left _ hv1
      have h3:E*(P/v*V)<E*(U+1):=by rw[Nat.mul_left_comm];omega
      have :=Nat.lt_of_mul_lt_mul_left h3
      omega
  refine⟨hq,fun h0=> ?_,fun hle=> ?_⟩
  · obtain⟨j,rfl⟩: ∃j,g=j+1:=⟨g -1,by omega⟩
    rw[Nat.add_sub_cancel]
    have h1:E*((j+1)*V)≤E*U:=Nat.mul_le_mul_left _ hok
    have h2:(j+1)*v≤(j+1)*(E*(V+1)):=Nat.mul_le_mul_left _ (by omega)
    have h3:(j+1)*(E*(V+1))=E*((j+1)*V)+E*(j+1):=by
      rw[Nat.mul_left_comm,Nat.mul_add (j+1),Nat.mul_one,Nat.mul_add]
    have h4:E*(j+1)≤E*V:=Nat.mul_le_mul_left _ (by omega)
    rw[Nat.add_mul,Nat.one_mul] at h2
    omega
  · have h1:g≤P/v:=(Nat.le_div_iff_mul_le hv0).2 hle
    have h2:g=P/v:=by omega
    have h3:=Nat.div_add_mod P v
    have h4:=Nat.mod_lt P hv0
    rw[Nat.mul_comm,←h2] at h3
    omega
theorem Qv0{E V U v P a b c d e:Nat}(hE:0<E)(hv2:v<E*(V+1))(hp1:E*U≤P)(hPv:P<v*4294967296)(hU:U=Qgh a b c)(hV:V=Qgi d e)(he:e<4294967296):a≤d:=by
  have h1:v*4294967296≤E*(V+1)*4294967296:=Nat.mul_le_mul_right _ (by omega)
  have h2:E*U<E*((V+1)*4294967296):=by rw[←Nat.mul_assoc];omega
  have h3:=Nat.lt_of_mul_lt_mul_left h2
  subst hU hV
  unfold Qgh Qgi at h3
  omega
structure QhR (D v Q:List Nat) (k N:Nat):Prop where
  eq:val D+val v*(BS^k*val Q)=N
  lt:val D<val v*BS^k
theorem QhR.part{D v Q:List Nat}{k N n:Nat}(h:QhR D v Q k N)(hk:0<k)(hl:k -1+n+1≤D.length)(hv:val v<BS^n):
    val D=val (D.take (k -1))+BS^ (k -1)*val ((D.drop (k -1)).take (n+1))∧val ((D.drop (k -1)).take (n+1))<val v*4294967296∧val ((D.drop (k -1)).drop (n+1))=0:=by
  have e1:=Yg D (k:=k -1) (by omega)
  have e2:=Yg (D.drop (k -1)) (k:=n+1) (by simp;omega)
  have hk1:BS^k=BS^ (k -1)*4294967296:=by rw[←Nat.pow_succ];congr 1;omega
  have h1:=h.lt
  rw[hk1,←Nat.mul_assoc,Nat.mul_comm (val v) (BS^ (k -1)),Nat.mul_assoc] at h1
  have h2:BS^ (k -1)*val (D.drop (k -1))<BS^ (k -1)*(val v*4294967296):=by omega
  have h3:=Nat.lt_of_mul_lt_mul_left h2
  have h4:val ((D.drop (k -1)).drop (n+1))=0:=by
    rcases Nat.eq_zero_or_pos (val ((D.drop (k -1)).drop (n+1))) with h0|h0
    · exact h0
    · exfalso
      have h5:BS^ (n+1)*1≤BS^ (n+1)*val ((D.drop (k -1)).drop (n+1)):=Nat.mul_le_mul_left _ h0
      have h6:(val v+1)*4294967296≤BS^n*4294967296:=Nat.mul_le_mul_right _ hv
      have h7:BS^ (n+1)=BS^n*4294967296:=Nat.pow_succ _ _
      rw[Nat.mul_one] at h5
      omega
  rw[h4,Nat.mul_zero,Nat.add_zero] at e2
  refine⟨by rw[←e2];exact e1,by rw[←e2];exact h3,h4⟩
theorem QhR.step{D v Q Zr:List Nat}{k N n q:Nat}(h:QhR D v Q k N)(hk:0<k)(hl:k -1+n+1≤D.length)(hv:val v<BS^n)(hDt: ∀d∈D,d<BS)(hZ:Zr.length=(D.drop (k -1)).length)
    (hd:Zr.drop (n+1)=(D.drop (k -1)).drop (n+1))(he:val (Zr.take (n+1))+q*val v=val ((D.drop (k -1)).take (n+1)))(hlt:val (Zr.take (n+1))<val v):QhR (D.take (k -1)++Zr) v (q::Q) (k -1) N:=by
  obtain⟨h1,h2,h3⟩:=h.part hk hl hv
  have e2:=Yg Zr (k:=n+1) (by rw[hZ];simp;omega)
  rw[hd,h3,Nat.mul_zero,Nat.add_zero] at e2
  have e3:val (D.take (k -1)++Zr)=val (D.take (k -1))+BS^ (k -1)*val (Zr.take (n+1)):=by
    rw[val_append,List.length_take,Nat.min_eq_left (by omega),e2]
  have hk1:BS^k=BS^ (k -1)*BS:=by rw[←Nat.pow_succ];congr 1;omega
  have hU:val (D.take (k -1))<BS^ (k -1):=by
    have :=Za (D.take (k -1)) fun d hd'=>hDt d (List.mem_of_mem_take hd')
    rwa [List.length_take,Nat.min_eq_left (by omega)] at this
  constructor
  · rw[e3,←h.eq,h1,←he,hk1]
    simp only[val]
    rw[Nat.mul_add (BS^ (k -1)) (val (Zr.take (n+1))),Nat.mul_add (BS^ (k -1)) q,Nat.mul_add (val v),Nat.mul_assoc (BS^ (k -1)) BS]
    have :val v*(BS^ (k -1)*q)=BS^ (k -1)*(q*val v):=by rw[Nat.mul_left_comm,Nat.mul_comm (val v)]
    omega
  · rw[e3]
    have h5:BS^ (k -1)*(val (Zr.take (n+1))+1)≤BS^ (k -1)*val v:=Nat.mul_le_mul_left _ hlt
    rw[Nat.mul_add,Nat.mul_one] at h5
    rw[Nat.mul_comm (val v)]
    omega
theorem Qsn{Pz Z1 Z2 v B q bo cr:Nat}(he:Z1+(q+1)*v=Pz+B*bo)(hb:bo≠0)(hbo:bo≤1)(h2:Z2+B*cr=Z1+v)(hZ2:Z2<B)(hle:q*v≤Pz)(hnl:Pz<(q+1)*v)(hvB:v<B):Z2+q*v=Pz∧Z2<v:=by
  have h1:bo=1:=by omega
  subst h1
  rw[Nat.add_mul,Nat.one_mul] at he hnl
  have hcr:cr=1:=by
    rcases Nat.lt_trichotomy cr 1 with h|h|h
    · have :cr=0:=by omega
      subst this;simp at h2;omega
    · exact h
    · have :B*2≤B*cr:=Nat.mul_le_mul_left _ h
      omega
  subst hcr
  omega
theorem Qek{Z1 P q v B bo:Nat}(he:Z1+q*v=P+B*bo)(hZ:Z1<B):(bo=0↔q*v≤P):=by
  constructor
  · intro h;subst h;omega
  · intro h
    rcases Nat.eq_zero_or_pos bo with h0|h0
    · exact h0
    · have :B*1≤B*bo:=Nat.mul_le_mul_left _ h0
      omega
theorem QqC{b v:List Nat}{n s:Nat}(hb: ∀d∈b,d<BS)(hl:b.length=n)(hn:0<n)(h1:b.getD (n -1) 0*2^s<4294967296)(h2:2147483648≤b.getD (n -1) 0*2^s)(hs:s≤31)(hv:val v=val b*2^s)(hvt: ∀d∈v,d<BS)(hc:Canon isZ v):
    v.length=n∧2147483648≤v.getD (n -1) 0:=by
  have e1:=Yg b (k:=n -1) (by omega)
  have e2:=QaC (a:=b) (k:=n) hn (by omega)
  rw[List.drop_of_length_le (show b.length≤n by omega)] at e2
  have h3:=Za (b.take (n -1)) fun d hd=>hb d (List.mem_of_mem_take hd)
  rw[List.length_take,Nat.min_eq_left (by omega)] at h3
  have e3:val b=val (b.take (n -1))+BS^ (n -1)*b.getD (n -1) 0:=by rw[e1,e2];simp [val]
  have hp:0<(2:Nat)^s:=Nat.pow_pos (by decide)
  have hB:BS^n=BS^ (n -1)*4294967296:=by rw[←Nat.pow_succ];congr 1;omega
  have e4:(b.getD (n -1) 0+1)*2^s≤4294967296:=by
    have e:(4294967296:Nat)=2^ (32 -s)*2^s:=by rw[←Nat.pow_add,show 32 -s+s=32 by omega]
    have h5:b.getD (n -1) 0*2^s<2^ (32 -s)*2^s:=by rw[←e];exact h1
    have h6:=Nat.lt_of_mul_lt_mul_right h5
    have h7:(b.getD (n -1) 0+1)*2^s≤2^ (32 -s)*2^s:=Nat.mul_le_mul_right _ h6
    rw[←e] at h7
    exact h7
  have hup:val v<BS^n:=by
    rw[hv,hB]
    have h5:val b+1≤BS^ (n -1)*(b.getD (n -1) 0+1):=by rw[Nat.mul_add,Nat.mul_one];omega
    have h6:(val b+1)*2^s≤BS^ (n -1)*(b.getD (n -1) 0+1)*2^s:=Nat.mul_le_mul_right _ h5
    have h7:BS^ (n -1)*((b.getD (n -1) 0+1)*2^s)≤BS^ (n -1)*4294967296:=Nat.mul_le_mul_left _ e4
    rw[Nat.mul_assoc] at h6
    rw[Nat.add_mul,Nat.one_mul] at h6
    omega
  have hlo:BS^ (n -1)*2147483648≤val v:=by
    rw[hv,e3,Nat.add_mul,Nat.mul_assoc]
    have :BS^ (n -1)*2147483648≤BS^ (n -1)*(b.getD (n -1) 0*2^s):=Nat.mul_le_mul_left _ h2
    omega
  have hle:v.length≤n:=Qbm hc hup
  have hge:n≤v.length:=by
    rcases Nat.lt_or_ge v.length n with h5|h5
    · exfalso
      have h6:=Za v hvt
      have h7:BS^v.length≤BS^ (n -1):=Nat.pow_le_pow_right (by decide) (by omega)
      have h8:BS^ (n -1)*1≤BS^ (n -1)*2147483648:=Nat.mul_le_mul_left _ (by decide)
      omega
    · exact h5
  refine⟨by omega,?_⟩
  have e5:=Yg v (k:=n -1) (by omega)
  have e6:=QaC (a:=v) (k:=n) hn (by omega)
  rw[List.drop_of_length_le (show v.length≤n by omega)] at e6
  have h5:=Za (v.take (n -1)) fun d hd=>hvt d (List.mem_of_mem_take hd)
  rw[List.length_take,Nat.min_eq_left (by omega)] at h5
  have e7:val v=val (v.take (n -1))+BS^ (n -1)*v.getD (n -1) 0:=by rw[e5,e6];simp [val]
  have h6:BS^ (n -1)*2147483648<BS^ (n -1)*(v.getD (n -1) 0+1):=by rw[Nat.mul_add,Nat.mul_one];omega
  have :=Nat.lt_of_mul_lt_mul_left h6
  omega
theorem QhR.start{D v:List Nat}{k N m n s va:Nat}(hD:val D=N)(hN:N=va*2^s)(hva:va<BS^ (m -1))(hs:s≤31)(hv:BS^ (n -1)*2147483648≤val v)(hn:0<n)(hk:k=m -n)(hm:n≤m):QhR D v [] k N:=by
  refine⟨by simp [val,hD],?_⟩
  rw[hD,hN,hk]
  have h1:va*2^s<BS^ (m -1)*2^s:=Nat.mul_lt_mul_of_pos_right hva (Nat.pow_pos (by decide))
  have h2:BS^ (m -1)*2^s≤BS^ (m -1)*2147483648:=Nat.mul_le_mul_left _ (Nat.pow_le_pow_right (by decide) hs)
  have h3:BS^ (n -1)*2147483648*BS^ (m -n)≤val v*BS^ (m -n):=Nat.mul_le_mul_right _ hv
  have e:BS^ (n -1)*2147483648*BS^ (m -n)=BS^ (m -1)*2147483648:=by
    rw[Nat.mul_right_comm,←Nat.pow_add];congr 2;omega
  omega
theorem QhR.fin{D v Q b:List Nat}{N s va r:Nat}(h:QhR D v Q 0 N)(hN:N=va*2^s)(hv:val v=val b*2^s)(hr:r=val D/2^s):va=val b*val Q+r∧r<val b:=by
  have h1:=h.eq
  have h2:=h.lt
  simp only[Nat.pow_zero,Nat.one_mul,Nat.mul_one] at h1 h2
  have hp:0<(2:Nat)^s:=Nat.pow_pos (by decide)
  rw[hv,hN] at h1
  rw[hv] at h2
  have h3:val b*2^s*val Q=val b*val Q*2^s:=Nat.mul_right_comm _ _ _
  rw[h3] at h1
  have hle:val b*val Q≤va:=by
    have :val b*val Q*2^s≤va*2^s:=by omega
    exact Nat.le_of_mul_le_mul_right this hp
  have h4:val D=(va -val b*val Q)*2^s:=by rw[Nat.sub_mul];omega
  rw[hr,h4,Nat.mul_div_cancel _ hp]
  refine⟨by omega,?_⟩
  rw[h4] at h2
  exact Nat.lt_of_mul_lt_mul_right h2
end Go.Gx
namespace Go.Gx
theorem QmD{d:List Nat}{n:Nat}(hc:Canon isZ d)(hl:d.length=n)(hn:n≠0):d.getD (n -1) 0≠0:=by
  rcases Xw d with h| ⟨k,x,rfl⟩
  · subst h;simp at hl;omega
  · have h1:=Yp.1 hc
    have h2:x≠0:=by intro e;subst e;simp [isZ] at h1
    simp at hl
    subst hl
    simpa [List.getD] using h2
theorem QtU{a d:List Nat}{n s va:Nat}(ha: ∀x∈a,x<BS)(hl:a.length=n)(hva:val a=va)(hd:val d=va*2^s)(hs:s≤31):val d<BS^ (n+1):=by
  have h1:=Za a ha
  rw[hl,hva] at h1
  have h2:(2:Nat)^s≤2147483648:=Nat.pow_le_pow_right (by decide) hs
  have h3:va*2^s≤va*2147483648:=Nat.mul_le_mul_left _ h2
  have h4:BS^ (n+1)=BS^n*4294967296:=Nat.pow_succ _ _
  omega
theorem QvZ{d:List Nat}{n:Nat}(hl:d.length=n)(hn:0<n):BS^ (n -1)*d.getD (n -1) 0≤val d:=by
  have e1:=Yg d (k:=n -1) (by omega)
  have e2:=QaC (a:=d) (k:=n) hn (by omega)
  rw[e2,Nat.mul_add] at e1
  omega
theorem Qom{D:List Nat}{j m i:Nat}(h:i<m):((D.drop j).take m).getD i 0=D.getD (j+i) 0:=by
  simp [List.getD,List.getElem?_take,h,List.getElem?_drop]
theorem Qq0{L:List Nat}{m r:Nat}:(List.replicate m 0++(r::L)).getD m 0=r:=by
  simp only[List.getD]
  rw[List.getElem?_append_right (by simp)]
  simp
end Go.Gx
namespace Go.Gx
end Go.Gx
namespace Go.Gx
theorem QoK{L:List Nat}{m r x:Nat}:(List.replicate m 0++(x::L)).set m r=List.replicate m 0++(r::L):=by
  rw[List.set_append_right _ _ (by simp)]
  simp
end Go.Gx
namespace Go.Gx
theorem Qju{m n G:Nat}(h:Nat.gcd m n=G):Nat.gcd n (m % n)=G:=by rw[←h,Nat.gcd_comm m n,Nat.gcd_rec n m,Nat.gcd_comm]
theorem QmC{d:List Nat}{n:Nat}(hc:Canon isZ d)(hl:d.length=n)(hn:n≠0):0<val d:=Quj hc (by intro e;subst e;simp at hl;omega)
end Go.Gx
namespace Go.Gx
theorem QEC{z G q:Int}(h:G∣z)(hq:q=z.tdiv G):z=G*q:=by rw[hq];exact(Int.mul_tdiv_cancel' h).symm
theorem QEr{zn zd G n d:Int}{a b:Nat}(ha:a=zn.natAbs)(hb:b=zd.natAbs)(hG:G=(Nat.gcd a b:Int))(hd:0<zd)(en:n=zn.tdiv G)(ed:d=zd.tdiv G):
    n*zd=zn*d∧0<d∧Nat.gcd n.natAbs d.natAbs=1:=by
  subst ha hb
  have hgp:0<Nat.gcd zn.natAbs zd.natAbs:=Nat.gcd_pos_of_pos_right _ (by omega)
  have d1:G∣zn:=by rw[hG];exact Int.ofNat_dvd_left.2 (Nat.gcd_dvd_left _ _)
  have d2:G∣zd:=by rw[hG];exact Int.ofNat_dvd_left.2 (Nat.gcd_dvd_right _ _)
  have h1:=QEC d1 en
  have h2:=QEC d2 ed
  have hG0:0<G:=by rw[hG];omega
  have hd0:0<d:=by
    rcases Int.lt_trichotomy d 0 with h|h|h
    · have :=Int.mul_neg_of_pos_of_neg hG0 h;omega
    · rw[h] at h2;omega
    · exact h
  refine⟨?_,hd0,?_⟩
  · rw[h1,h2,←Int.mul_assoc,Int.mul_comm n G]
  · have e1:zn.natAbs=Nat.gcd zn.natAbs zd.natAbs*n.natAbs:=by
      have :=congrArg Int.natAbs h1
      rw[Int.natAbs_mul,hG] at this
      simpa using this
    have e2:zd.natAbs=Nat.gcd zn.natAbs zd.natAbs*d.natAbs:=by
      have :=congrArg Int.natAbs h2
      rw[Int.natAbs_mul,hG] at this
      simpa using this
    have e3:Nat.gcd (Nat.gcd zn.natAbs zd.natAbs*n.natAbs) (Nat.gcd zn.natAbs zd.natAbs*d.natAbs)=Nat.gcd zn.natAbs zd.natAbs*Nat.gcd n.natAbs d.natAbs:=Nat.gcd_mul_left _ _ _
    rw[←e1,←e2] at e3
    exact Nat.eq_of_mul_eq_mul_left hgp (by rw[←e3,Nat.mul_one])
end Go.Gx
namespace Go.Gx
def evQ:List Int→Rat→Rat
  | [],_=>0
  |a::l,q=>(a:Rat)+q*evQ l q
theorem QgO(d:Int)(k:Nat):((d^k:Int):Rat)=(d:Rat)^k:=by
  induction k with
  |zero=>simp
  |succ k ih=>rw[Int.pow_succ,Rat.intCast_mul,ih,Rat.pow_succ]
theorem XC{d:Int}(h:d≠0):(d:Rat)≠0:=fun e=>h (Rat.intCast_inj.1 (by rw[e];rfl))
theorem Qkr(f:List Int)(q:Rat):evQ f q=((co f 0:Int):Rat)+q*evQ f.tail q:=by
  cases f with
  |nil=>simp [evQ,co];grind
  |cons a l=>simp [evQ,co]
theorem QgT(f:List Int)(i:Nat):co f.tail i=co f (i+1):=by cases f<;>simp [co]
theorem Qnl(q:Rat): ∀(n:Nat)(f g:List Int),f.length+g.length≤n→(∀i,co f i=co g i)→evQ f q=evQ g q
  |0,f,g,hn,_=>by
    have h1:f=[]:=List.eq_nil_of_length_eq_zero (by omega)
    have h2:g=[]:=List.eq_nil_of_length_eq_zero (by omega)
    rw[h1,h2]
  |n+1,f,g,hn,h=>by
    rcases Nat.eq_zero_or_pos (f.length+g.length) with h0|h0
    · have h1:f=[]:=List.eq_nil_of_length_eq_zero (by omega)
      have h2:g=[]:=List.eq_nil_of_length_eq_zero (by omega)
      rw[h1,h2]
    · rw[Qkr f,Qkr g,h 0,Qnl q n f.tail g.tail (by simp;omega) (fun i=>by rw[QgT,QgT];exact h (i+1))]
theorem YI{f g:List Int}(q:Rat)(h: ∀i,co f i=co g i):evQ f q=evQ g q:=Qnl q _ f g (Nat.le_refl _) h
theorem Zt(f:List Int)(q:Rat):evQ (Xa f) q=evQ f q:=YI q fun i=>Xo f i
theorem Yn(q:Rat): ∀f g:List Int,evQ (Xx f g) q=evQ f q+evQ g q
  | [],g=>by rw[YI q (g:=g) (fun i=>by rw[Xv];simp [co])];simp [evQ];grind
  |a::f,[]=>by rw[YI q (g:=a::f) (fun i=>by rw[Xv];simp [co])];simp [evQ];grind
  |a::f,b::g=>by
    rw[YI q (g:=(a+b)::Xx f g) (fun i=>by
      rw[Xv]
      cases i with
      |zero=>simp [co]
      |succ i=>
        have :=Xv f g i
        simp only[co,List.getD_cons_succ] at this⊢
        omega)]
    simp only[evQ,Yn q f g,Rat.intCast_add]
    grind
theorem XB(q:Rat)(c:Int): ∀f:List Int,evQ (Xf f c) q=(c:Rat)*evQ f q
  | []=>by simp [Xf,evQ]
  |a::f=>by
    have ih:=XB q c f
    simp only[Xf,List.map_cons,evQ,Rat.intCast_mul] at ih⊢
    rw[ih]
    grind
theorem Qah(a:Int)(f g:List Int)(k:Nat):co (Xg (a::f) g) k=co (Xx (Xf g a) (0::Xg f g)) k:=by
  rw[Xp,Xv,Xi]
  unfold conv YB
  rw[ZQ]
  cases k with
  |zero=>simp [Ye,co,Int.mul_comm]
  |succ k=>
    have e1:co (0::Xg f g) (k+1)=conv f g k:=by rw[←Xp];simp [co]
    rw[e1]
    unfold conv YB
    have e2:Ye (fun i=>co (a::f) (i+1)*co g (k+1 -(i+1))) (k+1)=Ye (fun i=>co f i*co g (k -i)) (k+1):=Xt fun i _=>by simp [co]
    rw[e2]
    simp [co,Int.mul_comm]
theorem Qa2(q:Rat): ∀f g:List Int,evQ (Xg f g) q=evQ f q*evQ g q
  | [],g=>by simp [Xg,evQ]
  |a::f,g=>by
    rw[YI q (Qah a f g),Yn,XB]
    simp only[evQ,Qa2 q f g]
    simp
    grind
theorem YU(q:Rat)(g:List Int): ∀f:List Int,evQ (Yw g f) q=evQ f (evQ g q)
  | []=>rfl
  |a::f=>by
    show evQ (Xx (Xg (Yw g f) g) [a]) q=_
    rw[Yn,Qa2,YU q g f]
    simp only[evQ]
    grind
end Go.Gx
namespace Go.Gx
def evI:List Int→Int→Int
  | [],_=>0
  |a::l,x=>a+x*evI l x
theorem Zn(x:Int): ∀f:List Int,evQ f (x:Rat)=((evI f x:Int):Rat)
  | []=>rfl
  |a::l=>by simp only[evQ,evI,Zn x l,Rat.intCast_add,Rat.intCast_mul]
theorem Qka{x:Int}{H:Nat}(hx:(H:Int)+2≤x∨x≤ -((H:Int)+2)): ∀(F:List Int),F.length≠0→co F (F.length -1)≠0→hgt F≤H→evI F x≠0∧(0<x→(0<evI F x↔0<co F (F.length -1)))∧(x<0→(0<evI F x↔(if(F.length -1) % 2=0 then 0<co F (F.length -1) else co F (F.length -1)<0)))
  | [],h,_,_=>absurd rfl h
  | [a],_,h1,_=>by simp [evI,co] at h1⊢;exact h1
  |a::b::l,_,h1,h2=>by
    have e1:co (a::b::l) ((a::b::l).length -1)=co (b::l) ((b::l).length -1):=by simp [co]
    rw[e1] at h1⊢
    simp only[hgt] at h2
    have ih:=Qka hx (b::l) (by simp) h1 (by simp only[hgt];omega)
    have ha:a.natAbs≤H:=by omega
    show a+x*evI (b::l) x≠0∧(0<x→(0<a+x*evI (b::l) x↔_))∧(x<0→(0<a+x*evI (b::l) x↔_))
    generalize evI (b::l) x=E at *
    generalize co (b::l) ((b::l).length -1)=c at *
    obtain⟨hE,hp,hn⟩:=ih
    have hl:(a::b::l).length -1=(b::l).length -1+1:=by simp
    rw[hl]
    generalize(b::l).length -1=k at *
    rcases hx with hx|hx
    · rcases Int.lt_or_gt_of_ne hE with h|h
      · have h3:x*E≤x*(-1):=Int.mul_le_mul_of_nonneg_left (by omega) (by omega)
        refine⟨by omega,fun _=>⟨fun h4=>by omega,fun h4=> ?_⟩,fun h4=>by omega⟩
        have :=(hp (by omega)).2 h4;omega
      · have h3:x*1≤x*E:=Int.mul_le_mul_of_nonneg_left (by omega) (by omega)
        refine⟨by omega,fun _=>⟨fun _=>(hp (by omega)).1 h,fun h4=>by omega⟩,fun h4=>by omega⟩
    · have hn':=hn (by omega)
      rcases Int.lt_or_gt_of_ne hE with h|h
      · have h3:(-x)*1≤(-x)*(-E):=Int.mul_le_mul_of_nonneg_left (by omega) (by omega)
        rw[Int.neg_mul_neg] at h3
        have hpos:0<a+x*E:=by omega
        refine⟨by omega,fun h4=>by omega,fun _=>⟨fun _=> ?_,fun _=>hpos⟩⟩
        have hne: ¬(if k % 2=0 then 0<c else c<0):=fun h5=>by have :=hn'.2 h5;omega
        by_cases hk:k % 2=0
        · rw[if_pos hk] at hne;rw[if_neg (by omega)];omega
        · rw[if_neg hk] at hne;rw[if_pos (by omega)];omega
      · have h3:(-x)*1≤(-x)*E:=Int.mul_le_mul_of_nonneg_left (by omega) (by omega)
        have e3:(-x)*E= -(x*E):=Int.neg_mul x E
        have hneg:a+x*E<0:=by omega
        refine⟨by omega,fun h4=>by omega,fun _=>⟨fun h4=>by omega,fun h5=> ?_⟩⟩
        exfalso
        have h6:=hn'.1 h
        by_cases hk:k % 2=0
        · rw[if_pos hk] at h6;rw[if_neg (by omega)] at h5;omega
        · rw[if_neg hk] at h6;rw[if_pos (by omega)] at h5;omega
end Go.Gx
namespace Go.Gx
end Go.Gx
namespace Go.Gx
theorem Qqd{f:List Int}(h: ∀x:Int,evI f x=0):Xa f=[]:=by
  by_cases h0:(Xa f).length=0
  · exact List.eq_nil_of_length_eq_zero h0
  · exfalso
    have hl:=YG (Xs ZM f) h0
    have hb:=Qka (x:=(hgt (Xa f):Int)+2) (H:=hgt (Xa f)) (.inl (Int.le_refl _)) (Xa f) h0 hl (Nat.le_refl _)
    apply hb.1
    have e:((evI (Xa f) ((hgt (Xa f):Int)+2):Int):Rat)=((evI f ((hgt (Xa f):Int)+2):Int):Rat):=by rw[←Zn,←Zn,Zt]
    rw[Rat.intCast_inj.1 e]
    exact h _
theorem Qcf(q:Rat)(f g:List Int):evQ (XD f g) q=evQ f q -evQ g q:=by
  rw[YI q (g:=Xx f (Xf g (-1))) (fun i=>by rw[ZG,Xv,Xi];omega),Yn,XB]
  show evQ f q+((-1:Int):Rat)*evQ g q=_
  have :((-1:Int):Rat)= -1:=rfl
  rw[this];grind
theorem QjI{f g:List Int}(h: ∀x:Int,evQ f (x:Rat)=evQ g (x:Rat)):Xa f=Xa g:=by
  have h1:Xa (XD f g)=[]:=Qqd fun x=>by
    have :=Qcf (x:Rat) f g
    rw[h x,Zn] at this
    have e:evQ g (x:Rat) -evQ g (x:Rat)=((0:Int):Rat):=by
      have :((0:Int):Rat)=0:=rfl
      rw[this];grind
    rw[e] at this
    exact Rat.intCast_inj.1 this
  refine YP fun i=> ?_
  have h2:=Xo (XD f g) i
  rw[h1,ZG] at h2
  have :co [] i=0:=by simp [co]
  omega
end Go.Gx
namespace Go.Gx
theorem Qed(F G:List Int)(k:Nat):co (Xn (Xg F G)) k=co (Xx (Xg (Xn F) G) (Xg F (Xn G))) k:=by
  rw[XZ,Xp,Xv,Xp,Xp]
  have hA:conv (Xn F) G k=Ye (fun j=>((j:Nat):Int)*(co F j*co G (k+1 -j))) (k+2):=by
    rw[ZQ]
    unfold conv YB
    rw[Xt (G:=fun i=>((i+1:Nat):Int)*(co F (i+1)*co G (k+1 -(i+1)))) (fun i hi=>by
      rw[XZ,show k+1 -(i+1)=k -i by omega];grind)]
    simp
  have hB:conv F (Xn G) k=Ye (fun j=>((k+1 -j:Nat):Int)*(co F j*co G (k+1 -j))) (k+2):=by
    rw[YA]
    unfold conv YB
    rw[Xt (G:=fun j=>((k+1 -j:Nat):Int)*(co F j*co G (k+1 -j))) (fun i hi=>by
      rw[XZ,show k -i+1=k+1 -i by omega];grind)]
    simp
  rw[hA,hB,←Qcl]
  unfold conv YB
  rw[←QdU]
  refine Xt fun j hj=> ?_
  have e:((j:Nat):Int)+((k+1 -j:Nat):Int)=((k+1:Nat):Int):=by omega
  rw[←Int.add_mul,e,Int.mul_comm]
theorem QlJ(F G:List Int):Xa (Xa (Xn (Xa (Xg F G))))=Xa (Xa (Xx (Xa (Xg (Xa (Xn F)) G)) (Xa (Xg F (Xa (Xn G)))))):=by
  refine YP fun i=> ?_
  rw[Xo,Xo,XZ,Xo,←XZ,Qed,Xv,Xv,Xo,Xo,Xp,Xp,Xp,Xp]
  congr 1
  · exact(YH (fun j=>Xo _ j) fun _=>rfl).symm
  · exact(YH (fun _=>rfl) fun j=>Xo _ j).symm
end Go.Gx
namespace Go.Gx
theorem QlL{F:List Int}{k:Nat}(hk:0<k)(hl:k≤F.length):F.drop (k -1)=co F (k -1)::F.drop k:=by
  rw[List.drop_eq_getElem_cons (show k -1<F.length by omega),show k -1+1=k by omega]
  simp [co,List.getD,show k -1<F.length by omega]
def Xy(l:List Int):Nat:=l.foldr (fun a g=>Nat.gcd g a.natAbs) 0
theorem Qbh(a:Int)(l:List Int):Xy (a::l)=Nat.gcd (Xy l) a.natAbs:=rfl
theorem QmU{F:List Int}{k c g u:Nat}{a:Int}(hg:g=Nat.gcd c (Xy (F.drop k)))(hk:0<k)(hl:k≤F.length)(ha:a=co F (k -1))(hu:u=a.natAbs):Nat.gcd g u=Nat.gcd c (Xy (F.drop (k -1))):=by
  rw[QlL hk hl,Qbh,←ha,←hu,hg,Nat.gcd_assoc]
theorem QlH{F:List Int}{k c:Nat}(hk:F.length≤k):c=Nat.gcd c (Xy (F.drop k)):=by
  rw[List.drop_of_length_le hk];simp [Xy]
theorem QdG: ∀{F:List Int},Xy F=0→ ∀i,co F i=0
  | [],_,i=>by simp [co]
  |a::F,h,i=>by
    rw[Qbh] at h
    have h1:=Nat.eq_zero_of_gcd_eq_zero_left h
    have h2:=Nat.eq_zero_of_gcd_eq_zero_right h
    cases i with
    |zero=>simp [co];omega
    |succ i=>have :=QdG h1 i;simpa [co] using this
def ldP(F:List Int):Int:=coI (Xa F) (((Xa F).length:Int) -1)
theorem QjC{F:List Int}(h:ldP F=0):Xa F=[]:=by
  rcases Nat.eq_zero_or_pos (Xa F).length with h0|h0
  · exact List.eq_nil_of_length_eq_zero h0
  · exfalso
    unfold ldP at h
    rw[show(((Xa F).length:Int) -1)=(((Xa F).length -1:Nat):Int) by omega,QeV] at h
    exact YG (f:=Xa F) (Xs ZM F) (by omega) h
theorem Qc2{F:List Int}(h:ldP F≠0):0<Xy F:=by
  rcases Nat.eq_zero_or_pos (Xy F) with h0|h0
  · exfalso;apply h
    have hz:=QdG h0
    unfold ldP
    by_cases hl:(((Xa F).length:Int) -1)<0
    · simp [coI,hl]
    · rw[←QuH (by omega),Xo,hz]
  · exact h0
def Yc(F:List Int):Int:=if ldP F<0 then -(Xy F:Int) else(Xy F:Int)
def Xr(F:List Int):List Int:=(Xa F).map (fun x=>x.tdiv (Yc F))
theorem Qgt{F:List Int}(h:ldP F=0):[]=Xr F:=by unfold Xr;rw[QjC h];rfl
theorem QgS(a:Int): ∀(n i:Nat),co (Zk [a] n) i=if i=0 then a^n else 0
  |0,i=>by cases i<;>simp [Zk,co]
  |n+1,i=>by
    show co (Xg (Zk [a] n) [a]) i=_
    rw[Xp]
    unfold conv YB
    cases i with
    |zero=>
      have e:=QgS a n 0
      simp [Ye,co,Int.pow_succ] at e⊢
      rw[e]
    |succ i=>
      rw[if_neg (by omega)]
      have :Ye (fun j=>co (Zk [a] n) j*co [a] (i+1 -j)) (i+1+1)=Ye (fun _=>0) (i+1+1):=Xt fun j hj=>by
        rw[QgS a n]
        by_cases h0:j=0
        · subst h0;simp [co]
        · rw[if_neg h0,Int.zero_mul]
      rw[this]
      have z: ∀m,Ye (fun _=>(0:Int)) m=0:=by intro m;induction m with |zero=>rfl|succ m ih=>simp [Ye,ih]
      exact z _
theorem QjA{a:Int}{n:Nat}{F:List Int}(h:F=Xa (Zk [a] n)):ldP F=a^n:=by
  have hF:Xa F=F:=by rw[h];exact Xs ZM _
  have hc: ∀i,co F i=if i=0 then a^n else 0:=fun i=>by rw[h,Xo,QgS]
  unfold ldP
  rw[hF]
  rcases Nat.eq_zero_or_pos F.length with h0|h0
  · rw[←QmK (.inl (by omega))]
    have :=hc 0
    rw[if_pos rfl,List.eq_nil_of_length_eq_zero h0] at this
    simpa [co] using this
  · rw[show((F.length:Int) -1)=((F.length -1:Nat):Int) by omega,QeV]
    have h1:=YG (f:=F) (by rw[h];exact Xs ZM _) (by omega)
    rw[hc] at h1⊢
    by_cases e:F.length -1=0
    · rw[if_pos e]
    · rw[if_neg e] at h1;exact absurd rfl h1
end Go.Gx
namespace Go.Gx
def cs(G:List Int)(low i:Nat):Int:=if low≤i then co G (i -low) else 0
theorem QmZ(G:List Int)(low i:Nat):co (List.replicate low 0++G) i=cs G low i:=by
  unfold cs co
  by_cases h:low≤i
  · rw[if_pos h];simp only[List.getD];rw[List.getElem?_append_right (by simpa using h)];simp
  · rw[if_neg h];simp only[List.getD];rw[List.getElem?_append_left (by simp;omega)]
    simp [List.getElem?_replicate,show i<low by omega]
theorem QaO(q:Rat)(G:List Int): ∀low,evQ (List.replicate low 0++G) q=q^low*evQ G q
  |0=>by simp
  |low+1=>by
    rw[List.replicate_succ,List.cons_append]
    simp only[evQ,QaO q G low,Rat.pow_succ]
    have :((0:Int):Rat)=0:=rfl
    rw[this];grind
theorem Qeo(R:List Int)(t i:Nat):co (R.take t) i=if i<t then co R i else 0:=by
  simp only[co,List.getD,List.getElem?_take]
  by_cases h:i<t
  · rw[if_pos h,if_pos h]
  · rw[if_neg h,if_neg h];rfl
theorem QjM{F G Q R Q2 R1:List Int}{L f:Int}{m t low d:Nat}(hI: ∀x:Rat,evQ F x*(L:Rat)^m=evQ Q x*evQ G x+evQ (R.take t) x)(hQl:co Q low=0)
    (hQ2: ∀i,co Q2 i=if i=low then f else co Q i*L)(hR1: ∀i,i<t -1→co R1 i=co R i*L -f*cs G low i)(hf:f=co R (t -1))(hd:co G d=L)(hG: ∀i,d<i→co G i=0)(ht:t=low+d+1):
    ∀x:Rat,evQ F x*(L:Rat)^ (m+1)=evQ Q2 x*evQ G x+evQ (R1.take (t -1)) x:=fun x=>by
  have e1:evQ Q2 x=(L:Rat)*evQ Q x+(f:Rat)*x^low:=by
    have :evQ Q2 x=evQ (Xx (Xf Q L) (Xf (List.replicate low 0++[1]) f)) x:=YI x fun i=>by
      rw[Xv,Xi,Xi,QmZ,hQ2]
      by_cases h:i=low
      · subst h;rw[if_pos rfl,hQl];simp [cs,co]
      · rw[if_neg h]
        have :cs [1] low i=0:=by
          unfold cs
          by_cases h2:low≤i
          · rw[if_pos h2];have :i -low≠0:=by omega
            cases hh:i -low with
            |zero=>omega
            |succ j=>simp [co]
          · rw[if_neg h2]
        rw[this];omega
    rw[this,Yn,XB,XB,QaO]
    simp only[evQ]
    have h1:((1:Int):Rat)=1:=rfl
    rw[h1];grind
  have e2:(L:Rat)*evQ (R.take t) x=(f:Rat)*(x^low*evQ G x)+evQ (R1.take (t -1)) x:=by
    rw[←QaO,←XB,←XB,←Yn]
    refine YI x fun i=> ?_
    rw[Xv,Xi,Xi,QmZ,Qeo,Qeo]
    by_cases h1:i<t -1
    · rw[if_pos (by omega),if_pos h1,hR1 i h1,Int.mul_comm (cs G low i)];omega
    · rw[if_neg h1]
      by_cases h2:i<t
      · have hi:i=t -1:=by omega
        rw[if_pos h2,hi,←hf]
        have :cs G low (t -1)=L:=by unfold cs;rw[if_pos (by omega),show t -1 -low=d by omega,hd]
        rw[this,Int.mul_comm];omega
      · rw[if_neg h2]
        have :cs G low i=0:=by unfold cs;rw[if_pos (by omega),hG _ (by omega)]
        rw[this];simp
  have h:=hI x
  rw[e1,Rat.pow_succ]
  grind
theorem QlQ{F G Q R Q2 R1:List Int}{f:Int}{low:Nat}(hI: ∀x:Rat,evQ F x=evQ Q x*evQ G x+evQ R x)(hQl:co Q low=0)
    (hQ2: ∀i,co Q2 i=if i=low then f else co Q i)(hR1: ∀i,co R1 i=co R i -f*cs G low i): ∀x:Rat,evQ F x=evQ Q2 x*evQ G x+evQ R1 x:=fun x=>by
  have e1:evQ Q2 x=evQ Q x+(f:Rat)*x^low:=by
    have :evQ Q2 x=evQ (Xx Q (Xf (List.replicate low 0++[1]) f)) x:=YI x fun i=>by
      rw[Xv,Xi,QmZ,hQ2]
      by_cases h:i=low
      · subst h;rw[if_pos rfl,hQl];simp [cs,co]
      · rw[if_neg h]
        have :cs [1] low i=0:=by
          unfold cs
          by_cases h2:low≤i
          · rw[if_pos h2]
            cases hh:i -low with
            |zero=>omega
            |succ j=>simp [co]
          · rw[if_neg h2]
        rw[this];omega
    rw[this,Yn,XB,QaO]
    simp only[evQ]
    have h1:((1:Int):Rat)=1:=rfl
    rw[h1];grind
  have e2:evQ R x=(f:Rat)*(x^low*evQ G x)+evQ R1 x:=by
    rw[←QaO,←XB,←Yn]
    refine YI x fun i=> ?_
    rw[Xv,Xi,QmZ,hR1 i,Int.mul_comm (cs G low i)];omega
  have h:=hI x
  rw[e1]
  grind
theorem QcB{L:List Int}{k:Nat}{v:Int}(hk:k<L.length)(j:Nat):co (L.set k v) j=if j=k then v else co L j:=by
  by_cases e:j=k
  · subst e;rw[if_pos rfl];simp [co,List.getD,List.getElem?_set_self hk]
  · rw[if_neg e];simp only[co,List.getD];rw[List.getElem?_set_ne (Ne.symm e)]
theorem Qn5{Q Q1:List Int}{j:Nat}{L v:Int}(h: ∀i,co Q1 i=if i<j then co Q i*L else co Q i)(hj:j<Q1.length)(hv:v=co Q1 j*L): ∀i,co (Q1.set j v) i=if i<j+1 then co Q i*L else co Q i:=fun i=>by
  rw[QcB hj]
  by_cases e:i=j
  · subst e;rw[if_pos rfl,if_pos (by omega),hv,h i,if_neg (by omega)]
  · rw[if_neg e,h i]
    by_cases h1:i<j
    · rw[if_pos h1,if_pos (by omega)]
    · rw[if_neg h1,if_neg (by omega)]
theorem Ql3{Q:List Int}{s:Nat}{L:Int}(h0: ∀i,i<s→co Q i=0): ∀i,co Q i=if i<s then co Q i*L else co Q i:=fun i=>by
  by_cases h:i<s
  · rw[if_pos h,h0 i h];simp
  · rw[if_neg h]
theorem Qk4{R R1 G:List Int}{j low:Nat}{L f v:Int}(h: ∀i,co R1 i=if i<j then co R i*L -f*cs G low i else co R i)(hj:j<R1.length)(hv:v=co R1 j*L -f*cs G low j): ∀i,co (R1.set j v) i=if i<j+1 then co R i*L -f*cs G low i else co R i:=fun i=>by
  rw[QcB hj]
  by_cases e:i=j
  · subst e;rw[if_pos rfl,if_pos (by omega),hv,h i,if_neg (by omega)]
  · rw[if_neg e,h i]
    by_cases h1:i<j
    · rw[if_pos h1,if_pos (by omega)]
    · rw[if_neg h1,if_neg (by omega)]
theorem Qpo{R R1 G:List Int}{j low:Nat}{f v:Int}(h: ∀i,co R1 i=if i<low+j then co R i -f*cs G low i else co R i)(hj:low+j<R1.length)(hv:v=co R1 (low+j) -f*co G j): ∀i,co (R1.set (low+j) v) i=if i<low+(j+1) then co R i -f*cs G low i else co R i:=fun i=>by
  rw[QcB hj]
  by_cases e:i=low+j
  · subst e;rw[if_pos rfl,if_pos (by omega),hv,h _,if_neg (by omega)]
    have :cs G low (low+j)=co G j:=by unfold cs;rw[if_pos (by omega),show low+j -low=j by omega]
    rw[this]
  · rw[if_neg e,h i]
    by_cases h1:i<low+j
    · rw[if_pos h1,if_pos (by omega)]
    · rw[if_neg h1,if_neg (by omega)]
theorem Zj{G:List Int}{d:Nat}(hd:(Xa G).length=d+1):co G d=ldP G∧(∀i,d<i→co G i=0)∧ldP G≠0:=by
  have h1:ldP G=co (Xa G) d:=by unfold ldP;rw[hd,show(((d+1:Nat):Int) -1)=(d:Int) by omega,QeV]
  refine⟨by rw[h1,Xo],fun i hi=> ?_,?_⟩
  · rw[←Xo];exact QcS (n:=d+1) (by omega) i (by omega)
  · rw[h1];have :=YG (f:=Xa G) (Xs ZM G) (by omega);rwa [hd] at this
def QrJ(F G:List Int):Prop:= ∃(Q R:List Int)(s:Nat),(∀x:Rat,evQ F x=evQ Q x*evQ G x+evQ R x)∧(∀i,s+((Xa G).length -1)≤i→co R i=0)∧((0<s∧ ¬ldP G∣co R (s -1+((Xa G).length -1)))∨(s=0∧ ∃i,co R i≠0))
theorem pq2{Q Q1:List Int}{low j:Nat}{L f:Int}(h: ∀i,co Q1 i=if i<j then co Q i*L else co Q i)(hl:Q.length≤j)(hlow:low<Q1.length): ∀i,co (Q1.set low f) i=if i=low then f else co Q i*L:=fun i=>by
  rw[QcB hlow]
  by_cases e:i=low
  · rw[if_pos e,if_pos e]
  · rw[if_neg e,if_neg e,h i]
    by_cases h1:i<j
    · rw[if_pos h1]
    · have hz:co Q i=0:=QcS (n:=j) hl i (by omega)
      rw[if_neg h1,hz];simp
theorem Qa5{G:List Int}(h:ldP G≠0): ∃d,(Xa G).length=d+1:=by
  rcases Nat.eq_zero_or_pos (Xa G).length with h0|h0
  · exfalso;apply h;unfold ldP;rw[←QmK (.inl (by omega))]
  · exact⟨(Xa G).length -1,by omega⟩
theorem Qmn{R G:List Int}{low:Nat}{f:Int}: ∀i,co R i=if i<low+0 then co R i -f*cs G low i else co R i:=fun i=>by
  by_cases h:i<low+0
  · rw[if_pos h];unfold cs;rw[if_neg (by omega)];simp
  · rw[if_neg h]
theorem Qrn{R R1 G:List Int}{low d j:Nat}{f:Int}(h: ∀i,co R1 i=if i<low+j then co R i -f*cs G low i else co R i)(hj:j=d+1)(hG: ∀i,d<i→co G i=0): ∀i,co R1 i=co R i -f*cs G low i:=fun i=>by
  rw[h i]
  by_cases h1:i<low+j
  · rw[if_pos h1]
  · rw[if_neg h1]
    have :cs G low i=0:=by unfold cs;rw[if_pos (by omega),hG _ (by omega)]
    rw[this];simp
theorem Qro{R R1 G:List Int}{low d s:Nat}{f L:Int}(h: ∀i,co R1 i=co R i -f*cs G low i)(hs:s=low+1)(h0: ∀i,s+d≤i→co R i=0)(hd:co G d=L)(hG: ∀i,d<i→co G i=0)(hf:co R (low+d)=L*f): ∀i,s -1+d≤i→co R1 i=0:=fun i hi=>by
  rw[h i]
  by_cases e:i=low+d
  · subst e
    have :cs G low (low+d)=L:=by unfold cs;rw[if_pos (by omega),show low+d -low=d by omega,hd]
    rw[this,hf,Int.mul_comm];omega
  · have :cs G low i=0:=by unfold cs;rw[if_pos (by omega),hG _ (by omega)]
    rw[this,h0 i (by omega)];simp
theorem QpJ{R:List Int}(h:0≤((Xa R).length:Int) -1): ∃i,co R i≠0:=by
  have :=YG (f:=Xa R) (Xs ZM R) (by omega)
  rw[Xo] at this
  exact⟨_,this⟩
theorem QlP{R:List Int}{x:Rat}(h:((Xa R).length:Int) -1<0):evQ R x=0:=by
  rw[←Zt,List.eq_nil_of_length_eq_zero (by omega:(Xa R).length=0)];rfl
theorem Qg4(g:List Int)(x:Rat): ∀k,evQ (Zk g k) x=evQ g x^k
  |0=>by
    show evQ [1] x=_
    simp only[evQ]
    have e1:((1:Int):Rat)=1:=rfl
    rw[e1,Rat.pow_zero];grind
  |k+1=>by
    show evQ (Xg (Zk g k) g) x=_
    rw[Qa2,Qg4 g x k,Rat.pow_succ]
end Go.Gx
namespace Go.Gx
structure QP where
  v:Rat→Rat
  p: ∃(c:Int)(l:List Int),c≠0∧ ∀x,(c:Rat)*v x=evQ l x
theorem QP.eq{f g:QP}(h: ∀x,f.v x=g.v x):f=g:=by
  cases f;cases g
  simp only[QP.mk.injEq]
  exact funext h
theorem Yt:((1:Int):Rat)=1:=rfl
theorem QfJ:((0:Int):Rat)=0:=rfl
def P(l:List Int):QP:=⟨evQ l,1,l,by decide,fun x=>by rw[Yt];grind⟩
instance:Add QP:=⟨fun f g=>⟨fun x=>f.v x+g.v x,by
  obtain⟨c,l,hc,h⟩:=f.p
  obtain⟨d,m,hd,k⟩:=g.p
  exact⟨c*d,Xx (Xf l d) (Xf m c),Int.mul_ne_zero hc hd,fun x=>by rw[Yn,XB,XB,←h,←k,Rat.intCast_mul];grind⟩⟩⟩
instance:Neg QP:=⟨fun f=>⟨fun x=> -f.v x,by
  obtain⟨c,l,hc,h⟩:=f.p
  exact⟨-c,l,by omega,fun x=>by rw[←h,Rat.intCast_neg];grind⟩⟩⟩
instance:Sub QP:=⟨fun f g=>⟨fun x=>f.v x -g.v x,by
  obtain⟨c,l,hc,h⟩:=f.p
  obtain⟨d,m,hd,k⟩:=g.p
  exact⟨c*d,XD (Xf l d) (Xf m c),Int.mul_ne_zero hc hd,fun x=>by rw[Qcf,XB,XB,←h,←k,Rat.intCast_mul];grind⟩⟩⟩
instance:Mul QP:=⟨fun f g=>⟨fun x=>f.v x*g.v x,by
  obtain⟨c,l,hc,h⟩:=f.p
  obtain⟨d,m,hd,k⟩:=g.p
  exact⟨c*d,Xg l m,Int.mul_ne_zero hc hd,fun x=>by rw[Qa2,←h,←k,Rat.intCast_mul];grind⟩⟩⟩
theorem Qm1(r:Rat):((r.den:Int):Rat)≠0:=XC (by have :=r.den_nz;omega)
theorem QcD(r:Rat):((r.den:Int):Rat)*r=(r.num:Rat):=by
  have h:(r.num:Rat)/ ((r.den:Int):Rat)=r:=by
    rw[←Rat.divInt_eq_div];exact Rat.num_divInt_den r
  have :=Qm1 r
  grind
def K(r:Rat):QP:=⟨fun _=>r,r.den,[r.num],by have :=r.den_nz;omega,fun x=>by rw[QcD];simp only[evQ];grind⟩
instance:OfNat QP 0:=⟨K 0⟩
instance:OfNat QP 1:=⟨K 1⟩
theorem Qiw{a:Rat}(h:a≠0): ∀n:Nat,a^n≠0
  |0=>by rw[Rat.pow_zero];decide
  |n+1=>by rw[Rat.pow_succ];exact fun e=>(Rat.mul_eq_zero.1 e).elim (Qiw h n) h
theorem Qfy(a b:Rat): ∀n:Nat,(a*b)^n=a^n*b^n
  |0=>by simp only[Rat.pow_zero];grind
  |n+1=>by simp only[Rat.pow_succ,Qfy a b n];grind
theorem Qfz(a:Rat)(m:Nat): ∀n:Nat,a^ (m+n)=a^m*a^n
  |0=>by simp only[Rat.pow_zero,Nat.add_zero];grind
  |n+1=>by rw[←Nat.add_assoc];simp only[Rat.pow_succ,Qfz a m n];grind
instance:HPow QP Nat QP:=⟨fun f n=>⟨fun x=>f.v x^n,by
  obtain⟨c,l,hc,h⟩:=f.p
  refine⟨c^n,Zk l n,Int.pow_ne_zero hc,fun x=> ?_⟩
  rw[Qg4,←h,Qfy,QgO]⟩⟩
theorem Zy(f g:QP)(x:Rat):(f+g).v x=f.v x+g.v x:=rfl
theorem Qcs(f g:QP)(x:Rat):(f -g).v x=f.v x -g.v x:=rfl
theorem Qv1(f:QP)(x:Rat):(-f).v x= -f.v x:=rfl
theorem Xq(f g:QP)(x:Rat):(f*g).v x=f.v x*g.v x:=rfl
theorem QfY(f:QP)(n:Nat)(x:Rat):(f^n).v x=f.v x^n:=rfl
theorem v_K(r x:Rat):(K r).v x=r:=rfl
theorem v_0(x:Rat):(0:QP).v x=0:=rfl
theorem v_1(x:Rat):(1:QP).v x=1:=rfl
theorem v_P(l:List Int)(x:Rat):(P l).v x=evQ l x:=rfl
theorem qat{f g:QP}(h:f=g)(x:Rat):f.v x=g.v x:=by rw[h]
theorem Zb(f g:List Int):P (Xg f g)=P f*P g:=QP.eq fun x=>Qa2 x f g
theorem Quy(f g:List Int):P (Xx f g)=P f+P g:=QP.eq fun x=>Yn x f g
theorem Qsi(f g:List Int):P (XD f g)=P f -P g:=QP.eq fun x=>Qcf x f g
theorem YF(f:List Int)(c:Int):P (Xf f c)=K c*P f:=QP.eq fun x=>XB x c f
theorem Yf(f:List Int):P (Xa f)=P f:=QP.eq fun x=>Zt f x
theorem QdA:P []=0:=QP.eq fun _=>rfl
theorem QaJ{f g:List Int}(h: ∀i,co f i=co g i):P f=P g:=QP.eq fun x=>YI x h
theorem QfO{f g:List Int}(h:P f=P g):Xa f=Xa g:=QjI fun x=>qat h (x:Rat)
theorem QgE{f g:List Int}(h:P f=P g)(i:Nat):co f i=co g i:=by rw[←Xo f,←Xo g,QfO h]
theorem XA(l:List Int):(∀i,(Xa l).length≤i→co l i=0)∧((Xa l).length=0∨co l ((Xa l).length -1)≠0):=by
  refine⟨fun i hi=> ?_,?_⟩
  · rw[←Xo];exact XX hi
  · rcases Nat.eq_zero_or_pos (Xa l).length with h|h
    · exact .inl h
    · right;rw[←Xo];exact YG (f:=Xa l) (Xs ZM l) (by omega)
theorem QfH{l:List Int}{n:Nat}(hz: ∀i,n≤i→co l i=0)(hn:n=0∨co l (n -1)≠0):(Xa l).length=n:=by
  have⟨a,b⟩:=XA l
  rcases Nat.lt_trichotomy (Xa l).length n with h|h|h
  · exact absurd (a (n -1) (by omega)) (hn.resolve_left (by omega))
  · exact h
  · exact absurd (hz _ (by omega)) (b.resolve_left (by omega))
theorem Qcm(l:List Int){c:Int}(hc:c≠0):(Xa (Xf l c)).length=(Xa l).length:=by
  have⟨a,b⟩:=XA l
  refine QfH (fun i hi=>by rw[Xi,a i hi,Int.zero_mul]) (b.imp id fun h=> ?_)
  rw[Xi];exact Int.mul_ne_zero h hc
theorem Qf8{f g:List Int}{m n:Nat}(hf: ∀i,m<i→co f i=0)(hg: ∀i,n<i→co g i=0):co (Xg f g) (m+n)=co f m*co g n∧ ∀i,m+n<i→co (Xg f g) i=0:=by
  constructor
  · rw[Xp]
    unfold conv YB
    rw[Qb3 (n:=m+1) (by omega) (fun i h1 h2=>by rw[hf i (by omega),Int.zero_mul]),YA,XQ (fun i hi=>by rw[hg (m+n -i) (by omega),Int.mul_zero]),show m+n -m=n by omega,Int.zero_add]
  · intro i hi
    rw[Xp]
    refine XQ fun j hj=> ?_
    rcases Nat.lt_or_ge m j with h|h
    · rw[hf j h,Int.zero_mul]
    · rw[hg (i -j) (by omega),Int.mul_zero]
theorem Qlp{f g:List Int}(hf:(Xa f).length≠0)(hg:(Xa g).length≠0):(Xa (Xg f g)).length+1=(Xa f).length+(Xa g).length:=by
  have⟨a,b⟩:=XA f
  have⟨c,d⟩:=XA g
  have⟨t1,t2⟩:=Qf8 (f:=f) (g:=g) (m:=(Xa f).length -1) (n:=(Xa g).length -1) (fun i hi=>a i (by omega)) (fun i hi=>c i (by omega))
  have :=QfH (l:=Xg f g) (n:=(Xa f).length+(Xa g).length -1) (fun i hi=>t2 i (by omega)) (.inr (by
    rw[show(Xa f).length+(Xa g).length -1 -1=(Xa f).length -1+((Xa g).length -1) by omega,t1]
    exact Int.mul_ne_zero (b.resolve_left hf) (d.resolve_left hg)))
  omega
noncomputable def dg (f:QP):Nat:=(Xa (Classical.choose (Classical.choose_spec f.p))).length
theorem QlK{f:QP}{c:Int}{l:List Int}(hc:c≠0)(h: ∀x,(c:Rat)*f.v x=evQ l x):dg f=(Xa l).length:=by
  have h2:=Classical.choose_spec (Classical.choose_spec f.p)
  revert h2
  unfold dg
  generalize Classical.choose (Classical.choose_spec f.p)=m
  generalize Classical.choose f.p=d
  intro⟨hd,h2⟩
  have :Xa (Xf m c)=Xa (Xf l d):=QjI fun x=>by rw[XB,XB,←h,←h2];grind
  rw[←Qcm m hc,this,Qcm l hd]
theorem Yj(l:List Int):dg (P l)=(Xa l).length:=QlK (c:=1) (by decide) fun x=>by rw[Yt];simp only[v_P];grind
theorem QbO(f:QP): ∃(c:Int)(l:List Int),c≠0∧K c*f=P l∧dg f=(Xa l).length:=by
  obtain⟨c,l,hc,h⟩:=f.p
  exact⟨c,l,hc,QP.eq h,QlK hc h⟩
theorem Qpv{r:Rat}(h:r≠0):K r≠0:=fun e=>h (qat e 0)
theorem Ya{f:QP}:dg f=0↔f=0:=by
  obtain⟨c,l,hc,h,hd⟩:=QbO f
  constructor
  · intro h0
    rw[h0] at hd
    have hl:Xa l=[]:=List.eq_nil_of_length_eq_zero hd.symm
    refine QP.eq fun x=> ?_
    have h1:=qat h x
    rw[←Yf,hl,QdA] at h1
    simp only[Xq,v_K,v_0] at h1⊢
    exact(Rat.mul_eq_zero.1 h1).resolve_left (XC hc)
  · rintro rfl
    have :P l=P []:=by rw[←h,QdA];refine QP.eq fun x=> ?_;simp only[Xq,v_0];grind
    rw[hd,QfO this];rfl
theorem XF{f:QP}:f≠0↔0<dg f:=by
  constructor
  · intro h;rcases Nat.eq_zero_or_pos (dg f) with h0|h0
    · exact absurd (Ya.1 h0) h
    · exact h0
  · intro h e;rw[Ya.2 e] at h;omega
theorem Zd{f g:QP}(hf:f≠0)(hg:g≠0):dg (f*g)+1=dg f+dg g:=by
  obtain⟨c,l,hc,h,hd⟩:=QbO f
  obtain⟨d,m,hd',k,hk⟩:=QbO g
  have :dg (f*g)=(Xa (Xg l m)).length:=QlK (c:=c*d) (Int.mul_ne_zero hc hd') fun x=>by
    rw[Qa2]
    have h1:=qat h x
    have h2:=qat k x
    simp only[Xq,v_K,v_P] at h1 h2⊢
    rw[←h1,←h2,Rat.intCast_mul];grind
  rw[this,hd,hk]
  have h1:=XF.1 hf
  have h2:=XF.1 hg
  exact Qlp (by omega) (by omega)
theorem Qk3{f g:QP}(h:f*g=0):f=0∨g=0:=by
  by_cases hf:f=0
  · exact .inl hf
  · by_cases hg:g=0
    · exact .inr hg
    · have h1:=Zd hf hg
      have h2:=XF.1 hf
      have h3:=XF.1 hg
      rw[h,Ya.2 rfl] at h1
      omega
theorem QaT{f g:QP}(hf:f≠0)(hg:g≠0):f*g≠0:=fun h=>(Qk3 h).elim hf hg
theorem QiI{f g h:QP}(hh:h≠0)(e:f*h=g*h):f=g:=by
  have :(f -g)*h=0:=QP.eq fun x=>by have :=qat e x;simp only[Xq,Qcs,v_0] at this⊢;grind
  have :=(Qk3 this).resolve_right hh
  exact QP.eq fun x=>by have :=qat this x;simp only[Qcs,v_0] at this;grind
theorem ZP{f:QP}(hf:f≠0): ∀n:Nat,f^n≠0
  |0=>by
    have :f^0=1:=QP.eq fun x=>by rw[QfY,v_1,Rat.pow_zero]
    rw[this];exact Qpv (by decide)
  |n+1=>by
    have :f^ (n+1)=f^n*f:=QP.eq fun x=>by rw[QfY,Xq,QfY,Rat.pow_succ]
    rw[this];exact QaT (ZP hf n) hf
theorem QdS(f:QP)(m n:Nat):f^ (m+n)=f^m*f^n:=QP.eq fun x=>by simp only[QfY,Xq,Qfz]
theorem XP(f:QP)(n:Nat):f^ (n+1)=f^n*f:=QP.eq fun x=>by rw[QfY,Xq,QfY,Rat.pow_succ]
theorem YO(f:QP):f^0=1:=QP.eq fun x=>by rw[QfY,v_1,Rat.pow_zero]
instance:Dvd QP:=⟨fun g f=> ∃q,f=q*g⟩
theorem QuN(f g:QP):dg (f+g)≤max (dg f) (dg g):=by
  obtain⟨c,l,hc,h,hd⟩:=QbO f
  obtain⟨d,m,hd',k,hk⟩:=QbO g
  have :dg (f+g)=(Xa (Xx (Xf l d) (Xf m c))).length:=QlK (c:=c*d) (Int.mul_ne_zero hc hd') fun x=>by
    rw[Yn,XB,XB]
    have h1:=qat h x
    have h2:=qat k x
    simp only[Xq,v_K,v_P,Zy] at h1 h2⊢
    rw[←h1,←h2,Rat.intCast_mul];grind
  rw[this,hd,hk]
  have⟨a,_⟩:=XA l
  have⟨a',_⟩:=XA m
  have⟨_,b⟩:=XA (Xx (Xf l d) (Xf m c))
  rcases b with b|b
  · omega
  · apply Classical.byContradiction
    intro hn
    apply b
    rw[Xv,Xi,Xi,a _ (by omega),a' _ (by omega)];simp
theorem QuM{r:Rat}(h:r≠0):dg (K r)=1:=by
  have :dg (K r)=(Xa [r.num]).length:=QlK (c:=r.den) (by have :=r.den_nz;omega) fun x=>by rw[v_K,QcD];simp only[evQ];grind
  rw[this]
  refine QfH (fun i hi=>XX (by simpa using hi)) (.inr ?_)
  simp [co]
  exact h
theorem Qar{r:Rat}(h:r≠0)(f:QP):dg (K r*f)=dg f:=by
  by_cases hf:f=0
  · subst hf
    have :K r*0=0:=QP.eq fun x=>by simp only[Xq,v_0];grind
    rw[this]
  · have :=Zd (Qpv h) hf
    rw[QuM h] at this
    omega
theorem QuO(f:QP):dg (-f)=dg f:=by
  have : -f=K (-1)*f:=QP.eq fun x=>by simp only[Qv1,Xq,v_K];grind
  rw[this,Qar (by decide)]
theorem Qm4(f g:QP):dg (f -g)≤max (dg f) (dg g):=by
  have :f -g=f+ -g:=QP.eq fun x=>by simp only[Qcs,Zy,Qv1];grind
  rw[this]
  have :=QuN f (-g)
  rwa [QuO] at this
theorem Qm3{f:QP}(h:dg f≤1): ∃r,f=K r:=by
  obtain⟨c,l,hc,e,hd⟩:=QbO f
  have :P l=P [co l 0]:=QaJ fun i=>by
    cases i with
    |zero=>simp [co]
    |succ i=>rw[(XA l).1 (i+1) (by omega)];simp [co]
  refine⟨(co l 0:Rat)/ (c:Rat),QP.eq fun x=> ?_⟩
  rw[this] at e
  have h1:=qat e x
  have h2:=XC hc
  simp only[Xq,v_K,v_P,evQ] at h1⊢
  grind
theorem Qe5{f g:QP}(h:g∣f)(hd:dg f<dg g):f=0:=by
  obtain⟨q,rfl⟩:=h
  by_cases hq:q=0
  · subst hq;exact QP.eq fun x=>by simp only[Xq,v_0];grind
  · have hg:g≠0:=XF.2 (by omega)
    have :=Zd hq hg
    have :=XF.1 hq
    omega
theorem Qaj{f g:QP}(h:g∣f)(hf:f≠0):dg g≤dg f:=by
  apply Classical.byContradiction
  intro hn
  exact hf (Qe5 h (by omega))
theorem Qtz{f g:QP}(hg:g≠0)(h:dg g≤dg f): ∃q,dg (f -q*g)<dg f:=by
  obtain⟨c,l,hc,e,hd⟩:=QbO f
  obtain⟨d,m,hd',k,hk⟩:=QbO g
  have hg':=XF.1 hg
  have⟨a,b⟩:=XA l
  have⟨a',b'⟩:=XA m
  replace b:=b.resolve_left (by omega)
  replace b':=b'.resolve_left (by omega)
  have h1:=XC hc
  have h2:=XC hd'
  have h3:=XC b'
  refine⟨K (((co l ((Xa l).length -1):Int):Rat)*(d:Rat)/ ((c:Rat)*((co m ((Xa m).length -1):Int):Rat)))*P (List.replicate (dg f -dg g) 0++[1]),?_⟩
  have :dg (f -K (((co l ((Xa l).length -1):Int):Rat)*(d:Rat)/ ((c:Rat)*((co m ((Xa m).length -1):Int):Rat)))*P (List.replicate (dg f -dg g) 0++[1])*g)=
      (Xa (XD (Xf l (co m ((Xa m).length -1))) (Xf (List.replicate (dg f -dg g) 0++m) (co l ((Xa l).length -1))))).length:=
    QlK (c:=c*co m ((Xa m).length -1)) (Int.mul_ne_zero hc b') fun x=>by
      rw[Qcf,XB,XB,QaO]
      have e1:=qat e x
      have e2:=qat k x
      simp only[Xq,v_K,v_P,Qcs,QaO] at e1 e2⊢
      rw[←e1,←e2,Rat.intCast_mul]
      simp only[evQ,Yt]
      grind
  rw[this]
  have hz: ∀i,dg f -1≤i→co (XD (Xf l (co m ((Xa m).length -1))) (Xf (List.replicate (dg f -dg g) 0++m) (co l ((Xa l).length -1)))) i=0:=fun i hi=>by
    rw[ZG,Xi,Xi,QmZ]
    unfold cs
    rw[if_pos (by omega)]
    by_cases h4:i=dg f -1
    · rw[show i -(dg f -dg g)=(Xa m).length -1 by omega,show i=(Xa l).length -1 by omega,Int.mul_comm];omega
    · rw[a i (by omega),a' (i -(dg f -dg g)) (by omega)];simp
  have⟨_,t⟩:=XA (XD (Xf l (co m ((Xa m).length -1))) (Xf (List.replicate (dg f -dg g) 0++m) (co l ((Xa l).length -1))))
  rcases t with t|t
  · omega
  · apply Classical.byContradiction
    intro hn
    exact t (hz _ (by omega))
theorem Qm7{g:QP}(hg:g≠0): ∀(n:Nat)(f:QP),dg f≤n→ ∃q r,f=q*g+r∧dg r<dg g
  |0,f,h=>⟨0,f,QP.eq fun x=>by simp only[Zy,Xq,v_0];grind,by have :=XF.1 hg;omega⟩
  |n+1,f,h=>by
    rcases Nat.lt_or_ge (dg f) (dg g) with h1|h1
    · exact⟨0,f,QP.eq fun x=>by simp only[Zy,Xq,v_0];grind,h1⟩
    · obtain⟨q,hq⟩:=Qtz hg h1
      obtain⟨q',r,e,hr⟩:=Qm7 hg n (f -q*g) (by omega)
      exact⟨q+q',r,QP.eq fun x=>by have :=qat e x;simp only[Zy,Xq,Qcs] at this⊢;grind,hr⟩
theorem QoE{g:QP}(hg:g≠0)(f:QP): ∃q r,f=q*g+r∧dg r<dg g:=Qm7 hg _ f (Nat.le_refl _)
theorem XL(f:QP):f∣f:=⟨1,QP.eq fun x=>by simp only[Xq,v_1];grind⟩
theorem Qb0(f:QP):f∣0:=⟨0,QP.eq fun x=>by simp only[Xq,v_0];grind⟩
theorem Yq{f g h:QP}:f∣g→g∣h→f∣h:=by
  rintro⟨q,rfl⟩ ⟨r,rfl⟩
  exact⟨r*q,QP.eq fun x=>by simp only[Xq];grind⟩
theorem Qa7{f g h:QP}:f∣g→f∣h→f∣g+h:=by
  rintro⟨q,rfl⟩ ⟨r,rfl⟩
  exact⟨q+r,QP.eq fun x=>by simp only[Xq,Zy];grind⟩
theorem Qk1{f g h:QP}:f∣g→f∣h→f∣g -h:=by
  rintro⟨q,rfl⟩ ⟨r,rfl⟩
  exact⟨q -r,QP.eq fun x=>by simp only[Xq,Qcs];grind⟩
theorem XJ{f g:QP}(h:QP):f∣g→f∣h*g:=by
  rintro⟨q,rfl⟩
  exact⟨h*q,QP.eq fun x=>by simp only[Xq];grind⟩
theorem Qdl{f g:QP}(h:QP):f∣g→f∣g*h:=by
  rintro⟨q,rfl⟩
  exact⟨h*q,QP.eq fun x=>by simp only[Xq];grind⟩
theorem XT(f g:QP):f*g=g*f:=QP.eq fun x=>by simp only[Xq];grind
theorem XI(f g h:QP):f*g*h=f*(g*h):=QP.eq fun x=>by simp only[Xq];grind
theorem Qk2{f g h k:QP}:f∣g→h∣k→f*h∣g*k:=by
  rintro⟨q,rfl⟩ ⟨r,rfl⟩
  exact⟨q*r,QP.eq fun x=>by simp only[Xq];grind⟩
theorem Qca{f:QP}:(0:QP)∣f→f=0:=by
  rintro⟨q,rfl⟩
  exact QP.eq fun x=>by simp only[Xq,v_0];grind
def Qsh(f g:QP)(k:Nat):Prop:= ∃r,f=r*g^k∧ ¬g∣r
theorem Qio{f g:QP}{k m:Nat}(hg:g≠0)(h:Qsh f g k):g^m∣f↔m≤k:=by
  obtain⟨r,rfl,hr⟩:=h
  constructor
  · rintro⟨q,e⟩
    apply Classical.byContradiction
    intro hn
    obtain⟨j,rfl⟩: ∃j,m=k+j+1:=⟨m -k -1,by omega⟩
    apply hr
    refine⟨q*g^j,QiI (ZP hg k) ?_⟩
    rw[e,XP,QdS]
    exact QP.eq fun x=>by simp only[Xq];grind
  · intro hm
    obtain⟨j,rfl⟩: ∃j,k=j+m:=⟨k -m,by omega⟩
    exact⟨r*g^j,by rw[QdS];exact QP.eq fun x=>by simp only[Xq];grind⟩
theorem Ql2{f g:QP}{k m:Nat}(hg:g≠0)(h:Qsh f g k)(h':Qsh f g m):k=m:=by
  have h1:=(Qio (m:=k) hg h').1 ((Qio (m:=k) hg h).2 (Nat.le_refl _))
  have h2:=(Qio (m:=m) hg h).1 ((Qio (m:=m) hg h').2 (Nat.le_refl _))
  omega
theorem Qjo{f g:QP}{r:Rat}(hr:r≠0):(g∣K r*f)↔g∣f:=by
  constructor
  · rintro⟨q,e⟩
    exact⟨K (1/r)*q,QP.eq fun x=>by have :=qat e x;simp only[Xq,v_K] at this⊢;grind⟩
  · exact XJ _
theorem Qdz{f g:QP}{r:Rat}(hr:r≠0):(K r*g∣f)↔g∣f:=by
  constructor
  · rintro⟨q,rfl⟩
    exact⟨q*K r,QP.eq fun x=>by simp only[Xq,v_K];grind⟩
  · rintro⟨q,rfl⟩
    exact⟨K (1/r)*q,QP.eq fun x=>by simp only[Xq,v_K];grind⟩
end Go.Gx
namespace Go.Gx
theorem QFr{n N D n' d':Int}{v:Nat}(hx:n*D=N*(v:Int))(hv:0<v)(hD:0<D)(hc:Nat.gcd n.natAbs v=1)(en:n'=N.tdiv (Int.gcd N D:Int))(ed:d'=D.tdiv (Int.gcd N D:Int)):n'=n∧d'=(v:Int):=by
  obtain⟨h1,h2,h3⟩:=QEr rfl rfl rfl hD en ed
  have hx2:n*d'=n'*(v:Int):=by
    have e:D*(n*d')=D*(n'*(v:Int)):=by
      grind
    exact Int.eq_of_mul_eq_mul_left (by omega) e
  have hN:=congrArg Int.natAbs hx2
  rw[Int.natAbs_mul,Int.natAbs_mul,Int.natAbs_natCast] at hN
  have a1:v∣d'.natAbs:=Nat.Coprime.dvd_of_dvd_mul_left (show Nat.Coprime v n.natAbs from(Nat.gcd_comm _ _).trans hc) ⟨n'.natAbs,by rw[hN,Nat.mul_comm]⟩
  have a2:d'.natAbs∣v:=Nat.Coprime.dvd_of_dvd_mul_left (show Nat.Coprime d'.natAbs n'.natAbs from(Nat.gcd_comm _ _).trans h3) ⟨n.natAbs,by rw[←hN,Nat.mul_comm]⟩
  have a3:v=d'.natAbs:=Nat.dvd_antisymm a1 a2
  have a4:(v:Int)=d':=by omega
  refine⟨?_,a4.symm⟩
  rw[a4] at hx2
  exact(Int.eq_of_mul_eq_mul_right (by omega) hx2).symm
theorem QEO{r:Rat}{n d:Int}(h:(n:Rat)=r*(d:Rat)):r.num*d=n*(r.den:Int):=by
  apply Rat.intCast_inj.1
  have h2:=QcD r
  rw[Rat.intCast_mul,Rat.intCast_mul,←h2,h]
  grind
theorem QFl{r:Rat}{n d:Int}(h:(n:Rat)=r*(d:Rat))(hd:0<d):n.tdiv (Int.gcd n d:Int)=r.num∧d.tdiv (Int.gcd n d:Int)=(r.den:Int):=
  QFr (QEO h) r.den_pos hd r.reduced rfl rfl
theorem QFk{n d:Int}(hd:0<d):(Int.gcd n d:Int)≠0:=by
  have :=Nat.gcd_pos_of_pos_right n.natAbs (show 0<d.natAbs by omega)
  unfold Int.gcd;omega
theorem QDe(r:Rat):(r.num:Rat)=r*((r.den:Int):Rat):=by rw[←QcD r];grind
theorem QEP{n d:Int}(hd:d≠0):(n:Rat)=((n:Rat)/ (d:Rat))*(d:Rat):=by
  have :=XC hd
  grind
theorem QEd{r s:Rat}{n d m f:Int}(h:(n:Rat)=r*(d:Rat))(hd:0<d)(k:(m:Rat)=s*(f:Rat))(hf:0<f):(n*f<m*d↔r<s):=by
  rw[←Rat.intCast_lt_intCast,Rat.intCast_mul,Rat.intCast_mul,h,k]
  have h1:(0:Rat)<(d:Rat):=by rw[←QfJ];exact Rat.intCast_lt_intCast.2 hd
  have h2:(0:Rat)<(f:Rat):=by rw[←QfJ];exact Rat.intCast_lt_intCast.2 hf
  have h3:(0:Rat)<(d:Rat)*(f:Rat):=Rat.mul_pos h1 h2
  rw[show r*(d:Rat)*(f:Rat)=r*((d:Rat)*(f:Rat)) by grind,show s*(f:Rat)*(d:Rat)=s*((d:Rat)*(f:Rat)) by grind]
  exact Rat.mul_lt_mul_right h3
theorem QEB{r s:Rat}{n d m f:Int}(h:(n:Rat)=r*(d:Rat))(hd:0<d)(k:(m:Rat)=s*(f:Rat))(hf:0<f):(n*f=m*d↔r=s):=by
  have h1:=QEd h hd k hf
  have h2:=QEd k hf h hd
  constructor
  · intro e
    have a:=mt h1.2 (by omega)
    have b:=mt h2.2 (by omega)
    exact Rat.le_antisymm (Rat.not_lt.1 b) (Rat.not_lt.1 a)
  · rintro rfl
    have a:=mt h1.1 (Rat.lt_irrefl (a:=r))
    have b:=mt h2.1 (Rat.lt_irrefl (a:=r))
    omega
theorem QFm{r:Rat}{n d:Int}(h:(n:Rat)=r*(d:Rat))(hd:0<d):(n<0↔r<0)∧(0<n↔0<r)∧(n=0↔r=0):=by
  have z:((0:Int):Rat)=(0:Rat)*((1:Int):Rat):=by rw[QfJ];grind
  have h1:=QEd h hd z (by decide)
  have h2:=QEd z (by decide) h hd
  have h3:=QEB h hd z (by decide)
  rw[Int.mul_one,Int.zero_mul] at h1 h2 h3
  exact⟨h1,h2,h3⟩
def cmQ(a b:Rat):Int:=if a<b then -1 else if b<a then 1 else 0
theorem QD5{a b:Rat}:cmQ a b<0↔a<b:=by
  unfold cmQ
  by_cases h:a<b
  · rw[if_pos h];simp [h]
  · rw[if_neg h]
    by_cases h2:b<a
    · rw[if_pos h2];simp [h]
    · rw[if_neg h2];simp [h]
theorem QFp{c:Int}{a b:Rat}(h1:c<0↔a<b)(h2:0<c↔b<a)(h3: -1≤c)(h4:c≤1):c=cmQ a b:=by
  unfold cmQ
  split
  · rename_i h;have :=h1.2 h;omega
  · rename_i h
    have :=mt h1.1 h
    split
    · rename_i k;have :=h2.2 k;omega
    · rename_i k;have :=mt h2.1 k;omega
theorem QEy{a b:Rat}:cmQ a b=0↔a=b:=by
  unfold cmQ
  constructor
  · intro h
    split at h
    · omega
    · split at h
      · omega
      · rename_i h1 h2
        exact Rat.le_antisymm (Rat.not_lt.1 h2) (Rat.not_lt.1 h1)
  · rintro rfl
    rw[if_neg Rat.lt_irrefl,if_neg Rat.lt_irrefl]
theorem QEH{F:List Int}{k:Nat}{n d v w w':Int}{r:Rat}(hr:(n:Rat)=r*(d:Rat))(hk:0<k)(hl:k≤F.length)(hv:(v:Rat)=evQ (F.drop k) r*(w:Rat))(hw:k<F.length∧w'=w*d∨k=F.length∧w'=w∧v=0):((v*n+co F (k -1)*w':Int):Rat)=evQ (F.drop (k -1)) r*(w':Rat):=by
  have e:F.drop (k -1)=co F (k -1)::F.drop k:=by
    rw[List.drop_eq_getElem_cons (show k -1<F.length by omega),show k -1+1=k by omega]
    simp [co,List.getD,show k -1<F.length by omega]
  rw[e]
  simp only[evQ,Rat.intCast_add,Rat.intCast_mul]
  rcases hw with⟨_,rfl⟩| ⟨rfl,rfl,rfl⟩
  · rw[Rat.intCast_mul,hr];grind
  · rw[List.drop_length];simp only[evQ];rw[QfJ];grind
end Go.Gx
namespace Go.Gx
def md(p:Nat)(z:Int):Nat:=(z % (p:Int)).toNat
theorem Qvw{p r:Nat}{z k:Int}(hr:r<p)(h:z=r+(p:Int)*k):md p z=r:=by
  have h2:((r:Int) % (p:Int))=r:=Int.emod_eq_of_lt (by omega) (by omega)
  unfold md
  rw[h,Int.add_mul_emod_self_left,h2]
  omega
theorem QlX{p:Nat}(hp:0<p)(z:Int): ∃k:Int,z=md p z+(p:Int)*k:=by
  have h0:=Int.emod_nonneg z (show(p:Int)≠0 by omega)
  have h1:=Int.emod_add_mul_ediv z (p:Int)
  refine⟨z/p,?_⟩
  unfold md
  omega
theorem Qej{p:Nat}(hp:0<p)(z:Int):md p z<p:=by
  have h0:=Int.emod_nonneg z (show(p:Int)≠0 by omega)
  have h2:=Int.emod_lt_of_pos z (show(0:Int)<p by omega)
  unfold md
  omega
def Cg(p:Nat)(a b:Int):Prop:= ∃k:Int,a=b+(p:Int)*k
theorem Cg.refl(p:Nat)(a:Int):Cg p a a:=⟨0,by grind⟩
theorem Cg.symm{p:Nat}{a b:Int}(h:Cg p a b):Cg p b a:=by obtain⟨k,h⟩:=h;exact⟨-k,by grind⟩
theorem Cg.trans{p:Nat}{a b c:Int}(h:Cg p a b)(g:Cg p b c):Cg p a c:=by obtain⟨k,h⟩:=h;obtain⟨l,g⟩:=g;exact⟨k+l,by grind⟩
theorem Cg.add{p:Nat}{a b c d:Int}(h:Cg p a b)(g:Cg p c d):Cg p (a+c) (b+d):=by obtain⟨k,h⟩:=h;obtain⟨l,g⟩:=g;exact⟨k+l,by grind⟩
theorem Cg.sub{p:Nat}{a b c d:Int}(h:Cg p a b)(g:Cg p c d):Cg p (a -c) (b -d):=by obtain⟨k,h⟩:=h;obtain⟨l,g⟩:=g;exact⟨k -l,by grind⟩
theorem Cg.neg{p:Nat}{a b:Int}(h:Cg p a b):Cg p (-a) (-b):=by obtain⟨k,h⟩:=h;exact⟨-k,by grind⟩
theorem Cg.mul{p:Nat}{a b c d:Int}(h:Cg p a b)(g:Cg p c d):Cg p (a*c) (b*d):=by obtain⟨k,h⟩:=h;obtain⟨l,g⟩:=g;exact⟨k*d+b*l+p*k*l,by grind⟩
theorem Cg.self{p:Nat}(k:Int):Cg p ((p:Int)*k) 0:=⟨k,by grind⟩
theorem QlF{p:Nat}(hp:0<p)(z:Int):Cg p (md p z:Nat) z:=Cg.symm (QlX hp z)
theorem Zq{p:Nat}(a:Nat):Cg p ((a % p:Nat):Int) a:=by
  refine⟨-((a/p:Nat):Int),?_⟩
  have h:((p*(a/p)+a % p:Nat):Int)=a:=by rw[Nat.div_add_mod]
  simp only[Int.natCast_add,Int.natCast_mul] at h
  grind
theorem Qfm{p:Nat}(hp:0<p){a b:Int}(h:Cg p a b):md p a=md p b:=by
  obtain⟨k,h⟩:=h
  obtain⟨l,e⟩:=QlX hp b
  exact Qvw (k:=l+k) (Qej hp b) (by rw[h];grind)
theorem QcZ{p:Nat}(hp:0<p){a b:Int}(h:md p a=md p b):Cg p a b:=(QlF hp a).symm.trans (by rw[h];exact QlF hp b)
theorem QlY{p r:Nat}{z:Int}(hr:r<p)(h:Cg p (r:Int) z):r=md p z:=by
  obtain⟨k,h⟩:=h
  exact(Qvw (k:= -k) hr (by grind)).symm
theorem Qgn{p:Nat}(hp:0<p)(a:Nat):md p (a:Int)=a % p:=(QlY (Nat.mod_lt a hp) (Zq a)).symm
theorem QdQ{p r:Nat}(hr:r<p):md p (r:Int)=r:=(QlY hr (Cg.refl p _)).symm
theorem Qf6{p a:Nat}(ha:a≤p):Cg p ((p -a:Nat):Int) (-(a:Int)):=⟨1,by omega⟩
theorem QrU{p:Nat}(hp:0<p)(a:Nat):(p -a % p) % p=md p (-(a:Int)):=
  QlY (Nat.mod_lt _ hp) ((Zq _).trans ((Qf6 (Nat.le_of_lt (Nat.mod_lt a hp))).trans (Zq a).neg))
theorem Qvv{p:Nat}(hp:0<p)(a b:Nat):(a+b) % p=md p ((a:Int)+b):=by
  rw[←Int.natCast_add,Qgn hp]
theorem QnU{p:Nat}(hp:0<p)(a b:Nat):a*b % p=md p ((a:Int)*b):=by
  rw[←Int.natCast_mul,Qgn hp]
theorem Qvx{p:Nat}(hp:0<p)(a b:Nat):(a+(p -b % p) % p) % p=md p ((a:Int) -b):=by
  refine QlY (Nat.mod_lt _ hp) ((Zq _).trans ?_)
  rw[Int.natCast_add,QrU hp,show(a:Int) -b=a+ -(b:Int) by omega]
  exact(Cg.refl p _).add (QlF hp _)
def zl(l:List Nat):List Int:=l.map fun a=>((a:Nat):Int)
theorem Zl(l:List Nat):(zl l).length=l.length:=by simp [zl]
theorem ZS(l:List Nat)(i:Nat):co (zl l) i=((l.getD i 0:Nat):Int):=by
  simp only[co,zl,List.getD,List.getElem?_map]
  cases l[i]? <;>rfl
def XR(p:Nat)(l:List Int):List Nat:=YK (l.map (md p))
def QdX(p a:Nat):Int:=if 2*(a % p)>p then((a % p:Nat):Int) -p else((a % p:Nat):Int)
def ZL(p a:Nat):Nat:=((List.range p).find? fun x=>a*x % p==1 % p).getD 0
theorem Qjx{p a x:Nat}(hp:0<p)(hx:x<p)(h:a*x % p=1 % p):ZL p a=x:=by
  unfold ZL
  cases hf:(List.range p).find? fun x=>a*x % p==1 % p with
  |none=>
    have :=List.find?_eq_none.1 hf x (List.mem_range.2 hx)
    simp [h] at this
  |some y=>
    have h1:=List.find?_some hf
    have h2:=List.mem_range.1 (List.mem_of_find?_eq_some hf)
    simp only[beq_iff_eq] at h1
    show y=x
    have c1:Cg p ((a:Int)*x) 1:=by
      have :=(Zq (p:=p) (a*x)).symm;rw[h] at this;simpa using this.trans (Zq 1)
    have c2:Cg p ((a:Int)*y) 1:=by
      have :=(Zq (p:=p) (a*y)).symm;rw[h1] at this;simpa using this.trans (Zq 1)
    have c3:Cg p ((a:Int)*x*y) y:=by simpa using c1.mul (Cg.refl p (y:Int))
    have c4:Cg p ((a:Int)*x*y) x:=by
      have :=c2.mul (Cg.refl p (x:Int))
      rw[show(a:Int)*y*x=a*x*y by grind,Int.one_mul] at this
      exact this
    have c5:=c3.symm.trans c4
    exact(QdQ h2).symm.trans ((Qfm hp c5).trans (QdQ hx))
end Go.Gx
namespace Go.Gx
structure Qi9 (m a r s:Nat) (x y:Int):Prop where
  g:Nat.gcd r s=1
  cx:Cg m (x*a) r
  cy:Cg m (y*a) s
  b:x.natAbs*s+y.natAbs*r=m
  sg:(0≤x∧y≤0)∨(x≤0∧0≤y)
  bx:x.natAbs≤m
  by_:y.natAbs≤m
  rm:r≤m
  sm:s≤m
theorem Qi9.start{m a:Nat}(hm:0<m)(h:Nat.gcd a m=1):Qi9 m a (a % m) m 1 0:=by
  refine⟨?_,?_,?_,by simp,.inl ⟨by omega,by omega⟩,by simp;omega,by simp,Nat.le_of_lt (Nat.mod_lt _ hm),Nat.le_refl _⟩
  · rw[←Nat.gcd_rec,Nat.gcd_comm];exact h
  · rw[Int.one_mul];exact(Zq a).symm
  · rw[Int.zero_mul];exact⟨-1,by omega⟩
theorem Qi9.nx{m a r s:Nat}{x y:Int}(h:Qi9 m a r s x y):(x -((r/s:Nat):Int)*y).natAbs=x.natAbs+(r/s)*y.natAbs:=by
  rcases h.sg with⟨h1,h2⟩| ⟨h1,h2⟩
  · have h3:((r/s:Nat):Int)*y≤0:=Int.mul_nonpos_of_nonneg_of_nonpos (Int.natCast_nonneg _) h2
    have e:((r/s:Nat):Int)*y= -(((r/s)*y.natAbs:Nat):Int):=by
      rw[Int.natCast_mul,show((y.natAbs:Nat):Int)= -y by omega];grind
    omega
  · have h3:0≤((r/s:Nat):Int)*y:=Int.mul_nonneg (Int.natCast_nonneg _) h2
    have e:((r/s:Nat):Int)*y=(((r/s)*y.natAbs:Nat):Int):=by
      rw[Int.natCast_mul,show((y.natAbs:Nat):Int)=y by omega]
    omega
theorem Qi9.nb{m a r s:Nat}{x y:Int}(h:Qi9 m a r s x y)(hs:0<s):x.natAbs+(r/s)*y.natAbs≤m:=by
  have h1:=h.b
  have h2:(r/s)*s≤r:=Nat.div_mul_le_self r s
  have h3:y.natAbs*((r/s)*s)≤y.natAbs*r:=Nat.mul_le_mul_left _ h2
  have h4:(x.natAbs+(r/s)*y.natAbs)*s≤m:=by
    rw[Nat.add_mul,Nat.mul_comm (r/s) y.natAbs,Nat.mul_assoc];omega
  have h5:(x.natAbs+(r/s)*y.natAbs)*1≤(x.natAbs+(r/s)*y.natAbs)*s:=Nat.mul_le_mul_left _ hs
  omega
theorem Qi9.qb{m a r s:Nat}{x y:Int}(h:Qi9 m a r s x y)(hs:0<s):(((r/s:Nat):Int)*y).natAbs≤m:=by
  have :=h.nb hs
  rw[Int.natAbs_mul,Int.natAbs_natCast];omega
theorem Qi9.step{m a r s:Nat}{x y:Int}(h:Qi9 m a r s x y)(hs:0<s):Qi9 m a s (r % s) y (x -((r/s:Nat):Int)*y):=by
  have hd:s*(r/s)+r % s=r:=Nat.div_add_mod r s
  refine⟨?_,h.cy,?_,?_,?_,h.by_,?_,h.sm,Nat.le_trans (Nat.le_of_lt (Nat.mod_lt _ hs)) h.sm⟩
  · rw[Nat.gcd_comm,←Nat.gcd_rec,Nat.gcd_comm];exact h.g
  · have h1:=h.cx.sub ((Cg.refl m ((r/s:Nat):Int)).mul h.cy)
    have e1:(x -((r/s:Nat):Int)*y)*a=x*a -((r/s:Nat):Int)*(y*a):=by grind
    have e2:((r % s:Nat):Int)=(r:Int) -((r/s:Nat):Int)*s:=by
      have :((s*(r/s)+r % s:Nat):Int)=r:=by rw[hd]
      simp only[Int.natCast_add,Int.natCast_mul] at this
      grind
    rw[e1,e2];exact h1
  · rw[h.nx,←h.b,Nat.add_mul]
    have :y.natAbs*r=y.natAbs*(r % s)+(r/s)*y.natAbs*s:=by
      conv=>lhs;rw[←hd]
      rw[Nat.mul_add,Nat.mul_comm (r/s) y.natAbs,Nat.mul_assoc,Nat.mul_comm s (r/s)];omega
    omega
  · rcases h.sg with⟨h1,h2⟩| ⟨h1,h2⟩
    · right
      have h3:((r/s:Nat):Int)*y≤0:=Int.mul_nonpos_of_nonneg_of_nonpos (Int.natCast_nonneg _) h2
      exact⟨h2,by omega⟩
    · left
      have h3:0≤((r/s:Nat):Int)*y:=Int.mul_nonneg (Int.natCast_nonneg _) h2
      exact⟨h2,by omega⟩
  · rw[h.nx];exact h.nb hs
theorem Qi9.done{m a r:Nat}{x y:Int}(h:Qi9 m a r 0 x y)(hm:0<m):r=1∧md m x=ZL m a:=by
  have h1:=h.g
  rw[Nat.gcd_zero_right] at h1
  refine⟨h1,(Qjx hm (Qej hm x) ?_).symm⟩
  have h2:=h.cx
  rw[h1] at h2
  rw[QnU hm,←Qgn hm 1]
  refine Qfm hm (Cg.trans ((Cg.refl m _).mul (QlF hm x)) ?_)
  rw[Int.mul_comm];exact h2
theorem Quf{m:Nat}(hm:0<m)(x:Int):(x.tmod m+m).tmod m=((md m x:Nat):Int)∧ -(m:Int)<x.tmod m∧x.tmod m<m:=by
  have h1:=Int.tmod_lt_of_pos x (show(0:Int)<m by omega)
  have h2:=Int.lt_tmod_of_pos x (show(0:Int)<m by omega)
  refine⟨?_,h2,h1⟩
  have h3:Cg m (x.tmod m) x:=⟨-(x.tdiv m),by have :=Int.tmod_add_mul_tdiv x (m:Int);grind⟩
  have h4:Cg m ((x.tmod m+m).tmod m) (x.tmod m+m):=⟨-((x.tmod m+m).tdiv m),by have :=Int.tmod_add_mul_tdiv (x.tmod m+m) (m:Int);grind⟩
  have h5:0≤(x.tmod m+m).tmod m:=Int.tmod_nonneg _ (by omega)
  have h6:=Int.tmod_lt_of_pos (x.tmod m+m) (show(0:Int)<m by omega)
  obtain⟨r,hr⟩: ∃r:Nat,(x.tmod m+m).tmod m=r:=⟨((x.tmod m+m).tmod m).toNat,by omega⟩
  rw[hr] at h4 h6⊢
  have h7:Cg m (r:Int) x:=h4.trans ((h3.add (⟨1,by omega⟩:Cg m (m:Int) 0)).trans (by rw[Int.add_zero];exact Cg.refl _ _))
  rw[QlY (by omega) h7]
end Go.Gx
namespace Go.Gx
end Go.Gx
namespace Go.Gx
def Qhi(f g:List Int)(i k j:Nat):Int:=co (Xg (f.take i) g) j+(if i≤j∧j -i<k then co f i*co g (j -i) else 0)
theorem Ql1(f g:List Int)(j:Nat):Qhi f g 0 0 j=0:=by
  unfold Qhi
  rw[if_neg (by omega),Xp,List.take_zero,show conv [] g j=0 from XQ fun i _=>by simp]
  rfl
theorem Qqv{f g:List Int}{i:Nat}(j:Nat):Qhi f g i g.length j=Qhi f g (i+1) 0 j:=by
  unfold Qhi
  rw[if_neg (c:=i+1≤j∧j -(i+1)<0) (by omega),Xp,Xp,Int.add_zero]
  have h1:conv (f.take (i+1)) g j=Ye (fun a=>co (f.take i) a*co g (j -a)+(if a=i then co f i*co g (j -i) else 0)) (j+1):=by
    refine Xt fun a ha=> ?_
    show co (f.take (i+1)) a*co g (j -a)=co (f.take i) a*co g (j -a)+_
    rw[Qeo,Qeo]
    by_cases h:a=i
    · subst h;rw[if_pos (by omega),if_neg (by omega),if_pos rfl];omega
    · rw[if_neg h]
      by_cases h2:a<i
      · rw[if_pos (by omega),if_pos h2];omega
      · rw[if_neg (by omega),if_neg h2];omega
  rw[h1,Qcl]
  congr 1
  by_cases hij:i≤j
  · rw[QaU (j:=i) (by omega) fun a _ hne=>if_neg hne,if_pos rfl]
    split
    · rfl
    · rename_i h
      rw[XX (f:=g) (i:=j -i) (by omega),Int.mul_zero]
  · rw[if_neg (by omega),XQ fun a ha=>if_neg (by omega)]
end Go.Gx
namespace Go.Gx
theorem Qc7(l:List Nat){i:Nat}(v j:Nat)(hi:i<l.length):(l.set i v).getD j 0=if j=i then v else l.getD j 0:=by
  simp only[List.getD,List.getElem?_set]
  by_cases h:i=j
  · subst h;simp [hi]
  · rw[if_neg h,if_neg (Ne.symm h)]
theorem Qn3{p:Nat}{f g:List Int}(m j:Nat):(List.replicate m 0).getD j 0=md p (Qhi f g 0 0 j):=by
  rw[Ql1]
  have :md p 0=0:=by simp [md]
  rw[this]
  simp only[List.getD,List.getElem?_replicate]
  split<;>rfl
theorem Qn1{p:Nat}(hp:0<p){f g:List Int}{o:List Nat}{i k v a b:Nat}(h: ∀j,o.getD j 0=md p (Qhi f g i k j))(hk:i+k<o.length)(hv:v=(o.getD (i+k) 0+a*b % p) % p)(ha:co f i=a)(hb:co g k=b): ∀j,(o.set (i+k) v).getD j 0=md p (Qhi f g i (k+1) j):=fun j=>by
  rw[Qc7 _ _ _ hk]
  by_cases hj:j=i+k
  · subst hj
    rw[if_pos rfl,hv,h]
    refine QlY (Nat.mod_lt _ hp) ((Zq _).trans ?_)
    rw[Int.natCast_add]
    have e:Qhi f g i (k+1) (i+k)=Qhi f g i k (i+k)+(a:Int)*b:=by
      unfold Qhi
      rw[if_pos (by omega),if_neg (by omega),show i+k -i=k by omega,ha,hb];omega
    rw[e]
    refine(QlF hp _).add ((Zq _).trans ?_)
    rw[Int.natCast_mul];exact Cg.refl p _
  · rw[if_neg hj,h]
    congr 1
    unfold Qhi
    by_cases h1:i≤j∧j -i<k
    · rw[if_pos h1,if_pos (by omega)]
    · rw[if_neg h1,if_neg (by omega)]
theorem Qn2{p:Nat}{f g:List Int}{o:List Nat}{i:Nat}(h: ∀j,o.getD j 0=md p (Qhi f g i g.length j)): ∀j,o.getD j 0=md p (Qhi f g (i+1) 0 j):=fun j=>by rw[h,Qqv]
theorem QcJ{a b:List Nat}(hl:a.length=b.length)(h: ∀i,a.getD i 0=b.getD i 0):a=b:=by
  apply List.ext_getElem hl
  intro i h1 h2
  have :=h i
  simpa [List.getD,List.getElem?_eq_getElem h1,List.getElem?_eq_getElem h2] using this
theorem ZK{p:Nat}(l:List Int)(i:Nat)(h0:md p 0=0):(l.map (md p)).getD i 0=md p (co l i):=by
  simp only[co,List.getD,List.getElem?_map]
  cases l[i]? with
  |none=>exact h0.symm
  |some x=>rfl
theorem Yb(p:Nat):md p 0=0:=by simp [md]
theorem Qqw{p:Nat}{f g:List Int}{o:List Nat}{i:Nat}(h: ∀j,o.getD j 0=md p (Qhi f g i 0 j))(hi:f.length≤i)(hl:o.length=f.length+g.length -1)(hf:f.length≠0)(hg:g.length≠0):YK o=XR p (Xg f g):=by
  unfold XR
  congr 1
  refine QcJ ?_ fun j=> ?_
  · rw[List.length_map,hl];unfold Xg;rw[if_neg (by omega)];simp
  · rw[h,ZK _ _ (Yb p)]
    unfold Qhi
    rw[if_neg (by omega),List.take_of_length_le hi,Int.add_zero]
def XO(p:Nat)(f:List Nat):List Nat:=YK (f.map (· % p))
theorem Qez{p:Nat}(f:List Nat):XO p f=XR p (zl f):=by
  unfold XO XR zl
  rw[List.map_map]
  rfl
end Go.Gx
