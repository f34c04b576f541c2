/-
  BasisMath
-/
import Derived.Test.YtjdpemcnlejpfaaGreatDoorModWalk
set_option linter.all false
namespace Go.Gx
theorem QeR(f g:List Int): ∀k,YT g f k= -YT f g k
  |0=>by simp [YT]
  |k+1=>by
    rw[YT,YT]
    by_cases h:co f k=co g k
    · rw[if_pos h,if_pos h.symm,QeR f g k]
    · rw[if_neg h,if_neg fun e=>h e.symm]
      have :=Zi (co f k) (co g k)
      have :=Zi (co g k) (co f k)
      omega
theorem Qd7{f g h:List Int}: ∀k,YT f g k<0→YT g h k<0→YT f h k<0
  |0,h1,_=>by simp [YT] at h1
  |k+1,h1,h2=>by
    rw[YT] at h1 h2⊢
    have c1:=Zi (co f k) (co g k)
    have c2:=Zi (co g k) (co h k)
    have c3:=Zi (co f k) (co h k)
    by_cases e1:co f k=co g k
    · rw[if_pos e1] at h1
      by_cases e2:co g k=co h k
      · rw[if_pos e2] at h2
        rw[if_pos (e1.trans e2)]
        exact Qd7 k h1 h2
      · rw[if_neg e2] at h2
        rw[if_neg (by omega)]
        omega
    · rw[if_neg e1] at h1
      by_cases e2:co g k=co h k
      · rw[if_neg (by omega)];omega
      · rw[if_neg e2] at h2
        rw[if_neg (by omega)];omega
theorem Qbe(f g:List Int):Qbv g f= -Qbv f g:=by
  unfold Qbv
  rcases Nat.lt_trichotomy f.length g.length with h|h|h
  · rw[if_neg (Nat.lt_asymm h),if_pos h,if_pos h];rfl
  · rw[if_neg (by omega),if_neg (by omega),if_neg (by omega),if_neg (by omega),h]
    exact QeR f g _
  · rw[if_pos h,if_neg (Nat.lt_asymm h),if_pos h]
theorem Qf7{f g h:List Int}(h1:Qbv f g<0)(h2:Qbv g h<0):Qbv f h<0:=by
  unfold Qbv at *
  by_cases a1:f.length<g.length
  · by_cases b1:g.length<h.length
    · rw[if_pos (by omega)];decide
    · rw[if_neg b1] at h2
      split at h2
      · omega
      · rw[if_pos (by omega)];decide
  · rw[if_neg a1] at h1
    split at h1
    · omega
    · rename_i a2
      by_cases b1:g.length<h.length
      · rw[if_pos (by omega)];decide
      · rw[if_neg b1] at h2
        split at h2
        · omega
        · rename_i b2
          rw[if_neg (by omega),if_neg (by omega)]
          rw[show g.length=f.length by omega] at h2
          exact Qd7 _ h1 h2
theorem QbL(f:List Int):Qbv f f=0:=Qag.2 rfl
theorem QiR: ∀{a b:List (List Int)},(a.Pairwise fun x y=>Qbv x y<0)→(b.Pairwise fun x y=>Qbv x y<0)→(∀e,e∈a↔e∈b)→a=b
  | [],[],_,_,_=>rfl
  | [],y::b,_,_,h=>absurd ((h y).2 (by simp)) (by simp)
  |x::a,[],_,_,h=>absurd ((h x).1 (by simp)) (by simp)
  |x::a,y::b,ha,hb,h=>by
    have⟨a1,a2⟩:=List.pairwise_cons.1 ha
    have⟨b1,b2⟩:=List.pairwise_cons.1 hb
    have hxy:x=y:=by
      rcases List.mem_cons.1 ((h x).1 (by simp)) with h1|h1
      · exact h1
      · rcases List.mem_cons.1 ((h y).2 (by simp)) with h2|h2
        · exact h2.symm
        · have c1:=b1 x h1
          have c2:=a1 y h2
          have :=Qbe x y
          omega
    subst hxy
    rw[QiR a2 b2 fun e=>⟨fun he=> ?_,fun he=> ?_⟩]
    · rcases List.mem_cons.1 ((h e).1 (by simp [he])) with h1|h1
      · subst h1;have :=a1 e he;rw[QbL] at this;omega
      · exact h1
    · rcases List.mem_cons.1 ((h e).2 (by simp [he])) with h1|h1
      · subst h1;have :=b1 e he;rw[QbL] at this;omega
      · exact h1
section
variable{κ:Type}
theorem QkJ{l:List κ}{i:Nat}{k:κ}(h:l.Nodup)(hk:l[i]? =some k):k∉l.take i:=fun hm=>by
  obtain⟨j,hj,e⟩:=List.getElem_of_mem hm
  rw[List.length_take] at hj
  rw[List.getElem?_eq_some_iff] at hk
  obtain⟨hi,e2⟩:=hk
  rw[List.getElem_take] at e
  have :=(List.pairwise_iff_getElem.1 h) j i (by omega) hi (by omega)
  exact this (e.trans e2.symm)
theorem Qde{l:List κ}{i:Nat}{k x:κ}(hk:l[i]? =some k):x∈l.take (i+1)↔x∈l.take i∨x=k:=by
  rw[List.take_add_one,hk];simp
end
section
variable{κ:Type}[DecidableEq κ]
structure Cl(key:QP→κ)(k:κ)(x:List Int):Prop where
  n:Nrm x
  v: ∀π,Irr π→va π (P x)=if key π=k then 1 else 0
theorem Cl.ex{key:QP→κ}{k:κ}{x:List Int}(h:Cl key k x)(h2:2≤x.length): ∃π,Irr π∧π∣P x∧key π=k:=by
  obtain⟨π,hπ,hd⟩:=Qbl (f:=P x) (by rw[Yj,h.n.t];exact h2)
  have h1:=(XM hπ h.n.ne).1 hd
  rw[h.v π hπ] at h1
  by_cases hk:key π=k
  · exact⟨π,hπ,hd,hk⟩
  · rw[if_neg hk] at h1;omega
theorem Cl.eq{key:QP→κ}{k:κ}{x y:List Int}(h:Cl key k x)(h':Cl key k y):x=y:=h.n.eq_va h'.n fun π hπ=>by rw[h.v π hπ,h'.v π hπ]
theorem Cl.sqf{key:QP→κ}{k:κ}{x:List Int}(h:Cl key k x):Qem (P x) (P (Xn x)):=by
  have :InI (P x) (der (P x)) 1:=(Qav h.n.ne).2 fun π hπ=>by rw[h.v π hπ];split<;>omega
  rw[QgV] at this;exact this
theorem Cl.cop{key:QP→κ}{k l:κ}{x y:List Int}(h:Cl key k x)(h':Cl key l y)(hk:k≠l):Qem (P x) (P y):=QdH.2 fun π hπ h1 h2=>by
  have a:=(XM hπ h.n.ne).1 h1
  have b:=(XM hπ h'.n.ne).1 h2
  rw[h.v π hπ] at a
  rw[h'.v π hπ] at b
  by_cases e:key π=k
  · rw[if_neg fun e'=>hk (e.symm.trans e')] at b;omega
  · rw[if_neg e] at a;omega
structure Qcp (key:QP→κ) (D:κ→Prop) (os:List (List Int)) (ls:List κ):Prop where
  len:ls.length=os.length
  nd:ls.Nodup
  cl: ∀(i:Nat)(x:List Int)(k:κ),os[i]? =some x→ls[i]? =some k→Cl key k x∧2≤x.length
  dn: ∀l∈ls,D l
  cov: ∀π,Irr π→D (key π)→key π∈ls
theorem Qcp.nil{key:QP→κ}:Qcp key (fun _=>False) [] []:=⟨rfl,List.nodup_nil,by simp,by simp,fun _ _ h=>h.elim⟩
theorem Qcp.mono{key:QP→κ}{D D':κ→Prop}{os:List (List Int)}{ls:List κ}(h:Qcp key D os ls)(h1: ∀l,D l→D' l)(h2: ∀π,Irr π→D' (key π)→D (key π)):Qcp key D' os ls:=
  ⟨h.len,h.nd,h.cl,fun l hl=>h1 l (h.dn l hl),fun π hπ hd=>h.cov π hπ (h2 π hπ hd)⟩
theorem Qcp.add{key:QP→κ}{D:κ→Prop}{os:List (List Int)}{ls:List κ}{x:List Int}{k:κ}(h:Qcp key D os ls)(hx:Cl key k x)(hk: ¬D k)(h2:2≤x.length):Qcp key (fun l=>D l∨l=k) (os++[x]) (ls++[k]):=by
  refine⟨by simp [h.len],List.nodup_append.2 ⟨h.nd,by simp,fun a ha b hb e=> ?_⟩,fun i y l hy hl=> ?_,fun l hl=> ?_,fun π hπ hd=> ?_⟩
  · simp at hb;subst hb;exact hk (e▸h.dn a ha)
  · rcases Nat.lt_trichotomy i os.length with h1|h1|h1
    · rw[List.getElem?_append_left h1] at hy
      rw[List.getElem?_append_left (by rw[h.len];exact h1)] at hl
      exact h.cl i y l hy hl
    · subst h1
      rw[←h.len] at hl
      simp at hy hl
      subst hy hl
      exact⟨hx,h2⟩
    · rw[List.getElem?_eq_none (by simp;omega)] at hy;cases hy
  · rcases List.mem_append.1 hl with h1|h1
    · exact .inl (h.dn l h1)
    · simp at h1;exact .inr h1
  · rcases hd with h1|h1
    · exact List.mem_append_left _ (h.cov π hπ h1)
    · exact List.mem_append_right _ (by simp [h1])
theorem Qcp.skip{key:QP→κ}{D:κ→Prop}{os:List (List Int)}{ls:List κ}{x:List Int}{k:κ}(h:Qcp key D os ls)(hx:Cl key k x)(h2:x.length<2)(hk: ¬D k):Qcp key D os ls∧ ∀π,Irr π→key π≠k:=by
  refine⟨h,fun π hπ e=> ?_⟩
  have h1:=hx.v π hπ
  rw[if_pos e] at h1
  have h3:=QfZ hπ hx.n.ne
  rw[Yj,hx.n.t] at h3
  omega
theorem Qcp.more{key:QP→κ}{D:κ→Prop}{os:List (List Int)}{ls:List κ}{x:List Int}{k:κ}(h:Qcp key D os ls)(hx:Cl key k x)(hk: ¬D k): ∃ls',Qcp key (fun l=>D l∨l=k) (if 2≤x.length then os++[x] else os) ls':=by
  by_cases h2:2≤x.length
  · rw[if_pos h2];exact⟨_,h.add hx hk h2⟩
  · rw[if_neg h2]
    have⟨_,hn⟩:=h.skip hx (by omega) hk
    exact⟨ls,h.mono (fun l=> .inl) fun π hπ hd=>hd.resolve_right (hn π hπ)⟩
def Qms(key:QP→κ)(z:κ)(bs:List (List Int))(ks:List κ):Prop:=Qcp key (fun l=>l≠z) bs ks
theorem Qms.start{key:QP→κ}{z:κ}(h: ∀π,Irr π→key π=z):Qms key z [] []:=Qcp.nil.mono (fun _ h=>h.elim) fun π hπ hd=>absurd (h π hπ) hd
section
variable(key:QP→κ)(v:QP→Nat)(z:κ)(ks:List κ)(js:List Nat)
abbrev Qvo(π:QP):κ×Nat:=(key π,v π)
structure Qse (k:κ) (i:Nat) (x:List Int):Prop where
  n:Nrm x
  v: ∀π,Irr π→va π (P x)=if key π=k∧v π∉js.take i then 1 else 0
structure Qsf (m:Nat) (j:Nat) (x:List Int):Prop where
  n:Nrm x
  v: ∀π,Irr π→va π (P x)=if v π=j∧key π∉ks.take m then 1 else 0
end
variable{key:QP→κ}{v:QP→Nat}{z k:κ}{ks:List κ}{js:List Nat}{e i j:Nat}{x y g x' y' d:List Int}
theorem Qse.start(h:Cl key k x):Qse key v js k 0 x:=⟨h.n,fun π hπ=>by rw[h.v π hπ];simp⟩
theorem Qsf.start(h:Cl v j y):Qsf key v ks 0 j y:=⟨h.n,fun π hπ=>by rw[h.v π hπ];simp⟩
theorem Qse.step(hx:Qse key v js k i x)(hg:Cl (Qvo key v) (k,j) g)(hj:js[i]? =some j)(hnd:js.Nodup)(e1:P x=P x'*P g)(ht:Xa x'=x'):Qse key v js k (i+1) x':=by
  have hx':P x'≠0:=fun e'=>hx.n.ne (by rw[e1,e',XG])
  refine⟨hx.n.quo hg.n.s e1 ht,fun π hπ=> ?_⟩
  have h1:=hx.v π hπ
  rw[e1,Qaz hπ hx' hg.n.ne,hg.v π hπ] at h1
  have hnj:=QkJ hnd hj
  have hm:=Qde (x:=v π) hj
  by_cases a:key π=k
  · by_cases b:v π=j
    · rw[if_pos (by show(key π,v π)=(k,j);rw[a,b]),if_pos ⟨a,b▸hnj⟩] at h1
      rw[if_neg fun h=>h.2 (hm.2 (.inr b))];omega
    · rw[if_neg fun h=>b (by injection h)] at h1
      by_cases c:v π∈js.take i
      · rw[if_neg fun h=>h.2 c] at h1
        rw[if_neg fun h=>h.2 (hm.2 (.inl c))];omega
      · rw[if_pos ⟨a,c⟩] at h1
        rw[if_pos ⟨a,fun h=>(hm.1 h).elim c b⟩];omega
  · rw[if_neg fun h=>a (by injection h),if_neg fun h=>a h.1] at h1
    rw[if_neg fun h=>a h.1];omega
theorem Qsf.step(hy:Qsf key v ks e j y)(hg:Cl (Qvo key v) (k,j) g)(hk:ks[e]? =some k)(hnd:ks.Nodup)(e1:P y=P y'*P g)(ht:Xa y'=y'):Qsf key v ks (e+1) j y':=by
  have hy':P y'≠0:=fun e'=>hy.n.ne (by rw[e1,e',XG])
  refine⟨hy.n.quo hg.n.s e1 ht,fun π hπ=> ?_⟩
  have h1:=hy.v π hπ
  rw[e1,Qaz hπ hy' hg.n.ne,hg.v π hπ] at h1
  have hnk:=QkJ hnd hk
  have hm:=Qde (x:=key π) hk
  by_cases b:v π=j
  · by_cases a:key π=k
    · rw[if_pos (by show(key π,v π)=(k,j);rw[a,b]),if_pos ⟨b,a▸hnk⟩] at h1
      rw[if_neg fun h=>h.2 (hm.2 (.inr a))];omega
    · rw[if_neg fun h=>a (by injection h)] at h1
      by_cases c:key π∈ks.take e
      · rw[if_neg fun h=>h.2 c] at h1
        rw[if_neg fun h=>h.2 (hm.2 (.inl c))];omega
      · rw[if_pos ⟨b,c⟩] at h1
        rw[if_pos ⟨b,fun h=>(hm.1 h).elim c a⟩];omega
  · rw[if_neg fun h=>b (by injection h),if_neg fun h=>b h.1] at h1
    rw[if_neg fun h=>b h.1];omega
theorem Qse.rest(hx:Qse key v js k i x)(hi:js.length≤i)(hz:0∉js)(hc: ∀π,Irr π→v π≠0→v π∈js):Cl (Qvo key v) (k,0) x:=by
  refine⟨hx.n,fun π hπ=> ?_⟩
  rw[hx.v π hπ,List.take_of_length_le hi]
  by_cases a:key π=k
  · by_cases b:v π=0
    · rw[if_pos ⟨a,b▸hz⟩,if_pos (by show(key π,v π)=(k,0);rw[a,b])]
    · rw[if_neg fun h=>h.2 (hc π hπ b),if_neg fun h=>b (by injection h)]
  · rw[if_neg fun h=>a h.1,if_neg fun h=>a (by injection h)]
theorem Qsf.rest(hy:Qsf key v ks e j y)(he:ks.length≤e)(hz:z∉ks)(hc: ∀π,Irr π→key π≠z→key π∈ks):Cl (Qvo key v) (z,j) y:=by
  refine⟨hy.n,fun π hπ=> ?_⟩
  rw[hy.v π hπ,List.take_of_length_le he]
  by_cases b:v π=j
  · by_cases a:key π=z
    · rw[if_pos ⟨b,a▸hz⟩,if_pos (by show(key π,v π)=(z,j);rw[a,b])]
    · rw[if_neg fun h=>h.2 (hc π hπ a),if_neg fun h=>a (by injection h)]
  · rw[if_neg fun h=>b h.1,if_neg fun h=>b (by injection h)]
def D1(ks:List κ)(js:List Nat)(e i:Nat)(l:κ×Nat):Prop:=l.1∈ks.take e∨(ks[e]? =some l.1∧l.2∈js.take i)
variable{os:List (List Int)}{ls:List (κ×Nat)}
theorem Qms.nz{bs:List (List Int)}(h:Qms key z bs ks):z∉ks:=fun hm=>h.dn z hm rfl
theorem Qms.map{μ:Type}[DecidableEq μ]{bs:List (List Int)}{key':QP→μ}{z':μ}(h:Qms key z bs ks)(f:κ→μ)(hf: ∀a b,f a=f b→a=b)(hk: ∀π,Irr π→key' π=f (key π))(hz:z'=f z):Qms key' z' bs (ks.map f):=by
  refine⟨by simp [h.len],?_,fun i x k hx hk'=> ?_,fun l hl=> ?_,fun π hπ hd=> ?_⟩
  · exact List.Pairwise.map f (fun a b hab e=>hab (hf _ _ e)) h.nd
  · rw[List.getElem?_map] at hk'
    cases hc:ks[i]? with
    |none=>rw[hc] at hk';cases hk'
    |some k0=>
      rw[hc] at hk'
      injection hk' with hk'
      subst hk'
      have h1:=h.cl i x k0 hx hc
      refine⟨⟨h1.1.n,fun π hπ=> ?_⟩,h1.2⟩
      rw[h1.1.v π hπ,hk π hπ]
      by_cases e:key π=k0
      · rw[if_pos e,if_pos (by rw[e])]
      · rw[if_neg e,if_neg fun e'=>e (hf _ _ e')]
  · obtain⟨l0,h0,rfl⟩:=List.mem_map.1 hl
    rw[hz]
    exact fun e=>h.dn l0 h0 (hf _ _ e)
  · rw[hk π hπ] at hd⊢
    refine List.mem_map.2 ⟨key π,h.cov π hπ fun e=>hd ?_,rfl⟩
    rw[hz,e]
end
noncomputable def Qi5 (fs:List QP) (π:QP):List Nat:=fs.map (va π)
def QhN(fs:List QP):List Nat:=fs.map fun _=>0
def ZU(fs:List QP)(bs:List (List Int)):Prop:= ∃ks,Qms (Qi5 fs) (QhN fs) bs ks
theorem ZU.nil:ZU [] []:=⟨[],Qms.start fun _ _=>rfl⟩
theorem ZU.cons{fs:List QP}{f:QP}{os:List (List Int)}{ls:List (List Nat×Nat)}(h:Qms (Qvo (Qi5 fs) fun π=>va π f) (QhN fs,0) os ls):ZU (f::fs) os:=
  ⟨_,h.map (fun l=>l.2::l.1) (fun a b e=>by injection e with e1 e2;exact Prod.ext e2 e1) (fun π hπ=>rfl) rfl⟩
theorem ZU.each{fs:List QP}{bs:List (List Int)}(h:ZU fs bs): ∀x∈bs,2≤x.length∧ ∃k,k≠QhN fs∧Cl (Qi5 fs) k x:=fun x hx=>by
  obtain⟨ks,h⟩:=h
  obtain⟨i,hi,rfl⟩:=List.getElem_of_mem hx
  have hk:i<ks.length:=by rw[h.len];exact hi
  have h1:=h.cl i bs[i] ks[i] (List.getElem?_eq_getElem hi) (List.getElem?_eq_getElem hk)
  exact⟨h1.2,_,h.dn _ (List.getElem_mem hk),h1.1⟩
theorem ZU.cover{fs:List QP}{bs:List (List Int)}(h:ZU fs bs){π:QP}(hπ:Irr π)(hk:Qi5 fs π≠QhN fs): ∃x∈bs,Cl (Qi5 fs) (Qi5 fs π) x:=by
  obtain⟨ks,h⟩:=h
  have hm:=h.cov π hπ hk
  obtain⟨i,hi,e⟩:=List.getElem_of_mem hm
  have hb:i<bs.length:=by rw[←h.len];exact hi
  have h1:=h.cl i bs[i] ks[i] (List.getElem?_eq_getElem hb) (List.getElem?_eq_getElem hi)
  rw[e] at h1
  exact⟨_,List.getElem_mem hb,h1.1⟩
theorem ZU.cop{fs:List QP}{bs:List (List Int)}(h:ZU fs bs):bs.Pairwise fun x y=>Qem (P x) (P y):=by
  obtain⟨ks,h⟩:=h
  refine List.pairwise_iff_getElem.2 fun i j hi hj hij=> ?_
  have hl:=h.len
  have h1:=h.cl i bs[i] ks[i] (List.getElem?_eq_getElem hi) (List.getElem?_eq_getElem (by omega))
  have h2:=h.cl j bs[j] ks[j] (List.getElem?_eq_getElem hj) (List.getElem?_eq_getElem (by omega))
  exact h1.1.cop h2.1 ((List.pairwise_iff_getElem.1 h.nd) i j (by omega) (by omega) hij)
theorem ZU.perm{fs:List QP}{bs cs:List (List Int)}(h:ZU fs bs)(hp:bs.Perm cs):ZU fs cs:=by
  have key: ∀(l:List (List Int)),l.Perm bs→ ∃ks,Qms (Qi5 fs) (QhN fs) l ks:=fun l hl=>by
    have hcop:l.Pairwise fun x y=>Qem (P x) (P y):=(List.Perm.pairwise_iff (fun {a b} hab=>QdH.2 fun π hπ h1 h2=>QdH.1 hab π hπ h2 h1) hl).2 h.cop
    have hk: ∀x∈l,2≤x.length∧ ∃k,k≠QhN fs∧Cl (Qi5 fs) k x:=fun x hx=>h.each x (hl.mem_iff.1 hx)
    have hcov: ∀π,Irr π→Qi5 fs π≠QhN fs→ ∃x∈l,Cl (Qi5 fs) (Qi5 fs π) x:=fun π hπ hkz=>by
      obtain⟨x,hx,hc⟩:=h.cover hπ hkz
      exact⟨x,hl.mem_iff.2 hx,hc⟩
    have build: ∀(m:List (List Int)),m.Pairwise (fun x y=>Qem (P x) (P y))→(∀x∈m,2≤x.length∧ ∃k,k≠QhN fs∧Cl (Qi5 fs) k x)→ ∃ks:List (List Nat),ks.length=m.length∧ks.Nodup∧(∀(i:Nat)(x:List Int)(k:List Nat),m[i]? =some x→ks[i]? =some k→Cl (Qi5 fs) k x∧2≤x.length)∧(∀k∈ks,k≠QhN fs∧ ∃x∈m,Cl (Qi5 fs) k x):=fun m=>by
      induction m with
      |nil=>intro _ _;exact⟨[],rfl,List.nodup_nil,by simp,by simp⟩
      |cons a m ih=>
        intro hpw hm
        have⟨p1,p2⟩:=List.pairwise_cons.1 hpw
        obtain⟨ks,k1,k2,k3,k4⟩:=ih p2 fun x hx=>hm x (by simp [hx])
        obtain⟨ha,k,hkz,hcl⟩:=hm a (by simp)
        refine⟨k::ks,by simp [k1],List.nodup_cons.2 ⟨fun hmem=> ?_,k2⟩,fun i x k' hx hk'=> ?_,fun k' hk'=> ?_⟩
        · obtain⟨_,x,hx,hcx⟩:=k4 k hmem
          have hax:=hcl.eq hcx
          obtain⟨π,hπ,hd,_⟩:=hcl.ex ha
          exact QdH.1 (p1 x hx) π hπ hd (hax▸hd)
        · cases i with
          |zero=>simp at hx hk';subst hx hk';exact⟨hcl,ha⟩
          |succ i=>simp at hx hk';exact k3 i x k' hx hk'
        · rcases List.mem_cons.1 hk' with h1|h1
          · subst h1;exact⟨hkz,a,by simp,hcl⟩
          · obtain⟨h2,x,hx,h3⟩:=k4 k' h1;exact⟨h2,x,by simp [hx],h3⟩
    obtain⟨ks,k1,k2,k3,k4⟩:=build l hcop hk
    refine⟨ks,k1,k2,k3,fun k hk=>(k4 k hk).1,fun π hπ hd=> ?_⟩
    obtain⟨x,hx,hc⟩:=hcov π hπ hd
    obtain⟨i,hi,e⟩:=List.getElem_of_mem hx
    have hki:i<ks.length:=by omega
    have h5:=k3 i x ks[i] (by rw[List.getElem?_eq_getElem hi,e]) (List.getElem?_eq_getElem hki)
    have hl2:=h5.2
    obtain⟨ρ,hρ,hd2,hk2⟩:=h5.1.ex hl2
    have h6:=hc.v ρ hρ
    have h7:=(XM hρ hc.n.ne).1 hd2
    rw[h6] at h7
    have h8:Qi5 fs ρ=Qi5 fs π:=by apply Classical.byContradiction;intro hx';rw[if_neg hx'] at h7;omega
    rw[←h8,hk2]
    exact List.getElem_mem hki
  exact key cs hp.symm
end Go.Gx
