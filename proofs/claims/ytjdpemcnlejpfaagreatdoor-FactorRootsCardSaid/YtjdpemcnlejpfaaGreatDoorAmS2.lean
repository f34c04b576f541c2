/-
  AmS2
-/
import Derived.Test.YtjdpemcnlejpfaaGreatDoorAmS
set_option linter.all false
namespace Go.Am
open Go.RowKit Go.Gx Go.Sort Go.Proofs Go.Shelf
section
variable{α:Type}
theorem flatten_get{k:Nat}: ∀{L:List (List Value)}(i m:Nat),(∀x∈L,x.length=k)→m<k→L.flatten[i*k+m]? =(L[i]?).bind (·[m]?)
  | [],i,m,_,_=>by simp
  |x::L,0,m,h,hm=>by
    rw[List.flatten_cons,Nat.zero_mul,Nat.zero_add,List.getElem?_append_left (by rw[h x (by simp)];exact hm)];rfl
  |x::L,i+1,m,h,hm=>by
    have hx:=h x (by simp)
    rw[List.flatten_cons,List.getElem?_append_right (by rw[hx,Nat.succ_mul];omega),hx,show(i+1)*k+m -k=i*k+m by rw[Nat.succ_mul];omega,flatten_get i m (fun y hy=>h y (by simp [hy])) hm]
    rfl
theorem flatten_len{k:Nat}: ∀{L:List (List Value)},(∀x∈L,x.length=k)→L.flatten.length=L.length*k
  | [],_=>by simp
  |x::L,h=>by
    have h1:=flatten_len (L:=L) fun y hy=>h y (by simp [hy])
    rw[List.flatten_cons,List.length_append,h x (by simp),h1,List.length_cons,Nat.succ_mul];omega
theorem flatK_list{β:Type}[Inhabited β]{enc:β→List Value}{k:Nat}(hk: ∀x,(enc x).length=k)(hp:0<k)(d:Array β):(flatK enc k d).toList=(d.toList.map enc).flatten:=by
  have hl: ∀x∈d.toList.map enc,x.length=k:=fun x hx=>by obtain⟨y,_,rfl⟩:=List.mem_map.1 hx;exact hk y
  have hfl:((d.toList.map enc).flatten).length=d.size*k:=by
    rw[flatten_len hl]
    simp
  apply List.ext_getElem?
  intro j
  rcases Nat.lt_or_ge j (d.size*k) with hj|hj
  · have hi:j/k<d.size:=(Nat.div_lt_iff_lt_mul hp).2 hj
    have hm:j % k<k:=Nat.mod_lt _ hp
    have h3:=flatten_get (L:=d.toList.map enc) (j/k) (j % k) hl hm
    rw[Nat.mul_comm,Nat.div_add_mod] at h3
    rw[h3,List.getElem?_eq_getElem (by simpa using hj)]
    have h4:=get_flatK enc k d j hj
    rw[getElem!_pos _ j (by simpa using hj),getElem!_pos d _ hi,getElem!_pos _ _ (by rw[hk];exact hm)] at h4
    rw[Array.getElem_toList,h4]
    have :(d.toList.map enc)[j/k]? =some (enc d[j/k]):=by simp [hi]
    rw[this]
    show _=(enc d[j/k])[j % k]?
    rw[List.getElem?_eq_getElem (by rw[hk];exact hm)]
  · rw[List.getElem?_eq_none (by simpa using hj),List.getElem?_eq_none (by rw[hfl];exact hj)]
theorem acSortK{P:Program}{ρ:Ren}(L:SlLaysF0.n6 P ρ){z:Nat}(aE: ∀w,(isAgg (ρ.t 24)).run P w= .ok true w)(zE: ∀w,(Go.sizeOf (ρ.t 24)).run P w= .ok z w){F:α→AV}(hz: ∀x,(F x).sh= .ag z)(hz1:0<z){cf:α→α→Int}(hO:SWO (ltOf cf)){g:FuncId}{cs:List AV}{el:TypeId}{l:List α}{k:Option Nat}{c n:Nat}
    (eg: ∀args w,(callFunc g args).run P w= .ok (.enter g args) w)(hc: ∀x∈l,∀y∈l,AC P g [] ([F x,F y]++cs) fun K=>K [] [I .i64 (cf x y)])(hn:l.length=n)(hsz:n<4611686018427387904):
    AC P (ρ.f 6) [(k,.gro el z (l.map F) c)] [gh k n c,fnv g cs] fun K=> ∀l':List α,l'.Perm l→(l'.Pairwise fun x y=> ¬cf y x<0)→K [(k,.gro el z (l'.map F) c)] []:=by
  unfold AC
  intro K w S vs hlt ho hr hgT hK
  subst hn
  unfold gh fnv lit at hr
  match vs,hr with
  | [v1,v2],hr=>
  obtain⟨e1,⟨us,e2,hus⟩,_⟩:=hr
  dsimp only at e1
  subst e1;subst e2
  have hob:=ho.ob _ (List.mem_singleton.2 rfl)
  have how:=ho.ow _ (List.mem_singleton.2 rfl)
  have hpost: ∀(w':World)(l':List α),l'.Perm l→(l'.Pairwise fun x y=> ¬cf y x<0)→Frm (fun b=>k=some b) w w'→(Ob.gro el z (l'.map F) c).holds w' S k→Post ⟨w,S,inH [(k,.gro el z (l.map F) c)]⟩ K (.tuple #[]) w':=by
    intro w' l' hp hs hf hh
    refine⟨[(k,.gro el z (l'.map F) c)],[],S,[],hK l' hp hs,rfl,trivial,hf.mono fun b _ hb=>⟨_,List.mem_singleton.2 rfl,hb⟩,fun b hb=>Nat.lt_of_lt_of_le (hlt b hb) hf.size,fun b hb=> .inl hb,⟨?_,?_,List.pairwise_singleton _ _⟩⟩
    · intro x hx;rw[List.mem_singleton.1 hx];exact hh
    · intro x hx g hg;rw[List.mem_singleton.1 hx] at hg;exact⟨(how g hg).1,.inl ⟨_,List.mem_singleton.2 rfl,hg⟩⟩
  rcases Nat.eq_zero_or_pos l.length with h0|h0
  · have e0:l=[]:=List.eq_nil_of_length_eq_zero h0
    subst e0
    have hS:=AnyF.slices_SortFunc_none (P:=P) (ρ:=ρ) {L with} (k.map fun g=>⟨g,0,none⟩) c (.func (.func g) #[] us.toArray) w
    refine Calls.mono hS ?_
    rintro e w' ⟨rfl,rfl⟩
    exact⟨_,rfl,hpost w' [] (List.Perm.refl _) List.Pairwise.nil (Frm.refl _ _) hob⟩
  · obtain⟨blk,rfl⟩: ∃blk,k=some blk:=by
      cases k with
      |some b=>exact⟨b,rfl⟩
      |none=>exact absurd (List.map_eq_nil_iff.1 hob.1) (by intro e;subst e;simp at h0)
    obtain⟨hel,cs0,hB,hcl,hlc,hcm,hlay⟩:=hob
    rw[List.length_map] at hlay
    rw[List.length_map] at hlc
    obtain⟨ps,p1,p2,p3⟩:=lay_pairs hlay
    have hnS: ¬S blk:=(how blk rfl).1
    let β:={p:α×Value//p.1∈l∧(F p.1).rep w S p.2}
    have hP: ∀p∈ps,p.1∈l∧(F p.1).rep w S p.2:=fun p hp=>⟨by rw[←p1];exact List.mem_map_of_mem hp,p3 p hp⟩
    have hpl:ps.length=l.length:=by rw[←p1,List.length_map]
    obtain⟨f0,hf0⟩: ∃f,f∈ps:=by
      cases ps with
      |nil=>simp at hpl;omega
      |cons a l=>exact⟨a,by simp⟩
    letI:Inhabited β:=⟨⟨f0,hP f0 hf0⟩⟩
    let enc:β→List Value:=fun x=>x.1.2.cells.toList
    have hcell: ∀x:β,x.1.2= .agg (enc x).toArray∧(enc x).length=z∧ ∀v∈enc x,v.oneCell'=true:=fun x=>by
      have h:=(F x.1.1).ok x.2.2
      rw[hz] at h
      obtain⟨cs9,e9,l9,o9⟩:=h
      have e8:enc x=cs9:=by show x.1.2.cells.toList=_;rw[e9];rfl
      rw[e8];exact⟨e9,l9,o9⟩
    let cg:β→β→Int:=fun x y=>cf x.1.1 y.1.1
    let d:Array β:=(ps.attachWith (fun p=>p.1∈l∧(F p.1).rep w S p.2) hP).toArray
    have hd:d.size=l.length:=by
      show(ps.attachWith _ hP).toArray.size=_
      rw[List.size_toArray,List.length_attachWith,hpl]
    have hdv:d.toList.map (fun x:β=>x.1)=ps:=by simp only[d,List.toList_toArray];exact List.attachWith_map_subtype_val hP
    have hde:d.toList.map enc=ps.map fun p=>p.2.cells.toList:=by rw[←hdv,List.map_map];rfl
    have hfl: ∀dk:Array β,(flatK enc z dk).toList=(dk.toList.map enc).flatten:=fun dk=>flatK_list (fun x=>(hcell x).2.1) hz1 dk
    have hfz: ∀dk:Array β,((dk.toList.map enc).flatten).length=dk.size*z:=fun dk=>by rw[←hfl];simp
    have ecs:cs0=(d.toList.map enc).flatten++cs0.drop (l.length*z):=by rw[hde,p2,List.take_append_drop]
    have hH:HoldsK enc z w blk 0 d:=Qii (enc:=id) (el:=el) (flatK enc z d) [] (cs0.drop (l.length*z)) (by rw[List.map_id,hfl,←ecs];exact hB)
    have hO':SWO (ltOf cg):=⟨fun x=>hO.irrefl x.1.1,fun x y z=>hO.trans x.1.1 y.1.1 z.1.1,fun x y z=>hO.ntrans x.1.1 y.1.1 z.1.1⟩
    have hkp: ∀W,Frm (fun b=>b=blk) w W→Keep w W S S:=fun W hF b hb=>⟨hb,hF.block b (hlt b hb) fun e=>hnS (e▸hb)⟩
    have hL:CmpLays P g us.toArray enc z cg blk 0 d.size w:=by
      intro m os dk hs x y
      have hF:Frm (fun b=>b=blk) w (sortWorldK enc z w blk 0 m dk os):=QeG (enc:=id) (flatK enc z dk) m os
      have hk:=hkp _ hF
      have hA:=hc x.1.1 x.2.1 y.1.1 y.2.1
      unfold AC at hA
      have hcall:=hA (fun H r=>H=[]∧r=[I .i64 (cf x.1.1 y.1.1)]) (sortWorldK enc z w blk 0 m dk os) S ([x.1.2,y.1.2]++us) (fun b hb=>Nat.lt_of_lt_of_le (hlt b hb) hF.size) ⟨fun _ h=>absurd h List.not_mem_nil,fun _ h=>absurd h List.not_mem_nil,List.Pairwise.nil⟩ ⟨(F x.1.1).mono hk x.2.2,(F y.1.1).mono hk y.2.2,hus.mono hk⟩ (AV.mono _ hk hgT) ⟨rfl,rfl⟩
      have e9:(([x.1.2,y.1.2]++us:List Value)).toArray= #[.agg (enc x).toArray,.agg (enc y).toArray]++us.toArray:=by rw[← (hcell x).1,← (hcell y).1];simp
      rw[e9] at hcall
      refine Calls.mono hcall ?_
      rintro e w' ⟨v,rfl,H,r,S',vs',⟨rfl,rfl⟩,rfl,hrep,hfrm,_⟩
      match vs',hrep with
      | [u],hrep=>
        unfold I lit at hrep
        obtain⟨hu,_⟩:=hrep
        dsimp only at hu
        subst hu
        exact⟨rfl,Qks (hfrm.mono fun b _ hb=>by obtain⟨x,hx,_⟩:=hb;exact absurd hx List.not_mem_nil)⟩
    have hS:=AnyQ.slices_SortFunc L z aE zE enc (fun x=>(hcell x).2.1) (fun x=>(hcell x).2.2) cg hO' g us.toArray blk 0 c d w eg hL hH hB.lt (by rw[hd];exact hsz)
    rw[hd] at hS
    · skip
      refine Calls.mono hS ?_
      rintro e w' ⟨rfl,d',k',os,⟨hs',_,hperm⟩,hsorted,rfl⟩
      have hs2:d'.size=d.size:=hs'
      have hp:d'.toList.Perm d.toList:=by
        have h1:d'.extract 0 l.length=d':=by rw[←hd,←hs2];simp
        have h2:d.extract 0 l.length=d:=by rw[←hd];simp
        rw[h1,h2] at hperm
        exact hperm
      have hF:Frm (fun b=>b=blk) w (sortWorldK enc z w blk 0 k' d' os):=QeG (enc:=id) (flatK enc z d') k' os
      refine⟨_,rfl,hpost _ (d'.toList.map (·.1.1)) ?_ ?_ (hF.mono fun b _ hb=>by rw[hb]) ⟨?_,(d'.toList.map enc).flatten++cs0.drop (l.length*z),?_,?_,?_,hcm,?_⟩⟩
      · have :=hp.map (fun x:β=>x.1.1)
        have e:d.toList.map (fun x:β=>x.1.1)=l:=by
          have h:=congrArg (List.map fun p:α×Value=>p.1) hdv
          rw[List.map_map,p1] at h;exact h
        rw[e] at this
        exact this
      · rw[List.pairwise_map]
        refine List.pairwise_iff_getElem.2 fun i j hi hj hij=> ?_
        have :=hsorted i j (Nat.zero_le _) hij (by simp at hj;omega)
        simp only[ltOf,decide_eq_false_iff_not] at this
        simp only[Array.length_toList] at hi hj
        rw[getElem!_pos d' i hi,getElem!_pos d' j hj] at this
        exact this
      · intro a ha
        obtain⟨x,_,rfl⟩:=List.mem_map.1 ha
        unfold AV.el
        rw[hz]
        exact⟨rfl,fun h=>by cases h⟩
      · have h2:=Qlc (enc:=id) (w:=w) (flatK enc z d') k' os hB
        rw[ecs,Qdk (flatK enc z d') ((d.toList.map enc).flatten) (cs0.drop (l.length*z)) (by rw[hfz,size_flatK,hs2]),List.map_id,hfl] at h2
        exact h2
      · have hcl2:=congrArg List.length ecs
        rw[hcl,List.length_append,hfz] at hcl2
        rw[List.length_append,hfz,hs2]
        exact hcl2.symm
      · rw[List.length_map,List.length_map,Array.length_toList,hs2,hd];exact hlc
      · have hlen:((d'.toList.map fun x:β=>x.1.1).map F).length*z=((d'.toList.map enc).flatten).length:=by rw[hfz];simp
        rw[hlen,List.take_left']
        · have e:(d'.toList.map fun x:β=>x.1.1)=(d'.toList.map fun x:β=>x.1).map (·.1):=by rw[List.map_map];rfl
          have hr: ∀p∈d'.toList.map fun x:β=>x.1,(F p.1).rep (sortWorldK enc z w blk 0 k' d' os) S p.2:=by
            intro p hp
            obtain⟨x,_,rfl⟩:=List.mem_map.1 hp
            exact(F x.1.1).mono (hkp _ hF) x.2.2
          have :=pairs_lay hr
          rw[←e,List.map_map (f:=fun x:β=>x.1)] at this
          exact this
        · rfl
end
end Go.Am
