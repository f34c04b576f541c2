/-
  AmS
-/
import Derived.Test.YtjdpemcnlejpfaaGreatDoorAmZ
import Derived.Test.YtjdpemcnlejpfaaGreatDoorSortPreds
set_option linter.all false
namespace Go.Am
open Go.RowKit Go.Gx Go.Sort Go.Proofs Go.Shelf
section
variable{α:Type}
theorem lay_pairs{w:World}{S:Nat→Prop}{F:α→AV}: ∀{l:List α}{cs:List Value},lay w S (l.map F) cs→ ∃ps:List (α×Value),ps.map (·.1)=l∧(ps.map fun p=>p.2.cells.toList).flatten=cs∧ ∀p∈ps,(F p.1).rep w S p.2
  | [],cs,h=>⟨[],rfl,(show cs=[] from h).symm,fun _ h=>absurd h List.not_mem_nil⟩
  |a::l,cs,h=>by
    obtain⟨v,cs',h1,h2,h3⟩:=(show ∃v cs',(F a).rep w S v∧cs=v.cells.toList++cs'∧lay w S (l.map F) cs' from h)
    obtain⟨ps,e1,e2,e3⟩:=lay_pairs h3
    refine⟨(a,v)::ps,by simp [e1],by simp [e2,h2],fun p hp=> ?_⟩
    rcases List.mem_cons.1 hp with rfl|hp
    · exact h1
    · exact e3 p hp
theorem pairs_lay{w:World}{S:Nat→Prop}{F:α→AV}: ∀{ps:List (α×Value)},(∀p∈ps,(F p.1).rep w S p.2)→lay w S ((ps.map (·.1)).map F) ((ps.map fun p=>p.2.cells.toList).flatten)
  | [],_=>rfl
  |p::ps,h=>⟨p.2,_,h p (List.mem_cons_self ..),by simp,pairs_lay fun q hq=>h q (List.mem_cons_of_mem _ hq)⟩
theorem one_cellsS{w:World}{S:Nat→Prop}{a:AV}{v:Value}(h:a.sh= .one)(r:a.rep w S v):v.cells.toList=[v]:=by
  have :=a.ok r
  rw[h] at this
  cases v<;>simp_all [Sh.ok,Value.oneCell',Value.cells]
theorem flat_one{w:World}{S:Nat→Prop}{F:α→AV}(h1: ∀x,(F x).sh= .one): ∀{ps:List (α×Value)},(∀p∈ps,(F p.1).rep w S p.2)→(ps.map fun p=>p.2.cells.toList).flatten=ps.map (·.2)
  | [],_=>rfl
  |p::ps,h=>by
    simp only[List.map_cons,List.flatten_cons]
    rw[one_cellsS (h1 _) (h p (List.mem_cons_self ..)),flat_one h1 fun q hq=>h q (List.mem_cons_of_mem _ hq)]
    rfl
theorem acSort1{P:Program}{ρ:Ren}(L:SlLaysF.n6 P ρ){F:α→AV}(h1: ∀x,(F x).sh= .one){cf:α→α→Int}(hO:SWO (ltOf cf)){g:FuncId}{cs:List AV}{el:TypeId}{l:List α}{k:Option Nat}{c n:Nat}
    (eg: ∀args w,(callFunc g args).run P w= .ok (.enter g args) w)(hc: ∀x∈l,∀y∈l,AC P g [] ([F x,F y]++cs) fun K=>K [] [I .i64 (cf x y)])(hn:l.length=n)(hsz:n<4611686018427387904):
    AC P (ρ.f 6) [(k,.gro el 1 (l.map F) c)] [gh k n c,fnv g cs] fun K=> ∀l':List α,l'.Perm l→(l'.Pairwise fun x y=> ¬cf y x<0)→K [(k,.gro el 1 (l'.map F) c)] []:=by
  unfold AC
  intro K w S vs hlt ho hr hgT hK
  subst hn
  unfold gh fnv lit at hr
  match vs,hr with
  | [v1,v2],hr=>
  obtain⟨e1,⟨us,e2,hus⟩,_⟩:=hr
  dsimp only at e1
  subst e1;subst e2
  have hob:=ho.ob _ (List.mem_singleton.2 rfl)
  have how:=ho.ow _ (List.mem_singleton.2 rfl)
  have hpost: ∀(w':World)(l':List α),l'.Perm l→(l'.Pairwise fun x y=> ¬cf y x<0)→Frm (fun b=>k=some b) w w'→(Ob.gro el 1 (l'.map F) c).holds w' S k→Post ⟨w,S,inH [(k,.gro el 1 (l.map F) c)]⟩ K (.tuple #[]) w':=by
    intro w' l' hp hs hf hh
    refine⟨[(k,.gro el 1 (l'.map F) c)],[],S,[],hK l' hp hs,rfl,trivial,hf.mono fun b _ hb=>⟨_,List.mem_singleton.2 rfl,hb⟩,fun b hb=>Nat.lt_of_lt_of_le (hlt b hb) hf.size,fun b hb=> .inl hb,⟨?_,?_,List.pairwise_singleton _ _⟩⟩
    · intro x hx;rw[List.mem_singleton.1 hx];exact hh
    · intro x hx g hg;rw[List.mem_singleton.1 hx] at hg;exact⟨(how g hg).1,.inl ⟨_,List.mem_singleton.2 rfl,hg⟩⟩
  rcases Nat.eq_zero_or_pos l.length with h0|h0
  · have e0:l=[]:=List.eq_nil_of_length_eq_zero h0
    subst e0
    have hS:=AnyF.slices_SortFunc_none (P:=P) (ρ:=ρ) {L with} (k.map fun g=>⟨g,0,none⟩) c (.func (.func g) #[] us.toArray) w
    refine Calls.mono hS ?_
    rintro e w' ⟨rfl,rfl⟩
    exact⟨_,rfl,hpost w' [] (List.Perm.refl _) List.Pairwise.nil (Frm.refl _ _) hob⟩
  · obtain⟨blk,rfl⟩: ∃blk,k=some blk:=by
      cases k with
      |some b=>exact⟨b,rfl⟩
      |none=>exact absurd (List.map_eq_nil_iff.1 hob.1) (by intro e;subst e;simp at h0)
    obtain⟨hel,cs0,hB,hcl,hlc,hcm,hlay⟩:=hob
    rw[List.length_map,Nat.mul_one] at hlay
    rw[List.length_map] at hlc
    obtain⟨ps,p1,p2,p3⟩:=lay_pairs hlay
    rw[flat_one h1 p3] at p2
    have hnS: ¬S blk:=(how blk rfl).1
    let β:={p:α×Value//p.1∈l∧(F p.1).rep w S p.2}
    have hP: ∀p∈ps,p.1∈l∧(F p.1).rep w S p.2:=fun p hp=>⟨by rw[←p1];exact List.mem_map_of_mem hp,p3 p hp⟩
    have hpl:ps.length=l.length:=by rw[←p1,List.length_map]
    obtain⟨f0,hf0⟩: ∃f,f∈ps:=by
      cases ps with
      |nil=>simp at hpl;omega
      |cons a l=>exact⟨a,by simp⟩
    letI:Inhabited β:=⟨⟨f0,hP f0 hf0⟩⟩
    let enc:β→Value:=fun x=>x.1.2
    let cg:β→β→Int:=fun x y=>cf x.1.1 y.1.1
    let d:Array β:=(ps.attachWith (fun p=>p.1∈l∧(F p.1).rep w S p.2) hP).toArray
    have hd:d.size=l.length:=by
      show(ps.attachWith _ hP).toArray.size=_
      rw[List.size_toArray,List.length_attachWith,hpl]
    have hdv:d.toList.map (fun x:β=>x.1)=ps:=by simp only[d,List.toList_toArray];exact List.attachWith_map_subtype_val hP
    have hde:d.toList.map enc=ps.map (·.2):=by rw[←hdv,List.map_map];rfl
    have ecs:cs0=d.toList.map enc++cs0.drop l.length:=by rw[hde,p2,List.take_append_drop]
    have hH:Holds enc w blk 0 d:=Qii (el:=el) d [] (cs0.drop l.length) (by rw[←ecs];exact hB)
    have hO':SWO (ltOf cg):=⟨fun x=>hO.irrefl x.1.1,fun x y z=>hO.trans x.1.1 y.1.1 z.1.1,fun x y z=>hO.ntrans x.1.1 y.1.1 z.1.1⟩
    have hkp: ∀W,Frm (fun b=>b=blk) w W→Keep w W S S:=fun W hF b hb=>⟨hb,hF.block b (hlt b hb) fun e=>hnS (e▸hb)⟩
    have hL:CmpLays1 P g us.toArray enc cg blk 0 d.size w:=by
      intro m os dk hs x y
      have hF:Frm (fun b=>b=blk) w (sortWorld enc w blk 0 m dk os):=QeG dk m os
      have hk:=hkp _ hF
      have hA:=hc x.1.1 x.2.1 y.1.1 y.2.1
      unfold AC at hA
      have hcall:=hA (fun H r=>H=[]∧r=[I .i64 (cf x.1.1 y.1.1)]) (sortWorld enc w blk 0 m dk os) S ([x.1.2,y.1.2]++us) (fun b hb=>Nat.lt_of_lt_of_le (hlt b hb) hF.size) ⟨fun _ h=>absurd h List.not_mem_nil,fun _ h=>absurd h List.not_mem_nil,List.Pairwise.nil⟩ ⟨(F x.1.1).mono hk x.2.2,(F y.1.1).mono hk y.2.2,hus.mono hk⟩ (AV.mono _ hk hgT) ⟨rfl,rfl⟩
      have e9:(([x.1.2,y.1.2]++us:List Value)).toArray= #[enc x,enc y]++us.toArray:=by simp [enc]
      rw[e9] at hcall
      refine Calls.mono hcall ?_
      rintro e w' ⟨v,rfl,H,r,S',vs',⟨rfl,rfl⟩,rfl,hrep,hfrm,_⟩
      match vs',hrep with
      | [u],hrep=>
        unfold I lit at hrep
        obtain⟨hu,_⟩:=hrep
        dsimp only at hu
        subst hu
        exact⟨rfl,Qks (hfrm.mono fun b _ hb=>by obtain⟨x,hx,_⟩:=hb;exact absurd hx List.not_mem_nil)⟩
    have hS:=Any.slices_SortFunc L enc (fun x=> ?_) cg hO' g us.toArray blk 0 c d w eg hL hH hB.lt (by rw[hd];exact hsz)
    · rw[hd] at hS
      refine Calls.mono hS ?_
      rintro e w' ⟨rfl,d',k',os,⟨hs',_,hperm⟩,hsorted,rfl⟩
      have hs2:d'.size=d.size:=hs'
      have hp:d'.toList.Perm d.toList:=by
        have h1:d'.extract 0 l.length=d':=by rw[←hd,←hs2];simp
        have h2:d.extract 0 l.length=d:=by rw[←hd];simp
        rw[h1,h2] at hperm
        exact hperm
      have hF:=QeG (enc:=enc) (w:=w) (blk:=blk) d' k' os
      refine⟨_,rfl,hpost _ (d'.toList.map (·.1.1)) ?_ ?_ (hF.mono fun b _ hb=>by rw[hb]) ⟨?_,d'.toList.map enc++cs0.drop l.length,?_,?_,?_,hcm,?_⟩⟩
      · have :=hp.map (fun x:β=>x.1.1)
        have e:d.toList.map (fun x:β=>x.1.1)=l:=by
          have h:=congrArg (List.map fun p:α×Value=>p.1) hdv
          rw[List.map_map,p1] at h;exact h
        rw[e] at this
        exact this
      · rw[List.pairwise_map]
        refine List.pairwise_iff_getElem.2 fun i j hi hj hij=> ?_
        have :=hsorted i j (Nat.zero_le _) hij (by simp at hj;omega)
        simp only[ltOf,decide_eq_false_iff_not] at this
        simp only[Array.length_toList] at hi hj
        rw[getElem!_pos d' i hi,getElem!_pos d' j hj] at this
        exact this
      · intro a ha
        obtain⟨x,_,rfl⟩:=List.mem_map.1 ha
        unfold AV.el
        rw[h1]
        exact⟨rfl,fun h=>by cases h⟩
      · have h2:=Qlc (enc:=enc) (w:=w) d' k' os hB
        rw[ecs,Qdk d' (d.toList.map enc) (cs0.drop l.length) (by rw[List.length_map,Array.length_toList,hs2])] at h2
        exact h2
      · rw[ecs] at hcl
        simp only[List.length_append,List.length_map,Array.length_toList] at hcl⊢
        omega
      · rw[List.length_map,List.length_map,Array.length_toList,hs2,hd];exact hlc
      · have hlen:(d'.toList.map fun x:β=>x.1.1).length=(d'.toList.map enc).length:=by simp
        rw[List.length_map,hlen,Nat.mul_one,List.take_left']
        · have e:(d'.toList.map fun x:β=>x.1.1)=(d'.toList.map fun x:β=>x.1).map (·.1):=by rw[List.map_map];rfl
          have hr: ∀p∈d'.toList.map fun x:β=>x.1,(F p.1).rep (sortWorld enc w blk 0 k' d' os) S p.2:=by
            intro p hp
            obtain⟨x,_,rfl⟩:=List.mem_map.1 hp
            exact(F x.1.1).mono (hkp _ hF) x.2.2
          have :=pairs_lay hr
          rw[flat_one h1 hr,←e] at this
          rw[List.map_map (f:=fun x:β=>x.1)] at this
          exact this
        · rfl
    · have :=(F x.1.1).ok x.2.2
      rw[h1] at this
      exact this
end
end Go.Am
