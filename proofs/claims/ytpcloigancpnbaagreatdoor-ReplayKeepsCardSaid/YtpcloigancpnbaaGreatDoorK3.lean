/- Part of the proof of a law of this seat (2 texts). No conditions. -/
import Derived.Test.YtpcloigancpnbaaGreatDoorK1
import Derived.Deep.Slices
import Derived.SizedLaws
import Derived.ChangeOld
set_option linter.unusedVariables false
set_option linter.unusedSimpArgs false
set_option linter.unnecessarySimpa false
set_option maxHeartbeats 100000000
namespace Go.Bil
open Go Go.RowKit Go.Deep
def oF:List IntKind→List Value→Prop
 | [],[]=>True
 | k::ks,v::vs=>(∃ z,v=.int k z∧(Lit.int k z).wf=true)∧oF ks vs
 | _,_=>False
theorem oF.len:∀ {ks:List IntKind} {vs:List Value},oF ks vs→vs.length=ks.length
 | [],[],_=>rfl
 | k::ks,v::vs,h=>by simp [oF.len h.2]
 | [],_::_,h=>h.elim
 | _::_,[],h=>h.elim
theorem oF.append:∀ {ks ks':List IntKind} {vs vs':List Value},oF ks vs→oF ks' vs'→oF (ks++ks') (vs++vs')
 | [],_,[],_,_,h=>h
 | k::ks,_,v::vs,_,h,h'=>⟨h.1,oF.append h.2 h'⟩
 | [],_,_::_,_,h,_=>h.elim
 | _::_,_,[],_,h,_=>h.elim
theorem oF.one:∀ {ks:List IntKind} {vs:List Value},oF ks vs→∀ u∈vs,one u=true
 | [],[],_,u,hu=>by simp at hu
 | k::ks,v::vs,h,u,hu=>by
  obtain ⟨⟨z,rfl,_⟩,h2⟩:=h
  rcases List.mem_cons.1 hu with rfl | hu
  ·rfl
  ·exact oF.one h2 u hu
 | [],_::_,h,_,_=>h.elim
 | _::_,[],h,_,_=>h.elim
def sR (P:Program) (g:TypeId→Option (List IntKind)):List Field→Nat→Option (List IntKind)
 | [],_=>some []
 | f::fs,off =>
  match g f.type with
  | none=>none
  | some l=>bif Nat.beq f.offset off && Nat.beq (P.cellsOf f.type) l.length then (match sR P g fs (off+l.length) with | some r=>some (l++r) | none=>none) else none
def oZ (P:Program):Nat→TypeId→Option (List IntKind)
 | 0,_=>none
 | n+1,t =>
  match P.underlying t with
  | some (.int k)=>some [k]
  | some (.struct fs)=>(match sR P (oZ P n) fs.toList 0 with | some l=>bif Nat.beq (P.cellsOf t) l.length then some l else none | none=>none)
  | _=>none
section
variable {H:Type} {enc:TypeId × Value→H} {P:Program} {w:World} {base:Nat} {spare:Nat→Bool} {held:Bool}
theorem aCi (g:TypeId→Option (List IntKind)) (cs:List Value):∀ (fs:List Field) (off:Nat) (ks:List IntKind),sR P g fs off=some ks→(∀ f∈fs,∀ l,g f.type=some l→oF l ((cs.drop f.offset).take (P.cellsOf f.type))) →
  oF ks ((cs.drop off).take ks.length)
 | [],off,ks,h,_=>by
  simp only [sR,Option.some.injEq] at h
  subst h
  simp [oF]
 | f::fs,off,ks,h,hf=>by
  unfold sR at h
  cases hg:g f.type with
  | none=>simp [hg] at h
  | some l =>
   simp only [hg] at h
   cases hc:(Nat.beq f.offset off && Nat.beq (P.cellsOf f.type) l.length) with
   | false=>simp [hc] at h
   | true =>
    simp only [hc,cond_true] at h
    cases hr:sR P g fs (off+l.length) with
    | none=>simp [hr] at h
    | some r =>
     simp only [hr,Option.some.injEq] at h
     subst h
     rw [Bool.and_eq_true] at hc
     have e1:f.offset=off:=Nat.eq_of_beq_eq_true hc.1
     have e2:P.cellsOf f.type=l.length:=Nat.eq_of_beq_eq_true hc.2
     have h1:=hf f (by simp) l hg
     rw [e1,e2] at h1
     have h2:=aCi g cs fs (off+l.length) r hr (fun f' hf'=>hf f' (by simp [hf']))
     have:=h1.append h2
     rw [List.length_append,List.take_add,List.drop_drop]
     exact this
theorem lH:∀ (n:Nat) (t:TypeId) (ks:List IntKind) (fuel:Nat) (cs:List Value) (x:DataW H × List MemPlace),oZ P n t=some ks→DataW.trod enc P w base spare held fuel t cs=some x→oF ks cs
 | 0,t,ks,fuel,cs,x,h,_=>by simp [oZ] at h
 | n+1,t,ks,fuel,cs,x,h,hx=>by
  unfold oZ at h
  cases hu:P.underlying t with
  | none=>simp [hu] at h
  | some d =>
   cases d <;> simp only [hu,Option.some.injEq,reduceCtorEq] at h
   case int k =>
    subst h
    obtain ⟨z,rfl,_,hw⟩:=DataW.trod_int hu hx
    exact ⟨⟨z,Z,hw⟩,trivial⟩
   case struct fs =>
    obtain ⟨xs,m,_,_,hl,hxl,hfs⟩:=DataW.trod_struct hu hx
    cases hr:sR P (oZ P n) fs.toList 0 with
    | none=>simp [hr] at h
    | some l =>
     simp only [hr] at h
     cases hc:Nat.beq (P.cellsOf t) l.length with
     | false=>simp [hc] at h
     | true =>
      simp only [hc,cond_true,Option.some.injEq] at h
      subst h
      have e:=Nat.eq_of_beq_eq_true hc
      have:=aCi (P:=P) (oZ P n) cs fs.toList 0 l hr (fun f hf l' hl'=>by
       obtain ⟨i,hi⟩:=List.getElem?_of_mem hf
       have hi':fs[i]? = some f:=by simpa using hi
       have hxi:=hfs i f hi'
       have hlt:i < xs.length:=by rw [hxl];exact (Array.getElem?_eq_some_iff.1 hi').1
       rw [List.getElem?_eq_getElem hlt] at hxi
       exact lH n f.type l' m _ _ hl' hxi)
      rw [List.drop_zero,← e,← hl,List.take_length] at this
      exact this
theorem tU {a:Addr} {n:Nat} {cs:List Value} (h:w.cells? base a n=some cs):cs.length=n∧∀ i,i < n→w.cell? (a.add i)=cs[i]? := by
 unfold World.cells? at h
 split at h
 ·have hl:=mapM_some_length h
  refine ⟨by simpa using hl,fun i hi => ?_⟩
  have:=mapM_some_get h i i (by simp [hi])
  exact this
 ·cases h
theorem aZu {t e sz bytes m:Nat} {ks:List IntKind} {A:Option Addr} {len cap:Nat} {d:DataW H} {ps:List MemPlace} (ht:fQ P t e sz bytes=true) (hl:oZ P m e=some ks) (hk:ks.length=sz) (hbig:len*bytes≤140737488351232)
  (h:DataW.Trod enc P w base spare held t (.slice A len cap) d ps):∃ ls:List (List Value),Rd w sz A len ls∧∀ l∈ls,oF ks l:=by
 obtain ⟨h1,h2,h3,h4,h5,h6,zv,hzv,hzs⟩:=gP ht
 obtain ⟨fuel,hf⟩:=h
 have hle:len≤140737488351232:=Nat.le_trans (Nat.le_mul_of_pos_right _ (Nat.pos_of_ne_zero h6)) hbig
 rcases open_slice h1 hf with ⟨hcs,_⟩ | ⟨a,l,c,m',n,D,Pl,hcs,hb,hlc,_,hm,_,hx⟩
 ·simp only [Value.cells,List.cons.injEq,Value.slice.injEq,and_true] at hcs
  obtain ⟨rfl,rfl,rfl⟩:=hcs
  exact ⟨[],Rd.nil w sz none,by simp⟩
 ·simp only [Value.cells,List.cons.injEq,Value.slice.injEq,and_true] at hcs
  obtain ⟨rfl,rfl,rfl⟩:=hcs
  have hlm:len≤m':=by rw [hm];split <;> omega
  have hall:∀ i,i < len→∃ cs':List Value,cs'.length=sz∧(∀ j,j < sz→w.cell? (a.add (i*sz+j))=cs'[j]?)∧oF ks cs':=fun i hi=>by
   obtain ⟨cs',hc,ht'⟩:=hx i (by omega)
   rw [h3] at hc
   obtain ⟨q1,q2⟩:=tU hc
   refine ⟨cs',q1,fun j hj => ?_,lH m e ks n cs' _ hl ht'⟩
   rw [← q2 j hj,Addr.add_add]
  have hex:∀ k,k≤len→∃ ls:List (List Value),ls.length=k∧∀ i l,ls[i]? = some l→l.length=sz∧(∀ j,j < sz→w.cell? (a.add (i*sz+j))=l[j]?)∧oF ks l:=by
   intro k
   induction k with
   | zero=>intro _;exact ⟨[],rfl,by simp⟩
   | succ k ih =>
    intro hk'
    obtain ⟨ls,q1,q2⟩:=ih (by omega)
    obtain ⟨cs',r1,r2,r3⟩:=hall k (by omega)
    refine ⟨ls++[cs'],by simp [q1],fun i l hil => ?_⟩
    rw [List.getElem?_append] at hil
    split at hil
    ·exact q2 i l hil
    ·rename_i hge
     have hik:i=k:=by
      have:=(List.getElem?_eq_some_iff.1 hil).1
      simp at this
      omega
     subst hik
     simp only [q1,Nat.sub_self,List.getElem?_cons_zero,Option.some.injEq] at hil
     subst hil
     exact ⟨r1,r2,r3⟩
  obtain ⟨ls,q1,q2⟩:=hex len (Nat.le_refl _)
  refine ⟨ls,⟨q1,fun l hl' => ?_,by omega,fun hpos => ?_⟩,fun l hl' => ?_⟩
  ·obtain ⟨i,hi⟩:=List.getElem?_of_mem hl'
   exact (q2 i l hi).1
  ·obtain ⟨l0,hl0⟩:∃ l0,ls[0]? = some l0:=⟨ls[0]'(by omega),List.getElem?_eq_getElem _⟩
   obtain ⟨r1,r2,_⟩:=q2 0 l0 hl0
   have hc0:=r2 0 (by omega)
   have hl00:l0[0]? = some (l0[0]'(by omega)):=List.getElem?_eq_getElem _
   rw [hl00] at hc0
   obtain ⟨b,off,spot⟩:=a
   have hs:spot=none:=by
    cases spot with
    | none=>rfl
    | some s =>
     exfalso
     simp only [World.cell?] at hc0
     split at hc0
     ·have:((⟨b,off,some s⟩:Addr).add (0*sz+0)).spot.isSome=true:=by unfold Addr.add;split <;> simp_all
      rw [this] at hc0
      simp at hc0
     ·cases hc0
   subst hs
   refine ⟨b,off,Z, ?_,fun i l hil j v hj => ?_⟩
   ·rw [eV] at hc0
    unfold World.cell? at hc0
    by_cases hlt:b < w.heap.size
    ·exact hlt
    ·rw [Array.getElem?_eq_none (Nat.le_of_not_lt hlt)] at hc0
     cases hc0
   ·obtain ⟨r1,r2,_⟩:=q2 i l hil
    have hj':j < sz:=by rw [← r1];exact (List.getElem?_eq_some_iff.1 hj).1
    have:=r2 j hj'
    rw [eV,← Nat.add_assoc] at this
    rw [this,hj]
  ·obtain ⟨i,hi⟩:=List.getElem?_of_mem hl'
   exact (q2 i l hi).2.2
end
theorem bHu {k:IntKind} {n:Int} (h:(Lit.int k n).wf=true):k.min≤n∧n≤k.max:=by
 simp only [Lit.wf,Bool.and_eq_true,decide_eq_true_eq] at h
 exact h
theorem aWm {α:Type} {enc:α→List Value} {p:α→Prop} {ks:List IntKind} (hx:∀ l,oF ks l→∃ x,l=enc x∧p x):∀ ls:List (List Value),(∀ l∈ls,oF ks l)→∃ xs:List α,ls=xs.map enc∧∀ x∈xs,p x
 | [],_=>⟨[],rfl,by simp⟩
 | l::ls,h=>by
  obtain ⟨x,rfl,hp⟩:=hx l (h l (by simp))
  obtain ⟨xs,rfl,hps⟩:=aWm hx ls (fun l hl=>h l (by simp [hl]))
  refine ⟨x::xs,Z,fun y hy => ?_⟩
  rcases List.mem_cons.1 hy with rfl | hy
  ·exact hp
  ·exact hps y hy
theorem gW {k:IntKind} {ks:List IntKind} {l:List Value} (h:oF (k::ks) l):∃ z l',l=.int k z::l'∧(k.min≤z∧z≤k.max)∧oF ks l':=by
 cases l with
 | nil=>exact h.elim
 | cons v l =>
  obtain ⟨⟨z,rfl,hw⟩,h2⟩:=h
  exact ⟨z,l,Z,bHu hw,h2⟩
theorem uG {l:List Value} (h:oF [] l):l=[]:=by
 cases l with
 | nil=>rfl
 | cons v l=>exact h.elim
theorem bGr {P:Program} {w:World} {base:Nat} {H:Type} {enc:TypeId × Value→H} {spare:Nat→Bool} {held:Bool} {t e sz bytes:Nat} {A:Option Addr} {len cap:Nat} {d:DataW H} {ps:List MemPlace} (ht:fQ P t e sz bytes=true)
  (h:DataW.Trod enc P w base spare held t (.slice A len cap) d ps):len≤cap:=by
 obtain ⟨h1,h2,h3,h4,h5,h6,zv,hzv,hzs⟩:=gP ht
 obtain ⟨fuel,hf⟩:=h
 rcases open_slice h1 hf with ⟨hcs,_⟩ | ⟨a,l,c,m',n,D,Pl,hcs,hb,hlc,_,hm,_,hx⟩
 ·simp only [Value.cells,List.cons.injEq,Value.slice.injEq,and_true] at hcs
  obtain ⟨rfl,rfl,rfl⟩:=hcs
  exact Nat.le_refl _
 ·simp only [Value.cells,List.cons.injEq,Value.slice.injEq,and_true] at hcs
  obtain ⟨rfl,rfl,rfl⟩:=hcs
  exact hlc
end Go.Bil
