/- Part of the proof of a law of this seat (3 texts). No conditions. -/
import Derived.Test.YtpcloigancpnbaaGreatDoorK15
import Derived.Test.YtpcloigancpnbaaGreatDoorK16
set_option linter.unusedVariables false
set_option linter.unusedSimpArgs false
set_option linter.unnecessarySimpa false
set_option maxHeartbeats 100000000
namespace Go.Bil
def cQ (p:Int × Int):List Value:=[.int .u32 p.1,.int .u32 p.2]
theorem aIw (p:Int × Int):(cQ p).length=2:=rfl
def prI (a b:Int):Int × Int:=(min a b,max a b)
theorem bGc (a b:Int):prI a b=prI b a:=by unfold prI;apply Prod.ext <;> simp only <;> omega
def aDl (a:Int) (xs:List Int):List (Int × Int):=(xs.filter (fun x=>decide (a≠x))).map (prI a)
def aCr (l:List Int) (k:Nat):List (Int × Int):=(List.range k).flatMap (fun p=>aDl (l.getD p 0) (l.take p))
def bGd (l:List Int):List (Int × Int):=aCr l l.length
def rQ (g:Nat→List Int) (n:Nat):List (Int × Int):=(List.range n).flatMap (fun j=>bGd (g j))
theorem aGh {a:Int} {xs:List Int} {z:Int × Int}:z∈aDl a xs↔∃ x∈xs,a≠x∧z=prI a x:=by
 simp only [aDl,List.mem_map,List.mem_filter,decide_eq_true_eq]
 constructor
 ·rintro ⟨x,⟨h1,h2⟩,rfl⟩;exact ⟨x,h1,h2,rfl⟩
 ·rintro ⟨x,h1,h2,rfl⟩;exact ⟨x,⟨h1,h2⟩,rfl⟩
theorem aKq {a x:Int} {l:List Int} {q:Nat} (h:l[q]? = some x) (z:Int × Int):z∈aDl a (l.take (q+1))↔(a≠x∧z=prI a x)∨z∈aDl a (l.take q):=by
 rw [aGh,aGh,cH h]
 constructor
 ·rintro ⟨y,hy,h1,h2⟩
  rcases List.mem_append.1 hy with hy | hy
  ·exact .inr ⟨y,hy,h1,h2⟩
  ·simp only [List.mem_singleton] at hy;subst hy;exact .inl ⟨h1,h2⟩
 ·rintro (⟨h1,h2⟩ | ⟨y,hy,h1,h2⟩)
  ·exact ⟨x,by simp,h1,h2⟩
  ·exact ⟨y,List.mem_append_left _ hy,h1,h2⟩
theorem aTm {l:List Int} {k:Nat} {a:Int} (h:l[k]? = some a):aCr l (k+1)=aCr l k++aDl a (l.take k):=by
 unfold aCr
 rw [List.range_succ,List.flatMap_append]
 simp [List.getD_eq_getElem?_getD,h]
theorem aSd (g:Nat→List Int) (n:Nat):rQ g (n+1)=rQ g n++bGd (g n):=by
 unfold rQ
 rw [List.range_succ,List.flatMap_append]
 simp
theorem bFn {l:List Int} {z:Int × Int}:z∈bGd l↔∃ a∈l,∃ b∈l,a≠b∧z=prI a b:=by
 simp only [bGd,aCr,List.mem_flatMap,List.mem_range,aGh]
 constructor
 ·rintro ⟨p,hp,x,hx,h1,h2⟩
  have e:l.getD p 0=l[p]:=by simp [List.getD_eq_getElem?_getD,hp]
  exact ⟨_,by rw [e];exact List.getElem_mem hp,x,List.mem_of_mem_take hx,h1,h2⟩
 ·rintro ⟨a,ha,b,hb,h1,h2⟩
  obtain ⟨p,hp⟩:=List.getElem?_of_mem ha
  obtain ⟨q,hq⟩:=List.getElem?_of_mem hb
  have hpl:=(List.getElem?_eq_some_iff.1 hp).1
  have hql:=(List.getElem?_eq_some_iff.1 hq).1
  rcases Nat.lt_trichotomy p q with h | h | h
  ·refine ⟨q,hql,a, ?_, ?_, ?_⟩
   ·exact List.mem_of_getElem? (i:=p) (by rw [List.getElem?_take_of_lt h];exact hp)
   ·rw [List.getD_eq_getElem?_getD,hq];exact fun e=>h1 e.symm
   ·rw [List.getD_eq_getElem?_getD,hq,h2];exact bGc a b
  ·subst h;rw [hp] at hq;injection hq with hq;exact absurd hq h1
  ·refine ⟨p,hpl,b, ?_, ?_, ?_⟩
   ·exact List.mem_of_getElem? (i:=q) (by rw [List.getElem?_take_of_lt h];exact hq)
   ·rw [List.getD_eq_getElem?_getD,hp];exact h1
   ·rw [List.getD_eq_getElem?_getD,hp];exact h2
theorem aBj {g:Nat→List Int} {n:Nat} {z:Int × Int}:z∈rQ g n↔∃ j,j < n∧∃ a∈g j,∃ b∈g j,a≠b∧z=prI a b:=by
 simp only [rQ,List.mem_flatMap,List.mem_range,bFn]
theorem aHp {ks:List Int} {q p:Nat} {x:Int} (h:ks[q]? = some x) (hq:q < p):(((ks.map iM).drop 0).take (p - 0))[q]? = some (iM x):=by
 rw [List.getElem?_take_of_lt (by omega),List.drop_zero,List.getElem?_map,h]
 rfl
def ltP (a b:Int × Int):Prop:=a.1 < b.1∨(a.1=b.1∧a.2 < b.2)
instance (a b:Int × Int):Decidable (ltP a b):=by unfold ltP;infer_instance
def aYm (a b:Int × Int):Int:=if qE a.1 b.1=0 then qE a.2 b.2 else qE a.1 b.1
theorem aOs {a b:Int × Int}:aYm a b < 0↔ltP a b:=by
 unfold aYm ltP qE
 (repeat' split) <;> omega
theorem aKd {a b c:Int × Int} (h:ltP a b) (h':ltP b c):ltP a c:=by unfold ltP at *;omega
theorem qF {a:Int × Int}:¬ ltP a a:=by unfold ltP;omega
theorem aZl {a b:Int × Int} (h:a≠b) (h':¬ ltP b a):ltP a b:=by
 unfold ltP at *
 have:a.1≠b.1∨a.2≠b.2:=by
  by_cases h1:a.1=b.1
  ·exact .inr fun h2=>h (Prod.ext h1 h2)
  ·exact .inl h1
 omega
abbrev Asc (l:List (Int × Int)):Prop:=l.Pairwise ltP
theorem aEo:∀ {l m:List (Int × Int)},Asc l→Asc m→(∀ z,z∈l↔z∈m)→l=m
 | [],[],_,_,_=>rfl
 | [],b::m,_,_,h=>absurd ((h b).2 (by simp)) (by simp)
 | a::l,[],_,_,h=>absurd ((h a).1 (by simp)) (by simp)
 | a::l,b::m,h1,h2,h=>by
  have e1:=List.pairwise_cons.1 h1
  have e2:=List.pairwise_cons.1 h2
  have hab:a=b:=by
   rcases List.mem_cons.1 ((h a).1 (by simp)) with e | e
   ·exact e
   ·rcases List.mem_cons.1 ((h b).2 (by simp)) with e' | e'
    ·exact e'.symm
    ·exact absurd (aKd (e2.1 a e) (e1.1 b e')) qF
  subst hab
  refine congrArg (a::·) (aEo e1.2 e2.2 fun z=>⟨fun hz => ?_,fun hz => ?_⟩)
  ·rcases List.mem_cons.1 ((h z).1 (List.mem_cons_of_mem _ hz)) with e | e
   ·subst e;exact absurd (e1.1 z hz) qF
   ·exact e
  ·rcases List.mem_cons.1 ((h z).2 (List.mem_cons_of_mem _ hz)) with e | e
   ·subst e;exact absurd (e2.1 z hz) qF
   ·exact e
theorem aXw {l:List (Int × Int)} (h:Asc l):l.Nodup:=h.imp fun hab e=>by subst e;exact qF hab
theorem aGl:∀ {l m:List (Int × Int)},l.Nodup→(∀ z∈l,z∈m)→l.length≤m.length
 | [],m,_,_=>by simp
 | a::l,m,h,hs=>by
  have e:=List.nodup_cons.1 h
  have ha:=hs a (by simp)
  have:=aGl (l:=l) (m:=m.erase a) e.2 fun z hz=>(List.mem_erase_of_ne (fun e'=>by subst e';exact e.1 hz)).2 (hs z (List.mem_cons_of_mem _ hz))
  rw [List.length_erase_of_mem ha] at this
  have hpos:0 < m.length:=List.length_pos_of_mem ha
  simp only [List.length_cons]
  omega
def aGs (ks:List Int):List (Int × Int):=ks.flatMap (fun a=>ks.map (fun b=>(a,b)))
theorem aZp {ks:List Int} {z:Int × Int}:z∈aGs ks↔z.1∈ks∧z.2∈ks:=by
 simp only [aGs,List.mem_flatMap,List.mem_map]
 constructor
 ·rintro ⟨a,ha,b,hb,rfl⟩;exact ⟨ha,hb⟩
 ·rintro ⟨h1,h2⟩;exact ⟨z.1,h1,z.2,h2,rfl⟩
theorem aZy (ks:List Int):(aGs ks).length=ks.length*ks.length:=by
 unfold aGs
 have:∀ l:List Int,(l.flatMap (fun a=>ks.map (fun b=>(a,b)))).length=l.length*ks.length:=by
  intro l
  induction l with
  | nil=>simp
  | cons a l ih=>simp only [List.flatMap_cons,List.length_append,ih,List.length_map,List.length_cons,Nat.add_mul,Nat.one_mul];omega
 exact this ks
theorem bKq {ks:List Int} {a b:Int} (ha:a∈ks) (hb:b∈ks):prI a b∈aGs ks:=by
 rw [aZp]
 unfold prI
 simp only [Int.min_def,Int.max_def]
 constructor <;> split <;> assumption
end Go.Bil
namespace Go.Bil
theorem bVn (w:World) (o p q:Obj):∃ n os,({ ({ ({ ({ w with heap:=w.heap.push o }:World) with heap:=(w.heap.push o).push p }:World) with drawn:=w.drawn+1 }:World) with heap:=((w.heap.push o).push p).push q }:World)=Go.Sort.grow (w.drewN n) os:=⟨1,#[o,p,q],by
 have e:((w.heap.push o).push p).push q=w.heap++#[o,p,q]:=by apply Array.ext';simp
 simp [Go.Sort.grow,e,World.drewN]
 exact ⟨Z,Z,Z⟩⟩
theorem Mem.drewE {w0 w:World} {X:List Nat} {S:List eL} (M:Mem w0 X S w):Mem w0 X S { w with drawn:=w.drawn+1 }:=M.drew ⟨rfl,rfl,rfl,Nat.le_refl _,fun _ _=>rfl⟩ rfl
theorem Mem.notNew {w0 w:World} {S:List eL} {b:Nat} (k:Nat) (M:Mem w0 [] S w) (hb:b < w0.heap.size):b∉bY (S.take k):=by
 intro h
 obtain ⟨o,ho⟩:=gV.1 h
 rcases (M.own b o (List.mem_of_mem_take ho)).2 with h | h
 ·omega
 ·cases h
theorem aOo {α:Type} {L T:List (α × Nat)} (hT:(T.map (·.2)).Nodup) (hs:∀ p∈T,p∈L):T.length≤L.length:=by
 have:∀ {T L:List (α × Nat)},(T.map (·.2)).Nodup→(∀ p∈T,p∈L)→T.length≤L.length:=by
  intro T
  induction T with
  | nil=>intros;simp
  | cons a T ih =>
   intro L h hs
   simp only [List.map_cons,List.nodup_cons] at h
   obtain ⟨i,hi⟩:=List.getElem?_of_mem (hs a (by simp))
   have hlt:=(List.getElem?_eq_some_iff.1 hi).1
   have:=ih (L:=L.eraseIdx i) h.2 fun p hp=>by
    have hpL:=(xV hi).mem_iff.1 (hs p (List.mem_cons_of_mem _ hp))
    rcases List.mem_cons.1 hpL with e | e
    ·subst e;exact absurd (List.mem_map.2 ⟨p,hp,rfl⟩) h.1
    ·exact e
   rw [List.length_eraseIdx_of_lt hlt] at this
   simp only [List.length_cons]
   omega
 exact this hT hs
theorem aYd {α:Type} {T:List (α × Nat)} {p:α × Nat} (hT:(T.map (·.2)).Nodup) (hp:p.2∉T.map (·.2)):((T++[p]).map (·.2)).Nodup:=by
 simp only [List.map_append,List.map_cons,List.map_nil,List.nodup_append,List.nodup_cons,List.not_mem_nil,not_false_eq_true,List.nodup_nil,and_self,List.mem_singleton,true_and]
 exact ⟨hT,fun x hx y hy e=>hp (by rw [← hy,← e];exact hx)⟩
theorem bHl:Go.Sort.SWO (Go.Proofs.ltOf aYm):=by
 have e:∀ x y:Int × Int,Go.Proofs.ltOf aYm x y=decide (ltP x y):=fun x y=>decide_eq_decide.2 aOs
 refine ⟨fun x => ?_,fun x y z => ?_,fun x y z => ?_⟩
 ·rw [e];exact decide_eq_false qF
 ·rw [e,e,e];simp only [decide_eq_true_eq];exact aKd
 ·rw [e,e,e];simp only [decide_eq_false_iff_not];unfold ltP;omega
end Go.Bil
namespace Go.Bil
theorem bOe {l:List (Int × Int)} (h:l.Nodup) (h':l.Pairwise fun a b=>¬ ltP b a):Asc l:=List.Pairwise.imp₂ (fun a b hab hba=>aZl hab hba) h h'
end Go.Bil
namespace Go.Bil
theorem aYg {A A' C:List (Int × Int)} {xa xb:Int} {l:List Int} {q:Nat} (hZ:∀ z,z∈A'↔z=prI xa xb∨z∈A) (hI:∀ z,z∈A↔z∈C++aDl xa (l.take q)) (hxb:l[q]? = some xb) (hne:xa≠xb):∀ z,z∈A'↔z∈C++aDl xa (l.take (q+1)):=fun z=>by
 rw [hZ z,hI z,List.mem_append,List.mem_append,aKq hxb]
 constructor
 ·rintro (h | h | h)
  ·exact .inr (.inl ⟨hne,h⟩)
  ·exact .inl h
  ·exact .inr (.inr h)
 ·rintro (h | ⟨_,h⟩ | h)
  ·exact .inr (.inl h)
  ·exact .inl h
  ·exact .inr (.inr h)
theorem aYf {A C:List (Int × Int)} {xa xb:Int} {l:List Int} {q:Nat} (hI:∀ z,z∈A↔z∈C++aDl xa (l.take q)) (hxb:l[q]? = some xb) (hne:¬ xa≠xb):∀ z,z∈A↔z∈C++aDl xa (l.take (q+1)):=fun z=>by
 rw [hI z,List.mem_append,List.mem_append,aKq hxb]
 constructor
 ·rintro (h | h)
  ·exact .inl h
  ·exact .inr (.inr h)
 ·rintro (h | ⟨h,_⟩ | h)
  ·exact .inl h
  ·exact absurd h hne
  ·exact .inr h
theorem aYe {g:Nat→List Int} {ks:List Int} (hks:∀ j,j < 1024→∀ x∈g j,x∈ks) {z:Int × Int} (hz:z∈rQ g 1024):z∈aGs ks:=by
 obtain ⟨j,hj,a,ha,b,hb,_,rfl⟩:=aBj.1 hz
 exact bKq (hks j hj a ha) (hks j hj b hb)
end Go.Bil
namespace Go.Bil
end Go.Bil

namespace Go.Bil
def z0B:Bx:=⟨0,0,0,0⟩
def wX (a:Bx):Value:=.agg (eC a).toArray
def bxM (xs:List Body):Int→Option Bx:=fun k=>(xs.reverse.find? (fun b=>decide (b.key=k))).map gZ
theorem bIm (k:Int):bxM [] k=none:=rfl
theorem bCb {xs:List Body} {k:Nat} {b:Body} (h:xs[k]? = some b) (q:Int):bxM (xs.take (k+1)) q=if q=b.key then some (gZ b) else bxM (xs.take k) q:=by
 unfold bxM
 rw [cH h,List.reverse_append]
 simp only [List.reverse_cons,List.reverse_nil,List.nil_append,List.singleton_append,List.find?_cons]
 by_cases e:q=b.key
 ·rw [if_pos e,decide_eq_true e.symm];rfl
 ·rw [if_neg e,decide_eq_false (fun h=>e h.symm)]
theorem sL {xs:List Body} (hs:cZ xs) {b:Body} (hb:b∈xs):bxM xs b.key=some (gZ b):=by
 unfold bxM
 cases hf:xs.reverse.find? (fun c=>decide (c.key=b.key)) with
 | none =>
  have:=List.find?_eq_none.1 hf b (by simpa using hb)
  simp at this
 | some c =>
  have hc:=List.find?_some hf
  have hm:c∈xs:=by simpa using List.mem_of_find?_eq_some hf
  simp only [decide_eq_true_eq] at hc
  obtain ⟨i,hi⟩:=List.getElem?_of_mem hm
  obtain ⟨j,hj⟩:=List.getElem?_of_mem hb
  have:i=j:=by
   rcases Nat.lt_trichotomy i j with h | h | h
   ·have:=fK hs h hi hj;omega
   ·exact h
   ·have:=fK hs h hj hi;omega
  subst this
  rw [hi] at hj
  injection hj with hj
  subst hj
  rfl
def apB (f:Int→Option Bx) (z:Int × Int):Bool:=decide (¬ ovl ((f z.1).getD z0B) ((f z.2).getD z0B))
def gOf (xs:List Body):Nat→List Int:=fun n=>(xs.filter (fun b=>decide (n∈(jX (gZ b)).map fI))).map (·.key)
theorem bEl {xs:List Body} {k:Nat} {b:Body} (h:xs[k]? = some b):gOf (xs.take (k+1))=wN (gOf (xs.take k)) b.key ((jX (gZ b)).map fI):=by
 funext n
 unfold gOf wN
 rw [cH h,List.filter_append,List.map_append]
 by_cases e:n∈(jX (gZ b)).map fI
 ·rw [if_pos e];simp only [List.filter_cons,decide_eq_true e,if_true,List.filter_nil,List.map_cons,List.map_nil]
 ·rw [if_neg e];simp only [List.filter_cons,decide_eq_false e,Bool.false_eq_true,if_false,List.filter_nil,List.map_nil,List.append_nil]
theorem sU {xs:List Body} {n:Nat} {x:Int}:x∈gOf xs n↔∃ b∈xs,n∈(jX (gZ b)).map fI∧b.key=x:=by
 simp only [gOf,List.mem_map,List.mem_filter,decide_eq_true_eq]
 constructor
 ·rintro ⟨b,⟨h1,h2⟩,h3⟩;exact ⟨b,h1,by simpa using h2,h3⟩
 ·rintro ⟨b,h1,h2,h3⟩;exact ⟨b,⟨h1,by simpa using h2⟩,h3⟩
theorem bJo (xs:List Body) (n:Nat):(gOf xs n).length≤xs.length:=by
 unfold gOf
 rw [List.length_map]
 exact List.length_filter_le _ _
def wQ (xs:List Body) (i k:Nat):List (Int × Int) :=
 (((xs.take k).drop (i+1)).filter (fun b=>decide (ovl (gZ (xs.getD i default)) (gZ b)))).map (fun b=>((xs.getD i default).key,b.key))
def uB (xs:List Body) (i:Nat):List (Int × Int):=(List.range i).flatMap (fun j=>wQ xs j xs.length)
def pF (xs:List Body):List (Int × Int):=uB xs xs.length
theorem tY {α:Type} {xs:List α} {k i:Nat} {b:α} (h:xs[k]? = some b) (hi:i+1≤k):(xs.take (k+1)).drop (i+1)=(xs.take k).drop (i+1)++[b]:=by
 have hk:=(List.getElem?_eq_some_iff.1 h).1
 rw [cH h,List.drop_append_of_le_length (by simp;omega)]
theorem bGn {xs:List Body} {i k:Nat} {a b:Body} (ha:xs[i]? = some a) (h:xs[k]? = some b) (hi:i+1≤k) (ho:ovl (gZ a) (gZ b)):wQ xs i (k+1)=wQ xs i k++[(a.key,b.key)]:=by
 unfold wQ
 have e:xs.getD i default=a:=by rw [List.getD_eq_getElem?_getD,ha];rfl
 rw [tY h hi,e,List.filter_append,List.map_append]
 congr 1
 simp only [List.filter_cons,decide_eq_true ho,if_true,List.filter_nil,List.map_cons,List.map_nil]
theorem bKz {xs:List Body} {i k:Nat} {a b:Body} (ha:xs[i]? = some a) (h:xs[k]? = some b) (hi:i+1≤k) (ho:¬ ovl (gZ a) (gZ b)):wQ xs i (k+1)=wQ xs i k:=by
 unfold wQ
 have e:xs.getD i default=a:=by rw [List.getD_eq_getElem?_getD,ha];rfl
 rw [tY h hi,e,List.filter_append,List.map_append]
 simp only [List.filter_cons,decide_eq_false ho,Bool.false_eq_true,if_false,List.filter_nil,List.map_nil,List.append_nil]
theorem aTz (xs:List Body) (i:Nat):wQ xs i (i+1)=[]:=by
 unfold wQ
 rw [List.drop_eq_nil_of_le (by simp;omega)]
 rfl
theorem xP (xs:List Body) (i:Nat):uB xs (i+1)=uB xs i++wQ xs i xs.length:=by
 unfold uB
 rw [List.range_succ,List.flatMap_append]
 simp
theorem aQv (xs:List Body) (i k:Nat):(wQ xs i k).length≤xs.length:=by
 unfold wQ
 rw [List.length_map]
 refine Nat.le_trans (List.length_filter_le _ _) ?_
 simp
 omega
theorem aAw (xs:List Body):∀ i,(uB xs i).length≤i*xs.length
 | 0=>by simp [uB]
 | i+1=>by
  rw [xP,List.length_append,Nat.add_mul,Nat.one_mul]
  have:=aAw xs i
  have:=aQv xs i xs.length
  omega
theorem zM {xs:List Body} {i:Nat} {a:Body} (ha:xs[i]? = some a) {z:Int × Int}:z∈wQ xs i xs.length↔∃ (k:Nat) (b:Body),i < k∧xs[k]? = some b∧ovl (gZ a) (gZ b)∧z=(a.key,b.key):=by
 unfold wQ
 have e:xs.getD i default=a:=by rw [List.getD_eq_getElem?_getD,ha];rfl
 rw [e,List.take_of_length_le (Nat.le_refl _)]
 simp only [List.mem_map,List.mem_filter,decide_eq_true_eq]
 constructor
 ·rintro ⟨b,⟨h1,h2⟩,rfl⟩
  obtain ⟨q,hq⟩:=List.getElem?_of_mem h1
  rw [List.getElem?_drop] at hq
  exact ⟨i+1+q,b,by omega,hq,h2,Z⟩
 ·rintro ⟨k,b,h1,h2,h3,rfl⟩
  refine ⟨b,⟨List.mem_of_getElem? (i:=k - (i+1)) ?_,h3⟩,Z⟩
  rw [List.getElem?_drop,show i+1+(k - (i+1))=k by omega]
  exact h2
theorem aKi {xs:List Body} {z:Int × Int}:z∈pF xs↔∃ (i k:Nat) (a b:Body),i < k∧xs[i]? = some a∧xs[k]? = some b∧ovl (gZ a) (gZ b)∧z=(a.key,b.key):=by
 simp only [pF,uB,List.mem_flatMap,List.mem_range]
 constructor
 ·rintro ⟨i,hi,hz⟩
  obtain ⟨a,ha⟩:=cF (xs:=xs) (k:=i) rfl hi
  obtain ⟨k,b,h1,h2,h3,h4⟩:=(zM ha).1 hz
  exact ⟨i,k,a,b,h1,ha,h2,h3,h4⟩
 ·rintro ⟨i,k,a,b,h1,h2,h3,h4,h5⟩
  exact ⟨i,(List.getElem?_eq_some_iff.1 h2).1,(zM h2).2 ⟨k,b,h1,h3,h4,h5⟩⟩
theorem aKa {xs:List Body} (hs:cZ xs):∀ i,i≤xs.length→Asc (uB xs i)
 | 0,_=>by simp [uB]
 | i+1,hi=>by
  obtain ⟨a,ha⟩:=cF (xs:=xs) (k:=i) rfl (by omega)
  rw [xP]
  refine List.pairwise_append.2 ⟨aKa hs i (by omega), ?_, ?_⟩
  ·unfold wQ
   have e:xs.getD i default=a:=by rw [List.getD_eq_getElem?_getD,ha];rfl
   rw [e]
   have hsub:List.Sublist (((xs.take xs.length).drop (i+1)).filter (fun b=>decide (ovl (gZ a) (gZ b)))) xs:=List.filter_sublist.trans ((List.drop_sublist _ _).trans (List.take_sublist _ _))
   have:=List.Pairwise.sublist hsub hs
   exact List.pairwise_map.2 (this.imp fun h=>.inr ⟨Z,h⟩)
  ·intro x hx y hy
   obtain ⟨k,b,_,hb,_,rfl⟩:=(zM ha).1 hy
   simp only [uB,List.mem_flatMap,List.mem_range] at hx
   obtain ⟨j,hj,hx⟩:=hx
   obtain ⟨c,hc⟩:=cF (xs:=xs) (k:=j) rfl (by omega)
   obtain ⟨_,_,_,_,_,rfl⟩:=(zM hc).1 hx
   exact .inl (fK hs hj hc ha)
theorem aYw {xs:List Body} (hs:cZ xs):Asc (pF xs):=aKa hs xs.length (Nat.le_refl _)
theorem aEt {xs:List Body} (hs:cZ xs) {ps:List (Int × Int)} (hp:Asc ps) (hm:∀ z,z∈ps↔z∈rQ (gOf xs) 1024):ps.filter (fun z => !apB (bxM xs) z)=pF xs:=by
 refine aEo (List.Pairwise.sublist List.filter_sublist hp) (aYw hs) fun z => ?_
 rw [List.mem_filter,hm z,aBj,aKi]
 unfold apB
 simp only [Bool.not_eq_true',decide_eq_false_iff_not,Decidable.not_not]
 constructor
 ·rintro ⟨⟨j,hj,ka,hka,kb,hkb,hne,rfl⟩,ho⟩
  obtain ⟨a,ha,_,rfl⟩:=sU.1 hka
  obtain ⟨b,hb,_,rfl⟩:=sU.1 hkb
  obtain ⟨p,hp⟩:=List.getElem?_of_mem ha
  obtain ⟨q,hq⟩:=List.getElem?_of_mem hb
  rcases Nat.lt_trichotomy p q with h | h | h
  ·have hlt:=fK hs h hp hq
   have e:prI a.key b.key=(a.key,b.key):=by unfold prI;apply Prod.ext <;> simp only <;> omega
   rw [e] at ho ⊢
   simp only [sL hs ha,sL hs hb,Option.getD_some] at ho
   exact ⟨p,q,a,b,h,hp,hq,ho,Z⟩
  ·subst h;rw [hp] at hq;injection hq with hq;subst hq;exact absurd rfl hne
  ·have hlt:=fK hs h hq hp
   have e:prI a.key b.key=(b.key,a.key):=by unfold prI;apply Prod.ext <;> simp only <;> omega
   rw [e] at ho ⊢
   simp only [sL hs ha,sL hs hb,Option.getD_some] at ho
   exact ⟨q,p,b,a,h,hq,hp,ho,Z⟩
 ·rintro ⟨i,k,a,b,hik,ha,hb,ho,rfl⟩
  have ham:=List.mem_of_getElem? ha
  have hbm:=List.mem_of_getElem? hb
  have hlt:=fK hs hik ha hb
  refine ⟨?_,by simp only [sL hs ham,sL hs hbm,Option.getD_some];exact ho⟩
  obtain ⟨c,hc1,hc2⟩:=bFy ho
  refine ⟨fI c,mK c,a.key,sU.2 ⟨a,ham,List.mem_map.2 ⟨c,hc1,Z⟩,Z⟩,b.key,sU.2 ⟨b,hbm,List.mem_map.2 ⟨c,hc2,Z⟩,Z⟩,by omega, ?_⟩
  unfold prI
  apply Prod.ext <;> simp only <;> omega
def aXv:List Body→List (Int × Int)
 | []=>[]
 | a::l=>l.map (fun b=>(a.key,b.key))++aXv l
theorem aOa:∀ xs:List Body,2*(aXv xs).length=xs.length*(xs.length - 1)
 | []=>rfl
 | a::l=>by
  have ih:=aOa l
  simp only [aXv,List.length_append,List.length_map,List.length_cons,Nat.add_sub_cancel,Nat.mul_add,ih]
  cases hl:l.length with
  | zero=>simp
  | succ n=>simp only [Nat.add_sub_cancel,Nat.add_mul,Nat.mul_add];omega
theorem aQb {xs:List Body} (hs:cZ xs) {a b:Body} (ha:a∈xs) (hb:b∈xs) (hlt:a.key < b.key):(a.key,b.key)∈aXv xs:=by
 induction xs with
 | nil=>cases ha
 | cons c l ih =>
  have e:=List.pairwise_cons.1 hs
  unfold aXv
  rcases List.mem_cons.1 ha with h1 | h1
  ·subst h1
   rcases List.mem_cons.1 hb with h2 | h2
   ·subst h2;omega
   ·exact List.mem_append_left _ (List.mem_map.2 ⟨b,h2,Z⟩)
  ·rcases List.mem_cons.1 hb with h2 | h2
   ·subst h2;have:=e.1 a h1;omega
   ·exact List.mem_append_right _ (ih e.2 h1 h2)
theorem aYh {xs:List Body} (hs:cZ xs) {ps:List (Int × Int)} (hp:Asc ps) (hm:∀ z,z∈ps↔z∈rQ (gOf xs) 1024):2*ps.length≤xs.length*(xs.length - 1):=by
 rw [← aOa]
 have:=aGl (aXw hp) (m:=aXv xs) fun z hz=>by
  obtain ⟨j,hj,ka,hka,kb,hkb,hne,rfl⟩:=aBj.1 ((hm z).1 hz)
  obtain ⟨a,ha,_,rfl⟩:=sU.1 hka
  obtain ⟨b,hb,_,rfl⟩:=sU.1 hkb
  rcases Int.lt_or_le a.key b.key with h | h
  ·have e:prI a.key b.key=(a.key,b.key):=by unfold prI;apply Prod.ext <;> simp only <;> omega
   rw [e];exact aQb hs ha hb h
  ·have e:prI a.key b.key=(b.key,a.key):=by unfold prI;apply Prod.ext <;> simp only <;> omega
   rw [e];exact aQb hs hb ha (by omega)
 omega
end Go.Bil
namespace Go.Bil
theorem aFf {α:Type} {p:α→Bool}:∀ {l:List α} {k:Nat} {x:α},l[k]? = some x→p x=true→(∀ (j:Nat) (y:α),j < k→l[j]? = some y→p y=false)→l.findIdx p=k
 | a::l,0,x,h,hp,_=>by simp only [List.getElem?_cons_zero,Option.some.injEq] at h;subst h;simp [List.findIdx_cons,hp]
 | a::l,k+1,x,h,hp,hn=>by
  have h0:=hn 0 a (by omega) rfl
  have ih:=aFf (l:=l) (k:=k) (by simpa using h) hp (fun j y hj hy=>hn (j+1) y (by omega) (by simpa using hy))
  simp [List.findIdx_cons,h0,ih]
theorem aFg {α:Type} {p:α→Bool}:∀ {l:List α},(∀ (j:Nat) (y:α),l[j]? = some y→p y=false)→l.findIdx p=l.length
 | [],_=>rfl
 | a::l,h=>by
  have h0:=h 0 a rfl
  have ih:=aFg (l:=l) (fun j y hy=>h (j+1) y (by simpa using hy))
  simp [List.findIdx_cons,h0,ih]
theorem uA {α:Type} {p:α→Bool} {l:List α} {j:Nat} {y:α} (hj:j < l.findIdx p) (hy:l[j]? = some y):p y=false:=by
 have hjl:=(List.getElem?_eq_some_iff.1 hy).1
 have:=List.not_of_lt_findIdx hj
 have e:=(List.getElem?_eq_some_iff.1 hy).2
 rw [e] at this
 simpa using this
theorem aPe {α:Type} {p:α→Bool} {l:List α} (h:¬ l.findIdx p < l.length):l.filter (fun z => !p z)=l:=by
 refine List.filter_eq_self.2 fun x hx => ?_
 obtain ⟨i,hi⟩:=List.getElem?_of_mem hx
 have:=uA (p:=p) (l:=l) (j:=i) (by have:=(List.getElem?_eq_some_iff.1 hi).1;omega) hi
 simp [this]
theorem aMg {α:Type} {p:α→Bool} {l:List α} (h:l.findIdx p < l.length):l.take (l.findIdx p)=(l.take (l.findIdx p+1)).filter (fun z => !p z):=by
 obtain ⟨x,hx⟩:=cF (xs:=l) (k:=l.findIdx p) rfl h
 have hp:p x=true:=by
  have:=List.findIdx_getElem (w:=h)
  rwa [(List.getElem?_eq_some_iff.1 hx).2] at this
 rw [cH hx,List.filter_append]
 have h1:(l.take (l.findIdx p)).filter (fun z => !p z)=l.take (l.findIdx p):=by
  refine List.filter_eq_self.2 fun y hy => ?_
  obtain ⟨i,hi⟩:=List.getElem?_of_mem hy
  have hil:=(List.getElem?_eq_some_iff.1 hi).1
  rw [List.length_take] at hil
  rw [List.getElem?_take_of_lt (by omega)] at hi
  have:=uA (p:=p) (by omega) hi
  simp [this]
 rw [h1]
 simp [hp]
theorem aCe {α:Type} {p:α→Bool} {l:List α} {j:Nat} {x:α} (h:l[j]? = some x):(l.take (j+1)).filter (fun z => !p z)=(l.take j).filter (fun z => !p z)++if p x then [] else [x]:=by
 rw [cH h,List.filter_append]
 cases hp:p x <;> simp [hp]
theorem bHb {α:Type} {l:List α} {k:Nat} {x:α} (hk:k < l.length):(l.set k x).take (k+1)=l.take k++[x]:=by
 rw [cH (List.getElem?_set_self hk),List.take_set_of_le (Nat.le_refl k)]
theorem bGz {α:Type} {l:List α} {k j:Nat} {x:α} (hk:k < j):(l.set k x).drop j=l.drop j:=List.drop_set_of_lt hk
theorem bEa {α:Type} {l m:List α} {j:Nat} (h:l.drop j=m.drop j):l[j]? = m[j]? := by
 have:=congrArg (fun q=>q[0]?) h
 simpa [List.getElem?_drop] using this
theorem aJv {α:Type} {l m:List α} {j:Nat} (h:l.drop j=m.drop j):l.drop (j+1)=m.drop (j+1):=by
 have:=congrArg (List.drop 1) h
 simpa [List.drop_drop,Nat.add_comm] using this
theorem aZ.apartTail {w0 w:World} {X:List Nat} {T sz:Nat} {A:Option Addr} {n c:Nat} {ls:List (List Value)} {er:eL} {S:List eL} (M:Mem w0 X (er::S) w) (hR:aZ T sz A n c ls er):0 < n→∀ q off,A=some ⟨q,off,none⟩→q∉bY S:=by
 intro hn q off hA
 obtain ⟨b,L,_,h1,h2,_⟩:=hR.block hn
 rw [h1] at hA
 injection hA with hA
 injection hA with hA
 subst hA
 subst h2
 have:=M.apart
 simp only [bY,List.filterMap_cons] at this
 exact (List.nodup_cons.1 this).1
theorem Mem.awayTail {w0 w:World} {T:List eL} {L:List eL} {sz nn:Nat} {A:Option Addr} {ls:List (List Value)} (M:Mem w0 [] (L++T) w) (R:Rd w0 sz A nn ls):0 < nn→∀ q off,A=some ⟨q,off,none⟩→q∉bY T:=by
 intro hn q off hA h
 obtain ⟨o,ho⟩:=gV.1 h
 obtain ⟨b,off',hb,hlt,_⟩:=R.at_ hn
 rw [hb] at hA
 injection hA with hA
 injection hA with hA
 subst hA
 rcases (M.own b o (List.mem_append_right _ ho)).2 with h | h
 ·omega
 ·cases h
theorem Mem.dummies {w0 w:World} {X:List Nat} {S:List eL} (k:Nat) (M:Mem w0 X S w) (o:Obj):Mem w0 X (S++List.replicate k (none,o)) w :=
 ⟨M.os,M.tape,M.output,M.size,M.old,fun b o' hb=>by
  rcases List.mem_append.1 hb with h | h
  ·exact M.own b o' h
  ·exact absurd (List.eq_of_mem_replicate h) (by simp),by
  have e:∀ k,bY (List.replicate k ((none,o):eL))=[]:=fun k=>by induction k with
   | zero=>rfl
   | succ k ih=>simp [bY,List.replicate_succ] at ih ⊢
  rw [kB,e];simpa using M.apart⟩
def fH:Row:=⟨none,0,0,(none,default)⟩
theorem bEn (T:Nat):GridRows T (List.replicate 1024 fH) (gOf []):=⟨List.length_replicate,fun j r hr=>by
 have:r=fH:=List.eq_of_mem_replicate (List.mem_of_getElem? hr)
 subst this
 exact aZ.nil _ _ _⟩
theorem Mem.gridNew {w0 w:World} {X:List Nat} {L:List eL} {b T:Nat} (M:Mem w0 X (L++[(some b,bc (fD (List.replicate 1024 fH) 0) T)]) w):Mem w0 X (L++((some b,bc (fD (List.replicate 1024 fH) 0) T)::(List.replicate 1024 fH).map Row.e)) w:=by
 have:=M.dummies 1024 default
 rw [List.append_assoc] at this
 rw [List.map_replicate]
 exact this
theorem Mem.gridRd {w0 w:World} {X:List Nat} {L:List eL} {rs:List Row} {cnt:Int} {b T:Nat} (M:Mem w0 X (L++((some b,bc (fD rs cnt) T)::rs.map Row.e)) w) (h:rs.length=1024):Rd w 1025 (some ⟨b,0,none⟩) 1 [fD rs cnt]:=by
 have hb:=(M.own b _ (List.mem_append_right _ List.mem_cons_self)).1
 refine ⟨rfl,by simp [aSw h],by omega,fun _=>⟨b,0,rfl,(Array.getElem?_eq_some_iff.1 hb).1,fun i l hl => ?_⟩⟩
 obtain ⟨rfl,rfl⟩:i=0∧l=fD rs cnt:=by
  cases i with
  | zero=>simpa using hl.symm
  | succ i=>simp at hl
 simpa using dL.of_heap hb (by simp)
theorem Mem.rowRd {w0 w:World} {X:List Nat} {L:List eL} {rs:List Row} {e:eL} {T:Nat} {g:Nat→List Int} (M:Mem w0 X (L++(e::rs.map Row.e)) w) (h:GridRows T rs g) (j:Nat) (r:Row) (hr:rs[j]? = some r):Rd w 1 r.A r.n ((g j).map iM)∧r.n≤r.c :=
 ⟨(h.row j r hr).rd M (List.mem_append_right _ (List.mem_cons_of_mem _ (List.mem_map.2 ⟨r,List.mem_of_getElem? hr,rfl⟩))),(h.row j r hr).slice⟩
end Go.Bil
namespace Go.Bil
structure View (v:List Body):Prop where
 s:cZ v
 ok:∀ b∈v,check b=0
 len:v.length≤40
theorem View.okb {v:List Body} (h:View v):∀ b∈v,Okb b:=fun b hb=>aOr (h.ok b hb)
end Go.Bil
namespace Go.Bil
theorem Mem.order4 {w0 w:World} {X:List Nat} {a b c d:eL} {T:List eL} (M:Mem w0 X ([a,b,c,d]++T) w):Mem w0 X [d,c,a,b] w:=by
 have M1:Mem w0 X ([a,b]++[c,d]) w:=M.sub (List.sublist_append_left [a,b,c,d] T)
 exact M1.perm (List.perm_append_comm.trans (List.Perm.swap d c [a,b]))
end Go.Bil
namespace Go.Bil
end Go.Bil

namespace Go.Bil
theorem mJ {xs:List Body} (hs:cZ xs) {a b:Body} (ha:a∈xs) (hb:b∈xs) (h:a.key=b.key):a=b:=by
 obtain ⟨i,hi⟩:=List.getElem?_of_mem ha
 obtain ⟨j,hj⟩:=List.getElem?_of_mem hb
 have:i=j:=by
  rcases Nat.lt_trichotomy i j with h' | h' | h'
  ·have:=fK hs h' hi hj;omega
  ·exact h'
  ·have:=fK hs h' hj hi;omega
 subst this
 rw [hi] at hj
 injection hj
theorem aZo {xs:List Body} (hs:cZ xs) {z:Int × Int}:z∈pF xs↔∃ a∈xs,∃ b∈xs,a.key < b.key∧ovl (gZ a) (gZ b)∧z=(a.key,b.key):=by
 rw [aKi]
 constructor
 ·rintro ⟨i,k,a,b,h1,h2,h3,h4,h5⟩
  exact ⟨a,List.mem_of_getElem? h2,b,List.mem_of_getElem? h3,fK hs h1 h2 h3,h4,h5⟩
 ·rintro ⟨a,ha,b,hb,h1,h2,h3⟩
  obtain ⟨i,hi⟩:=List.getElem?_of_mem ha
  obtain ⟨k,hk⟩:=List.getElem?_of_mem hb
  rcases Nat.lt_or_ge i k with h | h
  ·exact ⟨i,k,a,b,h,hi,hk,h2,h3⟩
  ·have:=aDc hs h hk hi;omega
theorem aAf {f n a:Nat} {z:Int} (hz:z=(n:Int)) (h:a=f % n):(f:Int).tmod z=(a:Int):=by
 subst hz
 subst h
 exact (Int.ofNat_tmod f n).symm
end Go.Bil
namespace Go.Bil
def cM (v:Int × Int):List Value:=[.int .i32 v.1,.int .i32 v.2]
end Go.Bil
