/- Part of the proof of a law of this seat (3 texts). No conditions. -/
import Derived.Test.YtaoaknafiegfoaaGreatDoorK15
import Derived.Test.YtaoaknafiegfoaaGreatDoorK16
set_option linter.unusedVariables false
set_option linter.unusedSimpArgs false
set_option linter.unnecessarySimpa false
set_option maxHeartbeats 100000000
namespace Go.Bil
def cU (p:Int × Int):List Value:=[.int .u32 p.1,.int .u32 p.2]
theorem aKi (p:Int × Int):(cU p).length=2:=rfl
def prI (a b:Int):Int × Int:=(min a b,max a b)
theorem bJb (a b:Int):prI a b=prI b a:=by unfold prI;apply Prod.ext <;> simp only <;> omega
def aFh (a:Int) (xs:List Int):List (Int × Int):=(xs.filter (fun x=>decide (a≠x))).map (prI a)
def aEn (l:List Int) (k:Nat):List (Int × Int):=(List.range k).flatMap (fun p=>aFh (l.getD p 0) (l.take p))
def bJc (l:List Int):List (Int × Int):=aEn l l.length
def tF (g:Nat→List Int) (n:Nat):List (Int × Int):=(List.range n).flatMap (fun j=>bJc (g j))
theorem aIb {a:Int} {xs:List Int} {z:Int × Int}:z∈aFh a xs↔∃ x∈xs,a≠x∧z=prI a x:=by
 simp only [aFh,List.mem_map,List.mem_filter,decide_eq_true_eq]
 constructor
 ·rintro ⟨x,⟨h1,h2⟩,rfl⟩;exact ⟨x,h1,h2,rfl⟩
 ·rintro ⟨x,h1,h2,rfl⟩;exact ⟨x,⟨h1,h2⟩,rfl⟩
theorem aMh {a x:Int} {l:List Int} {q:Nat} (h:l[q]? = some x) (z:Int × Int):z∈aFh a (l.take (q+1))↔(a≠x∧z=prI a x)∨z∈aFh a (l.take q):=by
 rw [aIb,aIb,cC h]
 constructor
 ·rintro ⟨y,hy,h1,h2⟩
  rcases List.mem_append.1 hy with hy | hy
  ·exact .inr ⟨y,hy,h1,h2⟩
  ·simp only [List.mem_singleton] at hy;subst hy;exact .inl ⟨h1,h2⟩
 ·rintro (⟨h1,h2⟩ | ⟨y,hy,h1,h2⟩)
  ·exact ⟨x,by simp,h1,h2⟩
  ·exact ⟨y,List.mem_append_left _ hy,h1,h2⟩
theorem aWe {l:List Int} {k:Nat} {a:Int} (h:l[k]? = some a):aEn l (k+1)=aEn l k++aFh a (l.take k):=by
 unfold aEn
 rw [List.range_succ,List.flatMap_append]
 simp [List.getD_eq_getElem?_getD,h]
theorem aUs (g:Nat→List Int) (n:Nat):tF g (n+1)=tF g n++bJc (g n):=by
 unfold tF
 rw [List.range_succ,List.flatMap_append]
 simp
theorem bIn {l:List Int} {z:Int × Int}:z∈bJc l↔∃ a∈l,∃ b∈l,a≠b∧z=prI a b:=by
 simp only [bJc,aEn,List.mem_flatMap,List.mem_range,aIb]
 constructor
 ·rintro ⟨p,hp,x,hx,h1,h2⟩
  have e:l.getD p 0=l[p]:=by simp [List.getD_eq_getElem?_getD,hp]
  exact ⟨_,by rw [e];exact List.getElem_mem hp,x,List.mem_of_mem_take hx,h1,h2⟩
 ·rintro ⟨a,ha,b,hb,h1,h2⟩
  obtain ⟨p,hp⟩:=List.getElem?_of_mem ha
  obtain ⟨q,hq⟩:=List.getElem?_of_mem hb
  have hpl:=(List.getElem?_eq_some_iff.1 hp).1
  have hql:=(List.getElem?_eq_some_iff.1 hq).1
  rcases Nat.lt_trichotomy p q with h | h | h
  ·refine ⟨q,hql,a, ?_, ?_, ?_⟩
   ·exact List.mem_of_getElem? (i:=p) (by rw [List.getElem?_take_of_lt h];exact hp)
   ·rw [List.getD_eq_getElem?_getD,hq];exact fun e=>h1 e.symm
   ·rw [List.getD_eq_getElem?_getD,hq,h2];exact bJb a b
  ·subst h;rw [hp] at hq;injection hq with hq;exact absurd hq h1
  ·refine ⟨p,hpl,b, ?_, ?_, ?_⟩
   ·exact List.mem_of_getElem? (i:=q) (by rw [List.getElem?_take_of_lt h];exact hq)
   ·rw [List.getD_eq_getElem?_getD,hp];exact h1
   ·rw [List.getD_eq_getElem?_getD,hp];exact h2
theorem aDd {g:Nat→List Int} {n:Nat} {z:Int × Int}:z∈tF g n↔∃ j,j < n∧∃ a∈g j,∃ b∈g j,a≠b∧z=prI a b:=by
 simp only [tF,List.mem_flatMap,List.mem_range,bIn]
theorem aJe {ks:List Int} {q p:Nat} {x:Int} (h:ks[q]? = some x) (hq:q < p):(((ks.map jF).drop 0).take (p - 0))[q]? = some (jF x):=by
 rw [List.getElem?_take_of_lt (by omega),List.drop_zero,List.getElem?_map,h]
 rfl
def ltP (a b:Int × Int):Prop:=a.1 < b.1∨(a.1=b.1∧a.2 < b.2)
instance (a b:Int × Int):Decidable (ltP a b):=by unfold ltP;infer_instance
def bBe (a b:Int × Int):Int:=if rD a.1 b.1=0 then rD a.2 b.2 else rD a.1 b.1
theorem aQt {a b:Int × Int}:bBe a b < 0↔ltP a b:=by
 unfold bBe ltP rD
 (repeat' split) <;> omega
theorem aLs {a b c:Int × Int} (h:ltP a b) (h':ltP b c):ltP a c:=by unfold ltP at *;omega
theorem rF {a:Int × Int}:¬ ltP a a:=by unfold ltP;omega
theorem bCb {a b:Int × Int} (h:a≠b) (h':¬ ltP b a):ltP a b:=by
 unfold ltP at *
 have:a.1≠b.1∨a.2≠b.2:=by
  by_cases h1:a.1=b.1
  ·exact .inr fun h2=>h (Prod.ext h1 h2)
  ·exact .inl h1
 omega
abbrev Asc (l:List (Int × Int)):Prop:=l.Pairwise ltP
theorem aGj:∀ {l m:List (Int × Int)},Asc l→Asc m→(∀ z,z∈l↔z∈m)→l=m
 | [],[],_,_,_=>rfl
 | [],b::m,_,_,h=>absurd ((h b).2 (by simp)) (by simp)
 | a::l,[],_,_,h=>absurd ((h a).1 (by simp)) (by simp)
 | a::l,b::m,h1,h2,h=>by
  have e1:=List.pairwise_cons.1 h1
  have e2:=List.pairwise_cons.1 h2
  have hab:a=b:=by
   rcases List.mem_cons.1 ((h a).1 (by simp)) with e | e
   ·exact e
   ·rcases List.mem_cons.1 ((h b).2 (by simp)) with e' | e'
    ·exact e'.symm
    ·exact absurd (aLs (e2.1 a e) (e1.1 b e')) rF
  subst hab
  refine congrArg (a::·) (aGj e1.2 e2.2 fun z=>⟨fun hz => ?_,fun hz => ?_⟩)
  ·rcases List.mem_cons.1 ((h z).1 (List.mem_cons_of_mem _ hz)) with e | e
   ·subst e;exact absurd (e1.1 z hz) rF
   ·exact e
  ·rcases List.mem_cons.1 ((h z).2 (List.mem_cons_of_mem _ hz)) with e | e
   ·subst e;exact absurd (e2.1 z hz) rF
   ·exact e
theorem bAn {l:List (Int × Int)} (h:Asc l):l.Nodup:=h.imp fun hab e=>by subst e;exact rF hab
theorem aIf:∀ {l m:List (Int × Int)},l.Nodup→(∀ z∈l,z∈m)→l.length≤m.length
 | [],m,_,_=>by simp
 | a::l,m,h,hs=>by
  have e:=List.nodup_cons.1 h
  have ha:=hs a (by simp)
  have:=aIf (l:=l) (m:=m.erase a) e.2 fun z hz=>(List.mem_erase_of_ne (fun e'=>by subst e';exact e.1 hz)).2 (hs z (List.mem_cons_of_mem _ hz))
  rw [List.length_erase_of_mem ha] at this
  have hpos:0 < m.length:=List.length_pos_of_mem ha
  simp only [List.length_cons]
  omega
def aIl (ks:List Int):List (Int × Int):=ks.flatMap (fun a=>ks.map (fun b=>(a,b)))
theorem bCf {ks:List Int} {z:Int × Int}:z∈aIl ks↔z.1∈ks∧z.2∈ks:=by
 simp only [aIl,List.mem_flatMap,List.mem_map]
 constructor
 ·rintro ⟨a,ha,b,hb,rfl⟩;exact ⟨ha,hb⟩
 ·rintro ⟨h1,h2⟩;exact ⟨z.1,h1,z.2,h2,rfl⟩
theorem bCn (ks:List Int):(aIl ks).length=ks.length*ks.length:=by
 unfold aIl
 have:∀ l:List Int,(l.flatMap (fun a=>ks.map (fun b=>(a,b)))).length=l.length*ks.length:=by
  intro l
  induction l with
  | nil=>simp
  | cons a l ih=>simp only [List.flatMap_cons,List.length_append,ih,List.length_map,List.length_cons,Nat.add_mul,Nat.one_mul];omega
 exact this ks
theorem bNn {ks:List Int} {a b:Int} (ha:a∈ks) (hb:b∈ks):prI a b∈aIl ks:=by
 rw [bCf]
 unfold prI
 simp only [Int.min_def,Int.max_def]
 constructor <;> split <;> assumption
end Go.Bil
namespace Go.Bil
theorem bXw (w:World) (o p q:Obj):∃ n os,({ ({ ({ ({ w with heap:=w.heap.push o }:World) with heap:=(w.heap.push o).push p }:World) with drawn:=w.drawn+1 }:World) with heap:=((w.heap.push o).push p).push q }:World)=Go.Sort.grow (w.drewN n) os:=⟨1,#[o,p,q],by
 have e:((w.heap.push o).push p).push q=w.heap++#[o,p,q]:=by apply Array.ext';simp
 simp [Go.Sort.grow,e,World.drewN]
 exact ⟨Z,Z,Z⟩⟩
theorem Mem.drewE {w0 w:World} {X:List Nat} {S:List eQ} (M:Mem w0 X S w):Mem w0 X S { w with drawn:=w.drawn+1 }:=M.drew ⟨rfl,rfl,rfl,Nat.le_refl _,fun _ _=>rfl⟩ rfl
theorem Mem.notNew {w0 w:World} {S:List eQ} {b:Nat} (k:Nat) (M:Mem w0 [] S w) (hb:b < w0.heap.size):b∉cD (S.take k):=by
 intro h
 obtain ⟨o,ho⟩:=iK.1 h
 rcases (M.own b o (List.mem_of_mem_take ho)).2 with h | h
 ·omega
 ·cases h
theorem aQp {α:Type} {L T:List (α × Nat)} (hT:(T.map (·.2)).Nodup) (hs:∀ p∈T,p∈L):T.length≤L.length:=by
 have:∀ {T L:List (α × Nat)},(T.map (·.2)).Nodup→(∀ p∈T,p∈L)→T.length≤L.length:=by
  intro T
  induction T with
  | nil=>intros;simp
  | cons a T ih =>
   intro L h hs
   simp only [List.map_cons,List.nodup_cons] at h
   obtain ⟨i,hi⟩:=List.getElem?_of_mem (hs a (by simp))
   have hlt:=(List.getElem?_eq_some_iff.1 hi).1
   have:=ih (L:=L.eraseIdx i) h.2 fun p hp=>by
    have hpL:=(zP hi).mem_iff.1 (hs p (List.mem_cons_of_mem _ hp))
    rcases List.mem_cons.1 hpL with e | e
    ·subst e;exact absurd (List.mem_map.2 ⟨p,hp,rfl⟩) h.1
    ·exact e
   rw [List.length_eraseIdx_of_lt hlt] at this
   simp only [List.length_cons]
   omega
 exact this hT hs
theorem bAv {α:Type} {T:List (α × Nat)} {p:α × Nat} (hT:(T.map (·.2)).Nodup) (hp:p.2∉T.map (·.2)):((T++[p]).map (·.2)).Nodup:=by
 simp only [List.map_append,List.map_cons,List.map_nil,List.nodup_append,List.nodup_cons,List.not_mem_nil,not_false_eq_true,List.nodup_nil,and_self,List.mem_singleton,true_and]
 exact ⟨hT,fun x hx y hy e=>hp (by rw [← hy,← e];exact hx)⟩
theorem bKj:Go.Sort.SWO (Go.Proofs.ltOf bBe):=by
 have e:∀ x y:Int × Int,Go.Proofs.ltOf bBe x y=decide (ltP x y):=fun x y=>decide_eq_decide.2 aQt
 refine ⟨fun x => ?_,fun x y z => ?_,fun x y z => ?_⟩
 ·rw [e];exact decide_eq_false rF
 ·rw [e,e,e];simp only [decide_eq_true_eq];exact aLs
 ·rw [e,e,e];simp only [decide_eq_false_iff_not];unfold ltP;omega
end Go.Bil
namespace Go.Bil
theorem bQw {l:List (Int × Int)} (h:l.Nodup) (h':l.Pairwise fun a b=>¬ ltP b a):Asc l:=List.Pairwise.imp₂ (fun a b hab hba=>bCb hab hba) h h'
end Go.Bil
namespace Go.Bil
theorem bAy {A A' C:List (Int × Int)} {xa xb:Int} {l:List Int} {q:Nat} (hZ:∀ z,z∈A'↔z=prI xa xb∨z∈A) (hI:∀ z,z∈A↔z∈C++aFh xa (l.take q)) (hxb:l[q]? = some xb) (hne:xa≠xb):∀ z,z∈A'↔z∈C++aFh xa (l.take (q+1)):=fun z=>by
 rw [hZ z,hI z,List.mem_append,List.mem_append,aMh hxb]
 constructor
 ·rintro (h | h | h)
  ·exact .inr (.inl ⟨hne,h⟩)
  ·exact .inl h
  ·exact .inr (.inr h)
 ·rintro (h | ⟨_,h⟩ | h)
  ·exact .inr (.inl h)
  ·exact .inl h
  ·exact .inr (.inr h)
theorem bAx {A C:List (Int × Int)} {xa xb:Int} {l:List Int} {q:Nat} (hI:∀ z,z∈A↔z∈C++aFh xa (l.take q)) (hxb:l[q]? = some xb) (hne:¬ xa≠xb):∀ z,z∈A↔z∈C++aFh xa (l.take (q+1)):=fun z=>by
 rw [hI z,List.mem_append,List.mem_append,aMh hxb]
 constructor
 ·rintro (h | h)
  ·exact .inl h
  ·exact .inr (.inr h)
 ·rintro (h | ⟨h,_⟩ | h)
  ·exact .inl h
  ·exact absurd h hne
  ·exact .inr h
theorem bAw {g:Nat→List Int} {ks:List Int} (hks:∀ j,j < 1024→∀ x∈g j,x∈ks) {z:Int × Int} (hz:z∈tF g 1024):z∈aIl ks:=by
 obtain ⟨j,hj,a,ha,b,hb,_,rfl⟩:=aDd.1 hz
 exact bNn (hks j hj a ha) (hks j hj b hb)
end Go.Bil
namespace Go.Bil
end Go.Bil

namespace Go.Bil
def z0B:Bx:=⟨0,0,0,0⟩
def yO (a:Bx):Value:=.agg (dY a).toArray
def bxM (xs:List Body):Int→Option Bx:=fun k=>(xs.reverse.find? (fun b=>decide (b.key=k))).map iO
theorem bLl (k:Int):bxM [] k=none:=rfl
theorem bEu {xs:List Body} {k:Nat} {b:Body} (h:xs[k]? = some b) (q:Int):bxM (xs.take (k+1)) q=if q=b.key then some (iO b) else bxM (xs.take k) q:=by
 unfold bxM
 rw [cC h,List.reverse_append]
 simp only [List.reverse_cons,List.reverse_nil,List.nil_append,List.singleton_append,List.find?_cons]
 by_cases e:q=b.key
 ·rw [if_pos e,decide_eq_true e.symm];rfl
 ·rw [if_neg e,decide_eq_false (fun h=>e h.symm)]
theorem uC {xs:List Body} (hs:dD xs) {b:Body} (hb:b∈xs):bxM xs b.key=some (iO b):=by
 unfold bxM
 cases hf:xs.reverse.find? (fun c=>decide (c.key=b.key)) with
 | none =>
  have:=List.find?_eq_none.1 hf b (by simpa using hb)
  simp at this
 | some c =>
  have hc:=List.find?_some hf
  have hm:c∈xs:=by simpa using List.mem_of_find?_eq_some hf
  simp only [decide_eq_true_eq] at hc
  obtain ⟨i,hi⟩:=List.getElem?_of_mem hm
  obtain ⟨j,hj⟩:=List.getElem?_of_mem hb
  have:i=j:=by
   rcases Nat.lt_trichotomy i j with h | h | h
   ·have:=fX hs h hi hj;omega
   ·exact h
   ·have:=fX hs h hj hi;omega
  subst this
  rw [hi] at hj
  injection hj with hj
  subst hj
  rfl
def apB (f:Int→Option Bx) (z:Int × Int):Bool:=decide (¬ ovl ((f z.1).getD z0B) ((f z.2).getD z0B))
def gOf (xs:List Body):Nat→List Int:=fun n=>(xs.filter (fun b=>decide (n∈(kS (iO b)).map fW))).map (·.key)
theorem bHk {xs:List Body} {k:Nat} {b:Body} (h:xs[k]? = some b):gOf (xs.take (k+1))=yG (gOf (xs.take k)) b.key ((kS (iO b)).map fW):=by
 funext n
 unfold gOf yG
 rw [cC h,List.filter_append,List.map_append]
 by_cases e:n∈(kS (iO b)).map fW
 ·rw [if_pos e];simp only [List.filter_cons,decide_eq_true e,if_true,List.filter_nil,List.map_cons,List.map_nil]
 ·rw [if_neg e];simp only [List.filter_cons,decide_eq_false e,Bool.false_eq_true,if_false,List.filter_nil,List.map_nil,List.append_nil]
theorem uM {xs:List Body} {n:Nat} {x:Int}:x∈gOf xs n↔∃ b∈xs,n∈(kS (iO b)).map fW∧b.key=x:=by
 simp only [gOf,List.mem_map,List.mem_filter,decide_eq_true_eq]
 constructor
 ·rintro ⟨b,⟨h1,h2⟩,h3⟩;exact ⟨b,h1,by simpa using h2,h3⟩
 ·rintro ⟨b,h1,h2,h3⟩;exact ⟨b,⟨h1,by simpa using h2⟩,h3⟩
theorem bMl (xs:List Body) (n:Nat):(gOf xs n).length≤xs.length:=by
 unfold gOf
 rw [List.length_map]
 exact List.length_filter_le _ _
def yH (xs:List Body) (i k:Nat):List (Int × Int) :=
 (((xs.take k).drop (i+1)).filter (fun b=>decide (ovl (iO (xs.getD i default)) (iO b)))).map (fun b=>((xs.getD i default).key,b.key))
def vV (xs:List Body) (i:Nat):List (Int × Int):=(List.range i).flatMap (fun j=>yH xs j xs.length)
def qH (xs:List Body):List (Int × Int):=vV xs xs.length
theorem vS {α:Type} {xs:List α} {k i:Nat} {b:α} (h:xs[k]? = some b) (hi:i+1≤k):(xs.take (k+1)).drop (i+1)=(xs.take k).drop (i+1)++[b]:=by
 have hk:=(List.getElem?_eq_some_iff.1 h).1
 rw [cC h,List.drop_append_of_le_length (by simp;omega)]
theorem bJo {xs:List Body} {i k:Nat} {a b:Body} (ha:xs[i]? = some a) (h:xs[k]? = some b) (hi:i+1≤k) (ho:ovl (iO a) (iO b)):yH xs i (k+1)=yH xs i k++[(a.key,b.key)]:=by
 unfold yH
 have e:xs.getD i default=a:=by rw [List.getD_eq_getElem?_getD,ha];rfl
 rw [vS h hi,e,List.filter_append,List.map_append]
 congr 1
 simp only [List.filter_cons,decide_eq_true ho,if_true,List.filter_nil,List.map_cons,List.map_nil]
theorem bNv {xs:List Body} {i k:Nat} {a b:Body} (ha:xs[i]? = some a) (h:xs[k]? = some b) (hi:i+1≤k) (ho:¬ ovl (iO a) (iO b)):yH xs i (k+1)=yH xs i k:=by
 unfold yH
 have e:xs.getD i default=a:=by rw [List.getD_eq_getElem?_getD,ha];rfl
 rw [vS h hi,e,List.filter_append,List.map_append]
 simp only [List.filter_cons,decide_eq_false ho,Bool.false_eq_true,if_false,List.filter_nil,List.map_nil,List.append_nil]
theorem aWr (xs:List Body) (i:Nat):yH xs i (i+1)=[]:=by
 unfold yH
 rw [List.drop_eq_nil_of_le (by simp;omega)]
 rfl
theorem zG (xs:List Body) (i:Nat):vV xs (i+1)=vV xs i++yH xs i xs.length:=by
 unfold vV
 rw [List.range_succ,List.flatMap_append]
 simp
theorem aTa (xs:List Body) (i k:Nat):(yH xs i k).length≤xs.length:=by
 unfold yH
 rw [List.length_map]
 refine Nat.le_trans (List.length_filter_le _ _) ?_
 simp
 omega
theorem aCq (xs:List Body):∀ i,(vV xs i).length≤i*xs.length
 | 0=>by simp [vV]
 | i+1=>by
  rw [zG,List.length_append,Nat.add_mul,Nat.one_mul]
  have:=aCq xs i
  have:=aTa xs i xs.length
  omega
theorem aBf {xs:List Body} {i:Nat} {a:Body} (ha:xs[i]? = some a) {z:Int × Int}:z∈yH xs i xs.length↔∃ (k:Nat) (b:Body),i < k∧xs[k]? = some b∧ovl (iO a) (iO b)∧z=(a.key,b.key):=by
 unfold yH
 have e:xs.getD i default=a:=by rw [List.getD_eq_getElem?_getD,ha];rfl
 rw [e,List.take_of_length_le (Nat.le_refl _)]
 simp only [List.mem_map,List.mem_filter,decide_eq_true_eq]
 constructor
 ·rintro ⟨b,⟨h1,h2⟩,rfl⟩
  obtain ⟨q,hq⟩:=List.getElem?_of_mem h1
  rw [List.getElem?_drop] at hq
  exact ⟨i+1+q,b,by omega,hq,h2,Z⟩
 ·rintro ⟨k,b,h1,h2,h3,rfl⟩
  refine ⟨b,⟨List.mem_of_getElem? (i:=k - (i+1)) ?_,h3⟩,Z⟩
  rw [List.getElem?_drop,show i+1+(k - (i+1))=k by omega]
  exact h2
theorem aLy {xs:List Body} {z:Int × Int}:z∈qH xs↔∃ (i k:Nat) (a b:Body),i < k∧xs[i]? = some a∧xs[k]? = some b∧ovl (iO a) (iO b)∧z=(a.key,b.key):=by
 simp only [qH,vV,List.mem_flatMap,List.mem_range]
 constructor
 ·rintro ⟨i,hi,hz⟩
  obtain ⟨a,ha⟩:=cG (xs:=xs) (k:=i) rfl hi
  obtain ⟨k,b,h1,h2,h3,h4⟩:=(aBf ha).1 hz
  exact ⟨i,k,a,b,h1,ha,h2,h3,h4⟩
 ·rintro ⟨i,k,a,b,h1,h2,h3,h4,h5⟩
  exact ⟨i,(List.getElem?_eq_some_iff.1 h2).1,(aBf h2).2 ⟨k,b,h1,h3,h4,h5⟩⟩
theorem aLp {xs:List Body} (hs:dD xs):∀ i,i≤xs.length→Asc (vV xs i)
 | 0,_=>by simp [vV]
 | i+1,hi=>by
  obtain ⟨a,ha⟩:=cG (xs:=xs) (k:=i) rfl (by omega)
  rw [zG]
  refine List.pairwise_append.2 ⟨aLp hs i (by omega), ?_, ?_⟩
  ·unfold yH
   have e:xs.getD i default=a:=by rw [List.getD_eq_getElem?_getD,ha];rfl
   rw [e]
   have hsub:List.Sublist (((xs.take xs.length).drop (i+1)).filter (fun b=>decide (ovl (iO a) (iO b)))) xs:=List.filter_sublist.trans ((List.drop_sublist _ _).trans (List.take_sublist _ _))
   have:=List.Pairwise.sublist hsub hs
   exact List.pairwise_map.2 (this.imp fun h=>.inr ⟨Z,h⟩)
  ·intro x hx y hy
   obtain ⟨k,b,_,hb,_,rfl⟩:=(aBf ha).1 hy
   simp only [vV,List.mem_flatMap,List.mem_range] at hx
   obtain ⟨j,hj,hx⟩:=hx
   obtain ⟨c,hc⟩:=cG (xs:=xs) (k:=j) rfl (by omega)
   obtain ⟨_,_,_,_,_,rfl⟩:=(aBf hc).1 hx
   exact .inl (fX hs hj hc ha)
theorem bBo {xs:List Body} (hs:dD xs):Asc (qH xs):=aLp hs xs.length (Nat.le_refl _)
theorem aGp {xs:List Body} (hs:dD xs) {ps:List (Int × Int)} (hp:Asc ps) (hm:∀ z,z∈ps↔z∈tF (gOf xs) 1024):ps.filter (fun z => !apB (bxM xs) z)=qH xs:=by
 refine aGj (List.Pairwise.sublist List.filter_sublist hp) (bBo hs) fun z => ?_
 rw [List.mem_filter,hm z,aDd,aLy]
 unfold apB
 simp only [Bool.not_eq_true',decide_eq_false_iff_not,Decidable.not_not]
 constructor
 ·rintro ⟨⟨j,hj,ka,hka,kb,hkb,hne,rfl⟩,ho⟩
  obtain ⟨a,ha,_,rfl⟩:=uM.1 hka
  obtain ⟨b,hb,_,rfl⟩:=uM.1 hkb
  obtain ⟨p,hp⟩:=List.getElem?_of_mem ha
  obtain ⟨q,hq⟩:=List.getElem?_of_mem hb
  rcases Nat.lt_trichotomy p q with h | h | h
  ·have hlt:=fX hs h hp hq
   have e:prI a.key b.key=(a.key,b.key):=by unfold prI;apply Prod.ext <;> simp only <;> omega
   rw [e] at ho ⊢
   simp only [uC hs ha,uC hs hb,Option.getD_some] at ho
   exact ⟨p,q,a,b,h,hp,hq,ho,Z⟩
  ·subst h;rw [hp] at hq;injection hq with hq;subst hq;exact absurd rfl hne
  ·have hlt:=fX hs h hq hp
   have e:prI a.key b.key=(b.key,a.key):=by unfold prI;apply Prod.ext <;> simp only <;> omega
   rw [e] at ho ⊢
   simp only [uC hs ha,uC hs hb,Option.getD_some] at ho
   exact ⟨q,p,b,a,h,hq,hp,ho,Z⟩
 ·rintro ⟨i,k,a,b,hik,ha,hb,ho,rfl⟩
  have ham:=List.mem_of_getElem? ha
  have hbm:=List.mem_of_getElem? hb
  have hlt:=fX hs hik ha hb
  refine ⟨?_,by simp only [uC hs ham,uC hs hbm,Option.getD_some];exact ho⟩
  obtain ⟨c,hc1,hc2⟩:=bIx ho
  refine ⟨fW c,nF c,a.key,uM.2 ⟨a,ham,List.mem_map.2 ⟨c,hc1,Z⟩,Z⟩,b.key,uM.2 ⟨b,hbm,List.mem_map.2 ⟨c,hc2,Z⟩,Z⟩,by omega, ?_⟩
  unfold prI
  apply Prod.ext <;> simp only <;> omega
def bAm:List Body→List (Int × Int)
 | []=>[]
 | a::l=>l.map (fun b=>(a.key,b.key))++bAm l
theorem aPz:∀ xs:List Body,2*(bAm xs).length=xs.length*(xs.length - 1)
 | []=>rfl
 | a::l=>by
  have ih:=aPz l
  simp only [bAm,List.length_append,List.length_map,List.length_cons,Nat.add_sub_cancel,Nat.mul_add,ih]
  cases hl:l.length with
  | zero=>simp
  | succ n=>simp only [Nat.add_sub_cancel,Nat.add_mul,Nat.mul_add];omega
theorem aSg {xs:List Body} (hs:dD xs) {a b:Body} (ha:a∈xs) (hb:b∈xs) (hlt:a.key < b.key):(a.key,b.key)∈bAm xs:=by
 induction xs with
 | nil=>cases ha
 | cons c l ih =>
  have e:=List.pairwise_cons.1 hs
  unfold bAm
  rcases List.mem_cons.1 ha with h1 | h1
  ·subst h1
   rcases List.mem_cons.1 hb with h2 | h2
   ·subst h2;omega
   ·exact List.mem_append_left _ (List.mem_map.2 ⟨b,h2,Z⟩)
  ·rcases List.mem_cons.1 hb with h2 | h2
   ·subst h2;have:=e.1 a h1;omega
   ·exact List.mem_append_right _ (ih e.2 h1 h2)
theorem bAz {xs:List Body} (hs:dD xs) {ps:List (Int × Int)} (hp:Asc ps) (hm:∀ z,z∈ps↔z∈tF (gOf xs) 1024):2*ps.length≤xs.length*(xs.length - 1):=by
 rw [← aPz]
 have:=aIf (bAn hp) (m:=bAm xs) fun z hz=>by
  obtain ⟨j,hj,ka,hka,kb,hkb,hne,rfl⟩:=aDd.1 ((hm z).1 hz)
  obtain ⟨a,ha,_,rfl⟩:=uM.1 hka
  obtain ⟨b,hb,_,rfl⟩:=uM.1 hkb
  rcases Int.lt_or_le a.key b.key with h | h
  ·have e:prI a.key b.key=(a.key,b.key):=by unfold prI;apply Prod.ext <;> simp only <;> omega
   rw [e];exact aSg hs ha hb h
  ·have e:prI a.key b.key=(b.key,a.key):=by unfold prI;apply Prod.ext <;> simp only <;> omega
   rw [e];exact aSg hs hb ha (by omega)
 omega
end Go.Bil
namespace Go.Bil
theorem aHb {α:Type} {p:α→Bool}:∀ {l:List α} {k:Nat} {x:α},l[k]? = some x→p x=true→(∀ (j:Nat) (y:α),j < k→l[j]? = some y→p y=false)→l.findIdx p=k
 | a::l,0,x,h,hp,_=>by simp only [List.getElem?_cons_zero,Option.some.injEq] at h;subst h;simp [List.findIdx_cons,hp]
 | a::l,k+1,x,h,hp,hn=>by
  have h0:=hn 0 a (by omega) rfl
  have ih:=aHb (l:=l) (k:=k) (by simpa using h) hp (fun j y hj hy=>hn (j+1) y (by omega) (by simpa using hy))
  simp [List.findIdx_cons,h0,ih]
theorem aHc {α:Type} {p:α→Bool}:∀ {l:List α},(∀ (j:Nat) (y:α),l[j]? = some y→p y=false)→l.findIdx p=l.length
 | [],_=>rfl
 | a::l,h=>by
  have h0:=h 0 a rfl
  have ih:=aHc (l:=l) (fun j y hy=>h (j+1) y (by simpa using hy))
  simp [List.findIdx_cons,h0,ih]
theorem vU {α:Type} {p:α→Bool} {l:List α} {j:Nat} {y:α} (hj:j < l.findIdx p) (hy:l[j]? = some y):p y=false:=by
 have hjl:=(List.getElem?_eq_some_iff.1 hy).1
 have:=List.not_of_lt_findIdx hj
 have e:=(List.getElem?_eq_some_iff.1 hy).2
 rw [e] at this
 simpa using this
theorem aRf {α:Type} {p:α→Bool} {l:List α} (h:¬ l.findIdx p < l.length):l.filter (fun z => !p z)=l:=by
 refine List.filter_eq_self.2 fun x hx => ?_
 obtain ⟨i,hi⟩:=List.getElem?_of_mem hx
 have:=vU (p:=p) (l:=l) (j:=i) (by have:=(List.getElem?_eq_some_iff.1 hi).1;omega) hi
 simp [this]
theorem aNy {α:Type} {p:α→Bool} {l:List α} (h:l.findIdx p < l.length):l.take (l.findIdx p)=(l.take (l.findIdx p+1)).filter (fun z => !p z):=by
 obtain ⟨x,hx⟩:=cG (xs:=l) (k:=l.findIdx p) rfl h
 have hp:p x=true:=by
  have:=List.findIdx_getElem (w:=h)
  rwa [(List.getElem?_eq_some_iff.1 hx).2] at this
 rw [cC hx,List.filter_append]
 have h1:(l.take (l.findIdx p)).filter (fun z => !p z)=l.take (l.findIdx p):=by
  refine List.filter_eq_self.2 fun y hy => ?_
  obtain ⟨i,hi⟩:=List.getElem?_of_mem hy
  have hil:=(List.getElem?_eq_some_iff.1 hi).1
  rw [List.length_take] at hil
  rw [List.getElem?_take_of_lt (by omega)] at hi
  have:=vU (p:=p) (by omega) hi
  simp [this]
 rw [h1]
 simp [hp]
theorem aEb {α:Type} {p:α→Bool} {l:List α} {j:Nat} {x:α} (h:l[j]? = some x):(l.take (j+1)).filter (fun z => !p z)=(l.take j).filter (fun z => !p z)++if p x then [] else [x]:=by
 rw [cC h,List.filter_append]
 cases hp:p x <;> simp [hp]
theorem bKc {α:Type} {l:List α} {k:Nat} {x:α} (hk:k < l.length):(l.set k x).take (k+1)=l.take k++[x]:=by
 rw [cC (List.getElem?_set_self hk),List.take_set_of_le (Nat.le_refl k)]
theorem bKa {α:Type} {l:List α} {k j:Nat} {x:α} (hk:k < j):(l.set k x).drop j=l.drop j:=List.drop_set_of_lt hk
theorem bGu {α:Type} {l m:List α} {j:Nat} (h:l.drop j=m.drop j):l[j]? = m[j]? := by
 have:=congrArg (fun q=>q[0]?) h
 simpa [List.getElem?_drop] using this
theorem aLl {α:Type} {l m:List α} {j:Nat} (h:l.drop j=m.drop j):l.drop (j+1)=m.drop (j+1):=by
 have:=congrArg (List.drop 1) h
 simpa [List.drop_drop,Nat.add_comm] using this
theorem bA.apartTail {w0 w:World} {X:List Nat} {T sz:Nat} {A:Option Addr} {n c:Nat} {ls:List (List Value)} {er:eQ} {S:List eQ} (M:Mem w0 X (er::S) w) (hR:bA T sz A n c ls er):0 < n→∀ q off,A=some ⟨q,off,none⟩→q∉cD S:=by
 intro hn q off hA
 obtain ⟨b,L,_,h1,h2,_⟩:=hR.block hn
 rw [h1] at hA
 injection hA with hA
 injection hA with hA
 subst hA
 subst h2
 have:=M.apart
 simp only [cD,List.filterMap_cons] at this
 exact (List.nodup_cons.1 this).1
theorem Mem.awayTail {w0 w:World} {T:List eQ} {L:List eQ} {sz nn:Nat} {A:Option Addr} {ls:List (List Value)} (M:Mem w0 [] (L++T) w) (R:Rd w0 sz A nn ls):0 < nn→∀ q off,A=some ⟨q,off,none⟩→q∉cD T:=by
 intro hn q off hA h
 obtain ⟨o,ho⟩:=iK.1 h
 obtain ⟨b,off',hb,hlt,_⟩:=R.at_ hn
 rw [hb] at hA
 injection hA with hA
 injection hA with hA
 subst hA
 rcases (M.own b o (List.mem_append_right _ ho)).2 with h | h
 ·omega
 ·cases h
theorem Mem.dummies {w0 w:World} {X:List Nat} {S:List eQ} (k:Nat) (M:Mem w0 X S w) (o:Obj):Mem w0 X (S++List.replicate k (none,o)) w :=
 ⟨M.os,M.tape,M.output,M.size,M.old,fun b o' hb=>by
  rcases List.mem_append.1 hb with h | h
  ·exact M.own b o' h
  ·exact absurd (List.eq_of_mem_replicate h) (by simp),by
  have e:∀ k,cD (List.replicate k ((none,o):eQ))=[]:=fun k=>by induction k with
   | zero=>rfl
   | succ k ih=>simp [cD,List.replicate_succ] at ih ⊢
  rw [kW,e];simpa using M.apart⟩
def eN:Row:=⟨none,0,0,(none,default)⟩
theorem bHm (T:Nat):GridRows T (List.replicate 1024 eN) (gOf []):=⟨List.length_replicate,fun j r hr=>by
 have:r=eN:=List.eq_of_mem_replicate (List.mem_of_getElem? hr)
 subst this
 exact bA.nil _ _ _⟩
theorem Mem.gridNew {w0 w:World} {X:List Nat} {L:List eQ} {b T:Nat} (M:Mem w0 X (L++[(some b,bc (fP (List.replicate 1024 eN) 0) T)]) w):Mem w0 X (L++((some b,bc (fP (List.replicate 1024 eN) 0) T)::(List.replicate 1024 eN).map Row.e)) w:=by
 have:=M.dummies 1024 default
 rw [List.append_assoc] at this
 rw [List.map_replicate]
 exact this
theorem Mem.gridRd {w0 w:World} {X:List Nat} {L:List eQ} {rs:List Row} {cnt:Int} {b T:Nat} (M:Mem w0 X (L++((some b,bc (fP rs cnt) T)::rs.map Row.e)) w) (h:rs.length=1024):Rd w 1025 (some ⟨b,0,none⟩) 1 [fP rs cnt]:=by
 have hb:=(M.own b _ (List.mem_append_right _ List.mem_cons_self)).1
 refine ⟨rfl,by simp [aVl h],by omega,fun _=>⟨b,0,rfl,(Array.getElem?_eq_some_iff.1 hb).1,fun i l hl => ?_⟩⟩
 obtain ⟨rfl,rfl⟩:i=0∧l=fP rs cnt:=by
  cases i with
  | zero=>simpa using hl.symm
  | succ i=>simp at hl
 simpa using dN.of_heap hb (by simp)
theorem Mem.rowRd {w0 w:World} {X:List Nat} {L:List eQ} {rs:List Row} {e:eQ} {T:Nat} {g:Nat→List Int} (M:Mem w0 X (L++(e::rs.map Row.e)) w) (h:GridRows T rs g) (j:Nat) (r:Row) (hr:rs[j]? = some r):Rd w 1 r.A r.n ((g j).map jF)∧r.n≤r.c :=
 ⟨(h.row j r hr).rd M (List.mem_append_right _ (List.mem_cons_of_mem _ (List.mem_map.2 ⟨r,List.mem_of_getElem? hr,rfl⟩))),(h.row j r hr).slice⟩
end Go.Bil
namespace Go.Bil
structure View (v:List Body):Prop where
 s:dD v
 ok:∀ b∈v,check b=0
 len:v.length≤40
theorem View.okb {v:List Body} (h:View v):∀ b∈v,Okb b:=fun b hb=>aQs (h.ok b hb)
end Go.Bil
namespace Go.Bil
theorem Mem.order4 {w0 w:World} {X:List Nat} {a b c d:eQ} {T:List eQ} (M:Mem w0 X ([a,b,c,d]++T) w):Mem w0 X [d,c,a,b] w:=by
 have M1:Mem w0 X ([a,b]++[c,d]) w:=M.sub (List.sublist_append_left [a,b,c,d] T)
 exact M1.perm (List.perm_append_comm.trans (List.Perm.swap d c [a,b]))
end Go.Bil
namespace Go.Bil
end Go.Bil

namespace Go.Bil
theorem nE {xs:List Body} (hs:dD xs) {a b:Body} (ha:a∈xs) (hb:b∈xs) (h:a.key=b.key):a=b:=by
 obtain ⟨i,hi⟩:=List.getElem?_of_mem ha
 obtain ⟨j,hj⟩:=List.getElem?_of_mem hb
 have:i=j:=by
  rcases Nat.lt_trichotomy i j with h' | h' | h'
  ·have:=fX hs h' hi hj;omega
  ·exact h'
  ·have:=fX hs h' hj hi;omega
 subst this
 rw [hi] at hj
 injection hj
theorem bCe {xs:List Body} (hs:dD xs) {z:Int × Int}:z∈qH xs↔∃ a∈xs,∃ b∈xs,a.key < b.key∧ovl (iO a) (iO b)∧z=(a.key,b.key):=by
 rw [aLy]
 constructor
 ·rintro ⟨i,k,a,b,h1,h2,h3,h4,h5⟩
  exact ⟨a,List.mem_of_getElem? h2,b,List.mem_of_getElem? h3,fX hs h1 h2 h3,h4,h5⟩
 ·rintro ⟨a,ha,b,hb,h1,h2,h3⟩
  obtain ⟨i,hi⟩:=List.getElem?_of_mem ha
  obtain ⟨k,hk⟩:=List.getElem?_of_mem hb
  rcases Nat.lt_or_ge i k with h | h
  ·exact ⟨i,k,a,b,h,hi,hk,h2,h3⟩
  ·have:=aEy hs h hk hi;omega
theorem pU {f n a:Nat} {z:Int} (hz:z=(n:Int)) (h:a=f % n):(f:Int).tmod z=(a:Int):=by
 subst hz
 subst h
 exact (Int.ofNat_tmod f n).symm
end Go.Bil
namespace Go.Bil
def cR (v:Int × Int):List Value:=[.int .i32 v.1,.int .i32 v.2]
end Go.Bil
