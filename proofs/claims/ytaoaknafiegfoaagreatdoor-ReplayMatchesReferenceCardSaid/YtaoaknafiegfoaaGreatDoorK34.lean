/- Part of the proof of a law of this seat (14 texts). No conditions. -/
import Derived.Test.YtaoaknafiegfoaaGreatDoorK18
import Derived.Test.YtaoaknafiegfoaaGreatDoorK33
set_option linter.unusedVariables false
set_option linter.unusedSimpArgs false
set_option linter.unnecessarySimpa false
set_option maxHeartbeats 100000000
namespace Go.Bil
def pushB (b:Body) (j:Int × Int):Body:={ b with vx:=kF (b.vx+j.1*b.mass / 65536) 16777216,vy:=kF (b.vy+j.2*b.mass / 65536) 16777216 }
theorem aZk {b:Body} (h:Okb b) (j:Int × Int):Okb (pushB b j):=⟨h.r,h.a,h.m,h.c,h.p,⟨(fJ _ (by decide)).1,(fJ _ (by decide)).2,(fJ _ (by decide)).1,(fJ _ (by decide)).2⟩⟩
theorem aIg {b:Body} (h:Okb b):check b=0:=by
 have h1:=h.r
 have h2:=h.a
 have h3:=h.m
 have h4:=h.c
 have h5:=h.p
 have h6:=h.v
 unfold check zJ
 rw [if_neg (by omega),if_neg (by omega),if_neg (by omega),if_neg (by omega),if_neg (by omega),if_neg (by omega)]
def tQ (v:List Body) (k:Int) (j:Int × Int):List Body × Int:=if dV k v < 0 then (v,11) else (zQ v (pushB (v.getD (dV k v).toNat default) j) false,0)
structure OpI where
 kind:Int
 body:Body
 key:Int
 push:Int × Int
 bytes:List Int
structure ResI where
 err:Int
 body:Body
 bytes:List Int
 cont:Int
 cl:Bool
def oP:ResI:=⟨0,aXn,[],0,false⟩
def rQ (v:List Body) (k:Int):ResI:=if dV k v < 0 then { oP with err:=11 } else { oP with body:=v.getD (dV k v).toNat default }
def qJ (v:List Body) (l:List Int):List Body:=if (oM l).2=0 then (oM l).1 else v
def doR (v:List Body) (o:OpI):List Body × ResI :=
 if o.kind=0 then ((pY v o.body).1,{ oP with err:=(pY v o.body).2 })
 else if o.kind=1 then ((iX v o.key).1,{ oP with err:=(iX v o.key).2 })
 else if o.kind=2 then ((tQ v o.key o.push).1,{ oP with err:=(tQ v o.key o.push).2 })
 else if o.kind=3 then (sO v,{ oP with cont:=((mM v).length:Int),cl:=aBy v })
 else if o.kind=4 then (v,{ oP with bytes:=lE v })
 else if o.kind=5 then (qJ v o.bytes,{ oP with err:=(oM o.bytes).2 })
 else if o.kind=6 then (v,rQ v o.key)
 else (v,oP)
structure GoodV (v:List Body):Prop where
 s:dD v
 len:v.length≤4096
 ok:∀ b∈v,check b=0
 inb:∀ b∈v,InB b
theorem GoodV.okb {v:List Body} (h:GoodV v):∀ b∈v,Okb b:=fun b hb=>aQs (h.ok b hb)
theorem GoodV.chk {v:List Body} (h:GoodV v):jT v=0:=bBb (bGv h.len h.ok) h.s
theorem GoodV.nil:GoodV []:=⟨by simp [dD],by simp,by simp,by simp⟩
def dG (T:Nat) (r:StV) (v:List Body):Prop:=GoodV v∧∃ m,StoreIs T r.A r.n r.c r.p r.er r.em m∧Rel m v
theorem aFs {T:Nat} {r:StV} {m v:List Body} (h:StoreIs T r.A r.n r.c r.p r.er r.em m) (R:Rel m v) (hi:∀ b∈m,InB b):dG T r v :=
 ⟨⟨R.sorted,by rw [R.perm.length_eq];exact h.cap,fun b hb=>h.ok b (R.perm.mem_iff.1 hb),fun b hb=>hi b (R.perm.mem_iff.1 hb)⟩,m,h,R⟩
theorem dG.new (T:Nat) (o o':Obj):dG T ⟨none,0,0,none,(none,o),(none,o')⟩ []:=aFs (StoreIs.nil T o o') Rel.nil (by simp)
theorem aXt {m:List Body} {x:Body} (h:∀ b∈m,InB b) (hx:InB x):∀ b∈(pX m x).1,InB b:=by
 intro b hb
 unfold pX at hb
 split at hb
 ·exact h b hb
 ·split at hb
  ·exact h b hb
  ·split at hb
   ·exact h b hb
   ·rcases List.mem_append.1 hb with h1 | h1
    ·exact h b h1
    ·rw [List.mem_singleton] at h1;subst h1;exact hx
theorem aIp {m:List Body} (hk:lO m) {k:Int} (h:∀ b∈m,InB b):∀ b∈(mW m k).1,InB b:=fun b hb=>h b (aBe.1 ((aEv hk k).mem_iff.1 hb)).1
theorem aZp {m:List Body} {x:Body} (h:∀ b∈m,InB b) (hx:InB x):∀ b∈(vF m x).1,InB b:=by
 intro b hb
 unfold vF at hb
 split at hb
 ·exact h b hb
 ·split at hb
  ·exact h b hb
  ·rcases List.mem_or_eq_of_mem_set hb with h1 | h1
   ·exact h b h1
   ·subst h1;exact hx
theorem GoodV.inm {v m:List Body} (h:GoodV v) (R:Rel m v):∀ b∈m,InB b:=fun b hb=>h.inb b (R.perm.mem_iff.2 hb)
theorem aZj {b:Body} (h:InB b) (j:Int × Int):InB (pushB b j):=by
 obtain ⟨h0,h1,h2,h3,h4,h5,h6,h7,h8,h9⟩:=h
 have a:=fJ (b.vx+j.1*b.mass / 65536) (l:=16777216) (by decide)
 have c:=fJ (b.vy+j.2*b.mass / 65536) (l:=16777216) (by decide)
 exact ⟨h0,h1,h2,h3,h4,h5,h6,h7,⟨by show -2147483648≤kF _ _;omega,by show kF _ _≤2147483647;omega⟩,⟨by show -2147483648≤kF _ _;omega,by show kF _ _≤2147483647;omega⟩⟩
theorem bNb {xs ys:List Body} (l:Like xs ys) (hx:∀ b∈xs,InB b) (hy:∀ b∈ys,Okb b):∀ b∈ys,InB b:=by
 intro b hb
 obtain ⟨i,hi⟩:=List.getElem?_of_mem hb
 have hlt:i < xs.length:=by rw [← l.len];exact (List.getElem?_eq_some_iff.1 hi).1
 have hxi:=List.getElem?_eq_getElem hlt
 have hs:=l.at_ i _ b hxi hi
 obtain ⟨h0,_⟩:=hx _ (List.getElem_mem hlt)
 have o:=hy b hb
 have o1:=o.r
 have o2:=o.a
 have o3:=o.m
 have o4:=o.c
 have o5:=o.p
 have o6:=o.v
 have:=hs.key
 exact ⟨by omega,by omega,by omega,by omega,by omega,by omega,by omega,by omega,by omega,by omega⟩
theorem GoodV.step {v:List Body} (h:GoodV v):GoodV (sO v) :=
 ⟨(aDm v).sorted h.s,by rw [(aDm v).len];exact h.len,fun b hb=>aIg (aZu h.okb b hb),bNb (aDm v) h.inb (aZu h.okb)⟩
theorem GoodV.dec {l:List Int} (hl:gU l) (hn:l.length≤1000000) (h:(oM l).2=0):GoodV (oM l).1:=by
 have d:=bLw hl h
 have hc:=d.c
 have h1:qG (oM l).1=0:=by
  unfold jT at hc
  split at hc
  ·rename_i hne;exact absurd hc hne
  ·rename_i hne;exact Decidable.not_not.1 hne
 obtain ⟨h2,h3⟩:=bGw h1
 refine ⟨?_,h2,h3,d.inb⟩
 unfold jT at hc
 rw [if_neg (by omega)] at hc
 by_cases ha:aJu (oM l).1=true
 ·exact vI ha
 ·rw [if_neg ha] at hc;omega
theorem aPy {v:List Body} (h:GoodV v):∀ k,k≤v.length→aKz (v.take k)=v.take k:=by
 intro k hk
 rw [aGf h.s.keys h.len k hk]
 exact List.filter_eq_self.2 fun b hb=>by simpa using h.ok b (List.mem_of_mem_take hb)
theorem aBq {v:List Body} (h:dD v):Rel v v:=⟨List.Perm.refl _,h⟩
theorem bCu {v:List Body} {l:List Int} (h:GoodV v) (hl:gU l) (hn:l.length≤1000000):GoodV (qJ v l):=by
 unfold qJ
 split
 ·rename_i hd;exact GoodV.dec hl hn hd
 ·exact h
theorem wU {v:List Body} {k:Int} {i:Nat} {b:Body} (hf:dV k v=(i:Int)) (hb:v[i]? = some b):v.getD (dV k v).toNat default=b:=by
 rw [hf,Int.toNat_natCast,List.getD_eq_getElem?_getD,hb]
 rfl
theorem bDd {v:List Body} (h:GoodV v):oM (lE v)=(v,0):=bGm h.inb h.len h.chk
theorem aZa {m v:List Body} (R:Rel m v) (h:GoodV v) {k:Int} {i:Nat} {b:Body} (j:Int × Int) (hf:dV k v=(i:Int)) (hb:v[i]? = some b):Rel (vF m (pushB b j)).1 (tQ v k j).1∧(vF m (pushB b j)).2=0∧(tQ v k j).2=0∧(tQ v k j).1=zQ v (pushB b j) false:=by
 have hbm:b∈v:=List.mem_of_getElem? hb
 have hi:(tQ v k j)=(zQ v (pushB b j) false,0):=by unfold tQ;rw [if_neg (by omega),wU hf hb]
 have hk:b.key=k:=by
  rcases eX k v with ⟨h1,_⟩ | ⟨q,c,h1,h2,h3⟩
  ·omega
  ·have:q=i:=by omega
   subst this
   rw [h1] at hb;injection hb with hb;rw [← hb];exact h2
 have hp:check (pushB b j)=0:=aIg (aZk (h.okb b hbm) j)
 obtain ⟨h1,h2⟩:=R.set (pushB b j)
 have hs:bJz v (pushB b j)=(zQ v (pushB b j) false,0):=by
  unfold bJz
  rw [if_neg (by omega),if_neg (by show ¬ dV b.key v < 0;rw [hk];omega)]
 rw [hs] at h1 h2
 exact ⟨by rw [hi];exact h1,h2.symm,by rw [hi],by rw [hi]⟩
theorem wA {v:List Body} {k:Int} (j:Int × Int) (h:dV k v < 0):tQ v k j=(v,11):=by unfold tQ;rw [if_pos h]
end Go.Bil
namespace Go.Bil
theorem bNl {j m:Int} (hj : -2147483648≤j∧j≤2147483647) (hm:0≤m∧m≤1048576) : -2251799813685248≤j*m∧j*m≤2251799813685248:=by
 have h1:j*m≤2147483647*m:=Int.mul_le_mul_of_nonneg_right hj.2 hm.1
 have h2 : -2147483648*m≤j*m:=Int.mul_le_mul_of_nonneg_right hj.1 hm.1
 omega
theorem bMn {m v:List Body} (R:Rel m v) (k:Int):aHq m k=((rQ v k).body,(rQ v k).err):=by
 rcases R.get k with ⟨h1,h2⟩ | ⟨i,b,h1,h2,h3⟩
 ·rw [h2];unfold rQ;rw [if_pos h1];rfl
 ·rw [h3];unfold rQ;rw [if_neg (by omega),wU h1 h2];rfl
end Go.Bil
namespace Go.Bil
theorem bGp {v:List Body} {o:OpI} (h0:o.kind=0):doR v o=((pY v o.body).1,{ oP with err:=(pY v o.body).2 }):=by unfold doR;rw [if_pos h0]
theorem bGq {v:List Body} {o:OpI} (h:o.kind=1):doR v o=((iX v o.key).1,{ oP with err:=(iX v o.key).2 }):=by unfold doR;rw [if_neg (by omega),if_pos h]
theorem bGr {v:List Body} {o:OpI} (h:o.kind=2):doR v o=((tQ v o.key o.push).1,{ oP with err:=(tQ v o.key o.push).2 }):=by unfold doR;rw [if_neg (by omega),if_neg (by omega),if_pos h]
theorem bGs {v:List Body} {o:OpI} (h:o.kind=3):doR v o=(sO v,{ oP with cont:=((mM v).length:Int),cl:=aBy v }):=by unfold doR;rw [if_neg (by omega),if_neg (by omega),if_neg (by omega),if_pos h]
theorem bGt {v:List Body} {o:OpI} (h:o.kind=4):doR v o=(v,{ oP with bytes:=lE v }):=by unfold doR;rw [if_neg (by omega),if_neg (by omega),if_neg (by omega),if_neg (by omega),if_pos h]
theorem aRa {v:List Body} {o:OpI} (h:o.kind=5):doR v o=(qJ v o.bytes,{ oP with err:=(oM o.bytes).2 }):=by unfold doR;rw [if_neg (by omega),if_neg (by omega),if_neg (by omega),if_neg (by omega),if_neg (by omega),if_pos h]
theorem aVe {v:List Body} {o:OpI} (h:o.kind=6):doR v o=(v,rQ v o.key):=by unfold doR;rw [if_neg (by omega),if_neg (by omega),if_neg (by omega),if_neg (by omega),if_neg (by omega),if_neg (by omega),if_pos h]
theorem bMb {v:List Body} {o:OpI} (h0:¬ o.kind=0) (h1:¬ o.kind=1) (h2:¬ o.kind=2) (h3:¬ o.kind=3) (h4:¬ o.kind=4) (h5:¬ o.kind=5) (h6:¬ o.kind=6):doR v o=(v,oP):=by
 unfold doR;rw [if_neg h0,if_neg h1,if_neg h2,if_neg h3,if_neg h4,if_neg h5,if_neg h6]
theorem aCs {v:List Body} {k:Int} (h:dV k v < 0):rQ v k={ oP with err:=11 }:=by unfold rQ;rw [if_pos h]
theorem aCt {v:List Body} {k:Int} {i:Nat} {b:Body} (hf:dV k v=(i:Int)) (hb:v[i]? = some b):rQ v k={ oP with body:=b }:=by unfold rQ;rw [if_neg (by omega),wU hf hb]
def dW (o:OpI) (A:Option Addr) (n c:Nat):List Value:=[.int .i64 o.kind]++aF o.body++[.int .u32 o.key,.int .i32 o.push.1,.int .i32 o.push.2,.slice A n c]
def bJm (A:Option Addr) (n c:Nat) (B:Option Addr) (m d:Nat) (z:ResI):List Value:=[.slice A n c,.int .i64 z.err]++aF z.body++[.slice B m d,.int .i64 z.cont,.bool z.cl]
structure OpOk (w:World) (o:OpI) (A:Option Addr) (n c:Nat):Prop where
 rd:Rd w 1 A n (o.bytes.map aZ)
 cap:n≤c
 byt:gU o.bytes
 body:InB o.body
 p1 : -2147483648≤o.push.1∧o.push.1≤2147483647
 p2 : -2147483648≤o.push.2∧o.push.2≤2147483647
theorem OpOk.len {w:World} {o:OpI} {A:Option Addr} {n c:Nat} (h:OpOk w o A n c):o.bytes.length=n:=by simpa using h.rd.len
theorem OpOk.mem {w0 w:World} {S:List eQ} {o:OpI} {A:Option Addr} {n c:Nat} (h:OpOk w0 o A n c) (M:Mem w0 [] S w):OpOk w o A n c:=⟨h.rd.mem M,h.cap,h.byt,h.body,h.p1,h.p2⟩
theorem OpOk.memY {w0 w:World} {X:List Nat} {S:List eQ} {o:OpI} {A:Option Addr} {n c:Nat} (h:OpOk w0 o A n c) (M:Mem w0 X S w) (hX:0 < n→∀ q off,A=Option.some ⟨q,off,none⟩→q∉X):OpOk w o A n c:=⟨h.rd.memY M hX,h.cap,h.byt,h.body,h.p1,h.p2⟩
structure OpRow where
 o:OpI
 A:Option Addr
 n:Nat
 c:Nat
def OpRow.cells (x:OpRow):List Value:=dW x.o x.A x.n x.c
structure OpsRd (w:World) (A:Option Addr) (n:Nat) (l:List OpRow):Prop where
 rd:Rd w 15 A n (l.map OpRow.cells)
 each:∀ x∈l,OpOk w x.o x.A x.n x.c
theorem OpsRd.mem {w0 w:World} {S:List eQ} {A:Option Addr} {n:Nat} {l:List OpRow} (h:OpsRd w0 A n l) (M:Mem w0 [] S w):OpsRd w A n l:=⟨h.rd.mem M,fun x hx=>(h.each x hx).mem M⟩
end Go.Bil
namespace Go.Bil
end Go.Bil
namespace Go.Bil
theorem bCv {v:List Body} (h:GoodV v) (u:List Body):qJ u (lE v)=v:=by unfold qJ;rw [bDd h];rfl
end Go.Bil
namespace Go.Bil
end Go.Bil
namespace Go.Bil
end Go.Bil

namespace Go.Bil
def iM (v:List Body) (o:OpI):List Body × ResI:=if o.kind < 1∨6 < o.kind then (v,{ oP with err:=1 }) else doR v { o with kind:=o.kind - 1 }
def fH (v:List Body):List OpI→List Body
 | []=>v
 | o::l=>fH (iM v o).1 l
def kO (v:List Body):List OpI→List ResI
 | []=>[]
 | o::l=>(iM v o).2::kO (iM v o).1 l
theorem sL (v:List Body):∀ (a b:List OpI),fH v (a++b)=fH (fH v a) b
 | [],b=>rfl
 | o::a,b=>sL (iM v o).1 a b
theorem aTb (v:List Body):∀ (a b:List OpI),kO v (a++b)=kO v a++kO (fH v a) b:=by
 intro a
 induction a generalizing v with
 | nil=>intro b;rfl
 | cons o a ih=>intro b;show _::kO (iM v o).1 (a++b)=_;rw [ih];rfl
theorem nM {v:List Body} {l:List OpI} {i:Nat} {o:OpI} (h:l[i]? = some o):fH v (l.take (i+1))=(iM (fH v (l.take i)) o).1:=by rw [cC h,sL];rfl
theorem fC {v:List Body} {l:List OpI} {i:Nat} {o:OpI} (h:l[i]? = some o):kO v (l.take (i+1))=kO v (l.take i)++[(iM (fH v (l.take i)) o).2]:=by rw [cC h,aTb];rfl
theorem iU (v:List Body):∀ l:List OpI,(kO v l).length=l.length
 | []=>rfl
 | o::l=>by show (kO (iM v o).1 l).length+1=l.length+1;rw [iU (iM v o).1 l]
theorem kK {v:List Body} {o:OpI} (h:¬ (1≤o.kind∧o.kind≤6)):iM v o=(v,{ oP with err:=1 }):=by unfold iM;rw [if_pos (by omega)]
end Go.Bil

namespace Go.Bil
structure OkO (o:OpI):Prop where
 body:InB o.body
 byt:gU o.bytes
 len:o.bytes.length≤1000000
theorem aHr {m v:List Body} (R:Rel m v) (hl:m.length≤4096) (hc:∀ b∈m,check b=0) (hi:∀ b∈m,InB b):GoodV v :=
 ⟨R.sorted,by rw [R.perm.length_eq];exact hl,fun b hb=>hc b (R.perm.mem_iff.1 hb),fun b hb=>hi b (R.perm.mem_iff.1 hb)⟩
theorem bEj {v:List Body} {b:Body} (h:GoodV v) (hb:InB b):GoodV (pY v b).1:=by
 have R:=((aBq h.s).add b).1
 obtain ⟨_,h2,h3⟩:=aNc (x:=b) ⟨h.s.keys,h.len,h.ok⟩
 exact aHr R h2 h3 (aXt h.inb hb)
theorem aSx {v:List Body} {k:Int} (h:GoodV v):GoodV (iX v k).1:=by
 have R:=((aBq h.s).remove k).1
 have p:=aEv h.s.keys k
 refine aHr R ?_ (fun b hb=>h.ok b (aBe.1 (p.mem_iff.1 hb)).1) (aIp h.s.keys h.inb)
 rw [p.length_eq]
 exact Nat.le_trans (List.length_filter_le _ _) h.len
theorem bHq {v:List Body} {k:Int} {j:Int × Int} (h:GoodV v):GoodV (tQ v k j).1:=by
 by_cases hf:dV k v < 0
 ·rw [wA j hf];exact h
 ·obtain ⟨i,bb,hbi,_,hfi⟩:=(eX k v).resolve_left (fun g=>hf (by omega))
  obtain ⟨h1,h2,_,_⟩:=aZa (aBq h.s) h j hfi hbi
  have hbm:=List.mem_of_getElem? hbi
  have hin:=aZp h.inb (aZj (h.inb bb hbm) j)
  have hsm:∀ b∈(vF v (pushB bb j)).1,b∈v∨b=pushB bb j:=by
   intro b hb
   unfold vF at hb
   split at hb
   ·exact .inl hb
   ·split at hb
    ·exact .inl hb
    ·exact List.mem_or_eq_of_mem_set hb
  refine aHr h1 ?_ (fun b hb => ?_) hin
  ·unfold vF
   split
   ·exact h.len
   ·split
    ·exact h.len
    ·rw [List.length_set];exact h.len
  ·rcases hsm b hb with g | rfl
   ·exact h.ok b g
   ·exact aIg (aZk (h.okb bb hbm) j)
theorem bMa {v:List Body} {o:OpI} (h:GoodV v) (ho:OkO o):GoodV (doR v o).1:=by
 by_cases h0:o.kind=0
 ·rw [bGp h0];exact bEj h ho.body
 by_cases h1:o.kind=1
 ·rw [bGq h1];exact aSx h
 by_cases h2:o.kind=2
 ·rw [bGr h2];exact bHq h
 by_cases h3:o.kind=3
 ·rw [bGs h3];exact h.step
 by_cases h4:o.kind=4
 ·rw [bGt h4];exact h
 by_cases h5:o.kind=5
 ·rw [aRa h5];exact bCu h ho.byt ho.len
 by_cases h6:o.kind=6
 ·rw [aVe h6];exact h
 rw [bMb h0 h1 h2 h3 h4 h5 h6];exact h
theorem bOb {v:List Body} {o:OpI} (h:GoodV v) (ho:OkO o):GoodV (iM v o).1:=by
 unfold iM
 split
 ·exact h
 ·exact bMa h ⟨ho.body,ho.byt,ho.len⟩
theorem aBs:∀ {l:List OpI} {v:List Body},GoodV v→(∀ o∈l,OkO o)→GoodV (fH v l)
 | [],v,h,_=>h
 | o::l,v,h,hl=>by
  show GoodV (fH (iM v o).1 l)
  exact aBs (bOb h (hl o (by simp))) (fun q hq=>hl q (by simp [hq]))
def iJ (l:List OpI) (k i:Nat):List Int:=lE (fH [] (l.take ((i+1)*k)))
def fD (l:List OpI) (k n:Nat):List (List Int):=(List.range n).map (iJ l k)
theorem aHz (l:List OpI) (k n:Nat):fD l k (n+1)=fD l k n++[iJ l k n]:=by unfold fD;rw [List.range_succ,List.map_append];rfl
theorem iV (l:List OpI) (k n:Nat):(fD l k n).length=n:=by unfold fD;rw [List.length_map,List.length_range]
theorem mR (l:List OpI) (k:Nat) {n i:Nat} (h:i < n):(fD l k n)[i]? = some (iJ l k i):=by unfold fD;rw [List.getElem?_map,List.getElem?_range h];rfl
theorem bJs {l:List OpI} (hl:∀ o∈l,OkO o) {a n:Nat} (h:a≤n):fH (qJ [] (lE (fH [] (l.take a)))) ((l.take n).drop a)=fH [] (l.take n):=by
 have hg:GoodV (fH [] (l.take a)):=aBs GoodV.nil (fun o ho=>hl o (List.mem_of_mem_take ho))
 rw [bCv hg]
 have e:l.take n=l.take a++(l.take n).drop a:=by
  conv=>lhs;rw [← List.take_append_drop a (l.take n)]
  rw [List.take_take,Nat.min_eq_left h]
 conv=>rhs;rw [e,sL]
def jH (l:List OpI) (k:Nat) (ms:List (List Int)):Nat→Int
 | 0 => -1
 | n+1=>if jH l k ms n < 0 then (if ms[n]? = some (iJ l k n) then -1 else (n:Int)) else jH l k ms n
theorem uY {l:List OpI} {k:Nat} {ms:List (List Int)}:∀ n,(∀ i,i < n→ms[i]? = some (iJ l k i))→jH l k ms n = -1
 | 0,_=>rfl
 | n+1,h=>by
  show (if _ then _ else _)=_
  rw [uY n (fun i hi=>h i (by omega)),if_pos (by decide),if_pos (h n (by omega))]
theorem aTs {l:List OpI} {k:Nat} {ms:List (List Int)} {i:Nat}:∀ n,i < n→(∀ j,j < i→ms[j]? = some (iJ l k j))→ms[i]? ≠ some (iJ l k i)→jH l k ms n=(i:Int)
 | 0,h,_,_=>by omega
 | n+1,h,hj,hi=>by
  show (if _ then _ else _)=_
  by_cases e:i=n
  ·subst e
   rw [uY i hj,if_pos (by decide),if_neg hi]
  ·rw [aTs n (by omega) hj hi,if_neg (by omega)]
end Go.Bil

namespace Go.Bil
def cJ (z:ResI) (r:Row):List Value:=[.int .i64 z.err,.slice r.A r.n r.c,.int .i64 z.cont,.bool z.cl]
structure OutR (T:Nat) (rs:List Row) (zs:List ResI):Prop where
 len:rs.length=zs.length
 row:∀ (j:Nat) (r:Row) (z:ResI),rs[j]? = some r→zs[j]? = some z→bA T 1 r.A r.n r.c (z.bytes.map aZ) r.e
def iS (zs:List ResI) (rs:List Row):List (List Value):=List.zipWith cJ zs rs
theorem OutR.nil (T:Nat):OutR T [] []:=⟨rfl,by simp⟩
theorem OutR.add {T:Nat} {rs:List Row} {zs:List ResI} {r:Row} {z:ResI} (h:OutR T rs zs) (hr:bA T 1 r.A r.n r.c (z.bytes.map aZ) r.e):OutR T (rs++[r]) (zs++[z]):=by
 refine ⟨by simp [h.len],fun j q k hq hk => ?_⟩
 by_cases hj:j < rs.length
 ·rw [List.getElem?_append_left hj] at hq
  rw [List.getElem?_append_left (by rw [← h.len];exact hj)] at hk
  exact h.row j q k hq hk
 ·have hj2:j=rs.length:=by
   have:=(List.getElem?_eq_some_iff.1 hq).1
   simp at this
   omega
  rw [hj2,List.getElem?_append_right (Nat.le_refl _),Nat.sub_self] at hq
  rw [hj2,h.len,List.getElem?_append_right (Nat.le_refl _),Nat.sub_self] at hk
  simp only [List.getElem?_cons_zero,Option.some.injEq] at hq hk
  subst hq hk
  exact hr
theorem iT {zs:List ResI} {rs:List Row} (h:rs.length=zs.length):(iS zs rs).length=zs.length:=by unfold iS;rw [List.length_zipWith,h,Nat.min_self]
theorem jZ {zs:List ResI} {rs:List Row} (h:rs.length=zs.length) (z:ResI) (r:Row):iS (zs++[z]) (rs++[r])=iS zs rs++[cJ z r]:=by
 unfold iS
 rw [List.zipWith_append h.symm]
 rfl
theorem aZi {zs:List ResI} {rs:List Row} (h:rs.length=zs.length) {j:Nat} {z:ResI} (hz:zs[j]? = some z):∃ r,rs[j]? = some r∧(iS zs rs)[j]? = some (cJ z r):=by
 have hj:j < rs.length:=by rw [h];exact (List.getElem?_eq_some_iff.1 hz).1
 have hr:=List.getElem?_eq_getElem hj
 refine ⟨_,hr, ?_⟩
 unfold iS
 rw [List.getElem?_zipWith,hz,hr]
theorem OutR.rd {w0 w:World} {X:List Nat} {S:List eQ} {T:Nat} {rs:List Row} {zs:List ResI} (h:OutR T rs zs) (M:Mem w0 X S w) (ht:∀ r∈rs,r.e∈S) {j:Nat} {r:Row} {z:ResI} (hr:rs[j]? = some r) (hz:zs[j]? = some z):Rd w 1 r.A r.n (z.bytes.map aZ) :=
 (h.row j r z hr hz).rd M (ht r (List.mem_of_getElem? hr))
theorem bNk (l:List OpRow):∀ y∈l.map OpRow.cells,y.length=15:=by
 intro y hy
 obtain ⟨x,_,rfl⟩:=List.mem_map.1 hy
 rfl
end Go.Bil

namespace Go.Bil
theorem bOa {v:List Body} {o:OpI} (h:o.kind=1):iM v o=((pY v o.body).1,{ oP with err:=(pY v o.body).2 }):=by unfold iM;rw [if_neg (by omega)];exact bGp (by simp;omega)
theorem bVn {v:List Body} {o:OpI} (h:o.kind=2):iM v o=((iX v o.key).1,{ oP with err:=(iX v o.key).2 }):=by unfold iM;rw [if_neg (by omega)];exact bGq (by simp;omega)
theorem bVo {v:List Body} {o:OpI} (h:o.kind=3):iM v o=((tQ v o.key o.push).1,{ oP with err:=(tQ v o.key o.push).2 }):=by unfold iM;rw [if_neg (by omega)];exact bGr (by simp;omega)
theorem bJv {v:List Body} {o:OpI} (h:o.kind=4):iM v o=(sO v,{ oP with cont:=((mM v).length:Int),cl:=aBy v }):=by unfold iM;rw [if_neg (by omega)];exact bGs (by simp;omega)
theorem bVp {v:List Body} {o:OpI} (h:o.kind=5):iM v o=(v,{ oP with bytes:=lE v }):=by unfold iM;rw [if_neg (by omega)];exact bGt (by simp;omega)
theorem bVq {v:List Body} {o:OpI} (h:o.kind=6):iM v o=(qJ v o.bytes,{ oP with err:=(oM o.bytes).2 }):=by unfold iM;rw [if_neg (by omega)];exact aRa (by simp;omega)
theorem bJw {v:List Body} {o:OpI} (h:¬ (o.kind < 1∨6 < o.kind)):iM v o=doR v { o with kind:=o.kind - 1 }:=by unfold iM;rw [if_neg h]
theorem qR {f:Int→Option Value} {k:Int} {v:Value} (h:f k=some v):Value.tuple [((f k).getD .nilFunc),.bool (f k).isSome].toArray=Value.tuple [v,.bool true].toArray:=by rw [h];rfl
theorem bCa {f:Int→Option Value} {k:Int} (h:f k=none):Value.tuple [((f k).getD .nilFunc),.bool (f k).isSome].toArray=Value.tuple [.nilFunc,.bool false].toArray:=by rw [h];rfl
def wY (l:List OpRow) (X:List Nat):Prop:=∀ x∈l,0 < x.n→∀ q off,x.A=some ⟨q,off,none⟩→q∉X
def opsO (l:List OpRow):List OpI:=l.map OpRow.o
theorem pH {l:List OpRow} {i:Nat} {x:OpRow} (h:l[i]? = some x):(opsO l)[i]? = some x.o:=by unfold opsO;rw [List.getElem?_map,h];rfl
theorem dE (l:List OpRow):(opsO l).length=l.length:=List.length_map ..
theorem tV (l:List OpRow) (k:Nat):opsO (l.take k)=(opsO l).take k:=by unfold opsO;rw [List.map_take]
theorem aMf (l:List OpRow) (k:Nat):opsO (l.drop k)=(opsO l).drop k:=by unfold opsO;rw [List.map_drop]
theorem OpOk.okO {w:World} {o:OpI} {A:Option Addr} {n c:Nat} (h:OpOk w o A n c) (hn:n≤1000000):OkO o:=⟨h.body,h.byt,by rw [h.len];exact hn⟩
theorem OpsRd.okO {w:World} {A:Option Addr} {n:Nat} {l:List OpRow} (h:OpsRd w A n l) (hby:∀ x∈l,x.n≤1000000):∀ o∈opsO l,OkO o:=by
 intro o ho
 obtain ⟨x,hx,rfl⟩:=List.mem_map.1 ho
 exact (h.each x hx).okO (hby x hx)
end Go.Bil

namespace Go.Bil
theorem fY {rs:List Row}:∀ r∈rs,r.e∈rs.map Row.e:=fun r hr=>List.mem_map.2 ⟨r,hr,rfl⟩
theorem dC {rs:List Row} {L T:List eQ} (h:∀ r∈rs,r.e∈T):∀ r∈rs,r.e∈L++T:=fun r hr=>List.mem_append_right _ (h r hr)
theorem fQ {rs:List Row} {L T:List eQ} (h:∀ r∈rs,r.e∈L):∀ r∈rs,r.e∈L++T:=fun r hr=>List.mem_append_left _ (h r hr)
theorem OpsRd.none (w:World):OpsRd w none 0 []:=⟨Rd.nil w 15 Option.none,by simp⟩
theorem OpsRd.memY {w0 w:World} {X:List Nat} {S:List eQ} {A:Option Addr} {n:Nat} {l:List OpRow} (h:OpsRd w0 A n l) (M:Mem w0 X S w) (hA:0 < n→∀ q off,A=some ⟨q,off,Option.none⟩→q∉X) (hX:wY l X):OpsRd w A n l:=⟨h.rd.memY M hA,fun x hx=>(h.each x hx).memY M (hX x hx)⟩
theorem OpsRd.sub {w:World} {A:Option Addr} {n c:Nat} {l:List OpRow} (h:OpsRd w A n l) (i j:Nat) (h1:i≤j) (h2:j≤n) (hc:n≤c):OpsRd w (yK A c i 15) (j - i) ((l.drop i).take (j - i)) :=
 ⟨by rw [List.map_take,List.map_drop];exact h.rd.sub i j h1 h2 hc,fun x hx=>h.each x (List.mem_of_mem_drop (List.mem_of_mem_take hx))⟩
theorem Own.dummy (w:World) (o:Obj):Own [(none,o)] w:=⟨by simp,by simp [cD]⟩
def opZ (k:Int):OpRow:=⟨⟨k,aXn,0,(0,0),[]⟩,none,0,0⟩
theorem bYi:InB aXn:=⟨by decide,by decide,by decide,by decide,by decide,by decide,by decide,by decide,by decide,by decide⟩
theorem aOr (w:World) (k:Int):OpOk w (opZ k).o (opZ k).A (opZ k).n (opZ k).c :=
 ⟨Rd.nil w 1 none,Nat.le_refl _,by simp [opZ,gU],bYi,(by decide:(-2147483648:Int)≤0∧(0:Int)≤2147483647),(by decide:(-2147483648:Int)≤0∧(0:Int)≤2147483647)⟩
end Go.Bil

namespace Go.Bil
open Go Go.RowKit Go.Deep
theorem aRz {α:Type} {f:α→List Value} {Q:α→Prop}:∀ ls:List (List Value),(∀ y∈ls,∃ x,y=f x∧Q x)→∃ l:List α,ls=l.map f∧∀ x∈l,Q x
 | [],_=>⟨[],rfl,by simp⟩
 | y::ls,h=>by
  obtain ⟨x,rfl,hx⟩:=h y (by simp)
  obtain ⟨l,rfl,hl⟩:=aRz ls (fun z hz=>h z (by simp [hz]))
  refine ⟨x::l,Z,fun z hz => ?_⟩
  rcases List.mem_cons.1 hz with rfl | hz
  ·exact hx
  ·exact hl z hz
theorem bEv (l:List Value) (h:pM [.u8] l):∃ x:Int,l=aZ x∧(0≤x∧x≤255):=by
 obtain ⟨z,l',rfl,hz,hl'⟩:=iA h
 obtain rfl:=tS hl'
 exact ⟨z,Z,hz⟩
section
variable {H:Type} {enc:TypeId × Value→H} {P:Program} {w:World} {base:Nat} {spare:Nat→Bool} {held:Bool}
theorem uV {t e fuel:Nat} {cs:List Value} {x:DataW H × List MemPlace} (hu:P.underlying t=some (.slice e)) (h:DataW.trod enc P w base spare held fuel t cs=some x):∃ (A:Option Addr) (n c:Nat),cs=[.slice A n c]∧n≤c:=by
 rcases open_slice hu h with ⟨rfl,_⟩ | ⟨a,l,c,m',n,D,Pl,rfl,hb,hlc,_⟩
 ·exact ⟨none,0,0,Z,Nat.le_refl _⟩
 ·exact ⟨_,_,_,Z,hlc⟩
structure OpT (P:Program) (m T T0 T1 T2 T3 T4 e8 b8:Nat) (fs:Array Field):Prop where
 u:P.underlying T=some (.struct fs)
 f:fs.toList.map (fun f=>(f.type,f.offset))=[(T0,0),(T1,1),(T2,11),(T3,12),(T4,14)]
 sz:P.cellsOf T=15
 l0:nC P m T0=some [.i64]
 l1:nC P m T1=some [.u32,.i32,.i32,.i32,.i32,.i32,.i32,.i32,.i32,.i32]
 l2:nC P m T2=some [.u32]
 l3:nC P m T3=some [.i32,.i32]
 l8:nC P m e8=some [.u8]
 c0:P.cellsOf T0=1
 c1:P.cellsOf T1=10
 c2:P.cellsOf T2=1
 c3:P.cellsOf T3=2
 c4:P.cellsOf T4=1
 s:fN P T4 e8 1 b8=true
theorem aVi {α:Type} {l:List α} (h:l.length=15):l=l.take 1++(((l.drop 1).take 10)++(((l.drop 11).take 1)++(((l.drop 12).take 2)++((l.drop 14).take 1)))):=by
 have e4:(l.drop 14).take 1=l.drop 14:=List.take_of_length_le (by rw [List.length_drop];omega)
 have e3:(l.drop 12).take 2++l.drop 14=l.drop 12:=by have g:=List.take_append_drop 2 (l.drop 12);rwa [List.drop_drop] at g
 have e2:(l.drop 11).take 1++l.drop 12=l.drop 11:=by have g:=List.take_append_drop 1 (l.drop 11);rwa [List.drop_drop] at g
 have e1:(l.drop 1).take 10++l.drop 11=l.drop 1:=by have g:=List.take_append_drop 10 (l.drop 1);rwa [List.drop_drop] at g
 rw [e4,e3,e2,e1,List.take_append_drop]
theorem aWc {m T T0 T1 T2 T3 T4 e8 b8:Nat} {fs:Array Field} (O:OpT P m T T0 T1 T2 T3 T4 e8 b8 fs) {fuel:Nat} {cs:List Value} {d:DataW H} {pl:List MemPlace} (hx:DataW.trod enc P w base spare held fuel T cs=some (d,pl)) (hw:∀ n∈d.weights P T,n≤reachBytes) :
  ∃ x:OpRow,cs=x.cells∧OpOk w x.o x.A x.n x.c:=by
 obtain ⟨xs,k,_,hd,hl,hxl,hfs⟩:=DataW.trod_struct O.u hx
 rw [O.sz] at hl
 have hlen:fs.toList.length=5:=by have:=congrArg List.length O.f;simpa using this
 have hf:∀ (i:Nat) (t o:Nat),[(T0,0),(T1,1),(T2,11),(T3,12),(T4,14)][i]? = some (t,o)→∃ f,fs[i]? = some f∧f.type=t∧f.offset=o:=by
  intro i t o hi
  rw [← O.f,List.getElem?_map] at hi
  cases hq:fs.toList[i]? with
  | none=>rw [hq] at hi;cases hi
  | some f =>
   rw [hq] at hi
   simp only [Option.map_some,Option.some.injEq,Prod.mk.injEq] at hi
   exact ⟨f,by simpa using hq,hi⟩
 have part:∀ (i:Nat) (t o z:Nat),[(T0,0),(T1,1),(T2,11),(T3,12),(T4,14)][i]? = some (t,o)→P.cellsOf t=z→∃ y,xs[i]? = some y∧DataW.trod enc P w base spare held k t ((cs.drop o).take z)=some y:=by
  intro i t o z hi hz
  obtain ⟨f,h1,rfl,rfl⟩:=hf i t o hi
  have h2:=hfs i f h1
  have hlt:i < xs.length:=by rw [hxl];exact (Array.getElem?_eq_some_iff.1 h1).1
  rw [List.getElem?_eq_getElem hlt,hz] at h2
  exact ⟨_,List.getElem?_eq_getElem hlt,h2⟩
 obtain ⟨y0,_,p0⟩:=part 0 T0 0 1 rfl O.c0
 obtain ⟨y1,_,p1⟩:=part 1 T1 1 10 rfl O.c1
 obtain ⟨y2,_,p2⟩:=part 2 T2 11 1 rfl O.c2
 obtain ⟨y3,_,p3⟩:=part 3 T3 12 2 rfl O.c3
 obtain ⟨y4,q4,p4⟩:=part 4 T4 14 1 rfl O.c4
 obtain ⟨h1,h2,h3,h4,h5,h6,zv,hzv,hzs⟩:=fT O.s
 obtain ⟨A,n,c,hsl,hnc⟩:=uV h1 p4
 rw [hsl] at p4
 have hT:DataW.Trod enc P w base spare held T4 (.slice A n c) y4.1 y4.2:=⟨k,p4⟩
 have hw4:∀ n∈y4.1.weights P T4,n≤reachBytes:=fun n hn=>by
  refine hw n ?_
  obtain rfl:d=.agg (xs.map (·.1)):=(Prod.mk.inj hd).1
  simp only [DataW.weights,O.u]
  obtain ⟨f,g1,rfl,_⟩:=hf 4 T4 14 rfl
  have g1':fs.toList[4]? = some f:=by simpa using g1
  exact DataW.weights_mem_each (j:=4) (by rw [List.getElem?_map,g1'];rfl) (by rw [List.getElem?_map,q4];rfl) n hn
 have hs:=sM hw4 O.s hT
 obtain ⟨ls,R,hI⟩:=aMe O.s O.l8 rfl hs hT
 obtain ⟨bs,rfl,hbs⟩:=aOe bEv ls hI
 have i0:=lB m T0 _ k _ _ O.l0 p0
 have i1:=lB m T1 _ k _ _ O.l1 p1
 have i2:=lB m T2 _ k _ _ O.l2 p2
 have i3:=lB m T3 _ k _ _ O.l3 p3
 obtain ⟨kind,l',e0,_,hl'⟩:=iA i0
 obtain rfl:=tS hl'
 obtain ⟨body,e1,hbody⟩:=bQy _ i1
 obtain ⟨key,l',e2,hkey,hl'⟩:=iA i2
 obtain rfl:=tS hl'
 obtain ⟨dx,l',e3,hdx,hl'⟩:=iA i3
 obtain ⟨dy,l'',rfl,hdy,hl''⟩:=iA hl'
 obtain rfl:=tS hl''
 refine ⟨⟨⟨kind,body,key,(dx,dy),bs⟩,A,n,c⟩, ?_,R,hnc,hbs,hbody,hdx,hdy⟩
 have e:=aVi hl
 rw [List.drop_zero] at e0
 rw [e0,e1,e2,e3,hsl] at e
 rw [e]
 rfl
theorem wD {m t T T0 T1 T2 T3 T4 e8 b8 bytes:Nat} {A:Option Addr} {len cap:Nat} {d:DataW H} {ps:List MemPlace} (ht:fN P t T 15 bytes=true) (O:∃ fs,OpT P m T T0 T1 T2 T3 T4 e8 b8 fs) (hw:∀ n∈d.weights P t,n≤reachBytes)
  (h:DataW.Trod enc P w base spare held t (.slice A len cap) d ps):∃ l:List OpRow,OpsRd w A len l:=by
 obtain ⟨fs,O⟩:=O
 have hbig:=sM hw ht h
 obtain ⟨h1,h2,h3,h4,h5,h6,zv,hzv,hzs⟩:=fT ht
 obtain ⟨fuel,hf⟩:=h
 have hle:len≤140737488351232:=Nat.le_trans (Nat.le_mul_of_pos_right _ (Nat.pos_of_ne_zero h6)) hbig
 rcases open_slice h1 hf with ⟨hcs,_⟩ | ⟨a,l,c,m',n,D,Pl,hcs,hb,hlc,_,hm,hx0,hx⟩
 ·simp only [Value.cells,List.cons.injEq,Value.slice.injEq,and_true] at hcs
  obtain ⟨rfl,rfl,rfl⟩:=hcs
  exact ⟨[],Rd.nil w 15 none,by simp⟩
 ·simp only [Value.cells,List.cons.injEq,Value.slice.injEq,and_true] at hcs
  obtain ⟨rfl,rfl,rfl⟩:=hcs
  obtain ⟨rfl,_⟩:=Prod.mk.inj hx0
  have hlm:len≤m':=by rw [hm];split <;> omega
  have hww:=(tA h1 hw).2
  have hall:∀ i,i < len→∃ cs':List Value,cs'.length=15∧(∀ j,j < 15→w.cell? (a.add (i*15+j))=cs'[j]?)∧(∃ x:OpRow,cs'=x.cells∧OpOk w x.o x.A x.n x.c):=fun i hi=>by
   obtain ⟨cs',hc,ht'⟩:=hx i (by omega)
   rw [h3] at hc
   obtain ⟨q1,q2⟩:=vO hc
   refine ⟨cs',q1,fun j hj => ?_,aWc O ht' (hww (D i) (List.mem_map.2 ⟨i,List.mem_range.2 hi,Z⟩))⟩
   rw [← q2 j hj,Addr.add_add]
  obtain ⟨ls,R,hQ⟩:=aEp (by omega) (by omega) hall
  obtain ⟨l,rfl,hl⟩:=aRz ls hQ
  exact ⟨l,R,hl⟩
end
end Go.Bil

namespace Go.Bil
open Go Go.RowKit
structure BytR (T:Nat) (rs:List Row) (bs:List (List Int)):Prop where
 len:rs.length=bs.length
 row:∀ (j:Nat) (r:Row) (b:List Int),rs[j]? = some r→bs[j]? = some b→bA T 1 r.A r.n r.c (b.map aZ) r.e
theorem BytR.nil (T:Nat):BytR T [] []:=⟨rfl,by simp⟩
theorem BytR.add {T:Nat} {rs:List Row} {bs:List (List Int)} {r:Row} {b:List Int} (h:BytR T rs bs) (hr:bA T 1 r.A r.n r.c (b.map aZ) r.e):BytR T (rs++[r]) (bs++[b]):=by
 refine ⟨by simp [h.len],fun j q k hq hk => ?_⟩
 by_cases hj:j < rs.length
 ·rw [List.getElem?_append_left hj] at hq
  rw [List.getElem?_append_left (by rw [← h.len];exact hj)] at hk
  exact h.row j q k hq hk
 ·have hj2:j=rs.length:=by
   have:=(List.getElem?_eq_some_iff.1 hq).1
   simp at this
   omega
  rw [hj2,List.getElem?_append_right (Nat.le_refl _),Nat.sub_self] at hq
  rw [hj2,h.len,List.getElem?_append_right (Nat.le_refl _),Nat.sub_self] at hk
  simp only [List.getElem?_cons_zero,Option.some.injEq] at hq hk
  subst hq hk
  exact hr
theorem BytR.at {T:Nat} {rs:List Row} {bs:List (List Int)} (h:BytR T rs bs) {j:Nat} {b:List Int} (hb:bs[j]? = some b):∃ r,rs[j]? = some r∧bA T 1 r.A r.n r.c (b.map aZ) r.e:=by
 have hj:j < rs.length:=by rw [h.len];exact (List.getElem?_eq_some_iff.1 hb).1
 have hr:=List.getElem?_eq_getElem hj
 exact ⟨_,hr,h.row j _ b hr hb⟩
structure BytRd (w:World) (A:Option Addr) (n:Nat) (rs:List Row) (bs:List (List Int)):Prop where
 rd:Rd w 1 A n (rs.map kX)
 len:rs.length=bs.length
 row:∀ (j:Nat) (r:Row) (b:List Int),rs[j]? = some r→bs[j]? = some b→Rd w 1 r.A r.n (b.map aZ)∧gU b∧r.n≤r.c
theorem BytRd.n_eq {w:World} {A:Option Addr} {n:Nat} {rs:List Row} {bs:List (List Int)} (h:BytRd w A n rs bs):bs.length=n∧rs.length=n:=by
 have:=h.rd.len
 rw [List.length_map] at this
 exact ⟨by rw [← h.len];exact this,this⟩
theorem BytRd.mem {w0 w:World} {S:List eQ} {A:Option Addr} {n:Nat} {rs:List Row} {bs:List (List Int)} (h:BytRd w0 A n rs bs) (M:Mem w0 [] S w):BytRd w A n rs bs :=
 ⟨h.rd.mem M,h.len,fun j r b hr hb=>by obtain ⟨h1,h2,h3⟩:=h.row j r b hr hb;exact ⟨h1.mem M,h2,h3⟩⟩
def tD (rs:List Row) (X:List Nat):Prop:=∀ r∈rs,0 < r.n→∀ q off,r.A=some ⟨q,off,none⟩→q∉X
theorem BytRd.memY {w0 w:World} {X:List Nat} {S:List eQ} {A:Option Addr} {n:Nat} {rs:List Row} {bs:List (List Int)} (h:BytRd w0 A n rs bs) (M:Mem w0 X S w) (hA:0 < n→∀ q off,A=some ⟨q,off,none⟩→q∉X) (hX:tD rs X):BytRd w A n rs bs :=
 ⟨h.rd.memY M hA,h.len,fun j r b hr hb=>by obtain ⟨h1,h2,h3⟩:=h.row j r b hr hb;exact ⟨h1.memY M (hX r (List.mem_of_getElem? hr)),h2,h3⟩⟩
theorem BytRd.at {w:World} {A:Option Addr} {n:Nat} {rs:List Row} {bs:List (List Int)} (h:BytRd w A n rs bs) {j:Nat} (hj:j < n):∃ r b,rs[j]? = some r∧bs[j]? = some b∧(rs.map kX)[j]? = some [.slice r.A r.n r.c]∧Rd w 1 r.A r.n (b.map aZ)∧gU b∧r.n≤r.c:=by
 obtain ⟨h1,h2⟩:=h.n_eq
 have hr:=List.getElem?_eq_getElem (l:=rs) (i:=j) (by omega)
 have hb:=List.getElem?_eq_getElem (l:=bs) (i:=j) (by omega)
 exact ⟨_,_,hr,hb,by rw [List.getElem?_map,hr];rfl,h.row j _ _ hr hb⟩
theorem BytRd.none (w:World):BytRd w none 0 [] []:=⟨Rd.nil w 1 Option.none,rfl,by simp⟩
theorem BytR.rds {w0 w:World} {X:List Nat} {S:List eQ} {T T' n c:Nat} {A:Option Addr} {e:eQ} {rs:List Row} {bs:List (List Int)} (h:BytR T rs bs) (hq:bA T' 1 A n c (rs.map kX) e) (M:Mem w0 X S w) (he:e∈S) (ht:∀ r∈rs,r.e∈S) (hb:∀ b∈bs,gU b):BytRd w A n rs bs :=
 ⟨hq.rd M he,h.len,fun j r b hr hbj=>⟨(h.row j r b hr hbj).rd M (ht r (List.mem_of_getElem? hr)),hb b (List.mem_of_getElem? hbj),(h.row j r b hr hbj).slice⟩⟩
theorem bMo (rs:List Row):∀ y∈rs.map kX,∀ u∈y,one u=true:=by
 intro y hy
 obtain ⟨x,_,rfl⟩:=List.mem_map.1 hy
 simp [kX,Go.Bil.one]
theorem bA.awayT {w0 w:World} {X:List Nat} {L R:List eQ} {T sz:Nat} {A:Option Addr} {n c:Nat} {ls:List (List Value)} {e:eQ} (h:bA T sz A n c ls e) (M:Mem w0 X (L++R) w) (he:e∈R) (i k:Nat):0 < n→∀ q off,A=some ⟨q,off,none⟩→q∉cD ((L.drop i).take k):=by
 intro hn q off hA hq
 obtain ⟨b2,l,fr,h1,h2,_⟩:=h.block hn
 rw [h1] at hA
 injection hA with hA
 injection hA with hA
 subst hA
 have hap:=M.apart
 rw [kW,List.nodup_append] at hap
 obtain ⟨o,ho⟩:=iK.1 hq
 exact hap.2.2 b2 (iK.2 ⟨o,List.mem_of_mem_drop (List.mem_of_mem_take ho)⟩) b2 (iK.2 ⟨_,by rw [← h2];exact he⟩) Z
def kN (l:List OpI) (ps:List Row):List OpRow:=List.zipWith (fun o p=>⟨o,p.A,p.n,p.c⟩) l ps
structure GoodO (o:OpI):Prop where
 byt:gU o.bytes
 body:InB o.body
 p1 : -2147483648≤o.push.1∧o.push.1≤2147483647
 p2 : -2147483648≤o.push.2∧o.push.2≤2147483647
 len:o.bytes.length≤1000000
theorem GoodO.ok {o:OpI} (h:GoodO o):OkO o:=⟨h.body,h.byt,h.len⟩
theorem OpOk.good {w:World} {o:OpI} {A:Option Addr} {n c:Nat} (h:OpOk w o A n c) (hn:n≤1000000):GoodO o:=⟨h.byt,h.body,h.p1,h.p2,by rw [h.len];exact hn⟩
theorem OpsRd.good {w:World} {A:Option Addr} {n:Nat} {l:List OpRow} (h:OpsRd w A n l) (hby:∀ x∈l,x.n≤1000000):∀ o∈opsO l,GoodO o:=by
 intro o ho
 obtain ⟨x,hx,rfl⟩:=List.mem_map.1 ho
 exact (h.each x hx).good (hby x hx)
theorem mV {l:List OpI} {ps:List Row} (h:ps.length=l.length):(kN l ps).length=l.length:=by unfold kN;rw [List.length_zipWith,h,Nat.min_self]
theorem wC {l:List OpI} {ps:List Row} (h:ps.length=l.length) (o:OpI) (p:Row):kN (l++[o]) (ps++[p])=kN l ps++[⟨o,p.A,p.n,p.c⟩]:=by
 unfold kN
 rw [List.zipWith_append h.symm]
 rfl
theorem aVx {l:List OpI} {ps:List Row} {j:Nat} {o:OpI} {p:Row} (ho:l[j]? = some o) (hp:ps[j]? = some p):(kN l ps)[j]? = some ⟨o,p.A,p.n,p.c⟩:=by
 unfold kN
 rw [List.getElem?_zipWith,ho,hp]
theorem aOm {l:List OpI} {ps:List Row} {x:OpRow} (h:x∈kN l ps):∃ (j:Nat) (o:OpI) (p:Row),l[j]? = some o∧ps[j]? = some p∧x=⟨o,p.A,p.n,p.c⟩:=by
 obtain ⟨j,hj,e⟩:=List.mem_iff_getElem.1 h
 unfold kN at hj e
 rw [List.getElem_zipWith] at e
 rw [List.length_zipWith] at hj
 exact ⟨j,_,_,List.getElem?_eq_getElem (by omega),List.getElem?_eq_getElem (by omega),e.symm⟩
theorem oD {l:List OpI} {ps:List Row} (h:ps.length=l.length):opsO (kN l ps)=l:=by
 unfold opsO kN
 rw [List.map_zipWith]
 induction l generalizing ps with
 | nil=>simp
 | cons o l ih =>
  cases ps with
  | nil=>simp at h
  | cons p ps=>rw [List.zipWith_cons_cons,ih (by simpa using h)]
theorem qO {w0 w:World} {X:List Nat} {S:List eQ} {T T' n c:Nat} {A:Option Addr} {e:eQ} {l:List OpI} {ps:List Row} (h:BytR T ps (l.map OpI.bytes)) (hg:∀ o∈l,GoodO o) (hq:bA T' 15 A n c ((kN l ps).map OpRow.cells) e) (M:Mem w0 X S w) (he:e∈S) (ht:∀ r∈ps,r.e∈S):OpsRd w A n (kN l ps):=by
 refine ⟨hq.rd M he,fun x hx => ?_⟩
 obtain ⟨j,o,p,ho,hp,rfl⟩:=aOm hx
 have hr:=h.row j p o.bytes hp (by rw [List.getElem?_map,ho];rfl)
 have g:=hg o (List.mem_of_getElem? ho)
 exact ⟨hr.rd M (ht p (List.mem_of_getElem? hp)),hr.slice,g.byt,g.body,g.p1,g.p2⟩
theorem aBg {T:Nat} {l:List OpI} {ps:List Row} (h:BytR T ps (l.map OpI.bytes)) (hg:∀ o∈l,GoodO o):∀ x∈kN l ps,x.n≤1000000:=by
 intro x hx
 obtain ⟨j,o,p,ho,hp,rfl⟩:=aOm hx
 have hr:=h.row j p o.bytes hp (by rw [List.getElem?_map,ho];rfl)
 have e:o.bytes.length=p.n:=by have:=hr.1;rwa [List.length_map] at this
 have:=(hg o (List.mem_of_getElem? ho)).len
 show p.n≤1000000
 omega
theorem bIo {w0 w:World} {X:List Nat} {L R:List eQ} {T:Nat} {l:List OpI} {ps:List Row} (h:BytR T ps (l.map OpI.bytes)) (M:Mem w0 X (L++R) w) (ht:∀ r∈ps,r.e∈R) (i k:Nat):wY (kN l ps) (cD ((L.drop i).take k)):=by
 intro x hx
 obtain ⟨j,o,p,ho,hp,rfl⟩:=aOm hx
 have hr:=h.row j p o.bytes hp (by rw [List.getElem?_map,ho];rfl)
 exact hr.awayT M (ht p (List.mem_of_getElem? hp)) i k
theorem aGx {i k:Nat} (hk:0 < k):((i+1) % k=0∧(i+1) / k=i / k+1∧(i / k+1)*k=i+1)∨((i+1) % k≠0∧(i+1) / k=i / k):=by
 have h:=Nat.div_add_mod i k
 have hr:=Nat.mod_lt i hk
 generalize i / k=q at *
 generalize i % k=r at *
 rcases Nat.lt_or_ge (r+1) k with g | g
 ·right
  have e:i+1=(r+1)+k*q:=by omega
  rw [e,Nat.add_mul_mod_self_left,Nat.mod_eq_of_lt g,Nat.add_mul_div_left _ _ hk,Nat.div_eq_of_lt g]
  exact ⟨by omega,by omega⟩
 ·left
  have e:i+1=k*(q+1):=by rw [Nat.mul_add,Nat.mul_one];omega
  rw [e]
  exact ⟨Nat.mul_mod_right _ _,Nat.mul_div_cancel_left _ hk,Nat.mul_comm _ _⟩
theorem aDc {l:List OpI} {i k:Nat} (hk:0 < k) (h:(i+1) % k=0):fD l k ((i+1) / k)=fD l k (i / k)++[lE (fH [] (l.take (i+1)))]∧(i+1) / k=i / k+1:=by
 rcases aGx (i:=i) hk with ⟨_,h2,h3⟩ | ⟨h1,_⟩
 ·rw [h2,aHz]
  unfold iJ
  rw [h3]
  exact ⟨Z,Z⟩
 ·exact absurd h h1
theorem aHx {i k:Nat} (hk:0 < k) (h:(i+1) % k≠0):(i+1) / k=i / k:=by
 rcases aGx (i:=i) hk with ⟨h1,_⟩ | ⟨_,h2⟩
 ·exact absurd h1 h
 ·exact h2
theorem oX {l:List OpI} {k n:Nat}:∀ b∈fD l k n,gU b:=by
 intro b hb
 unfold fD at hb
 obtain ⟨i,_,rfl⟩:=List.mem_map.1 hb
 exact xG _
theorem aLv {l:List OpI} (o:OpI) {k n:Nat} (h:n*k≤l.length):fD (l++[o]) k n=fD l k n:=by
 unfold fD
 refine List.map_congr_left fun i hi => ?_
 have hi:=List.mem_range.1 hi
 unfold iJ
 have:(i+1)*k≤n*k:=Nat.mul_le_mul_right k hi
 rw [List.take_append_of_le_length (by omega)]
theorem aLu {l:List OpI} (hl:∀ o∈l,OkO o) (n:Nat):GoodV (fH [] (l.take n)):=aBs GoodV.nil (fun o ho=>hl o (List.mem_of_mem_take ho))
def aIv (l:List OpI) (k:Nat) (bs:List (List Int)) (n:Nat):List Body:=fH (if n / k=0 then [] else qJ [] (bs.getD (n / k - 1) [])) ((l.take n).drop (n / k*k))
theorem zT {l:List OpI} (hl:∀ o∈l,OkO o) {k n:Nat} (hk:0 < k) (h:n≤l.length):aIv l k (fD l k (l.length / k)) n=fH [] (l.take n):=by
 have hle:n / k*k≤n:=Nat.div_mul_le_self n k
 have hd:n / k≤l.length / k:=Nat.div_le_div_right h
 unfold aIv
 generalize n / k=q at *
 generalize l.length / k=m at *
 by_cases h0:q=0
 ·rw [if_pos h0,h0,Nat.zero_mul,List.drop_zero]
 ·rw [if_neg h0]
  have hat:=mR l k (n:=m) (i:=q - 1) (by omega)
  have e:(fD l k m).getD (q - 1) []=lE (fH [] (l.take (q*k))):=by
   rw [List.getD_eq_getElem?_getD,hat]
   show lE (fH [] (l.take ((q - 1+1)*k)))=_
   rw [show q - 1+1=q by omega]
  rw [e]
  exact bJs hl hle
end Go.Bil

namespace Go.Bil
def opA (b:Body):OpRow:=⟨⟨1,b,0,(0,0),[]⟩,none,0,0⟩
theorem bVh (w:World) (b:Body) (h:InB b):OpOk w (opA b).o (opA b).A (opA b).n (opA b).c :=
 ⟨Rd.nil w 1 none,Nat.le_refl _,by simp [opA,gU],h,(by decide:(-2147483648:Int)≤0∧(0:Int)≤2147483647),(by decide:(-2147483648:Int)≤0∧(0:Int)≤2147483647)⟩
end Go.Bil

namespace Go.Bil
open Go Go.RowKit
theorem bKk {f n a:Nat} {z:Int} (hz:z=(n:Int)) (h:a=f / n):(f:Int).tdiv z=(a:Int):=by subst hz;subst h;rfl
theorem bJf {f n a:Nat} (h:a=f / n) (hf:f≤1000000000000):IntKind.wrap .i64 ((f:Int).tdiv (n:Int))=(a:Int):=by
 have hle:a≤f:=by rw [h];exact Nat.div_le_self f n
 rw [bKk rfl h]
 exact fU _ (by omega) (by omega)
theorem bVa {a:Nat} (h:(a:Int)=0):a=0:=by omega
theorem bVb {a:Nat} (h:¬ (a:Int)=0):a≠0:=by omega
section
variable {P:Program} {ρ:fR} {w:World}
theorem bJi {t t':TypeId} {x y:Operand} {a b:ByteArray} (hx:ev ρ x=.string a) (hy:ev ρ y=.string b):lM P ρ w (.binOp .eql t x y t') (.bool (decide (a.data.toList=b.data.toList))):=by
 intro d2 ty pos af gd
 have e2:(a.toList == b.toList)=decide (a.data.toList=b.data.toList):=by
  rw [ByteArray.toList_eq,ByteArray.toList_eq,Bool.eq_iff_iff]
  simp only [beq_iff_eq,decide_eq_true_eq]
 have g:(eqGuard .eql t x y (.string a) (.string b)).run P w=.ok () w:=rfl
 simp only [execOp,hx,hy,Sem.run_bind,g,Result.andThen,binOp,Op.stringOp,Sem.run_pure,e2]
end
theorem bYc {xs ys:List Int} (hx:gU xs) (hy:gU ys):(strOfNums xs).data.toList=(strOfNums ys).data.toList↔xs=ys:=by
 have h:=xV xs hx (strOfNums ys).data.toList
 have g:=xV ys hy (strOfNums ys).data.toList
 have e:ys=(strOfNums ys).data.toList.map (fun y=>(y.toNat:Int)):=Decidable.not_not.1 fun k=>(g.2 k) rfl
 rw [← e] at h
 exact Decidable.not_iff_not.1 h
variable {w0 w:World} {X:List Nat} {L T T':List eQ} {rs ms:List Row}
theorem Mem.pushA (p:Row) (M:Mem w0 X ((L++[p.e])++(rs.map Row.e++T)) w):Mem w0 X (L++((rs++[p]).map Row.e++T)) w :=
 M.perm (by
  rw [List.append_assoc,List.map_append,List.append_assoc]
  refine List.Perm.append_left L ?_
  rw [← List.append_assoc,← List.append_assoc]
  exact List.Perm.append_right T List.perm_append_comm)
theorem Mem.pushB (p:Row) (M:Mem w0 X ((L++[p.e])++(T++ms.map Row.e)) w):Mem w0 X (L++(T++(ms++[p]).map Row.e)) w :=
 M.perm (by
  rw [List.append_assoc,List.map_append]
  refine List.Perm.append_left L ?_
  rw [← List.append_assoc T]
  exact List.perm_append_comm)
theorem Mem.pushAB (p q:Row) (M:Mem w0 X ((L++[p.e,q.e])++(rs.map Row.e++ms.map Row.e)) w):Mem w0 X (L++((rs++[p]).map Row.e++(ms++[q]).map Row.e)) w:=by
 have e:L++[p.e,q.e]=(L++[p.e])++[q.e]:=by rw [List.append_assoc];rfl
 rw [e] at M
 exact Mem.pushA p (Mem.pushB q M)
theorem Mem.cutT (M:Mem w0 X (L++(T++T')) w):Mem w0 X (L++T) w:=M.sub ((List.Sublist.refl L).append (List.sublist_append_left T T'))
theorem Mem.noT (M:Mem w0 X (L++T) w):Mem w0 X L w:=M.sub (List.sublist_append_left L T)
theorem Mem.segE {B:List eQ} {w':World} (i k:Nat) (M:Mem w0 X (L++T) w) (hk:i+k≤L.length) (C:Mem w (cD ((L.drop i).take k)) B w'):Mem w0 X ((L.take i++B++L.drop (i+k))++T) w':=by
 have h:=Mem.segU (A:=[]) (T':=[]) i k M hk (show Mem w _ (B++([]++[])) w' by rw [List.append_nil,List.append_nil];exact C)
 rw [List.append_nil,List.append_nil] at h
 exact h
theorem BytRd.seg {B:Option Addr} {m:Nat} {bs:List (List Int)} {S:List eQ} (h:BytRd w0 B m rs bs) (M:Mem w0 X S w) (hd:tD rs X) (i k:Nat):tD rs (cD ((S.drop i).take k)):=by
 intro r hr
 obtain ⟨j,hj⟩:=List.getElem?_of_mem hr
 have hjl:j < m:=by rw [← h.n_eq.2];exact (List.getElem?_eq_some_iff.1 hj).1
 obtain ⟨r2,b,hr2,hb,_,hrd,_,_⟩:=h.at hjl
 rw [hj] at hr2
 obtain rfl:=Option.some.inj hr2
 exact M.away i k hrd (hd r hr)
theorem bEo (rs:List Row):tD rs []:=fun r hr hn q off hA=>by simp
theorem zC (xs:List Int):∀ y∈xs.map aZ,∀ u∈y,one u=true:=by
 intro y hy
 obtain ⟨x,_,rfl⟩:=List.mem_map.1 hy
 simp [aZ,Go.Bil.one]
structure OutRd (w:World) (A:Option Addr) (n:Nat) (rs:List Row) (zs:List ResI):Prop where
 rd:Rd w 4 A n (iS zs rs)
 len:rs.length=zs.length
 row:∀ (j:Nat) (r:Row) (z:ResI),rs[j]? = some r→zs[j]? = some z→Rd w 1 r.A r.n (z.bytes.map aZ)
theorem OutR.rds {T T2 n c:Nat} {A:Option Addr} {e:eQ} {S:List eQ} {zs:List ResI} (h:OutR T rs zs) (hq:bA T2 4 A n c (iS zs rs) e) (M:Mem w0 X S w) (he:e∈S) (ht:∀ r∈rs,r.e∈S):OutRd w A n rs zs :=
 ⟨hq.rd M he,h.len,fun j r z hr hz=>h.rd M ht hr hz⟩
theorem OutRd.mem {w1 w2:World} {S:List eQ} {A:Option Addr} {n:Nat} {zs:List ResI} (h:OutRd w1 A n rs zs) (M:Mem w1 [] S w2):OutRd w2 A n rs zs:=⟨h.rd.mem M,h.len,fun j r z hr hz=>(h.row j r z hr hz).mem M⟩
theorem OutRd.n_eq {A:Option Addr} {n:Nat} {zs:List ResI} (h:OutRd w A n rs zs):zs.length=n:=by
 have:=h.rd.len
 rwa [iT h.len] at this
structure LogR (T T1 T8:Nat) (l:List OpI) (k:Nat) (qo qm:Row) (ps ms:List Row):Prop where
 ops:bA T 15 qo.A qo.n qo.c ((kN l ps).map OpRow.cells) qo.e
 byt:BytR T8 ps (l.map OpI.bytes)
 good:∀ o∈l,GoodO o
 mks:bA T1 1 qm.A qm.n qm.c (ms.map kX) qm.e
 mby:BytR T8 ms (fD l k (l.length / k))
theorem LogR.plen {T T1 T8:Nat} {l:List OpI} {k:Nat} {qo qm:Row} {ps ms:List Row} (h:LogR T T1 T8 l k qo qm ps ms):ps.length=l.length:=by rw [h.byt.len,List.length_map]
theorem LogR.on {T T1 T8:Nat} {l:List OpI} {k:Nat} {qo qm:Row} {ps ms:List Row} (h:LogR T T1 T8 l k qo qm ps ms):qo.n=l.length:=by
 have:=h.ops.1
 rw [List.length_map,mV h.plen] at this
 exact this.symm
theorem LogR.mn {T T1 T8:Nat} {l:List OpI} {k:Nat} {qo qm:Row} {ps ms:List Row} (h:LogR T T1 T8 l k qo qm ps ms):qm.n=l.length / k:=by
 have:=h.mks.1
 rw [List.length_map,h.mby.len,iV] at this
 exact this.symm
theorem LogR.opsRd {S:List eQ} {T T1 T8:Nat} {l:List OpI} {k:Nat} {qo qm:Row} {ps ms:List Row} (h:LogR T T1 T8 l k qo qm ps ms) (M:Mem w0 X S w) (he:qo.e∈S) (ht:∀ r∈ps,r.e∈S):OpsRd w qo.A qo.n (kN l ps):=qO h.byt h.good h.ops M he ht
theorem LogR.bytRd {S:List eQ} {T T1 T8:Nat} {l:List OpI} {k:Nat} {qo qm:Row} {ps ms:List Row} (h:LogR T T1 T8 l k qo qm ps ms) (M:Mem w0 X S w) (he:qm.e∈S) (ht:∀ r∈ms,r.e∈S):BytRd w qm.A qm.n ms (fD l k (l.length / k)):=h.mby.rds h.mks M he ht oX
theorem LogR.opsO {T T1 T8:Nat} {l:List OpI} {k:Nat} {qo qm:Row} {ps ms:List Row} (h:LogR T T1 T8 l k qo qm ps ms):opsO (kN l ps)=l:=oD h.plen
theorem LogR.bn {T T1 T8:Nat} {l:List OpI} {k:Nat} {qo qm:Row} {ps ms:List Row} (h:LogR T T1 T8 l k qo qm ps ms):∀ x∈kN l ps,x.n≤1000000:=aBg h.byt h.good
theorem LogR.okO {T T1 T8:Nat} {l:List OpI} {k:Nat} {qo qm:Row} {ps ms:List Row} (h:LogR T T1 T8 l k qo qm ps ms):∀ o∈l,OkO o:=fun o ho=>(h.good o ho).ok
theorem sE {l:List OpI} (hl:∀ o∈l,OkO o) {k n:Nat}:∀ b∈fD l k n,b.length≤1000000:=by
 intro b hb
 unfold fD at hb
 obtain ⟨i,_,rfl⟩:=List.mem_map.1 hb
 unfold iJ
 rw [aGy]
 have:=(aLu hl ((i+1)*k)).len
 omega
theorem bLz {i k n:Nat} (hk:0 < k) (h1:i*k≤n) (h2:n < (i+1)*k):n / k=i:=Nat.div_eq_of_lt_le h1 h2
theorem bDv {l:List OpI} {k:Nat} {bs:List (List Int)}:∀ n,jH l k bs n < 0→jH l k bs n = -1
 | 0,_=>rfl
 | n+1,h=>by
  revert h
  show (if jH l k bs n < 0 then (if bs[n]? = some (iJ l k n) then -1 else (n:Int)) else jH l k bs n) < 0→(if jH l k bs n < 0 then (if bs[n]? = some (iJ l k n) then -1 else (n:Int)) else jH l k bs n) = -1
  by_cases h1:jH l k bs n < 0
  ·rw [if_pos h1]
   split
   ·intro;rfl
   ·intro h;omega
  ·rw [if_neg h1]
   intro h
   exact absurd h h1
def aJb (g:Int) (bs:List (List Int)) (j:Nat) (v:List Int):Int:=if g < 0∧bs[j]? ≠ some v then (j:Int) else g
theorem aXk {l:List OpI} {k:Nat} {bs:List (List Int)} (n:Nat):jH l k bs (n+1)=aJb (jH l k bs n) bs n (iJ l k n):=by
 show (if jH l k bs n < 0 then (if bs[n]? = some (iJ l k n) then -1 else (n:Int)) else jH l k bs n)=_
 unfold aJb
 by_cases h1:jH l k bs n < 0
 ·rw [if_pos h1]
  by_cases h2:bs[n]? = some (iJ l k n)
  ·rw [if_pos h2,if_neg (fun h=>h.2 h2)]
   exact (bDv n h1).symm
  ·rw [if_neg h2,if_pos ⟨h1,h2⟩]
 ·rw [if_neg h1,if_neg (fun h=>h1 h.1)]
theorem bDw {l:List OpI} {k i:Nat} {bs:List (List Int)} (hk:0 < k) (h:(i+1) % k=0):jH l k bs ((i+1) / k)=aJb (jH l k bs (i / k)) bs (i / k) (lE (fH [] (l.take (i+1)))):=by
 rcases aGx (i:=i) hk with ⟨_,h2,h3⟩ | ⟨h1,_⟩
 ·rw [h2,aXk]
  unfold iJ
  rw [h3]
 ·exact absurd h h1
def vG (l:List OpI) (k:Nat) (bs:List (List Int)):Int × Int:=if 0≤jH l k bs bs.length then (jH l k bs bs.length,13) else ((bs.length:Int),0)
theorem aMv {l:List OpI} {k:Nat} {m:Nat}:vG l k (fD l k m)=((m:Int),0):=by
 have h:jH l k (fD l k m) (fD l k m).length = -1:=by rw [iV];exact uY m (fun i hi=>mR l k hi)
 unfold vG
 rw [h,if_neg (by decide),iV]
theorem bKr {l:List OpI} {k:Nat} {bs:List (List Int)} {i:Nat} (hi:i < bs.length) (h1:∀ j,j < i→bs[j]? = some (iJ l k j)) (h2:bs[i]? ≠ some (iJ l k i)):vG l k bs=((i:Int),13):=by
 have h:=aTs (l:=l) (k:=k) (ms:=bs) bs.length hi h1 h2
 unfold vG
 rw [h,if_pos (by omega)]
theorem bJy {l:List OpI} {k:Nat} {bs:List (List Int)} {n a:Nat} (ha:a=n / k) {b:List Int} (h:0 < a) (hb:bs[a - 1]? = some b):aIv l k bs n=fH (qJ [] b) ((l.drop (a*k)).take (n - a*k)):=by
 unfold aIv
 rw [← ha,if_neg (by omega),List.getD_eq_getElem?_getD,hb,List.drop_take]
 rfl
theorem bCz {l:List OpI} {k:Nat} {bs:List (List Int)} {n a:Nat} (ha:a=n / k) (h:a=0):aIv l k bs n=fH [] ((l.drop (a*k)).take (n - a*k)):=by
 unfold aIv
 rw [← ha,if_pos h,List.drop_take]
theorem bEl {p:Nat→Prop} {i:Nat} (h:∀ j,j < i→p j) (hi:p i):∀ j,j < i+1→p j:=by
 intro j hj
 by_cases e:j=i
 ·rw [e];exact hi
 ·exact h j (by omega)
theorem bOn {l:List OpI} {k:Nat} {bs:List (List Int)} (h:∀ j,j < bs.length→bs[j]? = some (iJ l k j)):vG l k bs=((bs.length:Int),0):=by
 have e:=uY (l:=l) (k:=k) (ms:=bs) bs.length h
 unfold vG
 rw [e,if_neg (by decide)]
theorem bNh (i k:Nat):(((i+1)*k:Nat):Int)+(k:Int)=(((i+1+1)*k:Nat):Int):=by
 rw [show (i+1+1)*k=(i+1)*k+k from Nat.succ_mul (i+1) k,Int.natCast_add]
theorem bNw (l:List OpI) (o:OpI):fH [] (l++[o])=(iM (fH [] l) o).1:=by rw [sL];rfl
theorem aKe {l:List OpI} {o:OpI} {k:Nat} (hk:0 < k) (h:(l.length+1) % k=0):fD (l++[o]) k ((l++[o]).length / k)=fD l k (l.length / k)++[lE (iM (fH [] l) o).1]:=by
 have e:(l++[o]).length=l.length+1:=by simp
 rw [e,(aDc (l:=l++[o]) hk h).1,aLv o (Nat.div_mul_le_self _ _),List.take_of_length_le (by omega),bNw]
theorem aOj {l:List OpI} {o:OpI} {k:Nat} (hk:0 < k) (h:(l.length+1) % k≠0):fD (l++[o]) k ((l++[o]).length / k)=fD l k (l.length / k):=by
 have e:(l++[o]).length=l.length+1:=by simp
 rw [e,aHx hk h,aLv o (Nat.div_mul_le_self _ _)]
theorem aRq {l:List OpI} {o:OpI} (h:∀ x∈l,GoodO x) (ho:GoodO o):∀ x∈l++[o],GoodO x:=by
 intro x hx
 rcases List.mem_append.1 hx with g | g
 ·exact h x g
 ·rw [List.mem_singleton.1 g];exact ho
theorem Mem.re {w0 w:World} {X:List Nat} {S S':List eQ} (M:Mem w0 X S w) (h:∀ p:eQ→Bool,S'.countP p≤S.countP p):Mem w0 X S' w:=by
 have hm:∀ e∈S',e∈S:=by
  intro e he
  classical
  have h1:0 < S'.countP (fun x=>decide (x=e)):=List.countP_pos_iff.2 ⟨e,he,by simp⟩
  have h2:=h (fun x=>decide (x=e))
  obtain ⟨x,hx,hxe⟩:=List.countP_pos_iff.1 (Nat.lt_of_lt_of_le h1 h2)
  have:x=e:=by simpa using hxe
  rw [← this];exact hx
 refine ⟨M.os,M.tape,M.output,M.size,M.old,fun b o hb=>M.own b o (hm _ hb), ?_⟩
 have hap:=M.apart
 unfold cD at hap ⊢
 rw [List.nodup_iff_count] at hap ⊢
 intro b
 have h1:=hap b
 rw [List.count_filterMap] at h1 ⊢
 exact Nat.le_trans (h _) h1
def tC:Body:=⟨1,65536,0,0,65536,0,0,0,0,0⟩
def tC1:Body:=⟨1,65536,0,0,65536,0,0, -16,0, -1024⟩
def tC2:Body:=⟨1,65536,0,0,65536,0,0, -48,0, -2048⟩
def nK:List OpRow:=[opA tC,opZ 4,opZ 4]
theorem bYe:InB tC:=⟨by decide,by decide,by decide,by decide,by decide,by decide,by decide,by decide,by decide,by decide⟩
theorem aIi (w:World):∀ x∈nK,OpOk w x.o x.A x.n x.c:=by
 intro x hx
 simp only [nK,List.mem_cons,List.not_mem_nil,or_false] at hx
 rcases hx with rfl | rfl | rfl
 ·exact bVh w _ bYe
 ·exact aOr w _
 ·exact aOr w _
theorem aZh:∀ x∈nK,x.n=0:=by
 intro x hx
 simp only [nK,List.mem_cons,List.not_mem_nil,or_false] at hx
 rcases hx with rfl | rfl | rfl <;> rfl
theorem bWe:mM [tC]=[]:=by decide +kernel
theorem bQq:mM [tC1]=[]:=by decide +kernel
theorem bWg:sO [tC]=[tC1]:=by
 unfold sO mY
 rw [bWe]
 decide +kernel
theorem bQr:sO [tC1]=[tC2]:=by
 unfold sO mY
 rw [bQq]
 decide +kernel
theorem bWb:(iM [] (opA tC).o).1=[tC]:=by rw [bOa (o:=(opA tC).o) rfl,show pY [] (opA tC).o.body=([tC],0) by decide]
theorem bWc:(iM [tC] (opZ 4).o).1=[tC1]:=by rw [bJv (o:=(opZ 4).o) rfl];exact bWg
theorem bWd:(iM [tC1] (opZ 4).o).1=[tC2]:=by rw [bJv (o:=(opZ 4).o) rfl];exact bQr
theorem bWf:fH [] (opsO nK)=[tC2]:=by
 show (iM (iM (iM [] (opA tC).o).1 (opZ 4).o).1 (opZ 4).o).1=_
 rw [bWb,bWc,bWd]
theorem bPd:rQ [tC2] 1={ oP with body:=tC2 }:=by unfold rQ;rw [if_neg (by decide)];rfl
theorem aBx {α:Type} {l:List α} {i:Nat} {x:α} (h:l[i]? = some x):∃ a b,l=a++x::b∧a.length=i:=by
 obtain ⟨hi,hx⟩:=List.getElem?_eq_some_iff.1 h
 refine ⟨l.take i,l.drop (i+1), ?_,by rw [List.length_take];omega⟩
 rw [← hx,← List.drop_eq_getElem_cons hi,List.take_append_drop]
theorem BytR.put {T i:Nat} {a b:List Row} {r r':Row} {bs:List (List Int)} {nb:List Int} (h:BytR T (a++r::b) bs) (ha:a.length=i) (hr:bA T 1 r'.A r'.n r'.c (nb.map aZ) r'.e):BytR T (a++r'::b) (bs.set i nb):=by
 refine ⟨by rw [List.length_set,← h.len];simp,fun j q k hq hk => ?_⟩
 by_cases hj:j=i
 ·subst hj
  rw [List.getElem?_append_right (by omega),ha,Nat.sub_self] at hq
  simp only [List.getElem?_cons_zero,Option.some.injEq] at hq
  subst hq
  rw [List.getElem?_set_self (by
   have:=(List.getElem?_eq_some_iff.1 hk).1
   rwa [List.length_set] at this)] at hk
  obtain rfl:=Option.some.inj hk
  exact hr
 ·rw [List.getElem?_set_ne (fun e=>hj e.symm)] at hk
  refine h.row j q k ?_ hk
  by_cases hl:j < a.length
  ·rw [List.getElem?_append_left hl] at hq ⊢
   exact hq
  ·rw [List.getElem?_append_right (by omega)] at hq ⊢
   have hs:j - a.length≠0:=by omega
   obtain ⟨s,hs⟩:=Nat.exists_eq_succ_of_ne_zero hs
   rw [hs] at hq ⊢
   exact hq
theorem aYz {a b:List Row} {r r':Row} (h:kX r'=kX r):(a++r'::b).map kX=(a++r::b).map kX:=by
 rw [List.map_append,List.map_append,List.map_cons,List.map_cons,h]
theorem bNf {a b:List Row} {r':Row} {L T:List eQ} (hr:r'.e∈L):∀ r∈a++r'::b,r.e∈L++(T++(a.map Row.e++b.map Row.e)):=by
 intro r h
 rcases List.mem_append.1 h with g | g
 ·exact List.mem_append_right _ (List.mem_append_right _ (List.mem_append_left _ (fY r g)))
 ·rcases List.mem_cons.1 g with e | g
  ·rw [e]
   exact List.mem_append_left _ hr
  ·exact List.mem_append_right _ (List.mem_append_right _ (List.mem_append_right _ (fY r g)))
theorem BytRd.snocNil {w:World} {A A':Option Addr} {n n':Nat} {rs:List Row} {bs:List (List Int)} (h:BytRd w A n rs bs) (hr:Rd w 1 A' n' ((rs++[eN]).map kX)):BytRd w A' n' (rs++[eN]) (bs++[[]]):=by
 refine ⟨hr,by simp [h.len],fun j r b hj hb => ?_⟩
 by_cases hl:j < rs.length
 ·rw [List.getElem?_append_left hl] at hj
  rw [List.getElem?_append_left (by rw [← h.len];exact hl)] at hb
  exact h.row j r b hj hb
 ·have hj2:j=rs.length:=by
   have:=(List.getElem?_eq_some_iff.1 hj).1
   simp at this
   omega
  rw [hj2,List.getElem?_append_right (Nat.le_refl _),Nat.sub_self] at hj
  rw [hj2,h.len,List.getElem?_append_right (Nat.le_refl _),Nat.sub_self] at hb
  simp only [List.getElem?_cons_zero,Option.some.injEq] at hj hb
  subst hj hb
  exact ⟨Rd.nil _ _ _,by simp [gU],Nat.le_refl _⟩
theorem aLt (l:List OpI) (k i:Nat):8≤(iJ l k i).length:=by unfold iJ;rw [aGy];omega
theorem aCh {y:Int} (h:0≤y∧y≤255):(y+1) % 256≠y∧0≤(y+1) % 256∧(y+1) % 256≤255:=by omega
theorem bAu {b:List Int} (h:gU b) (j:Nat) {y:Int} (hy:0≤y∧y≤255):gU (b.set j y):=by
 intro x hx
 rcases List.mem_or_eq_of_mem_set hx with g | g
 ·exact h x g
 ·rw [g];exact hy
theorem bCd {l:List OpI} {k m i j:Nat} {y:Int} (hi:i < m) (hy:(iJ l k i)[j]? = some y) (hb:0≤y∧y≤255):vG l k ((fD l k m).set i ((iJ l k i).set j ((y+1) % 256)))=((i:Int),13):=by
 have hjl:=(List.getElem?_eq_some_iff.1 hy).1
 refine bKr (by rw [List.length_set,iV];exact hi) (fun a ha=>by rw [List.getElem?_set_ne (by omega)];exact mR l k (by omega)) ?_
 rw [List.getElem?_set_self (by rw [iV];exact hi)]
 intro e
 have e:=Option.some.inj e
 have h:((iJ l k i).set j ((y+1) % 256))[j]? = (iJ l k i)[j]? := congrArg (fun b:List Int=>b[j]?) e
 rw [List.getElem?_set_self hjl,hy] at h
 exact (aCh hb).1 (Option.some.inj h)
theorem aHy {l:List OpI} {k m i j:Nat} {y:Int} (hb:0≤y∧y≤255):∀ b∈(fD l k m).set i ((iJ l k i).set j ((y+1) % 256)),gU b:=by
 intro b h
 rcases List.mem_or_eq_of_mem_set h with g | g
 ·exact oX b g
 ·rw [g]
  exact bAu (xG _) j ⟨(aCh hb).2.1,(aCh hb).2.2⟩
theorem aVw (l:List OpI) (k i:Nat):gU (iJ l k i):=xG _
theorem aZd {r r':Row} {b:List Row} {o':OpI} (h:r'.A=r.A∧r'.n=r.n∧r'.c=r.c):∀ (a:List Row) (os:List OpI) (i:Nat),a.length=i→(kN os (a++r::b)).set i ⟨o',r.A,r.n,r.c⟩=kN (os.set i o') (a++r'::b)
 | [],os,i,ha=>by
  obtain rfl:i=0:=by simpa using ha.symm
  cases os with
  | nil=>rfl
  | cons o os =>
   obtain ⟨h1,h2,h3⟩:=h
   show (⟨o',r.A,r.n,r.c⟩:OpRow)::kN os b=⟨o',r'.A,r'.n,r'.c⟩::kN os b
   rw [h1,h2,h3]
 | x::a,os,i,ha=>by
  obtain ⟨i,rfl⟩:∃ j,i=j+1:=⟨a.length,by simpa using ha.symm⟩
  cases os with
  | nil=>rfl
  | cons o os =>
   show (⟨o,x.A,x.n,x.c⟩:OpRow)::(kN os (a++r::b)).set i ⟨o',r.A,r.n,r.c⟩=⟨o,x.A,x.n,x.c⟩::kN (os.set i o') (a++r'::b)
   rw [aZd h a os i (by simpa using ha)]
theorem aSh {r r':Row} {b:List Row} (h:r'.A=r.A∧r'.n=r.n∧r'.c=r.c):∀ (a:List Row) (os:List OpI),kN os (a++r'::b)=kN os (a++r::b)
 | [],os=>by
  cases os with
  | nil=>rfl
  | cons o os =>
   obtain ⟨h1,h2,h3⟩:=h
   show (⟨o,r'.A,r'.n,r'.c⟩:OpRow)::kN os b=⟨o,r.A,r.n,r.c⟩::kN os b
   rw [h1,h2,h3]
 | x::a,os=>by
  cases os with
  | nil=>rfl
  | cons o os =>
   show (⟨o,x.A,x.n,x.c⟩:OpRow)::kN os (a++r'::b)=⟨o,x.A,x.n,x.c⟩::kN os (a++r::b)
   rw [aSh h a os]
theorem aOt {r r':Row} {a b:List Row}:(a++r'::b).length=(a++r::b).length:=by simp
def wT (l:List OpI) (z:Int) (bs:List (List Int)) (m n:Nat):Int × Int:=if z < 1 then (0,1) else if m=n / z.toNat then vG l z.toNat bs else (0,1)
theorem aTr {l:List OpI} {z:Int} {bs:List (List Int)} {m n:Nat} (h:z < 1):wT l z bs m n=(0,1):=if_pos h
theorem aZz {l:List OpI} {k:Nat} {bs:List (List Int)} {m n:Nat} (hk:0 < k) (h:m=n / k):wT l (k:Int) bs m n=vG l k bs:=by
 unfold wT
 rw [if_neg (by omega),Int.toNat_natCast,if_pos h]
theorem aTq {l:List OpI} {k:Nat} {bs:List (List Int)} {m n:Nat} (hk:0 < k) (h:m≠n / k):wT l (k:Int) bs m n=(0,1):=by
 unfold wT
 rw [if_neg (by omega),Int.toNat_natCast,if_neg h]
end Go.Bil

namespace Go.Bil
open Go Go.RowKit Go.Deep
section
variable {H:Type} {enc:TypeId × Value→H} {P:Program} {w:World} {base:Nat} {spare:Nat→Bool} {held:Bool}
theorem aDt:∀ ls:List (List Value),(∀ l∈ls,∃ (r:Row) (k:List Int),l=kX r∧Rd w 1 r.A r.n (k.map aZ)∧gU k∧r.n≤r.c)→∃ (rs:List Row) (L:List (List Int)),ls=rs.map kX∧rs.length=L.length∧∀ (j:Nat) (r:Row) (k:List Int),rs[j]? = some r→L[j]? = some k→Rd w 1 r.A r.n (k.map aZ)∧gU k∧r.n≤r.c
 | [],_=>⟨[],[],rfl,rfl,by simp⟩
 | l::ls,h=>by
  obtain ⟨r,k,rfl,hr⟩:=h l (by simp)
  obtain ⟨rs,L,rfl,hl,hh⟩:=aDt ls (fun q hq=>h q (by simp [hq]))
  refine ⟨r::rs,k::L,rfl,by simp [hl],fun j q m hq hm => ?_⟩
  cases j with
  | zero =>
   simp only [List.getElem?_cons_zero,Option.some.injEq] at hq hm
   subst hq hm
   exact hr
  | succ j=>exact hh j q m (by simpa using hq) (by simpa using hm)
theorem aSj {t t1 e b1 b0 m:Nat} {A:Option Addr} {len cap:Nat} {d:DataW H} {ps:List MemPlace} (ht:fN P t t1 1 b1=true) (ht1:fN P t1 e 1 b0=true) (he:nC P m e=some [.u8]) (hw:∀ n∈d.weights P t,n≤reachBytes)
  (h:DataW.Trod enc P w base spare held t (.slice A len cap) d ps):∃ (rs:List Row) (L:List (List Int)),BytRd w A len rs L:=by
 have hbig:=sM hw ht h
 obtain ⟨h1,h2,h3,h4,h5,h6,zv,hzv,hzs⟩:=fT ht
 obtain ⟨g1,g2,g3,g4,g5,g6,yv,hyv,hys⟩:=fT ht1
 obtain ⟨fuel,hf⟩:=h
 have hle:len≤140737488351232:=Nat.le_trans (Nat.le_mul_of_pos_right _ (Nat.pos_of_ne_zero h6)) hbig
 rcases open_slice1 h1 h3 hf with ⟨hcs,_⟩ | ⟨a,l,c,m',n,V,D,Pl,hcs,hb,hlc,_,hm,hx0,hx⟩
 ·simp only [Value.cells,List.cons.injEq,Value.slice.injEq,and_true] at hcs
  obtain ⟨rfl,rfl,rfl⟩:=hcs
  exact ⟨[],[],Rd.nil w 1 none,rfl,by simp⟩
 ·simp only [Value.cells,List.cons.injEq,Value.slice.injEq,and_true] at hcs
  obtain ⟨rfl,rfl,rfl⟩:=hcs
  obtain ⟨rfl,_⟩:=Prod.mk.inj hx0
  have hlm:len≤m':=by rw [hm];split <;> omega
  have hww:=(tA h1 hw).2
  have hall:∀ i,i < len→∃ cs':List Value,cs'.length=1∧(∀ j,j < 1→w.cell? (a.add (i*1+j))=cs'[j]?)∧(∃ (r:Row) (k:List Int),cs'=kX r∧Rd w 1 r.A r.n (k.map aZ)∧gU k∧r.n≤r.c):=fun i hi=>by
   obtain ⟨hc,ht'⟩:=hx i (by omega)
   obtain ⟨A',n',c',hV,hnc⟩:=uV g1 ht'
   simp only [List.cons.injEq,and_true] at hV
   have hT:DataW.Trod enc P w base spare held t1 (.slice A' n' c') (D i) (Pl i):=⟨n,by rw [hV] at ht';exact ht'⟩
   have hs:=sM (hww (D i) (List.mem_map.2 ⟨i,List.mem_range.2 hi,rfl⟩)) ht1 hT
   obtain ⟨ls,R,hI⟩:=aMe ht1 he rfl hs hT
   obtain ⟨xs,rfl,hxs⟩:=aOe bEv ls hI
   refine ⟨[V i],Z,fun j hj => ?_,⟨A',n',c',default⟩,xs,by rw [hV];rfl,R,hxs,hnc⟩
   obtain rfl:j=0:=by omega
   rw [Nat.mul_one,Nat.add_zero,List.getElem?_cons_zero]
   exact hc
  obtain ⟨ls,R,hQ⟩:=aEp (by omega) (by omega) hall
  obtain ⟨rs,L,rfl,hl,hh⟩:=aDt ls hQ
  exact ⟨rs,L,R,hl,hh⟩
structure LogT (P:Program) (m T T0 T1 T2 Top T21 e8 b0 b2 b8:Nat) (fs:Array Field):Prop where
 u:P.underlying T=some (.struct fs)
 f:fs.toList.map (fun f=>(f.type,f.offset))=[(T0,0),(T1,1),(T2,2)]
 sz:P.cellsOf T=3
 l1:nC P m T1=some [.i64]
 l8:nC P m e8=some [.u8]
 c0:P.cellsOf T0=1
 c1:P.cellsOf T1=1
 c2:P.cellsOf T2=1
 s0:fN P T0 Top 15 b0=true
 s2:fN P T2 T21 1 b2=true
 s3:fN P T21 e8 1 b8=true
theorem aTo {α:Type} {l:List α} (h:l.length=3):l=l.take 1++(((l.drop 1).take 1)++((l.drop 2).take 1)):=by
 have e2:(l.drop 2).take 1=l.drop 2:=List.take_of_length_le (by rw [List.length_drop];omega)
 have e1:(l.drop 1).take 1++l.drop 2=l.drop 1:=by have g:=List.take_append_drop 1 (l.drop 1);rwa [List.drop_drop] at g
 rw [e2,e1,List.take_append_drop]
theorem bIw {m T T0 T1 T2 Top T21 e8 b0 b2 b8 o0 o1 o2 o3 o4:Nat} {v:Value} {d:DataW H} {ps:List MemPlace} (O:∃ fs,LogT P m T T0 T1 T2 Top T21 e8 b0 b2 b8 fs) (Q:∃ fs,OpT P m Top o0 o1 o2 o3 o4 e8 b8 fs) (hw:∀ n∈d.weights P T,n≤reachBytes)
  (h:DataW.Trod enc P w base spare held T v d ps):∃ (A:Option Addr) (n c:Nat) (l:List OpRow) (z:Int) (B:Option Addr) (k e:Nat) (rs:List Row) (bs:List (List Int)),v=.agg [.slice A n c,.int .i64 z,.slice B k e].toArray∧OpsRd w A n l∧n≤c∧BytRd w B k rs bs:=by
 obtain ⟨fs,O⟩:=O
 obtain ⟨fuel,hx⟩:=h
 obtain ⟨xs,k,_,hd,hl,hxl,hfs⟩:=DataW.trod_struct O.u hx
 rw [O.sz] at hl
 have hlen:fs.toList.length=3:=by have:=congrArg List.length O.f;simpa using this
 have hf:∀ (i:Nat) (t o:Nat),[(T0,0),(T1,1),(T2,2)][i]? = some (t,o)→∃ f,fs[i]? = some f∧f.type=t∧f.offset=o:=by
  intro i t o hi
  rw [← O.f,List.getElem?_map] at hi
  cases hq:fs.toList[i]? with
  | none=>rw [hq] at hi;cases hi
  | some f =>
   rw [hq] at hi
   simp only [Option.map_some,Option.some.injEq,Prod.mk.injEq] at hi
   exact ⟨f,by simpa using hq,hi⟩
 obtain rfl:d=.agg (xs.map (·.1)):=(Prod.mk.inj hd).1
 have part:∀ (i:Nat) (t o z:Nat),[(T0,0),(T1,1),(T2,2)][i]? = some (t,o)→P.cellsOf t=z→∃ y,xs[i]? = some y∧DataW.trod enc P w base spare held k t ((v.cells.toList.drop o).take z)=some y∧∀ n∈y.1.weights P t,n≤reachBytes:=by
  intro i t o z hi hz
  obtain ⟨f,h1,rfl,rfl⟩:=hf i t o hi
  have h2:=hfs i f h1
  have hlt:i < xs.length:=by rw [hxl];exact (Array.getElem?_eq_some_iff.1 h1).1
  have hq:=List.getElem?_eq_getElem hlt
  rw [hq,hz] at h2
  refine ⟨_,hq,h2,fun n hn=>hw n ?_⟩
  simp only [DataW.weights,O.u]
  have g1':fs.toList[i]? = some f:=by simpa using h1
  exact DataW.weights_mem_each (j:=i) (by rw [List.getElem?_map,g1'];rfl) (by rw [List.getElem?_map,hq];rfl) n hn
 obtain ⟨y0,_,p0,w0⟩:=part 0 T0 0 1 rfl O.c0
 obtain ⟨y1,_,p1,_⟩:=part 1 T1 1 1 rfl O.c1
 obtain ⟨y2,_,p2,w2⟩:=part 2 T2 2 1 rfl O.c2
 obtain ⟨A,n,c,e0,hnc⟩:=uV (fT O.s0).1 p0
 obtain ⟨B,m',c',e2,_⟩:=uV (fT O.s2).1 p2
 have i1:=lB m T1 _ k _ _ O.l1 p1
 obtain ⟨z,l',e1,_,hl'⟩:=iA i1
 obtain rfl:=tS hl'
 have hT0:DataW.Trod enc P w base spare held T0 (.slice A n c) y0.1 y0.2:=⟨k,by rw [e0] at p0;exact p0⟩
 have hT2:DataW.Trod enc P w base spare held T2 (.slice B m' c') y2.1 y2.2:=⟨k,by rw [e2] at p2;exact p2⟩
 obtain ⟨l,R⟩:=wD O.s0 Q w0 hT0
 obtain ⟨rs,bs,RB⟩:=aSj O.s2 O.s3 O.l8 w2 hT2
 refine ⟨A,n,c,l,z,B,m',c',rs,bs, ?_,R,hnc,RB⟩
 have e:=aTo hl
 rw [List.drop_zero] at e0
 rw [e0,e1,e2] at e
 cases v with
 | agg cs =>
  have e':cs.toList=[.slice A n c,.int .i64 z,.slice B m' c']:=by simpa [Value.cells] using e
  rw [← e']
 | _ =>
  exfalso
  simp [Value.cells] at hl
end
end Go.Bil
