/- Part of the proof of a law of this seat (13 texts). No conditions. -/
import Derived.Test.YtaoaknafiegfoaaGreatDoorK18
import Derived.Test.YtaoaknafiegfoaaGreatDoorK32
set_option linter.unusedVariables false
set_option linter.unusedSimpArgs false
set_option linter.unnecessarySimpa false
set_option maxHeartbeats 100000000
namespace Go.Bil
def pushB (b:Body) (j:Int × Int):Body:={ b with vx:=jG (b.vx+j.1*b.mass / 65536) 16777216,vy:=jG (b.vy+j.2*b.mass / 65536) 16777216 }
theorem aOz {b:Body} (h:Okb b) (j:Int × Int):Okb (pushB b j):=⟨h.r,h.a,h.m,h.c,h.p,⟨(eJ _ (by decide)).1,(eJ _ (by decide)).2,(eJ _ (by decide)).1,(eJ _ (by decide)).2⟩⟩
theorem zG {b:Body} (h:Okb b):check b=0:=by
 have h1:=h.r
 have h2:=h.a
 have h3:=h.m
 have h4:=h.c
 have h5:=h.p
 have h6:=h.v
 unfold check inR
 rw [if_neg (by omega),if_neg (by omega),if_neg (by omega),if_neg (by omega),if_neg (by omega),if_neg (by omega)]
def rV (v:List Body) (k:Int) (j:Int × Int):List Body × Int:=if cI k v < 0 then (v,11) else (aGc v (pushB (v.getD (cI k v).toNat default) j) false,0)
structure OpI where
 kind:Int
 body:Body
 key:Int
 push:Int × Int
 bytes:List Int
structure ResI where
 err:Int
 body:Body
 bytes:List Int
 cont:Int
 cl:Bool
def kG:ResI:=⟨0,aYm,[],0,false⟩
def rU (v:List Body) (k:Int):ResI:=if cI k v < 0 then { kG with err:=11 } else { kG with body:=v.getD (cI k v).toNat default }
def nD (v:List Body) (l:List Int):List Body:=if (kX l).2=0 then (kX l).1 else v
def doR (v:List Body) (o:OpI):List Body × ResI :=
 if o.kind=0 then ((pZ v o.body).1,{ kG with err:=(pZ v o.body).2 })
 else if o.kind=1 then ((iJ v o.key).1,{ kG with err:=(iJ v o.key).2 })
 else if o.kind=2 then ((rV v o.key o.push).1,{ kG with err:=(rV v o.key o.push).2 })
 else if o.kind=3 then (oF v,{ kG with cont:=((lL v).length:Int),cl:=sA v })
 else if o.kind=4 then (v,{ kG with bytes:=iK v })
 else if o.kind=5 then (nD v o.bytes,{ kG with err:=(kX o.bytes).2 })
 else if o.kind=6 then (v,rU v o.key)
 else (v,kG)
structure GoodV (v:List Body):Prop where
 s:bY v
 len:v.length≤4096
 ok:∀ b∈v,check b=0
 inb:∀ b∈v,InB b
theorem GoodV.okb {v:List Body} (h:GoodV v):∀ b∈v,Okb b:=fun b hb=>aKj (h.ok b hb)
theorem GoodV.chk {v:List Body} (h:GoodV v):iB v=0:=aUj (aYg h.len h.ok) h.s
theorem GoodV.nil:GoodV []:=⟨by simp [bY],by simp,by simp,by simp⟩
def bQ (T:Nat) (r:StV) (v:List Body):Prop:=GoodV v∧∃ m,StoreIs T r.A r.n r.c r.p r.er r.em m∧Rel m v
theorem yG {T:Nat} {r:StV} {m v:List Body} (h:StoreIs T r.A r.n r.c r.p r.er r.em m) (R:Rel m v) (hi:∀ b∈m,InB b):bQ T r v :=
 ⟨⟨R.sorted,by rw [R.perm.length_eq];exact h.cap,fun b hb=>h.ok b (R.perm.mem_iff.1 hb),fun b hb=>hi b (R.perm.mem_iff.1 hb)⟩,m,h,R⟩
theorem bQ.new (T:Nat) (o o':Obj):bQ T ⟨none,0,0,none,(none,o),(none,o')⟩ []:=yG (StoreIs.nil T o o') Rel.nil (by simp)
theorem aQm {m:List Body} {x:Body} (h:∀ b∈m,InB b) (hx:InB x):∀ b∈(lF m x).1,InB b:=by
 intro b hb
 unfold lF at hb
 split at hb
 ·exact h b hb
 ·split at hb
  ·exact h b hb
  ·split at hb
   ·exact h b hb
   ·rcases List.mem_append.1 hb with h1 | h1
    ·exact h b h1
    ·rw [List.mem_singleton] at h1;subst h1;exact hx
theorem zA {m:List Body} (hk:iL m) {k:Int} (h:∀ b∈m,InB b):∀ b∈(jJ m k).1,InB b:=fun b hb=>h b (uJ.1 ((xF hk k).mem_iff.1 hb)).1
theorem aOo {m:List Body} {x:Body} (h:∀ b∈m,InB b) (hx:InB x):∀ b∈(pN m x).1,InB b:=by
 intro b hb
 unfold pN at hb
 split at hb
 ·exact h b hb
 ·split at hb
  ·exact h b hb
  ·rcases List.mem_or_eq_of_mem_set hb with h1 | h1
   ·exact h b h1
   ·subst h1;exact hx
theorem GoodV.inm {v m:List Body} (h:GoodV v) (R:Rel m v):∀ b∈m,InB b:=fun b hb=>h.inb b (R.perm.mem_iff.2 hb)
theorem aPy {b:Body} (h:InB b) (j:Int × Int):InB (pushB b j):=by
 obtain ⟨h0,h1,h2,h3,h4,h5,h6,h7,h8,h9⟩:=h
 have a:=eJ (b.vx+j.1*b.mass / 65536) (l:=16777216) (by decide)
 have c:=eJ (b.vy+j.2*b.mass / 65536) (l:=16777216) (by decide)
 exact ⟨h0,h1,h2,h3,h4,h5,h6,h7,⟨by show -2147483648≤jG _ _;omega,by show jG _ _≤2147483647;omega⟩,⟨by show -2147483648≤jG _ _;omega,by show jG _ _≤2147483647;omega⟩⟩
theorem bAm {xs ys:List Body} (l:Like xs ys) (hx:∀ b∈xs,InB b) (hy:∀ b∈ys,Okb b):∀ b∈ys,InB b:=by
 intro b hb
 obtain ⟨i,hi⟩:=List.getElem?_of_mem hb
 have hlt:i < xs.length:=by rw [← l.len];exact (List.getElem?_eq_some_iff.1 hi).1
 have hxi:=List.getElem?_eq_getElem hlt
 have hs:=l.at_ i _ b hxi hi
 obtain ⟨h0,_⟩:=hx _ (List.getElem_mem hlt)
 have o:=hy b hb
 have o1:=o.r
 have o2:=o.a
 have o3:=o.m
 have o4:=o.c
 have o5:=o.p
 have o6:=o.v
 have:=hs.key
 exact ⟨by omega,by omega,by omega,by omega,by omega,by omega,by omega,by omega,by omega,by omega⟩
theorem GoodV.step {v:List Body} (h:GoodV v):GoodV (oF v) :=
 ⟨(vZ v).sorted h.s,by rw [(vZ v).len];exact h.len,fun b hb=>zG (aPr h.okb b hb),bAm (vZ v) h.inb (aPr h.okb)⟩
theorem GoodV.dec {l:List Int} (hl:gA l) (hn:l.length≤1000000) (h:(kX l).2=0):GoodV (kX l).1:=by
 have d:=bDo hl h
 have hc:=d.c
 have h1:pM (kX l).1=0:=by
  unfold iB at hc
  split at hc
  ·rename_i hne;exact absurd hc hne
  ·rename_i hne;exact Decidable.not_not.1 hne
 obtain ⟨h2,h3⟩:=aYe h1
 refine ⟨?_,h2,h3,d.inb⟩
 unfold iB at hc
 rw [if_neg (by omega)] at hc
 by_cases ha:aCs (kX l).1=true
 ·exact qL ha
 ·rw [if_neg ha] at hc;omega
theorem aJo {v:List Body} (h:GoodV v):∀ k,k≤v.length→aEf (v.take k)=v.take k:=by
 intro k hk
 rw [yT h.s.keys h.len k hk]
 exact List.filter_eq_self.2 fun b hb=>by simpa using h.ok b (List.mem_of_mem_take hb)
theorem uE {v:List Body} (h:bY v):Rel v v:=⟨List.Perm.refl _,h⟩
theorem aTs {v:List Body} {l:List Int} (h:GoodV v) (hl:gA l) (hn:l.length≤1000000):GoodV (nD v l):=by
 unfold nD
 split
 ·rename_i hd;exact GoodV.dec hl hn hd
 ·exact h
theorem aBf {v:List Body} {k:Int} {i:Nat} {b:Body} (hf:cI k v=(i:Int)) (hb:v[i]? = some b):v.getD (cI k v).toNat default=b:=by
 rw [hf,Int.toNat_natCast,List.getD_eq_getElem?_getD,hb]
 rfl
theorem aDs {v:List Body} (h:GoodV v):kX (iK v)=(v,0):=aVd h.inb h.len h.chk
theorem aOs {m v:List Body} (R:Rel m v) (h:GoodV v) {k:Int} {i:Nat} {b:Body} (j:Int × Int) (hf:cI k v=(i:Int)) (hb:v[i]? = some b):Rel (pN m (pushB b j)).1 (rV v k j).1∧(pN m (pushB b j)).2=0∧(rV v k j).2=0∧(rV v k j).1=aGc v (pushB b j) false:=by
 have hbm:b∈v:=List.mem_of_getElem? hb
 have hi:(rV v k j)=(aGc v (pushB b j) false,0):=by unfold rV;rw [if_neg (by omega),aBf hf hb]
 have hk:b.key=k:=by
  rcases dG k v with ⟨h1,_⟩ | ⟨q,c,h1,h2,h3⟩
  ·omega
  ·have:q=i:=by omega
   subst this
   rw [h1] at hb;injection hb with hb;rw [← hb];exact h2
 have hp:check (pushB b j)=0:=zG (aOz (h.okb b hbm) j)
 obtain ⟨h1,h2⟩:=R.set (pushB b j)
 have hs:aWz v (pushB b j)=(aGc v (pushB b j) false,0):=by
  unfold aWz
  rw [if_neg (by omega),if_neg (by show ¬ cI b.key v < 0;rw [hk];omega)]
 rw [hs] at h1 h2
 exact ⟨by rw [hi];exact h1,h2.symm,by rw [hi],by rw [hi]⟩
theorem zC {v:List Body} {k:Int} (j:Int × Int) (h:cI k v < 0):rV v k j=(v,11):=by unfold rV;rw [if_pos h]
end Go.Bil
namespace Go.Bil
theorem bMi {j m:Int} (hj : -2147483648≤j∧j≤2147483647) (hm:0≤m∧m≤1048576) : -2251799813685248≤j*m∧j*m≤2251799813685248:=by
 have h1:j*m≤2147483647*m:=Int.mul_le_mul_of_nonneg_right hj.2 hm.1
 have h2 : -2147483648*m≤j*m:=Int.mul_le_mul_of_nonneg_right hj.1 hm.1
 omega
theorem bAu {m v:List Body} (R:Rel m v) (k:Int):zY m k=((rU v k).body,(rU v k).err):=by
 rcases R.get k with ⟨h1,h2⟩ | ⟨i,b,h1,h2,h3⟩
 ·rw [h2];unfold rU;rw [if_pos h1];rfl
 ·rw [h3];unfold rU;rw [if_neg (by omega),aBf h1 h2];rfl
end Go.Bil
namespace Go.Bil
theorem bMa {v:List Body} {o:OpI} (h0:o.kind=0):doR v o=((pZ v o.body).1,{ kG with err:=(pZ v o.body).2 }):=by unfold doR;rw [if_pos h0]
theorem bLg {v:List Body} {o:OpI} (h:o.kind=1):doR v o=((iJ v o.key).1,{ kG with err:=(iJ v o.key).2 }):=by unfold doR;rw [if_neg (by omega),if_pos h]
theorem bLi {v:List Body} {o:OpI} (h:o.kind=2):doR v o=((rV v o.key o.push).1,{ kG with err:=(rV v o.key o.push).2 }):=by unfold doR;rw [if_neg (by omega),if_neg (by omega),if_pos h]
theorem bLc {v:List Body} {o:OpI} (h:o.kind=3):doR v o=(oF v,{ kG with cont:=((lL v).length:Int),cl:=sA v }):=by unfold doR;rw [if_neg (by omega),if_neg (by omega),if_neg (by omega),if_pos h]
theorem bLl {v:List Body} {o:OpI} (h:o.kind=4):doR v o=(v,{ kG with bytes:=iK v }):=by unfold doR;rw [if_neg (by omega),if_neg (by omega),if_neg (by omega),if_neg (by omega),if_pos h]
theorem bLk {v:List Body} {o:OpI} (h:o.kind=5):doR v o=(nD v o.bytes,{ kG with err:=(kX o.bytes).2 }):=by unfold doR;rw [if_neg (by omega),if_neg (by omega),if_neg (by omega),if_neg (by omega),if_neg (by omega),if_pos h]
theorem bNg {v:List Body} {o:OpI} (h:o.kind=6):doR v o=(v,rU v o.key):=by unfold doR;rw [if_neg (by omega),if_neg (by omega),if_neg (by omega),if_neg (by omega),if_neg (by omega),if_neg (by omega),if_pos h]
theorem bNj {v:List Body} {o:OpI} (h0:¬ o.kind=0) (h1:¬ o.kind=1) (h2:¬ o.kind=2) (h3:¬ o.kind=3) (h4:¬ o.kind=4) (h5:¬ o.kind=5) (h6:¬ o.kind=6):doR v o=(v,kG):=by
 unfold doR;rw [if_neg h0,if_neg h1,if_neg h2,if_neg h3,if_neg h4,if_neg h5,if_neg h6]
def dR (o:OpI) (A:Option Addr) (n c:Nat):List Value:=[.int .i64 o.kind]++aF o.body++[.int .u32 o.key,.int .i32 o.push.1,.int .i32 o.push.2,.slice A n c]
structure OpOk (w:World) (o:OpI) (A:Option Addr) (n c:Nat):Prop where
 rd:Rd w 1 A n (o.bytes.map bG)
 cap:n≤c
 byt:gA o.bytes
 body:InB o.body
 p1 : -2147483648≤o.push.1∧o.push.1≤2147483647
 p2 : -2147483648≤o.push.2∧o.push.2≤2147483647
theorem OpOk.len {w:World} {o:OpI} {A:Option Addr} {n c:Nat} (h:OpOk w o A n c):o.bytes.length=n:=by simpa using h.rd.len
theorem OpOk.mem {w0 w:World} {S:List cY} {o:OpI} {A:Option Addr} {n c:Nat} (h:OpOk w0 o A n c) (M:Mem w0 [] S w):OpOk w o A n c:=⟨h.rd.mem M,h.cap,h.byt,h.body,h.p1,h.p2⟩
theorem OpOk.memY {w0 w:World} {X:List Nat} {S:List cY} {o:OpI} {A:Option Addr} {n c:Nat} (h:OpOk w0 o A n c) (M:Mem w0 X S w) (hX:0 < n→∀ q off,A=Option.some ⟨q,off,none⟩→q∉X):OpOk w o A n c:=⟨h.rd.memY M hX,h.cap,h.byt,h.body,h.p1,h.p2⟩
structure OpRow where
 o:OpI
 A:Option Addr
 n:Nat
 c:Nat
def OpRow.cells (x:OpRow):List Value:=dR x.o x.A x.n x.c
structure OpsRd (w:World) (A:Option Addr) (n:Nat) (l:List OpRow):Prop where
 rd:Rd w 15 A n (l.map OpRow.cells)
 each:∀ x∈l,OpOk w x.o x.A x.n x.c
theorem OpsRd.mem {w0 w:World} {S:List cY} {A:Option Addr} {n:Nat} {l:List OpRow} (h:OpsRd w0 A n l) (M:Mem w0 [] S w):OpsRd w A n l:=⟨h.rd.mem M,fun x hx=>(h.each x hx).mem M⟩
end Go.Bil
namespace Go.Bil
end Go.Bil
namespace Go.Bil
theorem aTi {v:List Body} (h:GoodV v) (u:List Body):nD u (iK v)=v:=by unfold nD;rw [aDs h];rfl
end Go.Bil
namespace Go.Bil
end Go.Bil
namespace Go.Bil
end Go.Bil

namespace Go.Bil
def iU (v:List Body) (o:OpI):List Body × ResI:=if o.kind < 1∨6 < o.kind then (v,{ kG with err:=1 }) else doR v { o with kind:=o.kind - 1 }
def fX (v:List Body):List OpI→List Body
 | []=>v
 | o::l=>fX (iU v o).1 l
def jF (v:List Body):List OpI→List ResI
 | []=>[]
 | o::l=>(iU v o).2::jF (iU v o).1 l
theorem nH (v:List Body):∀ (a b:List OpI),fX v (a++b)=fX (fX v a) b
 | [],b=>rfl
 | o::a,b=>nH (iU v o).1 a b
theorem xD (v:List Body):∀ (a b:List OpI),jF v (a++b)=jF v a++jF (fX v a) b:=by
 intro a
 induction a generalizing v with
 | nil=>intro b;rfl
 | cons o a ih=>intro b;show _::jF (iU v o).1 (a++b)=_;rw [ih];rfl
theorem kM {v:List Body} {l:List OpI} {i:Nat} {o:OpI} (h:l[i]? = some o):fX v (l.take (i+1))=(iU (fX v (l.take i)) o).1:=by rw [cQ h,nH];rfl
theorem iA {v:List Body} {l:List OpI} {i:Nat} {o:OpI} (h:l[i]? = some o):jF v (l.take (i+1))=jF v (l.take i)++[(iU (fX v (l.take i)) o).2]:=by rw [cQ h,xD];rfl
theorem kY (v:List Body):∀ l:List OpI,(jF v l).length=l.length
 | []=>rfl
 | o::l=>by show (jF (iU v o).1 l).length+1=l.length+1;rw [kY (iU v o).1 l]
theorem sO {v:List Body} {o:OpI} (h:¬ (1≤o.kind∧o.kind≤6)):iU v o=(v,{ kG with err:=1 }):=by unfold iU;rw [if_pos (by omega)]
end Go.Bil

namespace Go.Bil
structure OkO (o:OpI):Prop where
 body:InB o.body
 byt:gA o.bytes
 len:o.bytes.length≤1000000
theorem yO {m v:List Body} (R:Rel m v) (hl:m.length≤4096) (hc:∀ b∈m,check b=0) (hi:∀ b∈m,InB b):GoodV v :=
 ⟨R.sorted,by rw [R.perm.length_eq];exact hl,fun b hb=>hc b (R.perm.mem_iff.1 hb),fun b hb=>hi b (R.perm.mem_iff.1 hb)⟩
theorem aWv {v:List Body} {b:Body} (h:GoodV v) (hb:InB b):GoodV (pZ v b).1:=by
 have R:=((uE h.s).add b).1
 obtain ⟨_,h2,h3⟩:=aGh (x:=b) ⟨h.s.keys,h.len,h.ok⟩
 exact yO R h2 h3 (aQm h.inb hb)
theorem aIf {v:List Body} {k:Int} (h:GoodV v):GoodV (iJ v k).1:=by
 have R:=((uE h.s).remove k).1
 have p:=xF h.s.keys k
 refine yO R ?_ (fun b hb=>h.ok b (uJ.1 (p.mem_iff.1 hb)).1) (zA h.s.keys h.inb)
 rw [p.length_eq]
 exact Nat.le_trans (List.length_filter_le _ _) h.len
theorem aZw {v:List Body} {k:Int} {j:Int × Int} (h:GoodV v):GoodV (rV v k j).1:=by
 by_cases hf:cI k v < 0
 ·rw [zC j hf];exact h
 ·obtain ⟨i,bb,hbi,_,hfi⟩:=(dG k v).resolve_left (fun g=>hf (by omega))
  obtain ⟨h1,h2,_,_⟩:=aOs (uE h.s) h j hfi hbi
  have hbm:=List.mem_of_getElem? hbi
  have hin:=aOo h.inb (aPy (h.inb bb hbm) j)
  have hsm:∀ b∈(pN v (pushB bb j)).1,b∈v∨b=pushB bb j:=by
   intro b hb
   unfold pN at hb
   split at hb
   ·exact .inl hb
   ·split at hb
    ·exact .inl hb
    ·exact List.mem_or_eq_of_mem_set hb
  refine yO h1 ?_ (fun b hb => ?_) hin
  ·unfold pN
   split
   ·exact h.len
   ·split
    ·exact h.len
    ·rw [List.length_set];exact h.len
  ·rcases hsm b hb with g | rfl
   ·exact h.ok b g
   ·exact zG (aOz (h.okb bb hbm) j)
theorem bBg {v:List Body} {o:OpI} (h:GoodV v) (ho:OkO o):GoodV (doR v o).1:=by
 by_cases h0:o.kind=0
 ·rw [bMa h0];exact aWv h ho.body
 by_cases h1:o.kind=1
 ·rw [bLg h1];exact aIf h
 by_cases h2:o.kind=2
 ·rw [bLi h2];exact aZw h
 by_cases h3:o.kind=3
 ·rw [bLc h3];exact h.step
 by_cases h4:o.kind=4
 ·rw [bLl h4];exact h
 by_cases h5:o.kind=5
 ·rw [bLk h5];exact aTs h ho.byt ho.len
 by_cases h6:o.kind=6
 ·rw [bNg h6];exact h
 rw [bNj h0 h1 h2 h3 h4 h5 h6];exact h
theorem bDz {v:List Body} {o:OpI} (h:GoodV v) (ho:OkO o):GoodV (iU v o).1:=by
 unfold iU
 split
 ·exact h
 ·exact bBg h ⟨ho.body,ho.byt,ho.len⟩
theorem yY:∀ {l:List OpI} {v:List Body},GoodV v→(∀ o∈l,OkO o)→GoodV (fX v l)
 | [],v,h,_=>h
 | o::l,v,h,hl=>by
  show GoodV (fX (iU v o).1 l)
  exact yY (bDz h (hl o (by simp))) (fun q hq=>hl q (by simp [hq]))
def nS (l:List OpI) (k i:Nat):List Int:=iK (fX [] (l.take ((i+1)*k)))
def fP (l:List OpI) (k n:Nat):List (List Int):=(List.range n).map (nS l k)
theorem aKw (l:List OpI) (k n:Nat):fP l k (n+1)=fP l k n++[nS l k n]:=by unfold fP;rw [List.range_succ,List.map_append];rfl
theorem rN (l:List OpI) (k n:Nat):(fP l k n).length=n:=by unfold fP;rw [List.length_map,List.length_range]
theorem aKg (l:List OpI) (k:Nat) {n i:Nat} (h:i < n):(fP l k n)[i]? = some (nS l k i):=by unfold fP;rw [List.getElem?_map,List.getElem?_range h];rfl
theorem aYk {l:List OpI} (hl:∀ o∈l,OkO o) {a n:Nat} (h:a≤n):fX (nD [] (iK (fX [] (l.take a)))) ((l.take n).drop a)=fX [] (l.take n):=by
 have hg:GoodV (fX [] (l.take a)):=yY GoodV.nil (fun o ho=>hl o (List.mem_of_mem_take ho))
 rw [aTi hg]
 have e:l.take n=l.take a++(l.take n).drop a:=by
  conv=>lhs;rw [← List.take_append_drop a (l.take n)]
  rw [List.take_take,Nat.min_eq_left h]
 conv=>rhs;rw [e,nH]
theorem aTh {l:List OpI} (v:List Body) {a:Nat}:jF v l=jF v (l.take a)++jF (fX v (l.take a)) (l.drop a):=by rw [← xD,List.take_append_drop]
def fN (l:List OpI) (k:Nat) (ms:List (List Int)):Nat→Int
 | 0 => -1
 | n+1=>if fN l k ms n < 0 then (if ms[n]? = some (nS l k n) then -1 else (n:Int)) else fN l k ms n
theorem yV {l:List OpI} {k:Nat} {ms:List (List Int)}:∀ n,(∀ i,i < n→ms[i]? = some (nS l k i))→fN l k ms n = -1
 | 0,_=>rfl
 | n+1,h=>by
  show (if _ then _ else _)=_
  rw [yV n (fun i hi=>h i (by omega)),if_pos (by decide),if_pos (h n (by omega))]
end Go.Bil

namespace Go.Bil
def dC (z:ResI) (r:Row):List Value:=[.int .i64 z.err,.slice r.A r.n r.c,.int .i64 z.cont,.bool z.cl]
structure OutR (T:Nat) (rs:List Row) (zs:List ResI):Prop where
 len:rs.length=zs.length
 row:∀ (j:Nat) (r:Row) (z:ResI),rs[j]? = some r→zs[j]? = some z→aR T 1 r.A r.n r.c (z.bytes.map bG) r.e
def jR (zs:List ResI) (rs:List Row):List (List Value):=List.zipWith dC zs rs
theorem OutR.nil (T:Nat):OutR T [] []:=⟨rfl,by simp⟩
theorem OutR.add {T:Nat} {rs:List Row} {zs:List ResI} {r:Row} {z:ResI} (h:OutR T rs zs) (hr:aR T 1 r.A r.n r.c (z.bytes.map bG) r.e):OutR T (rs++[r]) (zs++[z]):=by
 refine ⟨by simp [h.len],fun j q k hq hk => ?_⟩
 by_cases hj:j < rs.length
 ·rw [List.getElem?_append_left hj] at hq
  rw [List.getElem?_append_left (by rw [← h.len];exact hj)] at hk
  exact h.row j q k hq hk
 ·have hj2:j=rs.length:=by
   have:=(List.getElem?_eq_some_iff.1 hq).1
   simp at this
   omega
  rw [hj2,List.getElem?_append_right (Nat.le_refl _),Nat.sub_self] at hq
  rw [hj2,h.len,List.getElem?_append_right (Nat.le_refl _),Nat.sub_self] at hk
  simp only [List.getElem?_cons_zero,Option.some.injEq] at hq hk
  subst hq hk
  exact hr
theorem oE {zs:List ResI} {rs:List Row} (h:rs.length=zs.length):(jR zs rs).length=zs.length:=by unfold jR;rw [List.length_zipWith,h,Nat.min_self]
theorem oQ {zs:List ResI} {rs:List Row} (h:rs.length=zs.length) (z:ResI) (r:Row):jR (zs++[z]) (rs++[r])=jR zs rs++[dC z r]:=by
 unfold jR
 rw [List.zipWith_append h.symm]
 rfl
theorem aOw {zs:List ResI} {rs:List Row} (h:rs.length=zs.length) {j:Nat} {z:ResI} (hz:zs[j]? = some z):∃ r,rs[j]? = some r∧(jR zs rs)[j]? = some (dC z r):=by
 have hj:j < rs.length:=by rw [h];exact (List.getElem?_eq_some_iff.1 hz).1
 have hr:=List.getElem?_eq_getElem hj
 refine ⟨_,hr, ?_⟩
 unfold jR
 rw [List.getElem?_zipWith,hz,hr]
theorem OutR.rd {w0 w:World} {X:List Nat} {S:List cY} {T:Nat} {rs:List Row} {zs:List ResI} (h:OutR T rs zs) (M:Mem w0 X S w) (ht:∀ r∈rs,r.e∈S) {j:Nat} {r:Row} {z:ResI} (hr:rs[j]? = some r) (hz:zs[j]? = some z):Rd w 1 r.A r.n (z.bytes.map bG) :=
 (h.row j r z hr hz).rd M (ht r (List.mem_of_getElem? hr))
theorem bBn (l:List OpRow):∀ y∈l.map OpRow.cells,y.length=15:=by
 intro y hy
 obtain ⟨x,_,rfl⟩:=List.mem_map.1 hy
 rfl
end Go.Bil

namespace Go.Bil
theorem aRm {v:List Body} {o:OpI} (h:o.kind=1):iU v o=((pZ v o.body).1,{ kG with err:=(pZ v o.body).2 }):=by unfold iU;rw [if_neg (by omega)];exact bMa (by simp;omega)
theorem bFy {v:List Body} {o:OpI} (h:o.kind=2):iU v o=((iJ v o.key).1,{ kG with err:=(iJ v o.key).2 }):=by unfold iU;rw [if_neg (by omega)];exact bLg (by simp;omega)
theorem bFs {v:List Body} {o:OpI} (h:o.kind=3):iU v o=((rV v o.key o.push).1,{ kG with err:=(rV v o.key o.push).2 }):=by unfold iU;rw [if_neg (by omega)];exact bLi (by simp;omega)
theorem bGi {v:List Body} {o:OpI} (h:o.kind=4):iU v o=(oF v,{ kG with cont:=((lL v).length:Int),cl:=sA v }):=by unfold iU;rw [if_neg (by omega)];exact bLc (by simp;omega)
theorem bGo {v:List Body} {o:OpI} (h:o.kind=5):iU v o=(v,{ kG with bytes:=iK v }):=by unfold iU;rw [if_neg (by omega)];exact bLl (by simp;omega)
theorem bJu {v:List Body} {o:OpI} (h:o.kind=6):iU v o=(nD v o.bytes,{ kG with err:=(kX o.bytes).2 }):=by unfold iU;rw [if_neg (by omega)];exact bLk (by simp;omega)
theorem lU {f:Int→Option Value} {k:Int} {v:Value} (h:f k=some v):Value.tuple [((f k).getD .nilFunc),.bool (f k).isSome].toArray=Value.tuple [v,.bool true].toArray:=by rw [h];rfl
theorem aRb {f:Int→Option Value} {k:Int} (h:f k=none):Value.tuple [((f k).getD .nilFunc),.bool (f k).isSome].toArray=Value.tuple [.nilFunc,.bool false].toArray:=by rw [h];rfl
def uK (l:List OpRow) (X:List Nat):Prop:=∀ x∈l,0 < x.n→∀ q off,x.A=some ⟨q,off,none⟩→q∉X
def opsO (l:List OpRow):List OpI:=l.map OpRow.o
theorem xX {l:List OpRow} {i:Nat} {x:OpRow} (h:l[i]? = some x):(opsO l)[i]? = some x.o:=by unfold opsO;rw [List.getElem?_map,h];rfl
theorem gB (l:List OpRow):(opsO l).length=l.length:=List.length_map ..
theorem aEi (l:List OpRow) (k:Nat):opsO (l.take k)=(opsO l).take k:=by unfold opsO;rw [List.map_take]
theorem rI (l:List OpRow) (k:Nat):opsO (l.drop k)=(opsO l).drop k:=by unfold opsO;rw [List.map_drop]
theorem OpOk.okO {w:World} {o:OpI} {A:Option Addr} {n c:Nat} (h:OpOk w o A n c) (hn:n≤1000000):OkO o:=⟨h.body,h.byt,by rw [h.len];exact hn⟩
theorem OpsRd.okO {w:World} {A:Option Addr} {n:Nat} {l:List OpRow} (h:OpsRd w A n l) (hby:∀ x∈l,x.n≤1000000):∀ o∈opsO l,OkO o:=by
 intro o ho
 obtain ⟨x,hx,rfl⟩:=List.mem_map.1 ho
 exact (h.each x hx).okO (hby x hx)
end Go.Bil

namespace Go.Bil
theorem aQr (v:List Body) (l:List OpRow):(jF v (opsO l)).length=l.length:=by rw [kY,gB]
theorem aIq {rs:List Row}:∀ r∈rs,r.e∈rs.map Row.e:=fun r hr=>List.mem_map.2 ⟨r,hr,rfl⟩
theorem uZ {rs:List Row} {L T:List cY} (h:∀ r∈rs,r.e∈T):∀ r∈rs,r.e∈L++T:=fun r hr=>List.mem_append_right _ (h r hr)
theorem bAq {rs:List Row} {L T:List cY} (h:∀ r∈rs,r.e∈L):∀ r∈rs,r.e∈L++T:=fun r hr=>List.mem_append_left _ (h r hr)
theorem OpsRd.none (w:World):OpsRd w none 0 []:=⟨Rd.nil w 15 Option.none,by simp⟩
theorem OpsRd.memY {w0 w:World} {X:List Nat} {S:List cY} {A:Option Addr} {n:Nat} {l:List OpRow} (h:OpsRd w0 A n l) (M:Mem w0 X S w) (hA:0 < n→∀ q off,A=some ⟨q,off,Option.none⟩→q∉X) (hX:uK l X):OpsRd w A n l:=⟨h.rd.memY M hA,fun x hx=>(h.each x hx).memY M (hX x hx)⟩
theorem OpsRd.sub {w:World} {A:Option Addr} {n c:Nat} {l:List OpRow} (h:OpsRd w A n l) (i j:Nat) (h1:i≤j) (h2:j≤n) (hc:n≤c):OpsRd w (pO A c i 15) (j - i) ((l.drop i).take (j - i)) :=
 ⟨by rw [List.map_take,List.map_drop];exact h.rd.sub i j h1 h2 hc,fun x hx=>h.each x (List.mem_of_mem_drop (List.mem_of_mem_take hx))⟩
theorem Own.dummy (w:World) (o:Obj):Own [(none,o)] w:=⟨by simp,by simp [bI]⟩
end Go.Bil

namespace Go.Bil
open Go Go.RowKit Go.Deep
theorem aKp {α:Type} {f:α→List Value} {Q:α→Prop}:∀ ls:List (List Value),(∀ y∈ls,∃ x,y=f x∧Q x)→∃ l:List α,ls=l.map f∧∀ x∈l,Q x
 | [],_=>⟨[],rfl,by simp⟩
 | y::ls,h=>by
  obtain ⟨x,rfl,hx⟩:=h y (by simp)
  obtain ⟨l,rfl,hl⟩:=aKp ls (fun z hz=>h z (by simp [hz]))
  refine ⟨x::l,Z,fun z hz => ?_⟩
  rcases List.mem_cons.1 hz with rfl | hz
  ·exact hx
  ·exact hl z hz
theorem bJn (l:List Value) (h:kV [.u8] l):∃ x:Int,l=bG x∧(0≤x∧x≤255):=by
 obtain ⟨z,l',rfl,hz,hl'⟩:=eN h
 obtain rfl:=pV hl'
 exact ⟨z,Z,hz⟩
section
variable {H:Type} {enc:TypeId × Value→H} {P:Program} {w:World} {base:Nat} {spare:Nat→Bool} {held:Bool}
theorem aNh {t e fuel:Nat} {cs:List Value} {x:DataW H × List MemPlace} (hu:P.underlying t=some (.slice e)) (h:DataW.trod enc P w base spare held fuel t cs=some x):∃ (A:Option Addr) (n c:Nat),cs=[.slice A n c]∧n≤c:=by
 rcases open_slice hu h with ⟨rfl,_⟩ | ⟨a,l,c,m',n,D,Pl,rfl,hb,hlc,_⟩
 ·exact ⟨none,0,0,Z,Nat.le_refl _⟩
 ·exact ⟨_,_,_,Z,hlc⟩
structure OpT (P:Program) (m T T0 T1 T2 T3 T4 e8 b8:Nat) (fs:Array Field):Prop where
 u:P.underlying T=some (.struct fs)
 f:fs.toList.map (fun f=>(f.type,f.offset))=[(T0,0),(T1,1),(T2,11),(T3,12),(T4,14)]
 sz:P.cellsOf T=15
 l0:lC P m T0=some [.i64]
 l1:lC P m T1=some [.u32,.i32,.i32,.i32,.i32,.i32,.i32,.i32,.i32,.i32]
 l2:lC P m T2=some [.u32]
 l3:lC P m T3=some [.i32,.i32]
 l8:lC P m e8=some [.u8]
 c0:P.cellsOf T0=1
 c1:P.cellsOf T1=10
 c2:P.cellsOf T2=1
 c3:P.cellsOf T3=2
 c4:P.cellsOf T4=1
 s:eG P T4 e8 1 b8=true
theorem aOa {α:Type} {l:List α} (h:l.length=15):l=l.take 1++(((l.drop 1).take 10)++(((l.drop 11).take 1)++(((l.drop 12).take 2)++((l.drop 14).take 1)))):=by
 have e4:(l.drop 14).take 1=l.drop 14:=List.take_of_length_le (by rw [List.length_drop];omega)
 have e3:(l.drop 12).take 2++l.drop 14=l.drop 12:=by have g:=List.take_append_drop 2 (l.drop 12);rwa [List.drop_drop] at g
 have e2:(l.drop 11).take 1++l.drop 12=l.drop 11:=by have g:=List.take_append_drop 1 (l.drop 11);rwa [List.drop_drop] at g
 have e1:(l.drop 1).take 10++l.drop 11=l.drop 1:=by have g:=List.take_append_drop 10 (l.drop 1);rwa [List.drop_drop] at g
 rw [e4,e3,e2,e1,List.take_append_drop]
theorem aLt {m T T0 T1 T2 T3 T4 e8 b8:Nat} {fs:Array Field} (O:OpT P m T T0 T1 T2 T3 T4 e8 b8 fs) {fuel:Nat} {cs:List Value} {d:DataW H} {pl:List MemPlace} (hx:DataW.trod enc P w base spare held fuel T cs=some (d,pl)) (hw:∀ n∈d.weights P T,n≤reachBytes) :
  ∃ x:OpRow,cs=x.cells∧OpOk w x.o x.A x.n x.c:=by
 obtain ⟨xs,k,_,hd,hl,hxl,hfs⟩:=DataW.trod_struct O.u hx
 rw [O.sz] at hl
 have hlen:fs.toList.length=5:=by have:=congrArg List.length O.f;simpa using this
 have hf:∀ (i:Nat) (t o:Nat),[(T0,0),(T1,1),(T2,11),(T3,12),(T4,14)][i]? = some (t,o)→∃ f,fs[i]? = some f∧f.type=t∧f.offset=o:=by
  intro i t o hi
  rw [← O.f,List.getElem?_map] at hi
  cases hq:fs.toList[i]? with
  | none=>rw [hq] at hi;cases hi
  | some f =>
   rw [hq] at hi
   simp only [Option.map_some,Option.some.injEq,Prod.mk.injEq] at hi
   exact ⟨f,by simpa using hq,hi⟩
 have part:∀ (i:Nat) (t o z:Nat),[(T0,0),(T1,1),(T2,11),(T3,12),(T4,14)][i]? = some (t,o)→P.cellsOf t=z→∃ y,xs[i]? = some y∧DataW.trod enc P w base spare held k t ((cs.drop o).take z)=some y:=by
  intro i t o z hi hz
  obtain ⟨f,h1,rfl,rfl⟩:=hf i t o hi
  have h2:=hfs i f h1
  have hlt:i < xs.length:=by rw [hxl];exact (Array.getElem?_eq_some_iff.1 h1).1
  rw [List.getElem?_eq_getElem hlt,hz] at h2
  exact ⟨_,List.getElem?_eq_getElem hlt,h2⟩
 obtain ⟨y0,_,p0⟩:=part 0 T0 0 1 rfl O.c0
 obtain ⟨y1,_,p1⟩:=part 1 T1 1 10 rfl O.c1
 obtain ⟨y2,_,p2⟩:=part 2 T2 11 1 rfl O.c2
 obtain ⟨y3,_,p3⟩:=part 3 T3 12 2 rfl O.c3
 obtain ⟨y4,q4,p4⟩:=part 4 T4 14 1 rfl O.c4
 obtain ⟨h1,h2,h3,h4,h5,h6,zv,hzv,hzs⟩:=eL O.s
 obtain ⟨A,n,c,hsl,hnc⟩:=aNh h1 p4
 rw [hsl] at p4
 have hT:DataW.Trod enc P w base spare held T4 (.slice A n c) y4.1 y4.2:=⟨k,p4⟩
 have hw4:∀ n∈y4.1.weights P T4,n≤reachBytes:=fun n hn=>by
  refine hw n ?_
  obtain rfl:d=.agg (xs.map (·.1)):=(Prod.mk.inj hd).1
  simp only [DataW.weights,O.u]
  obtain ⟨f,g1,rfl,_⟩:=hf 4 T4 14 rfl
  have g1':fs.toList[4]? = some f:=by simpa using g1
  exact DataW.weights_mem_each (j:=4) (by rw [List.getElem?_map,g1'];rfl) (by rw [List.getElem?_map,q4];rfl) n hn
 have hs:=wF hw4 O.s hT
 obtain ⟨ls,R,hI⟩:=aQq O.s O.l8 rfl hs hT
 obtain ⟨bs,rfl,hbs⟩:=aOl bJn ls hI
 have i0:=iY m T0 _ k _ _ O.l0 p0
 have i1:=iY m T1 _ k _ _ O.l1 p1
 have i2:=iY m T2 _ k _ _ O.l2 p2
 have i3:=iY m T3 _ k _ _ O.l3 p3
 obtain ⟨kind,l',e0,_,hl'⟩:=eN i0
 obtain rfl:=pV hl'
 obtain ⟨body,e1,hbody⟩:=bHf _ i1
 obtain ⟨key,l',e2,hkey,hl'⟩:=eN i2
 obtain rfl:=pV hl'
 obtain ⟨dx,l',e3,hdx,hl'⟩:=eN i3
 obtain ⟨dy,l'',rfl,hdy,hl''⟩:=eN hl'
 obtain rfl:=pV hl''
 refine ⟨⟨⟨kind,body,key,(dx,dy),bs⟩,A,n,c⟩, ?_,R,hnc,hbs,hbody,hdx,hdy⟩
 have e:=aOa hl
 rw [List.drop_zero] at e0
 rw [e0,e1,e2,e3,hsl] at e
 rw [e]
 rfl
theorem aVw {m t T T0 T1 T2 T3 T4 e8 b8 bytes:Nat} {A:Option Addr} {len cap:Nat} {d:DataW H} {ps:List MemPlace} (ht:eG P t T 15 bytes=true) (O:∃ fs,OpT P m T T0 T1 T2 T3 T4 e8 b8 fs) (hw:∀ n∈d.weights P t,n≤reachBytes)
  (h:DataW.Trod enc P w base spare held t (.slice A len cap) d ps):∃ l:List OpRow,OpsRd w A len l:=by
 obtain ⟨fs,O⟩:=O
 have hbig:=wF hw ht h
 obtain ⟨h1,h2,h3,h4,h5,h6,zv,hzv,hzs⟩:=eL ht
 obtain ⟨fuel,hf⟩:=h
 have hle:len≤140737488351232:=Nat.le_trans (Nat.le_mul_of_pos_right _ (Nat.pos_of_ne_zero h6)) hbig
 rcases open_slice h1 hf with ⟨hcs,_⟩ | ⟨a,l,c,m',n,D,Pl,hcs,hb,hlc,_,hm,hx0,hx⟩
 ·simp only [Value.cells,List.cons.injEq,Value.slice.injEq,and_true] at hcs
  obtain ⟨rfl,rfl,rfl⟩:=hcs
  exact ⟨[],Rd.nil w 15 none,by simp⟩
 ·simp only [Value.cells,List.cons.injEq,Value.slice.injEq,and_true] at hcs
  obtain ⟨rfl,rfl,rfl⟩:=hcs
  obtain ⟨rfl,_⟩:=Prod.mk.inj hx0
  have hlm:len≤m':=by rw [hm];split <;> omega
  have hww:=(sD h1 hw).2
  have hall:∀ i,i < len→∃ cs':List Value,cs'.length=15∧(∀ j,j < 15→w.cell? (a.add (i*15+j))=cs'[j]?)∧(∃ x:OpRow,cs'=x.cells∧OpOk w x.o x.A x.n x.c):=fun i hi=>by
   obtain ⟨cs',hc,ht'⟩:=hx i (by omega)
   rw [h3] at hc
   obtain ⟨q1,q2⟩:=pS hc
   refine ⟨cs',q1,fun j hj => ?_,aLt O ht' (hww (D i) (List.mem_map.2 ⟨i,List.mem_range.2 hi,Z⟩))⟩
   rw [← q2 j hj,Addr.add_add]
  obtain ⟨ls,R,hQ⟩:=aKf (by omega) (by omega) hall
  obtain ⟨l,rfl,hl⟩:=aKp ls hQ
  exact ⟨l,R,hl⟩
end
end Go.Bil

namespace Go.Bil
open Go Go.RowKit
structure BytR (T:Nat) (rs:List Row) (bs:List (List Int)):Prop where
 len:rs.length=bs.length
 row:∀ (j:Nat) (r:Row) (b:List Int),rs[j]? = some r→bs[j]? = some b→aR T 1 r.A r.n r.c (b.map bG) r.e
theorem BytR.nil (T:Nat):BytR T [] []:=⟨rfl,by simp⟩
theorem BytR.add {T:Nat} {rs:List Row} {bs:List (List Int)} {r:Row} {b:List Int} (h:BytR T rs bs) (hr:aR T 1 r.A r.n r.c (b.map bG) r.e):BytR T (rs++[r]) (bs++[b]):=by
 refine ⟨by simp [h.len],fun j q k hq hk => ?_⟩
 by_cases hj:j < rs.length
 ·rw [List.getElem?_append_left hj] at hq
  rw [List.getElem?_append_left (by rw [← h.len];exact hj)] at hk
  exact h.row j q k hq hk
 ·have hj2:j=rs.length:=by
   have:=(List.getElem?_eq_some_iff.1 hq).1
   simp at this
   omega
  rw [hj2,List.getElem?_append_right (Nat.le_refl _),Nat.sub_self] at hq
  rw [hj2,h.len,List.getElem?_append_right (Nat.le_refl _),Nat.sub_self] at hk
  simp only [List.getElem?_cons_zero,Option.some.injEq] at hq hk
  subst hq hk
  exact hr
theorem BytR.at {T:Nat} {rs:List Row} {bs:List (List Int)} (h:BytR T rs bs) {j:Nat} {b:List Int} (hb:bs[j]? = some b):∃ r,rs[j]? = some r∧aR T 1 r.A r.n r.c (b.map bG) r.e:=by
 have hj:j < rs.length:=by rw [h.len];exact (List.getElem?_eq_some_iff.1 hb).1
 have hr:=List.getElem?_eq_getElem hj
 exact ⟨_,hr,h.row j _ b hr hb⟩
structure BytRd (w:World) (A:Option Addr) (n:Nat) (rs:List Row) (bs:List (List Int)):Prop where
 rd:Rd w 1 A n (rs.map hdr)
 len:rs.length=bs.length
 row:∀ (j:Nat) (r:Row) (b:List Int),rs[j]? = some r→bs[j]? = some b→Rd w 1 r.A r.n (b.map bG)∧gA b∧r.n≤r.c
theorem BytRd.n_eq {w:World} {A:Option Addr} {n:Nat} {rs:List Row} {bs:List (List Int)} (h:BytRd w A n rs bs):bs.length=n∧rs.length=n:=by
 have:=h.rd.len
 rw [List.length_map] at this
 exact ⟨by rw [← h.len];exact this,this⟩
theorem BytRd.mem {w0 w:World} {S:List cY} {A:Option Addr} {n:Nat} {rs:List Row} {bs:List (List Int)} (h:BytRd w0 A n rs bs) (M:Mem w0 [] S w):BytRd w A n rs bs :=
 ⟨h.rd.mem M,h.len,fun j r b hr hb=>by obtain ⟨h1,h2,h3⟩:=h.row j r b hr hb;exact ⟨h1.mem M,h2,h3⟩⟩
def oR (rs:List Row) (X:List Nat):Prop:=∀ r∈rs,0 < r.n→∀ q off,r.A=some ⟨q,off,none⟩→q∉X
theorem BytRd.memY {w0 w:World} {X:List Nat} {S:List cY} {A:Option Addr} {n:Nat} {rs:List Row} {bs:List (List Int)} (h:BytRd w0 A n rs bs) (M:Mem w0 X S w) (hA:0 < n→∀ q off,A=some ⟨q,off,none⟩→q∉X) (hX:oR rs X):BytRd w A n rs bs :=
 ⟨h.rd.memY M hA,h.len,fun j r b hr hb=>by obtain ⟨h1,h2,h3⟩:=h.row j r b hr hb;exact ⟨h1.memY M (hX r (List.mem_of_getElem? hr)),h2,h3⟩⟩
theorem BytRd.at {w:World} {A:Option Addr} {n:Nat} {rs:List Row} {bs:List (List Int)} (h:BytRd w A n rs bs) {j:Nat} (hj:j < n):∃ r b,rs[j]? = some r∧bs[j]? = some b∧(rs.map hdr)[j]? = some [.slice r.A r.n r.c]∧Rd w 1 r.A r.n (b.map bG)∧gA b∧r.n≤r.c:=by
 obtain ⟨h1,h2⟩:=h.n_eq
 have hr:=List.getElem?_eq_getElem (l:=rs) (i:=j) (by omega)
 have hb:=List.getElem?_eq_getElem (l:=bs) (i:=j) (by omega)
 exact ⟨_,_,hr,hb,by rw [List.getElem?_map,hr];rfl,h.row j _ _ hr hb⟩
theorem BytRd.none (w:World):BytRd w none 0 [] []:=⟨Rd.nil w 1 Option.none,rfl,by simp⟩
theorem BytR.rds {w0 w:World} {X:List Nat} {S:List cY} {T T' n c:Nat} {A:Option Addr} {e:cY} {rs:List Row} {bs:List (List Int)} (h:BytR T rs bs) (hq:aR T' 1 A n c (rs.map hdr) e) (M:Mem w0 X S w) (he:e∈S) (ht:∀ r∈rs,r.e∈S) (hb:∀ b∈bs,gA b):BytRd w A n rs bs :=
 ⟨hq.rd M he,h.len,fun j r b hr hbj=>⟨(h.row j r b hr hbj).rd M (ht r (List.mem_of_getElem? hr)),hb b (List.mem_of_getElem? hbj),(h.row j r b hr hbj).slice⟩⟩
theorem aR.awayT {w0 w:World} {X:List Nat} {L R:List cY} {T sz:Nat} {A:Option Addr} {n c:Nat} {ls:List (List Value)} {e:cY} (h:aR T sz A n c ls e) (M:Mem w0 X (L++R) w) (he:e∈R) (i k:Nat):0 < n→∀ q off,A=some ⟨q,off,none⟩→q∉bI ((L.drop i).take k):=by
 intro hn q off hA hq
 obtain ⟨b2,l,fr,h1,h2,_⟩:=h.block hn
 rw [h1] at hA
 injection hA with hA
 injection hA with hA
 subst hA
 have hap:=M.apart
 rw [gS,List.nodup_append] at hap
 obtain ⟨o,ho⟩:=eM.1 hq
 exact hap.2.2 b2 (eM.2 ⟨o,List.mem_of_mem_drop (List.mem_of_mem_take ho)⟩) b2 (eM.2 ⟨_,by rw [← h2];exact he⟩) Z
def yN (l:List OpI) (ps:List Row):List OpRow:=List.zipWith (fun o p=>⟨o,p.A,p.n,p.c⟩) l ps
structure GoodO (o:OpI):Prop where
 byt:gA o.bytes
 body:InB o.body
 p1 : -2147483648≤o.push.1∧o.push.1≤2147483647
 p2 : -2147483648≤o.push.2∧o.push.2≤2147483647
 len:o.bytes.length≤1000000
theorem GoodO.ok {o:OpI} (h:GoodO o):OkO o:=⟨h.body,h.byt,h.len⟩
theorem OpOk.good {w:World} {o:OpI} {A:Option Addr} {n c:Nat} (h:OpOk w o A n c) (hn:n≤1000000):GoodO o:=⟨h.byt,h.body,h.p1,h.p2,by rw [h.len];exact hn⟩
theorem OpsRd.good {w:World} {A:Option Addr} {n:Nat} {l:List OpRow} (h:OpsRd w A n l) (hby:∀ x∈l,x.n≤1000000):∀ o∈opsO l,GoodO o:=by
 intro o ho
 obtain ⟨x,hx,rfl⟩:=List.mem_map.1 ho
 exact (h.each x hx).good (hby x hx)
theorem aOg {l:List OpI} {ps:List Row} (h:ps.length=l.length):(yN l ps).length=l.length:=by unfold yN;rw [List.length_zipWith,h,Nat.min_self]
theorem aVi {l:List OpI} {ps:List Row} (h:ps.length=l.length) (o:OpI) (p:Row):yN (l++[o]) (ps++[p])=yN l ps++[⟨o,p.A,p.n,p.c⟩]:=by
 unfold yN
 rw [List.zipWith_append h.symm]
 rfl
theorem aFl {l:List OpI} {ps:List Row} {x:OpRow} (h:x∈yN l ps):∃ (j:Nat) (o:OpI) (p:Row),l[j]? = some o∧ps[j]? = some p∧x=⟨o,p.A,p.n,p.c⟩:=by
 obtain ⟨j,hj,e⟩:=List.mem_iff_getElem.1 h
 unfold yN at hj e
 rw [List.getElem_zipWith] at e
 rw [List.length_zipWith] at hj
 exact ⟨j,_,_,List.getElem?_eq_getElem (by omega),List.getElem?_eq_getElem (by omega),e.symm⟩
theorem aHm {l:List OpI} {ps:List Row} (h:ps.length=l.length):opsO (yN l ps)=l:=by
 unfold opsO yN
 rw [List.map_zipWith]
 induction l generalizing ps with
 | nil=>simp
 | cons o l ih =>
  cases ps with
  | nil=>simp at h
  | cons p ps=>rw [List.zipWith_cons_cons,ih (by simpa using h)]
theorem aOm {w0 w:World} {X:List Nat} {S:List cY} {T T' n c:Nat} {A:Option Addr} {e:cY} {l:List OpI} {ps:List Row} (h:BytR T ps (l.map OpI.bytes)) (hg:∀ o∈l,GoodO o) (hq:aR T' 15 A n c ((yN l ps).map OpRow.cells) e) (M:Mem w0 X S w) (he:e∈S) (ht:∀ r∈ps,r.e∈S):OpsRd w A n (yN l ps):=by
 refine ⟨hq.rd M he,fun x hx => ?_⟩
 obtain ⟨j,o,p,ho,hp,rfl⟩:=aFl hx
 have hr:=h.row j p o.bytes hp (by rw [List.getElem?_map,ho];rfl)
 have g:=hg o (List.mem_of_getElem? ho)
 exact ⟨hr.rd M (ht p (List.mem_of_getElem? hp)),hr.slice,g.byt,g.body,g.p1,g.p2⟩
theorem bFe {T:Nat} {l:List OpI} {ps:List Row} (h:BytR T ps (l.map OpI.bytes)) (hg:∀ o∈l,GoodO o):∀ x∈yN l ps,x.n≤1000000:=by
 intro x hx
 obtain ⟨j,o,p,ho,hp,rfl⟩:=aFl hx
 have hr:=h.row j p o.bytes hp (by rw [List.getElem?_map,ho];rfl)
 have e:o.bytes.length=p.n:=by have:=hr.1;rwa [List.length_map] at this
 have:=(hg o (List.mem_of_getElem? ho)).len
 show p.n≤1000000
 omega
theorem aWi {w0 w:World} {X:List Nat} {L R:List cY} {T:Nat} {l:List OpI} {ps:List Row} (h:BytR T ps (l.map OpI.bytes)) (M:Mem w0 X (L++R) w) (ht:∀ r∈ps,r.e∈R) (i k:Nat):uK (yN l ps) (bI ((L.drop i).take k)):=by
 intro x hx
 obtain ⟨j,o,p,ho,hp,rfl⟩:=aFl hx
 have hr:=h.row j p o.bytes hp (by rw [List.getElem?_map,ho];rfl)
 exact hr.awayT M (ht p (List.mem_of_getElem? hp)) i k
theorem aBq {i k:Nat} (hk:0 < k):((i+1) % k=0∧(i+1) / k=i / k+1∧(i / k+1)*k=i+1)∨((i+1) % k≠0∧(i+1) / k=i / k):=by
 have h:=Nat.div_add_mod i k
 have hr:=Nat.mod_lt i hk
 generalize i / k=q at *
 generalize i % k=r at *
 rcases Nat.lt_or_ge (r+1) k with g | g
 ·right
  have e:i+1=(r+1)+k*q:=by omega
  rw [e,Nat.add_mul_mod_self_left,Nat.mod_eq_of_lt g,Nat.add_mul_div_left _ _ hk,Nat.div_eq_of_lt g]
  exact ⟨by omega,by omega⟩
 ·left
  have e:i+1=k*(q+1):=by rw [Nat.mul_add,Nat.mul_one];omega
  rw [e]
  exact ⟨Nat.mul_mod_right _ _,Nat.mul_div_cancel_left _ hk,Nat.mul_comm _ _⟩
theorem aEt {l:List OpI} {i k:Nat} (hk:0 < k) (h:(i+1) % k=0):fP l k ((i+1) / k)=fP l k (i / k)++[iK (fX [] (l.take (i+1)))]∧(i+1) / k=i / k+1:=by
 rcases aBq (i:=i) hk with ⟨_,h2,h3⟩ | ⟨h1,_⟩
 ·rw [h2,aKw]
  unfold nS
  rw [h3]
  exact ⟨Z,Z⟩
 ·exact absurd h h1
theorem aIr {i k:Nat} (hk:0 < k) (h:(i+1) % k≠0):(i+1) / k=i / k:=by
 rcases aBq (i:=i) hk with ⟨h1,_⟩ | ⟨_,h2⟩
 ·exact absurd h1 h
 ·exact h2
theorem aMg {l:List OpI} {k n:Nat}:∀ b∈fP l k n,gA b:=by
 intro b hb
 unfold fP at hb
 obtain ⟨i,_,rfl⟩:=List.mem_map.1 hb
 exact vS _
theorem aRn {l:List OpI} (hl:∀ o∈l,OkO o) (n:Nat):GoodV (fX [] (l.take n)):=yY GoodV.nil (fun o ho=>hl o (List.mem_of_mem_take ho))
def yL (l:List OpI) (k:Nat) (bs:List (List Int)) (n:Nat):List Body:=fX (if n / k=0 then [] else nD [] (bs.getD (n / k - 1) [])) ((l.take n).drop (n / k*k))
theorem aLw {l:List OpI} (hl:∀ o∈l,OkO o) {k n:Nat} (hk:0 < k) (h:n≤l.length):yL l k (fP l k (l.length / k)) n=fX [] (l.take n):=by
 have hle:n / k*k≤n:=Nat.div_mul_le_self n k
 have hd:n / k≤l.length / k:=Nat.div_le_div_right h
 unfold yL
 generalize n / k=q at *
 generalize l.length / k=m at *
 by_cases h0:q=0
 ·rw [if_pos h0,h0,Nat.zero_mul,List.drop_zero]
 ·rw [if_neg h0]
  have hat:=aKg l k (n:=m) (i:=q - 1) (by omega)
  have e:(fP l k m).getD (q - 1) []=iK (fX [] (l.take (q*k))):=by
   rw [List.getD_eq_getElem?_getD,hat]
   show iK (fX [] (l.take ((q - 1+1)*k)))=_
   rw [show q - 1+1=q by omega]
  rw [e]
  exact aYk hl hle
end Go.Bil

namespace Go.Bil
def mP:Body:=⟨1,65536,0,0,0,0,100000,0,0,0⟩
def xA:Body:=⟨2,65536,0,0,65536,0,0,0,0,0⟩
def tB3:Body:=⟨1,65536,0,0,0,0,0,0,0,0⟩
def xT:Body:=⟨2,65536,0,0,65536,0, -12019, -16,0, -1024⟩
def opA (b:Body):OpRow:=⟨⟨1,b,0,(0,0),[]⟩,none,0,0⟩
def aCv:List OpRow:=[opA xA,opA mP,opA tB3]
theorem bAp:∀ x∈aCv,InB x.o.body:=by
 intro x hx
 simp only [aCv,List.mem_cons,List.not_mem_nil,or_false] at hx
 rcases hx with rfl | rfl | rfl <;> exact ⟨by decide,by decide,by decide,by decide,by decide,by decide,by decide,by decide,by decide,by decide⟩
theorem bHj (w:World) (b:Body) (h:InB b):OpOk w (opA b).o (opA b).A (opA b).n (opA b).c :=
 ⟨Rd.nil w 1 none,Nat.le_refl _,by simp [opA,gA],h,(by decide:(-2147483648:Int)≤0∧(0:Int)≤2147483647),(by decide:(-2147483648:Int)≤0∧(0:Int)≤2147483647)⟩
theorem aQn (w:World):∀ x∈aCv,OpOk w x.o x.A x.n x.c:=by
 intro x hx
 have hi:=bAp x hx
 simp only [aCv,List.mem_cons,List.not_mem_nil,or_false] at hx
 rcases hx with rfl | rfl | rfl <;> exact bHj w _ hi
theorem bGx:∀ x∈aCv,x.n=0:=by
 intro x hx
 simp only [aCv,List.mem_cons,List.not_mem_nil,or_false] at hx
 rcases hx with rfl | rfl | rfl <;> rfl
theorem bLe:iU [] (opA xA).o=([xA],kG):=by rw [aRm rfl,show pZ [] (opA xA).o.body=([xA],0) by decide];rfl
theorem bMg:iU [xA] (opA mP).o=([mP,xA],kG):=by rw [aRm rfl,show pZ [xA] (opA mP).o.body=([mP,xA],0) by decide];rfl
theorem bKm:iU [mP,xA] (opA tB3).o=([mP,xA],{ kG with err:=10 }):=by rw [aRm rfl,show pZ [mP,xA] (opA tB3).o.body=([mP,xA],10) by decide]
theorem bKz:fX [] (opsO aCv)=[mP,xA]:=by
 show (iU (iU (iU [] (opA xA).o).1 (opA mP).o).1 (opA tB3).o).1=_
 rw [bLe,bMg,bKm]
theorem bMp:vN 10000000000=100000:=(aYr (by decide) (by decide)).symm
theorem bEx:len (-100000) 0=100000:=by
 unfold len
 rw [show lsq (-100000) 0=10000000000 by decide,bMp]
 rfl
theorem bLs:mV mP xA=some ⟨1,2, -65536,0,31072⟩:=by
 have e:wK mP xA=((100000,0),(0,0),10000000000):=by decide
 have hu:mG (-100000) 0=(-65536,0):=by unfold mG;rw [bEx];decide
 unfold mV
 rw [if_neg (by decide)]
 unfold nK
 rw [e]
 show (if ((65536:Int)+65536).natAbs*((65536:Int)+65536).natAbs≤lsq (-100000) 0 then none else some (⟨1,2,(mG (-100000) 0).1,(mG (-100000) 0).2,IntKind.wrap .i32 (65536+65536 - len (-100000) 0)⟩:Con))=_
 rw [if_neg (by decide),hu,bEx]
 decide
theorem bMj:lM [mP,xA]=[(1,2)]:=by decide
theorem aFy:lL [mP,xA]=[⟨1,2, -65536,0,31072⟩]:=by
 have h:aEy (boM [mP,xA]) (1,2)=some ⟨1,2, -65536,0,31072⟩:=(rA (show boM [mP,xA] 1=some mP from by decide) (show boM [mP,xA] 2=some xA from by decide)).trans bLs
 unfold lL
 rw [bMj]
 simp only [List.filterMap_cons,List.filterMap_nil,h]
theorem bLo:oF [mP,xA]=[mP,xT]:=by
 unfold oF nA
 rw [aFy]
 decide +kernel
theorem bLy:sA [mP,xA]=false:=by
 unfold sA nA
 rw [aFy]
 decide +kernel
end Go.Bil

namespace Go.Bil
open Go Go.RowKit
theorem aWp {f n a:Nat} {z:Int} (hz:z=(n:Int)) (h:a=f / n):(f:Int).tdiv z=(a:Int):=by subst hz;subst h;rfl
theorem bDv {f n a:Nat} (h:a=f / n) (hf:f≤1000000000000):IntKind.wrap .i64 ((f:Int).tdiv (n:Int))=(a:Int):=by
 have hle:a≤f:=by rw [h];exact Nat.div_le_self f n
 rw [aWp rfl h]
 exact kO _ (by omega) (by omega)
theorem bMc {a:Nat} (h:(a:Int)=0):a=0:=by omega
theorem bKi {a:Nat} (h:¬ (a:Int)=0):a≠0:=by omega
section
variable {P:Program} {ρ:dM} {w:World}
theorem aVt {t t':TypeId} {x y:Operand} {a b:ByteArray} (hx:ev ρ x=.string a) (hy:ev ρ y=.string b):iM P ρ w (.binOp .eql t x y t') (.bool (decide (a.data.toList=b.data.toList))):=by
 intro d2 ty pos af gd
 have e2:(a.toList == b.toList)=decide (a.data.toList=b.data.toList):=by
  rw [ByteArray.toList_eq,ByteArray.toList_eq,Bool.eq_iff_iff]
  simp only [beq_iff_eq,decide_eq_true_eq]
 have g:(eqGuard .eql t x y (.string a) (.string b)).run P w=.ok () w:=rfl
 simp only [execOp,hx,hy,Sem.run_bind,g,Result.andThen,binOp,Op.stringOp,Sem.run_pure,e2]
end
theorem bLp {xs ys:List Int} (hx:gA xs) (hy:gA ys):(strOfNums xs).data.toList=(strOfNums ys).data.toList↔xs=ys:=by
 have h:=yD xs hx (strOfNums ys).data.toList
 have g:=yD ys hy (strOfNums ys).data.toList
 have e:ys=(strOfNums ys).data.toList.map (fun y=>(y.toNat:Int)):=Decidable.not_not.1 fun k=>(g.2 k) rfl
 rw [← e] at h
 exact Decidable.not_iff_not.1 h
variable {w0 w:World} {X:List Nat} {L T T':List cY} {rs ms:List Row}
theorem Mem.pushA (p:Row) (M:Mem w0 X ((L++[p.e])++(rs.map Row.e++T)) w):Mem w0 X (L++((rs++[p]).map Row.e++T)) w :=
 M.perm (by
  rw [List.append_assoc,List.map_append,List.append_assoc]
  refine List.Perm.append_left L ?_
  rw [← List.append_assoc,← List.append_assoc]
  exact List.Perm.append_right T List.perm_append_comm)
theorem Mem.pushB (p:Row) (M:Mem w0 X ((L++[p.e])++(T++ms.map Row.e)) w):Mem w0 X (L++(T++(ms++[p]).map Row.e)) w :=
 M.perm (by
  rw [List.append_assoc,List.map_append]
  refine List.Perm.append_left L ?_
  rw [← List.append_assoc T]
  exact List.perm_append_comm)
theorem Mem.pushAB (p q:Row) (M:Mem w0 X ((L++[p.e,q.e])++(rs.map Row.e++ms.map Row.e)) w):Mem w0 X (L++((rs++[p]).map Row.e++(ms++[q]).map Row.e)) w:=by
 have e:L++[p.e,q.e]=(L++[p.e])++[q.e]:=by rw [List.append_assoc];rfl
 rw [e] at M
 exact Mem.pushA p (Mem.pushB q M)
theorem Mem.noT (M:Mem w0 X (L++T) w):Mem w0 X L w:=M.sub (List.sublist_append_left L T)
theorem Mem.segE {B:List cY} {w':World} (i k:Nat) (M:Mem w0 X (L++T) w) (hk:i+k≤L.length) (C:Mem w (bI ((L.drop i).take k)) B w'):Mem w0 X ((L.take i++B++L.drop (i+k))++T) w':=by
 have h:=Mem.segU (A:=[]) (T':=[]) i k M hk (show Mem w _ (B++([]++[])) w' by rw [List.append_nil,List.append_nil];exact C)
 rw [List.append_nil,List.append_nil] at h
 exact h
theorem BytRd.seg {B:Option Addr} {m:Nat} {bs:List (List Int)} {S:List cY} (h:BytRd w0 B m rs bs) (M:Mem w0 X S w) (hd:oR rs X) (i k:Nat):oR rs (bI ((S.drop i).take k)):=by
 intro r hr
 obtain ⟨j,hj⟩:=List.getElem?_of_mem hr
 have hjl:j < m:=by rw [← h.n_eq.2];exact (List.getElem?_eq_some_iff.1 hj).1
 obtain ⟨r2,b,hr2,hb,_,hrd,_,_⟩:=h.at hjl
 rw [hj] at hr2
 obtain rfl:=Option.some.inj hr2
 exact M.away i k hrd (hd r hr)
theorem aVn (rs:List Row):oR rs []:=fun r hr hn q off hA=>by simp
theorem aLv (xs:List Int):∀ y∈xs.map bG,∀ u∈y,one u=true:=by
 intro y hy
 obtain ⟨x,_,rfl⟩:=List.mem_map.1 hy
 simp [bG,Go.Bil.one]
structure OutRd (w:World) (A:Option Addr) (n:Nat) (rs:List Row) (zs:List ResI):Prop where
 rd:Rd w 4 A n (jR zs rs)
 len:rs.length=zs.length
 row:∀ (j:Nat) (r:Row) (z:ResI),rs[j]? = some r→zs[j]? = some z→Rd w 1 r.A r.n (z.bytes.map bG)
theorem OutR.rds {T T2 n c:Nat} {A:Option Addr} {e:cY} {S:List cY} {zs:List ResI} (h:OutR T rs zs) (hq:aR T2 4 A n c (jR zs rs) e) (M:Mem w0 X S w) (he:e∈S) (ht:∀ r∈rs,r.e∈S):OutRd w A n rs zs :=
 ⟨hq.rd M he,h.len,fun j r z hr hz=>h.rd M ht hr hz⟩
theorem OutRd.mem {w1 w2:World} {S:List cY} {A:Option Addr} {n:Nat} {zs:List ResI} (h:OutRd w1 A n rs zs) (M:Mem w1 [] S w2):OutRd w2 A n rs zs:=⟨h.rd.mem M,h.len,fun j r z hr hz=>(h.row j r z hr hz).mem M⟩
theorem OutRd.n_eq {A:Option Addr} {n:Nat} {zs:List ResI} (h:OutRd w A n rs zs):zs.length=n:=by
 have:=h.rd.len
 rwa [oE h.len] at this
structure LogR (T T1 T8:Nat) (l:List OpI) (k:Nat) (qo qm:Row) (ps ms:List Row):Prop where
 ops:aR T 15 qo.A qo.n qo.c ((yN l ps).map OpRow.cells) qo.e
 byt:BytR T8 ps (l.map OpI.bytes)
 good:∀ o∈l,GoodO o
 mks:aR T1 1 qm.A qm.n qm.c (ms.map hdr) qm.e
 mby:BytR T8 ms (fP l k (l.length / k))
theorem LogR.plen {T T1 T8:Nat} {l:List OpI} {k:Nat} {qo qm:Row} {ps ms:List Row} (h:LogR T T1 T8 l k qo qm ps ms):ps.length=l.length:=by rw [h.byt.len,List.length_map]
theorem LogR.on {T T1 T8:Nat} {l:List OpI} {k:Nat} {qo qm:Row} {ps ms:List Row} (h:LogR T T1 T8 l k qo qm ps ms):qo.n=l.length:=by
 have:=h.ops.1
 rw [List.length_map,aOg h.plen] at this
 exact this.symm
theorem LogR.mn {T T1 T8:Nat} {l:List OpI} {k:Nat} {qo qm:Row} {ps ms:List Row} (h:LogR T T1 T8 l k qo qm ps ms):qm.n=l.length / k:=by
 have:=h.mks.1
 rw [List.length_map,h.mby.len,rN] at this
 exact this.symm
theorem LogR.opsRd {S:List cY} {T T1 T8:Nat} {l:List OpI} {k:Nat} {qo qm:Row} {ps ms:List Row} (h:LogR T T1 T8 l k qo qm ps ms) (M:Mem w0 X S w) (he:qo.e∈S) (ht:∀ r∈ps,r.e∈S):OpsRd w qo.A qo.n (yN l ps):=aOm h.byt h.good h.ops M he ht
theorem LogR.bytRd {S:List cY} {T T1 T8:Nat} {l:List OpI} {k:Nat} {qo qm:Row} {ps ms:List Row} (h:LogR T T1 T8 l k qo qm ps ms) (M:Mem w0 X S w) (he:qm.e∈S) (ht:∀ r∈ms,r.e∈S):BytRd w qm.A qm.n ms (fP l k (l.length / k)):=h.mby.rds h.mks M he ht aMg
theorem LogR.opsO {T T1 T8:Nat} {l:List OpI} {k:Nat} {qo qm:Row} {ps ms:List Row} (h:LogR T T1 T8 l k qo qm ps ms):opsO (yN l ps)=l:=aHm h.plen
theorem LogR.bn {T T1 T8:Nat} {l:List OpI} {k:Nat} {qo qm:Row} {ps ms:List Row} (h:LogR T T1 T8 l k qo qm ps ms):∀ x∈yN l ps,x.n≤1000000:=bFe h.byt h.good
theorem LogR.okO {T T1 T8:Nat} {l:List OpI} {k:Nat} {qo qm:Row} {ps ms:List Row} (h:LogR T T1 T8 l k qo qm ps ms):∀ o∈l,OkO o:=fun o ho=>(h.good o ho).ok
theorem aIl {l:List OpI} (hl:∀ o∈l,OkO o) {k n:Nat}:∀ b∈fP l k n,b.length≤1000000:=by
 intro b hb
 unfold fP at hb
 obtain ⟨i,_,rfl⟩:=List.mem_map.1 hb
 unfold nS
 rw [zB]
 have:=(aRn hl ((i+1)*k)).len
 omega
theorem aSo {l:List OpI} {k:Nat} {bs:List (List Int)}:∀ n,fN l k bs n < 0→fN l k bs n = -1
 | 0,_=>rfl
 | n+1,h=>by
  revert h
  show (if fN l k bs n < 0 then (if bs[n]? = some (nS l k n) then -1 else (n:Int)) else fN l k bs n) < 0→(if fN l k bs n < 0 then (if bs[n]? = some (nS l k n) then -1 else (n:Int)) else fN l k bs n) = -1
  by_cases h1:fN l k bs n < 0
  ·rw [if_pos h1]
   split
   ·intro;rfl
   ·intro h;omega
  ·rw [if_neg h1]
   intro h
   exact absurd h h1
def aAl (g:Int) (bs:List (List Int)) (j:Nat) (v:List Int):Int:=if g < 0∧bs[j]? ≠ some v then (j:Int) else g
theorem aMk {l:List OpI} {k:Nat} {bs:List (List Int)} (n:Nat):fN l k bs (n+1)=aAl (fN l k bs n) bs n (nS l k n):=by
 show (if fN l k bs n < 0 then (if bs[n]? = some (nS l k n) then -1 else (n:Int)) else fN l k bs n)=_
 unfold aAl
 by_cases h1:fN l k bs n < 0
 ·rw [if_pos h1]
  by_cases h2:bs[n]? = some (nS l k n)
  ·rw [if_pos h2,if_neg (fun h=>h.2 h2)]
   exact (aSo n h1).symm
  ·rw [if_neg h2,if_pos ⟨h1,h2⟩]
 ·rw [if_neg h1,if_neg (fun h=>h1 h.1)]
theorem aQo {l:List OpI} {k i:Nat} {bs:List (List Int)} (hk:0 < k) (h:(i+1) % k=0):fN l k bs ((i+1) / k)=aAl (fN l k bs (i / k)) bs (i / k) (iK (fX [] (l.take (i+1)))):=by
 rcases aBq (i:=i) hk with ⟨_,h2,h3⟩ | ⟨h1,_⟩
 ·rw [h2,aMk]
  unfold nS
  rw [h3]
 ·exact absurd h h1
def aNy (l:List OpI) (k:Nat) (bs:List (List Int)):Int × Int:=if 0≤fN l k bs bs.length then (fN l k bs bs.length,13) else ((bs.length:Int),0)
theorem aQy {l:List OpI} {k:Nat} {m:Nat}:aNy l k (fP l k m)=((m:Int),0):=by
 have h:fN l k (fP l k m) (fP l k m).length = -1:=by rw [rN];exact yV m (fun i hi=>aKg l k hi)
 unfold aNy
 rw [h,if_neg (by decide),rN]
theorem aXb {l:List OpI} {k:Nat} {bs:List (List Int)} {n a:Nat} (ha:a=n / k) {b:List Int} (h:0 < a) (hb:bs[a - 1]? = some b):yL l k bs n=fX (nD [] b) ((l.drop (a*k)).take (n - a*k)):=by
 unfold yL
 rw [← ha,if_neg (by omega),List.getD_eq_getElem?_getD,hb,List.drop_take]
 rfl
theorem aRh {l:List OpI} {k:Nat} {bs:List (List Int)} {n a:Nat} (ha:a=n / k) (h:a=0):yL l k bs n=fX [] ((l.drop (a*k)).take (n - a*k)):=by
 unfold yL
 rw [← ha,if_pos h,List.drop_take]
theorem bAe {T n c i sz m n':Nat} {A:Option Addr} {X:List Nat} {ls:List (List Value)} {e:cY} (hr:aR T sz A n c ls e) (h:0 < n→∀ q off,A=some ⟨q,off,none⟩→q∉X) (hn:0 < n'→0 < n):0 < n'→∀ q off,pO A m i sz=some ⟨q,off,none⟩→q∉X:=by
 intro h1 q off hA
 obtain ⟨b,_,_,hb,_⟩:=hr.block (hn h1)
 subst hb
 have e:q=b:=by
  unfold pO at hA
  split at hA
  ·exact (congrArg Addr.block (Option.some.inj hA)).symm
  ·have e:(⟨b,0,none⟩:Addr).add (i*sz)=⟨q,off,none⟩:=Option.some.inj hA
   unfold Addr.add at e
   split at e
   ·exact (congrArg Addr.block e).symm
   ·exact (congrArg Addr.block e).symm
 rw [e]
 exact h (hn h1) b 0 Z
theorem aVs {l:List OpRow} {nn i:Nat} {z:ResI} (h:nn≤l.length) (hz:(jF (fX [] ((opsO l).take nn)) (opsO (l.drop nn)))[i]? = some z):(jF [] (opsO l))[nn+i]? = some z:=by
 have e:(jF [] ((opsO l).take nn)).length=nn:=by rw [kY,List.length_take,gB];omega
 rw [aTh [] (a:=nn),List.getElem?_append_right (by omega),e,Nat.add_sub_cancel_left,← rI]
 exact hz
theorem aUi (l:List OpRow) (nn:Nat):fX (fX [] ((opsO l).take nn)) (opsO (l.drop nn))=fX [] (opsO l):=by rw [rI,← nH,List.take_append_drop]
theorem BytR.put {T i:Nat} {a b:List Row} {r r':Row} {bs:List (List Int)} {nb:List Int} (h:BytR T (a++r::b) bs) (ha:a.length=i) (hr:aR T 1 r'.A r'.n r'.c (nb.map bG) r'.e):BytR T (a++r'::b) (bs.set i nb):=by
 refine ⟨by rw [List.length_set,← h.len];simp,fun j q k hq hk => ?_⟩
 by_cases hj:j=i
 ·subst hj
  rw [List.getElem?_append_right (by omega),ha,Nat.sub_self] at hq
  simp only [List.getElem?_cons_zero,Option.some.injEq] at hq
  subst hq
  rw [List.getElem?_set_self (by
   have:=(List.getElem?_eq_some_iff.1 hk).1
   rwa [List.length_set] at this)] at hk
  obtain rfl:=Option.some.inj hk
  exact hr
 ·rw [List.getElem?_set_ne (fun e=>hj e.symm)] at hk
  refine h.row j q k ?_ hk
  by_cases hl:j < a.length
  ·rw [List.getElem?_append_left hl] at hq ⊢
   exact hq
  ·rw [List.getElem?_append_right (by omega)] at hq ⊢
   have hs:j - a.length≠0:=by omega
   obtain ⟨s,hs⟩:=Nat.exists_eq_succ_of_ne_zero hs
   rw [hs] at hq ⊢
   exact hq
end Go.Bil
