/- Part of the proof of a law of this seat (12 texts). No conditions. -/
import Derived.Test.YtpcloigancpnbaaGreatDoorK18
import Derived.Test.YtpcloigancpnbaaGreatDoorK33
set_option linter.unusedVariables false
set_option linter.unusedSimpArgs false
set_option linter.unnecessarySimpa false
set_option maxHeartbeats 100000000
namespace Go.Bil
def pushB (b:Body) (j:Int × Int):Body:={ b with vx:=jO (b.vx+j.1*b.mass / 65536) 16777216,vy:=jO (b.vy+j.2*b.mass / 65536) 16777216 }
theorem aXg {b:Body} (h:Okb b) (j:Int × Int):Okb (pushB b j):=⟨h.r,h.a,h.m,h.c,h.p,⟨(fA _ (by decide)).1,(fA _ (by decide)).2,(fA _ (by decide)).1,(fA _ (by decide)).2⟩⟩
theorem aGo {b:Body} (h:Okb b):check b=0:=by
 have h1:=h.r
 have h2:=h.a
 have h3:=h.m
 have h4:=h.c
 have h5:=h.p
 have h6:=h.v
 unfold check xT
 rw [if_neg (by omega),if_neg (by omega),if_neg (by omega),if_neg (by omega),if_neg (by omega),if_neg (by omega)]
def sH (v:List Body) (k:Int) (j:Int × Int):List Body × Int:=if dR k v < 0 then (v,11) else (xY v (pushB (v.getD (dR k v).toNat default) j) false,0)
structure OpI where
 kind:Int
 body:Body
 key:Int
 push:Int × Int
 bytes:List Int
structure ResI where
 err:Int
 body:Body
 bytes:List Int
 cont:Int
 cl:Bool
def nV:ResI:=⟨0,aVg,[],0,false⟩
def qR (v:List Body) (k:Int):ResI:=if dR k v < 0 then { nV with err:=11 } else { nV with body:=v.getD (dR k v).toNat default }
def pR (v:List Body) (l:List Int):List Body:=if (nS l).2=0 then (nS l).1 else v
def doR (v:List Body) (o:OpI):List Body × ResI :=
 if o.kind=0 then ((pD v o.body).1,{ nV with err:=(pD v o.body).2 })
 else if o.kind=1 then ((iH v o.key).1,{ nV with err:=(iH v o.key).2 })
 else if o.kind=2 then ((sH v o.key o.push).1,{ nV with err:=(sH v o.key o.push).2 })
 else if o.kind=3 then (rK v,{ nV with cont:=((lY v).length:Int),cl:=aAi v })
 else if o.kind=4 then (v,{ nV with bytes:=kN v })
 else if o.kind=5 then (pR v o.bytes,{ nV with err:=(nS o.bytes).2 })
 else if o.kind=6 then (v,qR v o.key)
 else (v,nV)
structure GoodV (v:List Body):Prop where
 s:dA v
 len:v.length≤4096
 ok:∀ b∈v,check b=0
 inb:∀ b∈v,InB b
theorem GoodV.okb {v:List Body} (h:GoodV v):∀ b∈v,Okb b:=fun b hb=>aOu (h.ok b hb)
theorem GoodV.chk {v:List Body} (h:GoodV v):jH v=0:=aYv (bEo h.len h.ok) h.s
theorem GoodV.nil:GoodV []:=⟨by simp [dA],by simp,by simp,by simp⟩
def dC (T:Nat) (r:StV) (v:List Body):Prop:=GoodV v∧∃ m,StoreIs T r.A r.n r.c r.p r.er r.em m∧Rel m v
theorem aEc {T:Nat} {r:StV} {m v:List Body} (h:StoreIs T r.A r.n r.c r.p r.er r.em m) (R:Rel m v) (hi:∀ b∈m,InB b):dC T r v :=
 ⟨⟨R.sorted,by rw [R.perm.length_eq];exact h.cap,fun b hb=>h.ok b (R.perm.mem_iff.1 hb),fun b hb=>hi b (R.perm.mem_iff.1 hb)⟩,m,h,R⟩
theorem dC.new (T:Nat) (o o':Obj):dC T ⟨none,0,0,none,(none,o),(none,o')⟩ []:=aEc (StoreIs.nil T o o') Rel.nil (by simp)
theorem aVo {m:List Body} {x:Body} (h:∀ b∈m,InB b) (hx:InB x):∀ b∈(pC m x).1,InB b:=by
 intro b hb
 unfold pC at hb
 split at hb
 ·exact h b hb
 ·split at hb
  ·exact h b hb
  ·split at hb
   ·exact h b hb
   ·rcases List.mem_append.1 hb with h1 | h1
    ·exact h b h1
    ·rw [List.mem_singleton] at h1;subst h1;exact hx
theorem aGz {m:List Body} (hk:kY m) {k:Int} (h:∀ b∈m,InB b):∀ b∈(mJ m k).1,InB b:=fun b hb=>h b (zQ.1 ((aDd hk k).mem_iff.1 hb)).1
theorem aXm {m:List Body} {x:Body} (h:∀ b∈m,InB b) (hx:InB x):∀ b∈(tR m x).1,InB b:=by
 intro b hb
 unfold tR at hb
 split at hb
 ·exact h b hb
 ·split at hb
  ·exact h b hb
  ·rcases List.mem_or_eq_of_mem_set hb with h1 | h1
   ·exact h b h1
   ·subst h1;exact hx
theorem GoodV.inm {v m:List Body} (h:GoodV v) (R:Rel m v):∀ b∈m,InB b:=fun b hb=>h.inb b (R.perm.mem_iff.2 hb)
theorem aXf {b:Body} (h:InB b) (j:Int × Int):InB (pushB b j):=by
 obtain ⟨h0,h1,h2,h3,h4,h5,h6,h7,h8,h9⟩:=h
 have a:=fA (b.vx+j.1*b.mass / 65536) (l:=16777216) (by decide)
 have c:=fA (b.vy+j.2*b.mass / 65536) (l:=16777216) (by decide)
 exact ⟨h0,h1,h2,h3,h4,h5,h6,h7,⟨by show -2147483648≤jO _ _;omega,by show jO _ _≤2147483647;omega⟩,⟨by show -2147483648≤jO _ _;omega,by show jO _ _≤2147483647;omega⟩⟩
theorem bKu {xs ys:List Body} (l:Like xs ys) (hx:∀ b∈xs,InB b) (hy:∀ b∈ys,Okb b):∀ b∈ys,InB b:=by
 intro b hb
 obtain ⟨i,hi⟩:=List.getElem?_of_mem hb
 have hlt:i < xs.length:=by rw [← l.len];exact (List.getElem?_eq_some_iff.1 hi).1
 have hxi:=List.getElem?_eq_getElem hlt
 have hs:=l.at_ i _ b hxi hi
 obtain ⟨h0,_⟩:=hx _ (List.getElem_mem hlt)
 have o:=hy b hb
 have o1:=o.r
 have o2:=o.a
 have o3:=o.m
 have o4:=o.c
 have o5:=o.p
 have o6:=o.v
 have:=hs.key
 exact ⟨by omega,by omega,by omega,by omega,by omega,by omega,by omega,by omega,by omega,by omega⟩
theorem GoodV.step {v:List Body} (h:GoodV v):GoodV (rK v) :=
 ⟨(aBx v).sorted h.s,by rw [(aBx v).len];exact h.len,fun b hb=>aGo (aXr h.okb b hb),bKu (aBx v) h.inb (aXr h.okb)⟩
theorem GoodV.dec {l:List Int} (hl:iK l) (hn:l.length≤1000000) (h:(nS l).2=0):GoodV (nS l).1:=by
 have d:=bJm hl h
 have hc:=d.c
 have h1:pN (nS l).1=0:=by
  unfold jH at hc
  split at hc
  ·rename_i hne;exact absurd hc hne
  ·rename_i hne;exact Decidable.not_not.1 hne
 obtain ⟨h2,h3⟩:=bEp h1
 refine ⟨?_,h2,h3,d.inb⟩
 unfold jH at hc
 rw [if_neg (by omega)] at hc
 by_cases ha:aIh (nS l).1=true
 ·exact tS ha
 ·rw [if_neg ha] at hc;omega
theorem aOc {v:List Body} (h:GoodV v):∀ k,k≤v.length→aJn (v.take k)=v.take k:=by
 intro k hk
 rw [aEp h.s.keys h.len k hk]
 exact List.filter_eq_self.2 fun b hb=>by simpa using h.ok b (List.mem_of_mem_take hb)
theorem aAb {v:List Body} (h:dA v):Rel v v:=⟨List.Perm.refl _,h⟩
theorem bAr {v:List Body} {l:List Int} (h:GoodV v) (hl:iK l) (hn:l.length≤1000000):GoodV (pR v l):=by
 unfold pR
 split
 ·rename_i hd;exact GoodV.dec hl hn hd
 ·exact h
theorem vC {v:List Body} {k:Int} {i:Nat} {b:Body} (hf:dR k v=(i:Int)) (hb:v[i]? = some b):v.getD (dR k v).toNat default=b:=by
 rw [hf,Int.toNat_natCast,List.getD_eq_getElem?_getD,hb]
 rfl
theorem bBa {v:List Body} (h:GoodV v):nS (kN v)=(v,0):=bEf h.inb h.len h.chk
theorem aWw {m v:List Body} (R:Rel m v) (h:GoodV v) {k:Int} {i:Nat} {b:Body} (j:Int × Int) (hf:dR k v=(i:Int)) (hb:v[i]? = some b):Rel (tR m (pushB b j)).1 (sH v k j).1∧(tR m (pushB b j)).2=0∧(sH v k j).2=0∧(sH v k j).1=xY v (pushB b j) false:=by
 have hbm:b∈v:=List.mem_of_getElem? hb
 have hi:(sH v k j)=(xY v (pushB b j) false,0):=by unfold sH;rw [if_neg (by omega),vC hf hb]
 have hk:b.key=k:=by
  rcases eP k v with ⟨h1,_⟩ | ⟨q,c,h1,h2,h3⟩
  ·omega
  ·have:q=i:=by omega
   subst this
   rw [h1] at hb;injection hb with hb;rw [← hb];exact h2
 have hp:check (pushB b j)=0:=aGo (aXg (h.okb b hbm) j)
 obtain ⟨h1,h2⟩:=R.set (pushB b j)
 have hs:bHm v (pushB b j)=(xY v (pushB b j) false,0):=by
  unfold bHm
  rw [if_neg (by omega),if_neg (by show ¬ dR b.key v < 0;rw [hk];omega)]
 rw [hs] at h1 h2
 exact ⟨by rw [hi];exact h1,h2.symm,by rw [hi],by rw [hi]⟩
theorem uK {v:List Body} {k:Int} (j:Int × Int) (h:dR k v < 0):sH v k j=(v,11):=by unfold sH;rw [if_pos h]
end Go.Bil
namespace Go.Bil
theorem bLd {j m:Int} (hj : -2147483648≤j∧j≤2147483647) (hm:0≤m∧m≤1048576) : -2251799813685248≤j*m∧j*m≤2251799813685248:=by
 have h1:j*m≤2147483647*m:=Int.mul_le_mul_of_nonneg_right hj.2 hm.1
 have h2 : -2147483648*m≤j*m:=Int.mul_le_mul_of_nonneg_right hj.1 hm.1
 omega
theorem bKh {m v:List Body} (R:Rel m v) (k:Int):aFx m k=((qR v k).body,(qR v k).err):=by
 rcases R.get k with ⟨h1,h2⟩ | ⟨i,b,h1,h2,h3⟩
 ·rw [h2];unfold qR;rw [if_pos h1];rfl
 ·rw [h3];unfold qR;rw [if_neg (by omega),vC h1 h2];rfl
end Go.Bil
namespace Go.Bil
theorem bEi {v:List Body} {o:OpI} (h0:o.kind=0):doR v o=((pD v o.body).1,{ nV with err:=(pD v o.body).2 }):=by unfold doR;rw [if_pos h0]
theorem bEj {v:List Body} {o:OpI} (h:o.kind=1):doR v o=((iH v o.key).1,{ nV with err:=(iH v o.key).2 }):=by unfold doR;rw [if_neg (by omega),if_pos h]
theorem bEk {v:List Body} {o:OpI} (h:o.kind=2):doR v o=((sH v o.key o.push).1,{ nV with err:=(sH v o.key o.push).2 }):=by unfold doR;rw [if_neg (by omega),if_neg (by omega),if_pos h]
theorem bEl {v:List Body} {o:OpI} (h:o.kind=3):doR v o=(rK v,{ nV with cont:=((lY v).length:Int),cl:=aAi v }):=by unfold doR;rw [if_neg (by omega),if_neg (by omega),if_neg (by omega),if_pos h]
theorem bEm {v:List Body} {o:OpI} (h:o.kind=4):doR v o=(v,{ nV with bytes:=kN v }):=by unfold doR;rw [if_neg (by omega),if_neg (by omega),if_neg (by omega),if_neg (by omega),if_pos h]
theorem aPc {v:List Body} {o:OpI} (h:o.kind=5):doR v o=(pR v o.bytes,{ nV with err:=(nS o.bytes).2 }):=by unfold doR;rw [if_neg (by omega),if_neg (by omega),if_neg (by omega),if_neg (by omega),if_neg (by omega),if_pos h]
theorem aSw {v:List Body} {o:OpI} (h:o.kind=6):doR v o=(v,qR v o.key):=by unfold doR;rw [if_neg (by omega),if_neg (by omega),if_neg (by omega),if_neg (by omega),if_neg (by omega),if_neg (by omega),if_pos h]
theorem bJr {v:List Body} {o:OpI} (h0:¬ o.kind=0) (h1:¬ o.kind=1) (h2:¬ o.kind=2) (h3:¬ o.kind=3) (h4:¬ o.kind=4) (h5:¬ o.kind=5) (h6:¬ o.kind=6):doR v o=(v,nV):=by
 unfold doR;rw [if_neg h0,if_neg h1,if_neg h2,if_neg h3,if_neg h4,if_neg h5,if_neg h6]
theorem aBe {v:List Body} {k:Int} (h:dR k v < 0):qR v k={ nV with err:=11 }:=by unfold qR;rw [if_pos h]
theorem aBf {v:List Body} {k:Int} {i:Nat} {b:Body} (hf:dR k v=(i:Int)) (hb:v[i]? = some b):qR v k={ nV with body:=b }:=by unfold qR;rw [if_neg (by omega),vC hf hb]
def dU (o:OpI) (A:Option Addr) (n c:Nat):List Value:=[.int .i64 o.kind]++aF o.body++[.int .u32 o.key,.int .i32 o.push.1,.int .i32 o.push.2,.slice A n c]
def bGz (A:Option Addr) (n c:Nat) (B:Option Addr) (m d:Nat) (z:ResI):List Value:=[.slice A n c,.int .i64 z.err]++aF z.body++[.slice B m d,.int .i64 z.cont,.bool z.cl]
structure OpOk (w:World) (o:OpI) (A:Option Addr) (n c:Nat):Prop where
 rd:Rd w 1 A n (o.bytes.map bL)
 cap:n≤c
 byt:iK o.bytes
 body:InB o.body
 p1 : -2147483648≤o.push.1∧o.push.1≤2147483647
 p2 : -2147483648≤o.push.2∧o.push.2≤2147483647
theorem OpOk.len {w:World} {o:OpI} {A:Option Addr} {n c:Nat} (h:OpOk w o A n c):o.bytes.length=n:=by simpa using h.rd.len
theorem OpOk.mem {w0 w:World} {S:List eN} {o:OpI} {A:Option Addr} {n c:Nat} (h:OpOk w0 o A n c) (M:Mem w0 [] S w):OpOk w o A n c:=⟨h.rd.mem M,h.cap,h.byt,h.body,h.p1,h.p2⟩
theorem OpOk.memY {w0 w:World} {X:List Nat} {S:List eN} {o:OpI} {A:Option Addr} {n c:Nat} (h:OpOk w0 o A n c) (M:Mem w0 X S w) (hX:0 < n→∀ q off,A=Option.some ⟨q,off,none⟩→q∉X):OpOk w o A n c:=⟨h.rd.memY M hX,h.cap,h.byt,h.body,h.p1,h.p2⟩
structure OpRow where
 o:OpI
 A:Option Addr
 n:Nat
 c:Nat
def OpRow.cells (x:OpRow):List Value:=dU x.o x.A x.n x.c
structure OpsRd (w:World) (A:Option Addr) (n:Nat) (l:List OpRow):Prop where
 rd:Rd w 15 A n (l.map OpRow.cells)
 each:∀ x∈l,OpOk w x.o x.A x.n x.c
theorem OpsRd.mem {w0 w:World} {S:List eN} {A:Option Addr} {n:Nat} {l:List OpRow} (h:OpsRd w0 A n l) (M:Mem w0 [] S w):OpsRd w A n l:=⟨h.rd.mem M,fun x hx=>(h.each x hx).mem M⟩
end Go.Bil
namespace Go.Bil
end Go.Bil
namespace Go.Bil
theorem bAs {v:List Body} (h:GoodV v) (u:List Body):pR u (kN v)=v:=by unfold pR;rw [bBa h];rfl
end Go.Bil
namespace Go.Bil
end Go.Bil
namespace Go.Bil
end Go.Bil

namespace Go.Bil
def hJ (v:List Body) (o:OpI):List Body × ResI:=if o.kind < 1∨6 < o.kind then (v,{ nV with err:=1 }) else doR v { o with kind:=o.kind - 1 }
def eX (v:List Body):List OpI→List Body
 | []=>v
 | o::l=>eX (hJ v o).1 l
def kW (v:List Body):List OpI→List ResI
 | []=>[]
 | o::l=>(hJ v o).2::kW (hJ v o).1 l
theorem rI (v:List Body):∀ (a b:List OpI),eX v (a++b)=eX (eX v a) b
 | [],b=>rfl
 | o::a,b=>rI (hJ v o).1 a b
theorem aRc (v:List Body):∀ (a b:List OpI),kW v (a++b)=kW v a++kW (eX v a) b:=by
 intro a
 induction a generalizing v with
 | nil=>intro b;rfl
 | cons o a ih=>intro b;show _::kW (hJ v o).1 (a++b)=_;rw [ih];rfl
theorem mY {v:List Body} {l:List OpI} {i:Nat} {o:OpI} (h:l[i]? = some o):eX v (l.take (i+1))=(hJ (eX v (l.take i)) o).1:=by rw [cB h,rI];rfl
theorem eT {v:List Body} {l:List OpI} {i:Nat} {o:OpI} (h:l[i]? = some o):kW v (l.take (i+1))=kW v (l.take i)++[(hJ (eX v (l.take i)) o).2]:=by rw [cB h,aRc];rfl
theorem mH (v:List Body):∀ l:List OpI,(kW v l).length=l.length
 | []=>rfl
 | o::l=>by show (kW (hJ v o).1 l).length+1=l.length+1;rw [mH (hJ v o).1 l]
theorem jS {v:List Body} {o:OpI} (h:¬ (1≤o.kind∧o.kind≤6)):hJ v o=(v,{ nV with err:=1 }):=by unfold hJ;rw [if_pos (by omega)]
end Go.Bil

namespace Go.Bil
structure OkO (o:OpI):Prop where
 body:InB o.body
 byt:iK o.bytes
 len:o.bytes.length≤1000000
theorem aFy {m v:List Body} (R:Rel m v) (hl:m.length≤4096) (hc:∀ b∈m,check b=0) (hi:∀ b∈m,InB b):GoodV v :=
 ⟨R.sorted,by rw [R.perm.length_eq];exact hl,fun b hb=>hc b (R.perm.mem_iff.1 hb),fun b hb=>hi b (R.perm.mem_iff.1 hb)⟩
theorem bCe {v:List Body} {b:Body} (h:GoodV v) (hb:InB b):GoodV (pD v b).1:=by
 have R:=((aAb h.s).add b).1
 obtain ⟨_,h2,h3⟩:=aLm (x:=b) ⟨h.s.keys,h.len,h.ok⟩
 exact aFy R h2 h3 (aVo h.inb hb)
theorem aQy {v:List Body} {k:Int} (h:GoodV v):GoodV (iH v k).1:=by
 have R:=((aAb h.s).remove k).1
 have p:=aDd h.s.keys k
 refine aFy R ?_ (fun b hb=>h.ok b (zQ.1 (p.mem_iff.1 hb)).1) (aGz h.s.keys h.inb)
 rw [p.length_eq]
 exact Nat.le_trans (List.length_filter_le _ _) h.len
theorem bFe {v:List Body} {k:Int} {j:Int × Int} (h:GoodV v):GoodV (sH v k j).1:=by
 by_cases hf:dR k v < 0
 ·rw [uK j hf];exact h
 ·obtain ⟨i,bb,hbi,_,hfi⟩:=(eP k v).resolve_left (fun g=>hf (by omega))
  obtain ⟨h1,h2,_,_⟩:=aWw (aAb h.s) h j hfi hbi
  have hbm:=List.mem_of_getElem? hbi
  have hin:=aXm h.inb (aXf (h.inb bb hbm) j)
  have hsm:∀ b∈(tR v (pushB bb j)).1,b∈v∨b=pushB bb j:=by
   intro b hb
   unfold tR at hb
   split at hb
   ·exact .inl hb
   ·split at hb
    ·exact .inl hb
    ·exact List.mem_or_eq_of_mem_set hb
  refine aFy h1 ?_ (fun b hb => ?_) hin
  ·unfold tR
   split
   ·exact h.len
   ·split
    ·exact h.len
    ·rw [List.length_set];exact h.len
  ·rcases hsm b hb with g | rfl
   ·exact h.ok b g
   ·exact aGo (aXg (h.okb bb hbm) j)
theorem bJq {v:List Body} {o:OpI} (h:GoodV v) (ho:OkO o):GoodV (doR v o).1:=by
 by_cases h0:o.kind=0
 ·rw [bEi h0];exact bCe h ho.body
 by_cases h1:o.kind=1
 ·rw [bEj h1];exact aQy h
 by_cases h2:o.kind=2
 ·rw [bEk h2];exact bFe h
 by_cases h3:o.kind=3
 ·rw [bEl h3];exact h.step
 by_cases h4:o.kind=4
 ·rw [bEm h4];exact h
 by_cases h5:o.kind=5
 ·rw [aPc h5];exact bAr h ho.byt ho.len
 by_cases h6:o.kind=6
 ·rw [aSw h6];exact h
 rw [bJr h0 h1 h2 h3 h4 h5 h6];exact h
theorem bLt {v:List Body} {o:OpI} (h:GoodV v) (ho:OkO o):GoodV (hJ v o).1:=by
 unfold hJ
 split
 ·exact h
 ·exact bJq h ⟨ho.body,ho.byt,ho.len⟩
theorem aAc:∀ {l:List OpI} {v:List Body},GoodV v→(∀ o∈l,OkO o)→GoodV (eX v l)
 | [],v,h,_=>h
 | o::l,v,h,hl=>by
  show GoodV (eX (hJ v o).1 l)
  exact aAc (bLt h (hl o (by simp))) (fun q hq=>hl q (by simp [hq]))
def rB (l:List OpI) (k i:Nat):List Int:=kN (eX [] (l.take ((i+1)*k)))
def fT (l:List OpI) (k n:Nat):List (List Int):=(List.range n).map (rB l k)
theorem aGh (l:List OpI) (k n:Nat):fT l k (n+1)=fT l k n++[rB l k n]:=by unfold fT;rw [List.range_succ,List.map_append];rfl
theorem pY (l:List OpI) (k n:Nat):(fT l k n).length=n:=by unfold fT;rw [List.length_map,List.length_range]
theorem aQe (l:List OpI) (k:Nat) {n i:Nat} (h:i < n):(fT l k n)[i]? = some (rB l k i):=by unfold fT;rw [List.getElem?_map,List.getElem?_range h];rfl
theorem bHg {l:List OpI} (hl:∀ o∈l,OkO o) {a n:Nat} (h:a≤n):eX (pR [] (kN (eX [] (l.take a)))) ((l.take n).drop a)=eX [] (l.take n):=by
 have hg:GoodV (eX [] (l.take a)):=aAc GoodV.nil (fun o ho=>hl o (List.mem_of_mem_take ho))
 rw [bAs hg]
 have e:l.take n=l.take a++(l.take n).drop a:=by
  conv=>lhs;rw [← List.take_append_drop a (l.take n)]
  rw [List.take_take,Nat.min_eq_left h]
 conv=>rhs;rw [e,rI]
def jC (l:List OpI) (k:Nat) (ms:List (List Int)):Nat→Int
 | 0 => -1
 | n+1=>if jC l k ms n < 0 then (if ms[n]? = some (rB l k n) then -1 else (n:Int)) else jC l k ms n
theorem aIa {l:List OpI} {k:Nat} {ms:List (List Int)}:∀ n,(∀ i,i < n→ms[i]? = some (rB l k i))→jC l k ms n = -1
 | 0,_=>rfl
 | n+1,h=>by
  show (if _ then _ else _)=_
  rw [aIa n (fun i hi=>h i (by omega)),if_pos (by decide),if_pos (h n (by omega))]
end Go.Bil

namespace Go.Bil
def cC (z:ResI) (r:Row):List Value:=[.int .i64 z.err,.slice r.A r.n r.c,.int .i64 z.cont,.bool z.cl]
structure OutR (T:Nat) (rs:List Row) (zs:List ResI):Prop where
 len:rs.length=zs.length
 row:∀ (j:Nat) (r:Row) (z:ResI),rs[j]? = some r→zs[j]? = some z→aZ T 1 r.A r.n r.c (z.bytes.map bL) r.e
def jX (zs:List ResI) (rs:List Row):List (List Value):=List.zipWith cC zs rs
theorem OutR.nil (T:Nat):OutR T [] []:=⟨rfl,by simp⟩
theorem OutR.add {T:Nat} {rs:List Row} {zs:List ResI} {r:Row} {z:ResI} (h:OutR T rs zs) (hr:aZ T 1 r.A r.n r.c (z.bytes.map bL) r.e):OutR T (rs++[r]) (zs++[z]):=by
 refine ⟨by simp [h.len],fun j q k hq hk => ?_⟩
 by_cases hj:j < rs.length
 ·rw [List.getElem?_append_left hj] at hq
  rw [List.getElem?_append_left (by rw [← h.len];exact hj)] at hk
  exact h.row j q k hq hk
 ·have hj2:j=rs.length:=by
   have:=(List.getElem?_eq_some_iff.1 hq).1
   simp at this
   omega
  rw [hj2,List.getElem?_append_right (Nat.le_refl _),Nat.sub_self] at hq
  rw [hj2,h.len,List.getElem?_append_right (Nat.le_refl _),Nat.sub_self] at hk
  simp only [List.getElem?_cons_zero,Option.some.injEq] at hq hk
  subst hq hk
  exact hr
theorem mG {zs:List ResI} {rs:List Row} (h:rs.length=zs.length):(jX zs rs).length=zs.length:=by unfold jX;rw [List.length_zipWith,h,Nat.min_self]
theorem jJ {zs:List ResI} {rs:List Row} (h:rs.length=zs.length) (z:ResI) (r:Row):jX (zs++[z]) (rs++[r])=jX zs rs++[cC z r]:=by
 unfold jX
 rw [List.zipWith_append h.symm]
 rfl
theorem aXe {zs:List ResI} {rs:List Row} (h:rs.length=zs.length) {j:Nat} {z:ResI} (hz:zs[j]? = some z):∃ r,rs[j]? = some r∧(jX zs rs)[j]? = some (cC z r):=by
 have hj:j < rs.length:=by rw [h];exact (List.getElem?_eq_some_iff.1 hz).1
 have hr:=List.getElem?_eq_getElem hj
 refine ⟨_,hr, ?_⟩
 unfold jX
 rw [List.getElem?_zipWith,hz,hr]
theorem OutR.rd {w0 w:World} {X:List Nat} {S:List eN} {T:Nat} {rs:List Row} {zs:List ResI} (h:OutR T rs zs) (M:Mem w0 X S w) (ht:∀ r∈rs,r.e∈S) {j:Nat} {r:Row} {z:ResI} (hr:rs[j]? = some r) (hz:zs[j]? = some z):Rd w 1 r.A r.n (z.bytes.map bL) :=
 (h.row j r z hr hz).rd M (ht r (List.mem_of_getElem? hr))
theorem bLc (l:List OpRow):∀ y∈l.map OpRow.cells,y.length=15:=by
 intro y hy
 obtain ⟨x,_,rfl⟩:=List.mem_map.1 hy
 rfl
end Go.Bil

namespace Go.Bil
theorem bLs {v:List Body} {o:OpI} (h:o.kind=1):hJ v o=((pD v o.body).1,{ nV with err:=(pD v o.body).2 }):=by unfold hJ;rw [if_neg (by omega)];exact bEi (by simp;omega)
theorem bSz {v:List Body} {o:OpI} (h:o.kind=2):hJ v o=((iH v o.key).1,{ nV with err:=(iH v o.key).2 }):=by unfold hJ;rw [if_neg (by omega)];exact bEj (by simp;omega)
theorem bTa {v:List Body} {o:OpI} (h:o.kind=3):hJ v o=((sH v o.key o.push).1,{ nV with err:=(sH v o.key o.push).2 }):=by unfold hJ;rw [if_neg (by omega)];exact bEk (by simp;omega)
theorem bHh {v:List Body} {o:OpI} (h:o.kind=4):hJ v o=(rK v,{ nV with cont:=((lY v).length:Int),cl:=aAi v }):=by unfold hJ;rw [if_neg (by omega)];exact bEl (by simp;omega)
theorem bTb {v:List Body} {o:OpI} (h:o.kind=5):hJ v o=(v,{ nV with bytes:=kN v }):=by unfold hJ;rw [if_neg (by omega)];exact bEm (by simp;omega)
theorem bTc {v:List Body} {o:OpI} (h:o.kind=6):hJ v o=(pR v o.bytes,{ nV with err:=(nS o.bytes).2 }):=by unfold hJ;rw [if_neg (by omega)];exact aPc (by simp;omega)
theorem bHi {v:List Body} {o:OpI} (h:¬ (o.kind < 1∨6 < o.kind)):hJ v o=doR v { o with kind:=o.kind - 1 }:=by unfold hJ;rw [if_neg h]
theorem pX {f:Int→Option Value} {k:Int} {v:Value} (h:f k=some v):Value.tuple [((f k).getD .nilFunc),.bool (f k).isSome].toArray=Value.tuple [v,.bool true].toArray:=by rw [h];rfl
theorem aZw {f:Int→Option Value} {k:Int} (h:f k=none):Value.tuple [((f k).getD .nilFunc),.bool (f k).isSome].toArray=Value.tuple [.nilFunc,.bool false].toArray:=by rw [h];rfl
def vF (l:List OpRow) (X:List Nat):Prop:=∀ x∈l,0 < x.n→∀ q off,x.A=some ⟨q,off,none⟩→q∉X
def opsO (l:List OpRow):List OpI:=l.map OpRow.o
theorem oN {l:List OpRow} {i:Nat} {x:OpRow} (h:l[i]? = some x):(opsO l)[i]? = some x.o:=by unfold opsO;rw [List.getElem?_map,h];rfl
theorem fH (l:List OpRow):(opsO l).length=l.length:=List.length_map ..
theorem wA (l:List OpRow) (k:Nat):opsO (l.take k)=(opsO l).take k:=by unfold opsO;rw [List.map_take]
theorem aKo (l:List OpRow) (k:Nat):opsO (l.drop k)=(opsO l).drop k:=by unfold opsO;rw [List.map_drop]
theorem OpOk.okO {w:World} {o:OpI} {A:Option Addr} {n c:Nat} (h:OpOk w o A n c) (hn:n≤1000000):OkO o:=⟨h.body,h.byt,by rw [h.len];exact hn⟩
theorem OpsRd.okO {w:World} {A:Option Addr} {n:Nat} {l:List OpRow} (h:OpsRd w A n l) (hby:∀ x∈l,x.n≤1000000):∀ o∈opsO l,OkO o:=by
 intro o ho
 obtain ⟨x,hx,rfl⟩:=List.mem_map.1 ho
 exact (h.each x hx).okO (hby x hx)
end Go.Bil

namespace Go.Bil
theorem mD {rs:List Row}:∀ r∈rs,r.e∈rs.map Row.e:=fun r hr=>List.mem_map.2 ⟨r,hr,rfl⟩
theorem fP {rs:List Row} {L T:List eN} (h:∀ r∈rs,r.e∈T):∀ r∈rs,r.e∈L++T:=fun r hr=>List.mem_append_right _ (h r hr)
theorem nC {rs:List Row} {L T:List eN} (h:∀ r∈rs,r.e∈L):∀ r∈rs,r.e∈L++T:=fun r hr=>List.mem_append_left _ (h r hr)
theorem OpsRd.none (w:World):OpsRd w none 0 []:=⟨Rd.nil w 15 Option.none,by simp⟩
theorem OpsRd.memY {w0 w:World} {X:List Nat} {S:List eN} {A:Option Addr} {n:Nat} {l:List OpRow} (h:OpsRd w0 A n l) (M:Mem w0 X S w) (hA:0 < n→∀ q off,A=some ⟨q,off,Option.none⟩→q∉X) (hX:vF l X):OpsRd w A n l:=⟨h.rd.memY M hA,fun x hx=>(h.each x hx).memY M (hX x hx)⟩
theorem OpsRd.sub {w:World} {A:Option Addr} {n c:Nat} {l:List OpRow} (h:OpsRd w A n l) (i j:Nat) (h1:i≤j) (h2:j≤n) (hc:n≤c):OpsRd w (wU A c i 15) (j - i) ((l.drop i).take (j - i)) :=
 ⟨by rw [List.map_take,List.map_drop];exact h.rd.sub i j h1 h2 hc,fun x hx=>h.each x (List.mem_of_mem_drop (List.mem_of_mem_take hx))⟩
theorem Own.dummy (w:World) (o:Obj):Own [(none,o)] w:=⟨by simp,by simp [bZ]⟩
def opZ (k:Int):OpRow:=⟨⟨k,aVg,0,(0,0),[]⟩,none,0,0⟩
theorem bWq:InB aVg:=⟨by decide,by decide,by decide,by decide,by decide,by decide,by decide,by decide,by decide,by decide⟩
theorem aTs (w:World) (k:Int):OpOk w (opZ k).o (opZ k).A (opZ k).n (opZ k).c :=
 ⟨Rd.nil w 1 none,Nat.le_refl _,by simp [opZ,iK],bWq,(by decide:(-2147483648:Int)≤0∧(0:Int)≤2147483647),(by decide:(-2147483648:Int)≤0∧(0:Int)≤2147483647)⟩
end Go.Bil

namespace Go.Bil
open Go Go.RowKit Go.Deep
theorem aPz {α:Type} {f:α→List Value} {Q:α→Prop}:∀ ls:List (List Value),(∀ y∈ls,∃ x,y=f x∧Q x)→∃ l:List α,ls=l.map f∧∀ x∈l,Q x
 | [],_=>⟨[],rfl,by simp⟩
 | y::ls,h=>by
  obtain ⟨x,rfl,hx⟩:=h y (by simp)
  obtain ⟨l,rfl,hl⟩:=aPz ls (fun z hz=>h z (by simp [hz]))
  refine ⟨x::l,Z,fun z hz => ?_⟩
  rcases List.mem_cons.1 hz with rfl | hz
  ·exact hx
  ·exact hl z hz
theorem bPa (l:List Value) (h:oS [.u8] l):∃ x:Int,l=bL x∧(0≤x∧x≤255):=by
 obtain ⟨z,l',rfl,hz,hl'⟩:=iA h
 obtain rfl:=uL hl'
 exact ⟨z,Z,hz⟩
section
variable {H:Type} {enc:TypeId × Value→H} {P:Program} {w:World} {base:Nat} {spare:Nat→Bool} {held:Bool}
theorem aUv {t e fuel:Nat} {cs:List Value} {x:DataW H × List MemPlace} (hu:P.underlying t=some (.slice e)) (h:DataW.trod enc P w base spare held fuel t cs=some x):∃ (A:Option Addr) (n c:Nat),cs=[.slice A n c]∧n≤c:=by
 rcases open_slice hu h with ⟨rfl,_⟩ | ⟨a,l,c,m',n,D,Pl,rfl,hb,hlc,_⟩
 ·exact ⟨none,0,0,Z,Nat.le_refl _⟩
 ·exact ⟨_,_,_,Z,hlc⟩
structure OpT (P:Program) (m T T0 T1 T2 T3 T4 e8 b8:Nat) (fs:Array Field):Prop where
 u:P.underlying T=some (.struct fs)
 f:fs.toList.map (fun f=>(f.type,f.offset))=[(T0,0),(T1,1),(T2,11),(T3,12),(T4,14)]
 sz:P.cellsOf T=15
 l0:pI P m T0=some [.i64]
 l1:pI P m T1=some [.u32,.i32,.i32,.i32,.i32,.i32,.i32,.i32,.i32,.i32]
 l2:pI P m T2=some [.u32]
 l3:pI P m T3=some [.i32,.i32]
 l8:pI P m e8=some [.u8]
 c0:P.cellsOf T0=1
 c1:P.cellsOf T1=10
 c2:P.cellsOf T2=1
 c3:P.cellsOf T3=2
 c4:P.cellsOf T4=1
 s:fU P T4 e8 1 b8=true
theorem aTa {α:Type} {l:List α} (h:l.length=15):l=l.take 1++(((l.drop 1).take 10)++(((l.drop 11).take 1)++(((l.drop 12).take 2)++((l.drop 14).take 1)))):=by
 have e4:(l.drop 14).take 1=l.drop 14:=List.take_of_length_le (by rw [List.length_drop];omega)
 have e3:(l.drop 12).take 2++l.drop 14=l.drop 12:=by have g:=List.take_append_drop 2 (l.drop 12);rwa [List.drop_drop] at g
 have e2:(l.drop 11).take 1++l.drop 12=l.drop 11:=by have g:=List.take_append_drop 1 (l.drop 11);rwa [List.drop_drop] at g
 have e1:(l.drop 1).take 10++l.drop 11=l.drop 1:=by have g:=List.take_append_drop 10 (l.drop 1);rwa [List.drop_drop] at g
 rw [e4,e3,e2,e1,List.take_append_drop]
theorem aTt {m T T0 T1 T2 T3 T4 e8 b8:Nat} {fs:Array Field} (O:OpT P m T T0 T1 T2 T3 T4 e8 b8 fs) {fuel:Nat} {cs:List Value} {d:DataW H} {pl:List MemPlace} (hx:DataW.trod enc P w base spare held fuel T cs=some (d,pl)) (hw:∀ n∈d.weights P T,n≤reachBytes) :
  ∃ x:OpRow,cs=x.cells∧OpOk w x.o x.A x.n x.c:=by
 obtain ⟨xs,k,_,hd,hl,hxl,hfs⟩:=DataW.trod_struct O.u hx
 rw [O.sz] at hl
 have hlen:fs.toList.length=5:=by have:=congrArg List.length O.f;simpa using this
 have hf:∀ (i:Nat) (t o:Nat),[(T0,0),(T1,1),(T2,11),(T3,12),(T4,14)][i]? = some (t,o)→∃ f,fs[i]? = some f∧f.type=t∧f.offset=o:=by
  intro i t o hi
  rw [← O.f,List.getElem?_map] at hi
  cases hq:fs.toList[i]? with
  | none=>rw [hq] at hi;cases hi
  | some f =>
   rw [hq] at hi
   simp only [Option.map_some,Option.some.injEq,Prod.mk.injEq] at hi
   exact ⟨f,by simpa using hq,hi⟩
 have part:∀ (i:Nat) (t o z:Nat),[(T0,0),(T1,1),(T2,11),(T3,12),(T4,14)][i]? = some (t,o)→P.cellsOf t=z→∃ y,xs[i]? = some y∧DataW.trod enc P w base spare held k t ((cs.drop o).take z)=some y:=by
  intro i t o z hi hz
  obtain ⟨f,h1,rfl,rfl⟩:=hf i t o hi
  have h2:=hfs i f h1
  have hlt:i < xs.length:=by rw [hxl];exact (Array.getElem?_eq_some_iff.1 h1).1
  rw [List.getElem?_eq_getElem hlt,hz] at h2
  exact ⟨_,List.getElem?_eq_getElem hlt,h2⟩
 obtain ⟨y0,_,p0⟩:=part 0 T0 0 1 rfl O.c0
 obtain ⟨y1,_,p1⟩:=part 1 T1 1 10 rfl O.c1
 obtain ⟨y2,_,p2⟩:=part 2 T2 11 1 rfl O.c2
 obtain ⟨y3,_,p3⟩:=part 3 T3 12 2 rfl O.c3
 obtain ⟨y4,q4,p4⟩:=part 4 T4 14 1 rfl O.c4
 obtain ⟨h1,h2,h3,h4,h5,h6,zv,hzv,hzs⟩:=gT O.s
 obtain ⟨A,n,c,hsl,hnc⟩:=aUv h1 p4
 rw [hsl] at p4
 have hT:DataW.Trod enc P w base spare held T4 (.slice A n c) y4.1 y4.2:=⟨k,p4⟩
 have hw4:∀ n∈y4.1.weights P T4,n≤reachBytes:=fun n hn=>by
  refine hw n ?_
  obtain rfl:d=.agg (xs.map (·.1)):=(Prod.mk.inj hd).1
  simp only [DataW.weights,O.u]
  obtain ⟨f,g1,rfl,_⟩:=hf 4 T4 14 rfl
  have g1':fs.toList[4]? = some f:=by simpa using g1
  exact DataW.weights_mem_each (j:=4) (by rw [List.getElem?_map,g1'];rfl) (by rw [List.getElem?_map,q4];rfl) n hn
 have hs:=aDf hw4 O.s hT
 obtain ⟨ls,R,hI⟩:=bAf O.s O.l8 rfl hs hT
 obtain ⟨bs,rfl,hbs⟩:=aWy bPa ls hI
 have i0:=lL m T0 _ k _ _ O.l0 p0
 have i1:=lL m T1 _ k _ _ O.l1 p1
 have i2:=lL m T2 _ k _ _ O.l2 p2
 have i3:=lL m T3 _ k _ _ O.l3 p3
 obtain ⟨kind,l',e0,_,hl'⟩:=iA i0
 obtain rfl:=uL hl'
 obtain ⟨body,e1,hbody⟩:=bOx _ i1
 obtain ⟨key,l',e2,hkey,hl'⟩:=iA i2
 obtain rfl:=uL hl'
 obtain ⟨dx,l',e3,hdx,hl'⟩:=iA i3
 obtain ⟨dy,l'',rfl,hdy,hl''⟩:=iA hl'
 obtain rfl:=uL hl''
 refine ⟨⟨⟨kind,body,key,(dx,dy),bs⟩,A,n,c⟩, ?_,R,hnc,hbs,hbody,hdx,hdy⟩
 have e:=aTa hl
 rw [List.drop_zero] at e0
 rw [e0,e1,e2,e3,hsl] at e
 rw [e]
 rfl
theorem bGl {m t T T0 T1 T2 T3 T4 e8 b8 bytes:Nat} {A:Option Addr} {len cap:Nat} {d:DataW H} {ps:List MemPlace} (ht:fU P t T 15 bytes=true) (O:∃ fs,OpT P m T T0 T1 T2 T3 T4 e8 b8 fs) (hw:∀ n∈d.weights P t,n≤reachBytes)
  (h:DataW.Trod enc P w base spare held t (.slice A len cap) d ps):∃ l:List OpRow,OpsRd w A len l:=by
 obtain ⟨fs,O⟩:=O
 have hbig:=aDf hw ht h
 obtain ⟨h1,h2,h3,h4,h5,h6,zv,hzv,hzs⟩:=gT ht
 obtain ⟨fuel,hf⟩:=h
 have hle:len≤140737488351232:=Nat.le_trans (Nat.le_mul_of_pos_right _ (Nat.pos_of_ne_zero h6)) hbig
 rcases open_slice h1 hf with ⟨hcs,_⟩ | ⟨a,l,c,m',n,D,Pl,hcs,hb,hlc,_,hm,hx0,hx⟩
 ·simp only [Value.cells,List.cons.injEq,Value.slice.injEq,and_true] at hcs
  obtain ⟨rfl,rfl,rfl⟩:=hcs
  exact ⟨[],Rd.nil w 15 none,by simp⟩
 ·simp only [Value.cells,List.cons.injEq,Value.slice.injEq,and_true] at hcs
  obtain ⟨rfl,rfl,rfl⟩:=hcs
  obtain ⟨rfl,_⟩:=Prod.mk.inj hx0
  have hlm:len≤m':=by rw [hm];split <;> omega
  have hww:=(xH h1 hw).2
  have hall:∀ i,i < len→∃ cs':List Value,cs'.length=15∧(∀ j,j < 15→w.cell? (a.add (i*15+j))=cs'[j]?)∧(∃ x:OpRow,cs'=x.cells∧OpOk w x.o x.A x.n x.c):=fun i hi=>by
   obtain ⟨cs',hc,ht'⟩:=hx i (by omega)
   rw [h3] at hc
   obtain ⟨q1,q2⟩:=tZ hc
   refine ⟨cs',q1,fun j hj => ?_,aTt O ht' (hww (D i) (List.mem_map.2 ⟨i,List.mem_range.2 hi,Z⟩))⟩
   rw [← q2 j hj,Addr.add_add]
  obtain ⟨ls,R,hQ⟩:=aQq (by omega) (by omega) hall
  obtain ⟨l,rfl,hl⟩:=aPz ls hQ
  exact ⟨l,R,hl⟩
end
end Go.Bil

namespace Go.Bil
open Go Go.RowKit
structure BytR (T:Nat) (rs:List Row) (bs:List (List Int)):Prop where
 len:rs.length=bs.length
 row:∀ (j:Nat) (r:Row) (b:List Int),rs[j]? = some r→bs[j]? = some b→aZ T 1 r.A r.n r.c (b.map bL) r.e
theorem BytR.nil (T:Nat):BytR T [] []:=⟨rfl,by simp⟩
theorem BytR.add {T:Nat} {rs:List Row} {bs:List (List Int)} {r:Row} {b:List Int} (h:BytR T rs bs) (hr:aZ T 1 r.A r.n r.c (b.map bL) r.e):BytR T (rs++[r]) (bs++[b]):=by
 refine ⟨by simp [h.len],fun j q k hq hk => ?_⟩
 by_cases hj:j < rs.length
 ·rw [List.getElem?_append_left hj] at hq
  rw [List.getElem?_append_left (by rw [← h.len];exact hj)] at hk
  exact h.row j q k hq hk
 ·have hj2:j=rs.length:=by
   have:=(List.getElem?_eq_some_iff.1 hq).1
   simp at this
   omega
  rw [hj2,List.getElem?_append_right (Nat.le_refl _),Nat.sub_self] at hq
  rw [hj2,h.len,List.getElem?_append_right (Nat.le_refl _),Nat.sub_self] at hk
  simp only [List.getElem?_cons_zero,Option.some.injEq] at hq hk
  subst hq hk
  exact hr
theorem BytR.at {T:Nat} {rs:List Row} {bs:List (List Int)} (h:BytR T rs bs) {j:Nat} {b:List Int} (hb:bs[j]? = some b):∃ r,rs[j]? = some r∧aZ T 1 r.A r.n r.c (b.map bL) r.e:=by
 have hj:j < rs.length:=by rw [h.len];exact (List.getElem?_eq_some_iff.1 hb).1
 have hr:=List.getElem?_eq_getElem hj
 exact ⟨_,hr,h.row j _ b hr hb⟩
structure BytRd (w:World) (A:Option Addr) (n:Nat) (rs:List Row) (bs:List (List Int)):Prop where
 rd:Rd w 1 A n (rs.map wQ)
 len:rs.length=bs.length
 row:∀ (j:Nat) (r:Row) (b:List Int),rs[j]? = some r→bs[j]? = some b→Rd w 1 r.A r.n (b.map bL)∧iK b∧r.n≤r.c
theorem BytRd.n_eq {w:World} {A:Option Addr} {n:Nat} {rs:List Row} {bs:List (List Int)} (h:BytRd w A n rs bs):bs.length=n∧rs.length=n:=by
 have:=h.rd.len
 rw [List.length_map] at this
 exact ⟨by rw [← h.len];exact this,this⟩
theorem BytRd.mem {w0 w:World} {S:List eN} {A:Option Addr} {n:Nat} {rs:List Row} {bs:List (List Int)} (h:BytRd w0 A n rs bs) (M:Mem w0 [] S w):BytRd w A n rs bs :=
 ⟨h.rd.mem M,h.len,fun j r b hr hb=>by obtain ⟨h1,h2,h3⟩:=h.row j r b hr hb;exact ⟨h1.mem M,h2,h3⟩⟩
def rV (rs:List Row) (X:List Nat):Prop:=∀ r∈rs,0 < r.n→∀ q off,r.A=some ⟨q,off,none⟩→q∉X
theorem BytRd.memY {w0 w:World} {X:List Nat} {S:List eN} {A:Option Addr} {n:Nat} {rs:List Row} {bs:List (List Int)} (h:BytRd w0 A n rs bs) (M:Mem w0 X S w) (hA:0 < n→∀ q off,A=some ⟨q,off,none⟩→q∉X) (hX:rV rs X):BytRd w A n rs bs :=
 ⟨h.rd.memY M hA,h.len,fun j r b hr hb=>by obtain ⟨h1,h2,h3⟩:=h.row j r b hr hb;exact ⟨h1.memY M (hX r (List.mem_of_getElem? hr)),h2,h3⟩⟩
theorem BytRd.at {w:World} {A:Option Addr} {n:Nat} {rs:List Row} {bs:List (List Int)} (h:BytRd w A n rs bs) {j:Nat} (hj:j < n):∃ r b,rs[j]? = some r∧bs[j]? = some b∧(rs.map wQ)[j]? = some [.slice r.A r.n r.c]∧Rd w 1 r.A r.n (b.map bL)∧iK b∧r.n≤r.c:=by
 obtain ⟨h1,h2⟩:=h.n_eq
 have hr:=List.getElem?_eq_getElem (l:=rs) (i:=j) (by omega)
 have hb:=List.getElem?_eq_getElem (l:=bs) (i:=j) (by omega)
 exact ⟨_,_,hr,hb,by rw [List.getElem?_map,hr];rfl,h.row j _ _ hr hb⟩
theorem BytRd.none (w:World):BytRd w none 0 [] []:=⟨Rd.nil w 1 Option.none,rfl,by simp⟩
theorem BytR.rds {w0 w:World} {X:List Nat} {S:List eN} {T T' n c:Nat} {A:Option Addr} {e:eN} {rs:List Row} {bs:List (List Int)} (h:BytR T rs bs) (hq:aZ T' 1 A n c (rs.map wQ) e) (M:Mem w0 X S w) (he:e∈S) (ht:∀ r∈rs,r.e∈S) (hb:∀ b∈bs,iK b):BytRd w A n rs bs :=
 ⟨hq.rd M he,h.len,fun j r b hr hbj=>⟨(h.row j r b hr hbj).rd M (ht r (List.mem_of_getElem? hr)),hb b (List.mem_of_getElem? hbj),(h.row j r b hr hbj).slice⟩⟩
theorem aZ.awayT {w0 w:World} {X:List Nat} {L R:List eN} {T sz:Nat} {A:Option Addr} {n c:Nat} {ls:List (List Value)} {e:eN} (h:aZ T sz A n c ls e) (M:Mem w0 X (L++R) w) (he:e∈R) (i k:Nat):0 < n→∀ q off,A=some ⟨q,off,none⟩→q∉bZ ((L.drop i).take k):=by
 intro hn q off hA hq
 obtain ⟨b2,l,fr,h1,h2,_⟩:=h.block hn
 rw [h1] at hA
 injection hA with hA
 injection hA with hA
 subst hA
 have hap:=M.apart
 rw [kH,List.nodup_append] at hap
 obtain ⟨o,ho⟩:=gZ.1 hq
 exact hap.2.2 b2 (gZ.2 ⟨o,List.mem_of_mem_drop (List.mem_of_mem_take ho)⟩) b2 (gZ.2 ⟨_,by rw [← h2];exact he⟩) Z
def rU (l:List OpI) (ps:List Row):List OpRow:=List.zipWith (fun o p=>⟨o,p.A,p.n,p.c⟩) l ps
structure GoodO (o:OpI):Prop where
 byt:iK o.bytes
 body:InB o.body
 p1 : -2147483648≤o.push.1∧o.push.1≤2147483647
 p2 : -2147483648≤o.push.2∧o.push.2≤2147483647
 len:o.bytes.length≤1000000
theorem GoodO.ok {o:OpI} (h:GoodO o):OkO o:=⟨h.body,h.byt,h.len⟩
theorem OpOk.good {w:World} {o:OpI} {A:Option Addr} {n c:Nat} (h:OpOk w o A n c) (hn:n≤1000000):GoodO o:=⟨h.byt,h.body,h.p1,h.p2,by rw [h.len];exact hn⟩
theorem OpsRd.good {w:World} {A:Option Addr} {n:Nat} {l:List OpRow} (h:OpsRd w A n l) (hby:∀ x∈l,x.n≤1000000):∀ o∈opsO l,GoodO o:=by
 intro o ho
 obtain ⟨x,hx,rfl⟩:=List.mem_map.1 ho
 exact (h.each x hx).good (hby x hx)
theorem vZ {l:List OpI} {ps:List Row} (h:ps.length=l.length):(rU l ps).length=l.length:=by unfold rU;rw [List.length_zipWith,h,Nat.min_self]
theorem uM {l:List OpI} {ps:List Row} (h:ps.length=l.length) (o:OpI) (p:Row):rU (l++[o]) (ps++[p])=rU l ps++[⟨o,p.A,p.n,p.c⟩]:=by
 unfold rU
 rw [List.zipWith_append h.symm]
 rfl
theorem bSk {l:List OpI} {ps:List Row} {j:Nat} {o:OpI} {p:Row} (ho:l[j]? = some o) (hp:ps[j]? = some p):(rU l ps)[j]? = some ⟨o,p.A,p.n,p.c⟩:=by
 unfold rU
 rw [List.getElem?_zipWith,ho,hp]
theorem aMu {l:List OpI} {ps:List Row} {x:OpRow} (h:x∈rU l ps):∃ (j:Nat) (o:OpI) (p:Row),l[j]? = some o∧ps[j]? = some p∧x=⟨o,p.A,p.n,p.c⟩:=by
 obtain ⟨j,hj,e⟩:=List.mem_iff_getElem.1 h
 unfold rU at hj e
 rw [List.getElem_zipWith] at e
 rw [List.length_zipWith] at hj
 exact ⟨j,_,_,List.getElem?_eq_getElem (by omega),List.getElem?_eq_getElem (by omega),e.symm⟩
theorem aGr {l:List OpI} {ps:List Row} (h:ps.length=l.length):opsO (rU l ps)=l:=by
 unfold opsO rU
 rw [List.map_zipWith]
 induction l generalizing ps with
 | nil=>simp
 | cons o l ih =>
  cases ps with
  | nil=>simp at h
  | cons p ps=>rw [List.zipWith_cons_cons,ih (by simpa using h)]
theorem aMv {w0 w:World} {X:List Nat} {S:List eN} {T T' n c:Nat} {A:Option Addr} {e:eN} {l:List OpI} {ps:List Row} (h:BytR T ps (l.map OpI.bytes)) (hg:∀ o∈l,GoodO o) (hq:aZ T' 15 A n c ((rU l ps).map OpRow.cells) e) (M:Mem w0 X S w) (he:e∈S) (ht:∀ r∈ps,r.e∈S):OpsRd w A n (rU l ps):=by
 refine ⟨hq.rd M he,fun x hx => ?_⟩
 obtain ⟨j,o,p,ho,hp,rfl⟩:=aMu hx
 have hr:=h.row j p o.bytes hp (by rw [List.getElem?_map,ho];rfl)
 have g:=hg o (List.mem_of_getElem? ho)
 exact ⟨hr.rd M (ht p (List.mem_of_getElem? hp)),hr.slice,g.byt,g.body,g.p1,g.p2⟩
theorem bGd {T:Nat} {l:List OpI} {ps:List Row} (h:BytR T ps (l.map OpI.bytes)) (hg:∀ o∈l,GoodO o):∀ x∈rU l ps,x.n≤1000000:=by
 intro x hx
 obtain ⟨j,o,p,ho,hp,rfl⟩:=aMu hx
 have hr:=h.row j p o.bytes hp (by rw [List.getElem?_map,ho];rfl)
 have e:o.bytes.length=p.n:=by have:=hr.1;rwa [List.length_map] at this
 have:=(hg o (List.mem_of_getElem? ho)).len
 show p.n≤1000000
 omega
theorem bGc {w0 w:World} {X:List Nat} {L R:List eN} {T:Nat} {l:List OpI} {ps:List Row} (h:BytR T ps (l.map OpI.bytes)) (M:Mem w0 X (L++R) w) (ht:∀ r∈ps,r.e∈R) (i k:Nat):vF (rU l ps) (bZ ((L.drop i).take k)):=by
 intro x hx
 obtain ⟨j,o,p,ho,hp,rfl⟩:=aMu hx
 have hr:=h.row j p o.bytes hp (by rw [List.getElem?_map,ho];rfl)
 exact hr.awayT M (ht p (List.mem_of_getElem? hp)) i k
theorem aFg {i k:Nat} (hk:0 < k):((i+1) % k=0∧(i+1) / k=i / k+1∧(i / k+1)*k=i+1)∨((i+1) % k≠0∧(i+1) / k=i / k):=by
 have h:=Nat.div_add_mod i k
 have hr:=Nat.mod_lt i hk
 generalize i / k=q at *
 generalize i % k=r at *
 rcases Nat.lt_or_ge (r+1) k with g | g
 ·right
  have e:i+1=(r+1)+k*q:=by omega
  rw [e,Nat.add_mul_mod_self_left,Nat.mod_eq_of_lt g,Nat.add_mul_div_left _ _ hk,Nat.div_eq_of_lt g]
  exact ⟨by omega,by omega⟩
 ·left
  have e:i+1=k*(q+1):=by rw [Nat.mul_add,Nat.mul_one];omega
  rw [e]
  exact ⟨Nat.mul_mod_right _ _,Nat.mul_div_cancel_left _ hk,Nat.mul_comm _ _⟩
theorem aBn {l:List OpI} {i k:Nat} (hk:0 < k) (h:(i+1) % k=0):fT l k ((i+1) / k)=fT l k (i / k)++[kN (eX [] (l.take (i+1)))]∧(i+1) / k=i / k+1:=by
 rcases aFg (i:=i) hk with ⟨_,h2,h3⟩ | ⟨h1,_⟩
 ·rw [h2,aGh]
  unfold rB
  rw [h3]
  exact ⟨Z,Z⟩
 ·exact absurd h h1
theorem aGg {i k:Nat} (hk:0 < k) (h:(i+1) % k≠0):(i+1) / k=i / k:=by
 rcases aFg (i:=i) hk with ⟨h1,_⟩ | ⟨_,h2⟩
 ·exact absurd h1 h
 ·exact h2
theorem aGf {l:List OpI} {k n:Nat}:∀ b∈fT l k n,iK b:=by
 intro b hb
 unfold fT at hb
 obtain ⟨i,_,rfl⟩:=List.mem_map.1 hb
 exact aJw _
theorem aKf {l:List OpI} (o:OpI) {k n:Nat} (h:n*k≤l.length):fT (l++[o]) k n=fT l k n:=by
 unfold fT
 refine List.map_congr_left fun i hi => ?_
 have hi:=List.mem_range.1 hi
 unfold rB
 have:(i+1)*k≤n*k:=Nat.mul_le_mul_right k hi
 rw [List.take_append_of_le_length (by omega)]
theorem aKe {l:List OpI} (hl:∀ o∈l,OkO o) (n:Nat):GoodV (eX [] (l.take n)):=aAc GoodV.nil (fun o ho=>hl o (List.mem_of_mem_take ho))
def aHf (l:List OpI) (k:Nat) (bs:List (List Int)) (n:Nat):List Body:=eX (if n / k=0 then [] else pR [] (bs.getD (n / k - 1) [])) ((l.take n).drop (n / k*k))
theorem aHg {l:List OpI} (hl:∀ o∈l,OkO o) {k n:Nat} (hk:0 < k) (h:n≤l.length):aHf l k (fT l k (l.length / k)) n=eX [] (l.take n):=by
 have hle:n / k*k≤n:=Nat.div_mul_le_self n k
 have hd:n / k≤l.length / k:=Nat.div_le_div_right h
 unfold aHf
 generalize n / k=q at *
 generalize l.length / k=m at *
 by_cases h0:q=0
 ·rw [if_pos h0,h0,Nat.zero_mul,List.drop_zero]
 ·rw [if_neg h0]
  have hat:=aQe l k (n:=m) (i:=q - 1) (by omega)
  have e:(fT l k m).getD (q - 1) []=kN (eX [] (l.take (q*k))):=by
   rw [List.getD_eq_getElem?_getD,hat]
   show kN (eX [] (l.take ((q - 1+1)*k)))=_
   rw [show q - 1+1=q by omega]
  rw [e]
  exact bHg hl hle
end Go.Bil

namespace Go.Bil
def opA (b:Body):OpRow:=⟨⟨1,b,0,(0,0),[]⟩,none,0,0⟩
theorem bSt (w:World) (b:Body) (h:InB b):OpOk w (opA b).o (opA b).A (opA b).n (opA b).c :=
 ⟨Rd.nil w 1 none,Nat.le_refl _,by simp [opA,iK],h,(by decide:(-2147483648:Int)≤0∧(0:Int)≤2147483647),(by decide:(-2147483648:Int)≤0∧(0:Int)≤2147483647)⟩
end Go.Bil

namespace Go.Bil
open Go Go.RowKit
theorem bIa {f n a:Nat} {z:Int} (hz:z=(n:Int)) (h:a=f / n):(f:Int).tdiv z=(a:Int):=by subst hz;subst h;rfl
theorem bLk {f n a:Nat} (h:a=f / n) (hf:f≤1000000000000):IntKind.wrap .i64 ((f:Int).tdiv (n:Int))=(a:Int):=by
 have hle:a≤f:=by rw [h];exact Nat.div_le_self f n
 rw [bIa rfl h]
 exact fL _ (by omega) (by omega)
theorem bSm {a:Nat} (h:(a:Int)=0):a=0:=by omega
theorem bSn {a:Nat} (h:¬ (a:Int)=0):a≠0:=by omega
section
variable {P:Program} {ρ:fI} {w:World}
theorem bGv {t t':TypeId} {x y:Operand} {a b:ByteArray} (hx:ev ρ x=.string a) (hy:ev ρ y=.string b):kX P ρ w (.binOp .eql t x y t') (.bool (decide (a.data.toList=b.data.toList))):=by
 intro d2 ty pos af gd
 have e2:(a.toList == b.toList)=decide (a.data.toList=b.data.toList):=by
  rw [ByteArray.toList_eq,ByteArray.toList_eq,Bool.eq_iff_iff]
  simp only [beq_iff_eq,decide_eq_true_eq]
 have g:(eqGuard .eql t x y (.string a) (.string b)).run P w=.ok () w:=rfl
 simp only [execOp,hx,hy,Sem.run_bind,g,Result.andThen,binOp,Op.stringOp,Sem.run_pure,e2]
end
theorem bWk {xs ys:List Int} (hx:iK xs) (hy:iK ys):(strOfNums xs).data.toList=(strOfNums ys).data.toList↔xs=ys:=by
 have h:=wF xs hx (strOfNums ys).data.toList
 have g:=wF ys hy (strOfNums ys).data.toList
 have e:ys=(strOfNums ys).data.toList.map (fun y=>(y.toNat:Int)):=Decidable.not_not.1 fun k=>(g.2 k) rfl
 rw [← e] at h
 exact Decidable.not_iff_not.1 h
variable {w0 w:World} {X:List Nat} {L T T':List eN} {rs ms:List Row}
theorem Mem.pushA (p:Row) (M:Mem w0 X ((L++[p.e])++(rs.map Row.e++T)) w):Mem w0 X (L++((rs++[p]).map Row.e++T)) w :=
 M.perm (by
  rw [List.append_assoc,List.map_append,List.append_assoc]
  refine List.Perm.append_left L ?_
  rw [← List.append_assoc,← List.append_assoc]
  exact List.Perm.append_right T List.perm_append_comm)
theorem Mem.pushB (p:Row) (M:Mem w0 X ((L++[p.e])++(T++ms.map Row.e)) w):Mem w0 X (L++(T++(ms++[p]).map Row.e)) w :=
 M.perm (by
  rw [List.append_assoc,List.map_append]
  refine List.Perm.append_left L ?_
  rw [← List.append_assoc T]
  exact List.perm_append_comm)
theorem Mem.pushAB (p q:Row) (M:Mem w0 X ((L++[p.e,q.e])++(rs.map Row.e++ms.map Row.e)) w):Mem w0 X (L++((rs++[p]).map Row.e++(ms++[q]).map Row.e)) w:=by
 have e:L++[p.e,q.e]=(L++[p.e])++[q.e]:=by rw [List.append_assoc];rfl
 rw [e] at M
 exact Mem.pushA p (Mem.pushB q M)
theorem Mem.cutT (M:Mem w0 X (L++(T++T')) w):Mem w0 X (L++T) w:=M.sub ((List.Sublist.refl L).append (List.sublist_append_left T T'))
theorem Mem.noT (M:Mem w0 X (L++T) w):Mem w0 X L w:=M.sub (List.sublist_append_left L T)
theorem Mem.segE {B:List eN} {w':World} (i k:Nat) (M:Mem w0 X (L++T) w) (hk:i+k≤L.length) (C:Mem w (bZ ((L.drop i).take k)) B w'):Mem w0 X ((L.take i++B++L.drop (i+k))++T) w':=by
 have h:=Mem.segU (A:=[]) (T':=[]) i k M hk (show Mem w _ (B++([]++[])) w' by rw [List.append_nil,List.append_nil];exact C)
 rw [List.append_nil,List.append_nil] at h
 exact h
theorem BytRd.seg {B:Option Addr} {m:Nat} {bs:List (List Int)} {S:List eN} (h:BytRd w0 B m rs bs) (M:Mem w0 X S w) (hd:rV rs X) (i k:Nat):rV rs (bZ ((S.drop i).take k)):=by
 intro r hr
 obtain ⟨j,hj⟩:=List.getElem?_of_mem hr
 have hjl:j < m:=by rw [← h.n_eq.2];exact (List.getElem?_eq_some_iff.1 hj).1
 obtain ⟨r2,b,hr2,hb,_,hrd,_,_⟩:=h.at hjl
 rw [hj] at hr2
 obtain rfl:=Option.some.inj hr2
 exact M.away i k hrd (hd r hr)
theorem bCi (rs:List Row):rV rs []:=fun r hr hn q off hA=>by simp
theorem aEv (xs:List Int):∀ y∈xs.map bL,∀ u∈y,one u=true:=by
 intro y hy
 obtain ⟨x,_,rfl⟩:=List.mem_map.1 hy
 simp [bL,Go.Bil.one]
structure OutRd (w:World) (A:Option Addr) (n:Nat) (rs:List Row) (zs:List ResI):Prop where
 rd:Rd w 4 A n (jX zs rs)
 len:rs.length=zs.length
 row:∀ (j:Nat) (r:Row) (z:ResI),rs[j]? = some r→zs[j]? = some z→Rd w 1 r.A r.n (z.bytes.map bL)
theorem OutR.rds {T T2 n c:Nat} {A:Option Addr} {e:eN} {S:List eN} {zs:List ResI} (h:OutR T rs zs) (hq:aZ T2 4 A n c (jX zs rs) e) (M:Mem w0 X S w) (he:e∈S) (ht:∀ r∈rs,r.e∈S):OutRd w A n rs zs :=
 ⟨hq.rd M he,h.len,fun j r z hr hz=>h.rd M ht hr hz⟩
theorem OutRd.mem {w1 w2:World} {S:List eN} {A:Option Addr} {n:Nat} {zs:List ResI} (h:OutRd w1 A n rs zs) (M:Mem w1 [] S w2):OutRd w2 A n rs zs:=⟨h.rd.mem M,h.len,fun j r z hr hz=>(h.row j r z hr hz).mem M⟩
theorem OutRd.n_eq {A:Option Addr} {n:Nat} {zs:List ResI} (h:OutRd w A n rs zs):zs.length=n:=by
 have:=h.rd.len
 rwa [mG h.len] at this
structure LogR (T T1 T8:Nat) (l:List OpI) (k:Nat) (qo qm:Row) (ps ms:List Row):Prop where
 ops:aZ T 15 qo.A qo.n qo.c ((rU l ps).map OpRow.cells) qo.e
 byt:BytR T8 ps (l.map OpI.bytes)
 good:∀ o∈l,GoodO o
 mks:aZ T1 1 qm.A qm.n qm.c (ms.map wQ) qm.e
 mby:BytR T8 ms (fT l k (l.length / k))
theorem LogR.plen {T T1 T8:Nat} {l:List OpI} {k:Nat} {qo qm:Row} {ps ms:List Row} (h:LogR T T1 T8 l k qo qm ps ms):ps.length=l.length:=by rw [h.byt.len,List.length_map]
theorem LogR.on {T T1 T8:Nat} {l:List OpI} {k:Nat} {qo qm:Row} {ps ms:List Row} (h:LogR T T1 T8 l k qo qm ps ms):qo.n=l.length:=by
 have:=h.ops.1
 rw [List.length_map,vZ h.plen] at this
 exact this.symm
theorem LogR.mn {T T1 T8:Nat} {l:List OpI} {k:Nat} {qo qm:Row} {ps ms:List Row} (h:LogR T T1 T8 l k qo qm ps ms):qm.n=l.length / k:=by
 have:=h.mks.1
 rw [List.length_map,h.mby.len,pY] at this
 exact this.symm
theorem LogR.opsRd {S:List eN} {T T1 T8:Nat} {l:List OpI} {k:Nat} {qo qm:Row} {ps ms:List Row} (h:LogR T T1 T8 l k qo qm ps ms) (M:Mem w0 X S w) (he:qo.e∈S) (ht:∀ r∈ps,r.e∈S):OpsRd w qo.A qo.n (rU l ps):=aMv h.byt h.good h.ops M he ht
theorem LogR.bytRd {S:List eN} {T T1 T8:Nat} {l:List OpI} {k:Nat} {qo qm:Row} {ps ms:List Row} (h:LogR T T1 T8 l k qo qm ps ms) (M:Mem w0 X S w) (he:qm.e∈S) (ht:∀ r∈ms,r.e∈S):BytRd w qm.A qm.n ms (fT l k (l.length / k)):=h.mby.rds h.mks M he ht aGf
theorem LogR.opsO {T T1 T8:Nat} {l:List OpI} {k:Nat} {qo qm:Row} {ps ms:List Row} (h:LogR T T1 T8 l k qo qm ps ms):opsO (rU l ps)=l:=aGr h.plen
theorem LogR.bn {T T1 T8:Nat} {l:List OpI} {k:Nat} {qo qm:Row} {ps ms:List Row} (h:LogR T T1 T8 l k qo qm ps ms):∀ x∈rU l ps,x.n≤1000000:=bGd h.byt h.good
theorem LogR.okO {T T1 T8:Nat} {l:List OpI} {k:Nat} {qo qm:Row} {ps ms:List Row} (h:LogR T T1 T8 l k qo qm ps ms):∀ o∈l,OkO o:=fun o ho=>(h.good o ho).ok
theorem aCr {l:List OpI} (hl:∀ o∈l,OkO o) {k n:Nat}:∀ b∈fT l k n,b.length≤1000000:=by
 intro b hb
 unfold fT at hb
 obtain ⟨i,_,rfl⟩:=List.mem_map.1 hb
 unfold rB
 rw [aPd]
 have:=(aKe hl ((i+1)*k)).len
 omega
theorem bJp {i k n:Nat} (hk:0 < k) (h1:i*k≤n) (h2:n < (i+1)*k):n / k=i:=Nat.div_eq_of_lt_le h1 h2
theorem bBq {l:List OpI} {k:Nat} {bs:List (List Int)}:∀ n,jC l k bs n < 0→jC l k bs n = -1
 | 0,_=>rfl
 | n+1,h=>by
  revert h
  show (if jC l k bs n < 0 then (if bs[n]? = some (rB l k n) then -1 else (n:Int)) else jC l k bs n) < 0→(if jC l k bs n < 0 then (if bs[n]? = some (rB l k n) then -1 else (n:Int)) else jC l k bs n) = -1
  by_cases h1:jC l k bs n < 0
  ·rw [if_pos h1]
   split
   ·intro;rfl
   ·intro h;omega
  ·rw [if_neg h1]
   intro h
   exact absurd h h1
def aHm (g:Int) (bs:List (List Int)) (j:Nat) (v:List Int):Int:=if g < 0∧bs[j]? ≠ some v then (j:Int) else g
theorem aVd {l:List OpI} {k:Nat} {bs:List (List Int)} (n:Nat):jC l k bs (n+1)=aHm (jC l k bs n) bs n (rB l k n):=by
 show (if jC l k bs n < 0 then (if bs[n]? = some (rB l k n) then -1 else (n:Int)) else jC l k bs n)=_
 unfold aHm
 by_cases h1:jC l k bs n < 0
 ·rw [if_pos h1]
  by_cases h2:bs[n]? = some (rB l k n)
  ·rw [if_pos h2,if_neg (fun h=>h.2 h2)]
   exact (bBq n h1).symm
  ·rw [if_neg h2,if_pos ⟨h1,h2⟩]
 ·rw [if_neg h1,if_neg (fun h=>h1 h.1)]
theorem bBr {l:List OpI} {k i:Nat} {bs:List (List Int)} (hk:0 < k) (h:(i+1) % k=0):jC l k bs ((i+1) / k)=aHm (jC l k bs (i / k)) bs (i / k) (kN (eX [] (l.take (i+1)))):=by
 rcases aFg (i:=i) hk with ⟨_,h2,h3⟩ | ⟨h1,_⟩
 ·rw [h2,aVd]
  unfold rB
  rw [h3]
 ·exact absurd h h1
def aUz (l:List OpI) (k:Nat) (bs:List (List Int)):Int × Int:=if 0≤jC l k bs bs.length then (jC l k bs bs.length,13) else ((bs.length:Int),0)
theorem bBk {l:List OpI} {k:Nat} {m:Nat}:aUz l k (fT l k m)=((m:Int),0):=by
 have h:jC l k (fT l k m) (fT l k m).length = -1:=by rw [pY];exact aIa m (fun i hi=>aQe l k hi)
 unfold aUz
 rw [h,if_neg (by decide),pY]
theorem bHl {l:List OpI} {k:Nat} {bs:List (List Int)} {n a:Nat} (ha:a=n / k) {b:List Int} (h:0 < a) (hb:bs[a - 1]? = some b):aHf l k bs n=eX (pR [] b) ((l.drop (a*k)).take (n - a*k)):=by
 unfold aHf
 rw [← ha,if_neg (by omega),List.getD_eq_getElem?_getD,hb,List.drop_take]
 rfl
theorem bAw {l:List OpI} {k:Nat} {bs:List (List Int)} {n a:Nat} (ha:a=n / k) (h:a=0):aHf l k bs n=eX [] ((l.drop (a*k)).take (n - a*k)):=by
 unfold aHf
 rw [← ha,if_pos h,List.drop_take]
theorem bKz (i k:Nat):(((i+1)*k:Nat):Int)+(k:Int)=(((i+1+1)*k:Nat):Int):=by
 rw [show (i+1+1)*k=(i+1)*k+k from Nat.succ_mul (i+1) k,Int.natCast_add]
theorem bLp (l:List OpI) (o:OpI):eX [] (l++[o])=(hJ (eX [] l) o).1:=by rw [rI];rfl
theorem aIr {l:List OpI} {o:OpI} {k:Nat} (hk:0 < k) (h:(l.length+1) % k=0):fT (l++[o]) k ((l++[o]).length / k)=fT l k (l.length / k)++[kN (hJ (eX [] l) o).1]:=by
 have e:(l++[o]).length=l.length+1:=by simp
 rw [e,(aBn (l:=l++[o]) hk h).1,aKf o (Nat.div_mul_le_self _ _),List.take_of_length_le (by omega),bLp]
theorem aMr {l:List OpI} {o:OpI} {k:Nat} (hk:0 < k) (h:(l.length+1) % k≠0):fT (l++[o]) k ((l++[o]).length / k)=fT l k (l.length / k):=by
 have e:(l++[o]).length=l.length+1:=by simp
 rw [e,aGg hk h,aKf o (Nat.div_mul_le_self _ _)]
theorem aPr {l:List OpI} {o:OpI} (h:∀ x∈l,GoodO x) (ho:GoodO o):∀ x∈l++[o],GoodO x:=by
 intro x hx
 rcases List.mem_append.1 hx with g | g
 ·exact h x g
 ·rw [List.mem_singleton.1 g];exact ho
theorem Mem.re {w0 w:World} {X:List Nat} {S S':List eN} (M:Mem w0 X S w) (h:∀ p:eN→Bool,S'.countP p≤S.countP p):Mem w0 X S' w:=by
 have hm:∀ e∈S',e∈S:=by
  intro e he
  classical
  have h1:0 < S'.countP (fun x=>decide (x=e)):=List.countP_pos_iff.2 ⟨e,he,by simp⟩
  have h2:=h (fun x=>decide (x=e))
  obtain ⟨x,hx,hxe⟩:=List.countP_pos_iff.1 (Nat.lt_of_lt_of_le h1 h2)
  have:x=e:=by simpa using hxe
  rw [← this];exact hx
 refine ⟨M.os,M.tape,M.output,M.size,M.old,fun b o hb=>M.own b o (hm _ hb), ?_⟩
 have hap:=M.apart
 unfold bZ at hap ⊢
 rw [List.nodup_iff_count] at hap ⊢
 intro b
 have h1:=hap b
 rw [List.count_filterMap] at h1 ⊢
 exact Nat.le_trans (h _) h1
def tC:Body:=⟨1,65536,0,0,65536,0,0,0,0,0⟩
def tC1:Body:=⟨1,65536,0,0,65536,0,0, -16,0, -1024⟩
def tC2:Body:=⟨1,65536,0,0,65536,0,0, -48,0, -2048⟩
def mW:List OpRow:=[opA tC,opZ 4,opZ 4]
theorem bWm:InB tC:=⟨by decide,by decide,by decide,by decide,by decide,by decide,by decide,by decide,by decide,by decide⟩
theorem aGq (w:World):∀ x∈mW,OpOk w x.o x.A x.n x.c:=by
 intro x hx
 simp only [mW,List.mem_cons,List.not_mem_nil,or_false] at hx
 rcases hx with rfl | rfl | rfl
 ·exact bSt w _ bWm
 ·exact aTs w _
 ·exact aTs w _
theorem aXd:∀ x∈mW,x.n=0:=by
 intro x hx
 simp only [mW,List.mem_cons,List.not_mem_nil,or_false] at hx
 rcases hx with rfl | rfl | rfl <;> rfl
theorem bTr:lY [tC]=[]:=by decide +kernel
theorem bOp:lY [tC1]=[]:=by decide +kernel
theorem bTt:rK [tC]=[tC1]:=by
 unfold rK mL
 rw [bTr]
 decide +kernel
theorem bOq:rK [tC1]=[tC2]:=by
 unfold rK mL
 rw [bOp]
 decide +kernel
theorem bTo:(hJ [] (opA tC).o).1=[tC]:=by rw [bLs (o:=(opA tC).o) rfl,show pD [] (opA tC).o.body=([tC],0) by decide]
theorem bTp:(hJ [tC] (opZ 4).o).1=[tC1]:=by rw [bHh (o:=(opZ 4).o) rfl];exact bTt
theorem bTq:(hJ [tC1] (opZ 4).o).1=[tC2]:=by rw [bHh (o:=(opZ 4).o) rfl];exact bOq
theorem bTs:eX [] (opsO mW)=[tC2]:=by
 show (hJ (hJ (hJ [] (opA tC).o).1 (opZ 4).o).1 (opZ 4).o).1=_
 rw [bTo,bTp,bTq]
theorem bMw:qR [tC2] 1={ nV with body:=tC2 }:=by unfold qR;rw [if_neg (by decide)];rfl
end Go.Bil
