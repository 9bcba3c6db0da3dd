/- Part of the proof of a law of this seat (13 texts). No conditions. -/
import Derived.Test.YtpcloigancpnbaaGreatDoorK18
import Derived.Test.YtpcloigancpnbaaGreatDoorK33
set_option linter.unusedVariables false
set_option linter.unusedSimpArgs false
set_option linter.unnecessarySimpa false
set_option maxHeartbeats 100000000
namespace Go.Bil
def pushB (b:Body) (j:Int × Int):Body:={ b with vx:=jK (b.vx+j.1*b.mass / 65536) 16777216,vy:=jK (b.vy+j.2*b.mass / 65536) 16777216 }
theorem aWw {b:Body} (h:Okb b) (j:Int × Int):Okb (pushB b j):=⟨h.r,h.a,h.m,h.c,h.p,⟨(eX _ (by decide)).1,(eX _ (by decide)).2,(eX _ (by decide)).1,(eX _ (by decide)).2⟩⟩
theorem aGm {b:Body} (h:Okb b):check b=0:=by
 have h1:=h.r
 have h2:=h.a
 have h3:=h.m
 have h4:=h.c
 have h5:=h.p
 have h6:=h.v
 unfold check xS
 rw [if_neg (by omega),if_neg (by omega),if_neg (by omega),if_neg (by omega),if_neg (by omega),if_neg (by omega)]
def rY (v:List Body) (k:Int) (j:Int × Int):List Body × Int:=if dO k v < 0 then (v,11) else (xW v (pushB (v.getD (dO k v).toNat default) j) false,0)
structure OpI where
 kind:Int
 body:Body
 key:Int
 push:Int × Int
 bytes:List Int
structure ResI where
 err:Int
 body:Body
 bytes:List Int
 cont:Int
 cl:Bool
def nL:ResI:=⟨0,aUy,[],0,false⟩
def qN (v:List Body) (k:Int):ResI:=if dO k v < 0 then { nL with err:=11 } else { nL with body:=v.getD (dO k v).toNat default }
def pI (v:List Body) (l:List Int):List Body:=if (nJ l).2=0 then (nJ l).1 else v
def doR (v:List Body) (o:OpI):List Body × ResI :=
 if o.kind=0 then ((oU v o.body).1,{ nL with err:=(oU v o.body).2 })
 else if o.kind=1 then ((iC v o.key).1,{ nL with err:=(iC v o.key).2 })
 else if o.kind=2 then ((rY v o.key o.push).1,{ nL with err:=(rY v o.key o.push).2 })
 else if o.kind=3 then (rD v,{ nL with cont:=((lT v).length:Int),cl:=aAd v })
 else if o.kind=4 then (v,{ nL with bytes:=kH v })
 else if o.kind=5 then (pI v o.bytes,{ nL with err:=(nJ o.bytes).2 })
 else if o.kind=6 then (v,qN v o.key)
 else (v,nL)
structure GoodV (v:List Body):Prop where
 s:cZ v
 len:v.length≤4096
 ok:∀ b∈v,check b=0
 inb:∀ b∈v,InB b
theorem GoodV.okb {v:List Body} (h:GoodV v):∀ b∈v,Okb b:=fun b hb=>aOr (h.ok b hb)
theorem GoodV.chk {v:List Body} (h:GoodV v):jD v=0:=aYj (bEb h.len h.ok) h.s
theorem GoodV.nil:GoodV []:=⟨by simp [cZ],by simp,by simp,by simp⟩
def dB (T:Nat) (r:StV) (v:List Body):Prop:=GoodV v∧∃ m,StoreIs T r.A r.n r.c r.p r.er r.em m∧Rel m v
theorem aDx {T:Nat} {r:StV} {m v:List Body} (h:StoreIs T r.A r.n r.c r.p r.er r.em m) (R:Rel m v) (hi:∀ b∈m,InB b):dB T r v :=
 ⟨⟨R.sorted,by rw [R.perm.length_eq];exact h.cap,fun b hb=>h.ok b (R.perm.mem_iff.1 hb),fun b hb=>hi b (R.perm.mem_iff.1 hb)⟩,m,h,R⟩
theorem dB.new (T:Nat) (o o':Obj):dB T ⟨none,0,0,none,(none,o),(none,o')⟩ []:=aDx (StoreIs.nil T o o') Rel.nil (by simp)
theorem aVh {m:List Body} {x:Body} (h:∀ b∈m,InB b) (hx:InB x):∀ b∈(oT m x).1,InB b:=by
 intro b hb
 unfold oT at hb
 split at hb
 ·exact h b hb
 ·split at hb
  ·exact h b hb
  ·split at hb
   ·exact h b hb
   ·rcases List.mem_append.1 hb with h1 | h1
    ·exact h b h1
    ·rw [List.mem_singleton] at h1;subst h1;exact hx
theorem aGw {m:List Body} (hk:kQ m) {k:Int} (h:∀ b∈m,InB b):∀ b∈(mB m k).1,InB b:=fun b hb=>h b (zL.1 ((aCy hk k).mem_iff.1 hb)).1
theorem aXc {m:List Body} {x:Body} (h:∀ b∈m,InB b) (hx:InB x):∀ b∈(tK m x).1,InB b:=by
 intro b hb
 unfold tK at hb
 split at hb
 ·exact h b hb
 ·split at hb
  ·exact h b hb
  ·rcases List.mem_or_eq_of_mem_set hb with h1 | h1
   ·exact h b h1
   ·subst h1;exact hx
theorem GoodV.inm {v m:List Body} (h:GoodV v) (R:Rel m v):∀ b∈m,InB b:=fun b hb=>h.inb b (R.perm.mem_iff.2 hb)
theorem aWv {b:Body} (h:InB b) (j:Int × Int):InB (pushB b j):=by
 obtain ⟨h0,h1,h2,h3,h4,h5,h6,h7,h8,h9⟩:=h
 have a:=eX (b.vx+j.1*b.mass / 65536) (l:=16777216) (by decide)
 have c:=eX (b.vy+j.2*b.mass / 65536) (l:=16777216) (by decide)
 exact ⟨h0,h1,h2,h3,h4,h5,h6,h7,⟨by show -2147483648≤jK _ _;omega,by show jK _ _≤2147483647;omega⟩,⟨by show -2147483648≤jK _ _;omega,by show jK _ _≤2147483647;omega⟩⟩
theorem bKf {xs ys:List Body} (l:Like xs ys) (hx:∀ b∈xs,InB b) (hy:∀ b∈ys,Okb b):∀ b∈ys,InB b:=by
 intro b hb
 obtain ⟨i,hi⟩:=List.getElem?_of_mem hb
 have hlt:i < xs.length:=by rw [← l.len];exact (List.getElem?_eq_some_iff.1 hi).1
 have hxi:=List.getElem?_eq_getElem hlt
 have hs:=l.at_ i _ b hxi hi
 obtain ⟨h0,_⟩:=hx _ (List.getElem_mem hlt)
 have o:=hy b hb
 have o1:=o.r
 have o2:=o.a
 have o3:=o.m
 have o4:=o.c
 have o5:=o.p
 have o6:=o.v
 have:=hs.key
 exact ⟨by omega,by omega,by omega,by omega,by omega,by omega,by omega,by omega,by omega,by omega⟩
theorem GoodV.step {v:List Body} (h:GoodV v):GoodV (rD v) :=
 ⟨(aBs v).sorted h.s,by rw [(aBs v).len];exact h.len,fun b hb=>aGm (aXh h.okb b hb),bKf (aBs v) h.inb (aXh h.okb)⟩
theorem GoodV.dec {l:List Int} (hl:iG l) (hn:l.length≤1000000) (h:(nJ l).2=0):GoodV (nJ l).1:=by
 have d:=bIx hl h
 have hc:=d.c
 have h1:pE (nJ l).1=0:=by
  unfold jD at hc
  split at hc
  ·rename_i hne;exact absurd hc hne
  ·rename_i hne;exact Decidable.not_not.1 hne
 obtain ⟨h2,h3⟩:=bEc h1
 refine ⟨?_,h2,h3,d.inb⟩
 unfold jD at hc
 rw [if_neg (by omega)] at hc
 by_cases ha:aIi (nJ l).1=true
 ·exact tM ha
 ·rw [if_neg ha] at hc;omega
theorem aNz {v:List Body} (h:GoodV v):∀ k,k≤v.length→aJm (v.take k)=v.take k:=by
 intro k hk
 rw [aEk h.s.keys h.len k hk]
 exact List.filter_eq_self.2 fun b hb=>by simpa using h.ok b (List.mem_of_mem_take hb)
theorem zX {v:List Body} (h:cZ v):Rel v v:=⟨List.Perm.refl _,h⟩
theorem bAg {v:List Body} {l:List Int} (h:GoodV v) (hl:iG l) (hn:l.length≤1000000):GoodV (pI v l):=by
 unfold pI
 split
 ·rename_i hd;exact GoodV.dec hl hn hd
 ·exact h
theorem uZ {v:List Body} {k:Int} {i:Nat} {b:Body} (hf:dO k v=(i:Int)) (hb:v[i]? = some b):v.getD (dO k v).toNat default=b:=by
 rw [hf,Int.toNat_natCast,List.getD_eq_getElem?_getD,hb]
 rfl
theorem bAq {v:List Body} (h:GoodV v):nJ (kH v)=(v,0):=bDs h.inb h.len h.chk
theorem aWk {m v:List Body} (R:Rel m v) (h:GoodV v) {k:Int} {i:Nat} {b:Body} (j:Int × Int) (hf:dO k v=(i:Int)) (hb:v[i]? = some b):Rel (tK m (pushB b j)).1 (rY v k j).1∧(tK m (pushB b j)).2=0∧(rY v k j).2=0∧(rY v k j).1=xW v (pushB b j) false:=by
 have hbm:b∈v:=List.mem_of_getElem? hb
 have hi:(rY v k j)=(xW v (pushB b j) false,0):=by unfold rY;rw [if_neg (by omega),uZ hf hb]
 have hk:b.key=k:=by
  rcases eO k v with ⟨h1,_⟩ | ⟨q,c,h1,h2,h3⟩
  ·omega
  ·have:q=i:=by omega
   subst this
   rw [h1] at hb;injection hb with hb;rw [← hb];exact h2
 have hp:check (pushB b j)=0:=aGm (aWw (h.okb b hbm) j)
 obtain ⟨h1,h2⟩:=R.set (pushB b j)
 have hs:bGy v (pushB b j)=(xW v (pushB b j) false,0):=by
  unfold bGy
  rw [if_neg (by omega),if_neg (by show ¬ dO b.key v < 0;rw [hk];omega)]
 rw [hs] at h1 h2
 exact ⟨by rw [hi];exact h1,h2.symm,by rw [hi],by rw [hi]⟩
theorem uF {v:List Body} {k:Int} (j:Int × Int) (h:dO k v < 0):rY v k j=(v,11):=by unfold rY;rw [if_pos h]
end Go.Bil
namespace Go.Bil
theorem bKo {j m:Int} (hj : -2147483648≤j∧j≤2147483647) (hm:0≤m∧m≤1048576) : -2251799813685248≤j*m∧j*m≤2251799813685248:=by
 have h1:j*m≤2147483647*m:=Int.mul_le_mul_of_nonneg_right hj.2 hm.1
 have h2 : -2147483648*m≤j*m:=Int.mul_le_mul_of_nonneg_right hj.1 hm.1
 omega
theorem bJq {m v:List Body} (R:Rel m v) (k:Int):aFt m k=((qN v k).body,(qN v k).err):=by
 rcases R.get k with ⟨h1,h2⟩ | ⟨i,b,h1,h2,h3⟩
 ·rw [h2];unfold qN;rw [if_pos h1];rfl
 ·rw [h3];unfold qN;rw [if_neg (by omega),uZ h1 h2];rfl
end Go.Bil
namespace Go.Bil
theorem bDv {v:List Body} {o:OpI} (h0:o.kind=0):doR v o=((oU v o.body).1,{ nL with err:=(oU v o.body).2 }):=by unfold doR;rw [if_pos h0]
theorem bDw {v:List Body} {o:OpI} (h:o.kind=1):doR v o=((iC v o.key).1,{ nL with err:=(iC v o.key).2 }):=by unfold doR;rw [if_neg (by omega),if_pos h]
theorem bDx {v:List Body} {o:OpI} (h:o.kind=2):doR v o=((rY v o.key o.push).1,{ nL with err:=(rY v o.key o.push).2 }):=by unfold doR;rw [if_neg (by omega),if_neg (by omega),if_pos h]
theorem bDy {v:List Body} {o:OpI} (h:o.kind=3):doR v o=(rD v,{ nL with cont:=((lT v).length:Int),cl:=aAd v }):=by unfold doR;rw [if_neg (by omega),if_neg (by omega),if_neg (by omega),if_pos h]
theorem bDz {v:List Body} {o:OpI} (h:o.kind=4):doR v o=(v,{ nL with bytes:=kH v }):=by unfold doR;rw [if_neg (by omega),if_neg (by omega),if_neg (by omega),if_neg (by omega),if_pos h]
theorem aOz {v:List Body} {o:OpI} (h:o.kind=5):doR v o=(pI v o.bytes,{ nL with err:=(nJ o.bytes).2 }):=by unfold doR;rw [if_neg (by omega),if_neg (by omega),if_neg (by omega),if_neg (by omega),if_neg (by omega),if_pos h]
theorem aSp {v:List Body} {o:OpI} (h:o.kind=6):doR v o=(v,qN v o.key):=by unfold doR;rw [if_neg (by omega),if_neg (by omega),if_neg (by omega),if_neg (by omega),if_neg (by omega),if_neg (by omega),if_pos h]
theorem bJc {v:List Body} {o:OpI} (h0:¬ o.kind=0) (h1:¬ o.kind=1) (h2:¬ o.kind=2) (h3:¬ o.kind=3) (h4:¬ o.kind=4) (h5:¬ o.kind=5) (h6:¬ o.kind=6):doR v o=(v,nL):=by
 unfold doR;rw [if_neg h0,if_neg h1,if_neg h2,if_neg h3,if_neg h4,if_neg h5,if_neg h6]
theorem aAy {v:List Body} {k:Int} (h:dO k v < 0):qN v k={ nL with err:=11 }:=by unfold qN;rw [if_pos h]
theorem aAz {v:List Body} {k:Int} {i:Nat} {b:Body} (hf:dO k v=(i:Int)) (hb:v[i]? = some b):qN v k={ nL with body:=b }:=by unfold qN;rw [if_neg (by omega),uZ hf hb]
def dR (o:OpI) (A:Option Addr) (n c:Nat):List Value:=[.int .i64 o.kind]++aF o.body++[.int .u32 o.key,.int .i32 o.push.1,.int .i32 o.push.2,.slice A n c]
def bGl (A:Option Addr) (n c:Nat) (B:Option Addr) (m d:Nat) (z:ResI):List Value:=[.slice A n c,.int .i64 z.err]++aF z.body++[.slice B m d,.int .i64 z.cont,.bool z.cl]
structure OpOk (w:World) (o:OpI) (A:Option Addr) (n c:Nat):Prop where
 rd:Rd w 1 A n (o.bytes.map bB)
 cap:n≤c
 byt:iG o.bytes
 body:InB o.body
 p1 : -2147483648≤o.push.1∧o.push.1≤2147483647
 p2 : -2147483648≤o.push.2∧o.push.2≤2147483647
theorem OpOk.len {w:World} {o:OpI} {A:Option Addr} {n c:Nat} (h:OpOk w o A n c):o.bytes.length=n:=by simpa using h.rd.len
theorem OpOk.mem {w0 w:World} {S:List eL} {o:OpI} {A:Option Addr} {n c:Nat} (h:OpOk w0 o A n c) (M:Mem w0 [] S w):OpOk w o A n c:=⟨h.rd.mem M,h.cap,h.byt,h.body,h.p1,h.p2⟩
theorem OpOk.memY {w0 w:World} {X:List Nat} {S:List eL} {o:OpI} {A:Option Addr} {n c:Nat} (h:OpOk w0 o A n c) (M:Mem w0 X S w) (hX:0 < n→∀ q off,A=Option.some ⟨q,off,none⟩→q∉X):OpOk w o A n c:=⟨h.rd.memY M hX,h.cap,h.byt,h.body,h.p1,h.p2⟩
structure OpRow where
 o:OpI
 A:Option Addr
 n:Nat
 c:Nat
def OpRow.cells (x:OpRow):List Value:=dR x.o x.A x.n x.c
structure OpsRd (w:World) (A:Option Addr) (n:Nat) (l:List OpRow):Prop where
 rd:Rd w 15 A n (l.map OpRow.cells)
 each:∀ x∈l,OpOk w x.o x.A x.n x.c
theorem OpsRd.mem {w0 w:World} {S:List eL} {A:Option Addr} {n:Nat} {l:List OpRow} (h:OpsRd w0 A n l) (M:Mem w0 [] S w):OpsRd w A n l:=⟨h.rd.mem M,fun x hx=>(h.each x hx).mem M⟩
end Go.Bil
namespace Go.Bil
end Go.Bil
namespace Go.Bil
theorem bAh {v:List Body} (h:GoodV v) (u:List Body):pI u (kH v)=v:=by unfold pI;rw [bAq h];rfl
end Go.Bil
namespace Go.Bil
end Go.Bil
namespace Go.Bil
end Go.Bil

namespace Go.Bil
def jT (v:List Body) (o:OpI):List Body × ResI:=if o.kind < 1∨6 < o.kind then (v,{ nL with err:=1 }) else doR v { o with kind:=o.kind - 1 }
def iB (v:List Body):List OpI→List Body
 | []=>v
 | o::l=>iB (jT v o).1 l
def lZ (v:List Body):List OpI→List ResI
 | []=>[]
 | o::l=>(jT v o).2::lZ (jT v o).1 l
theorem rB (v:List Body):∀ (a b:List OpI),iB v (a++b)=iB (iB v a) b
 | [],b=>rfl
 | o::a,b=>rB (jT v o).1 a b
theorem aQw (v:List Body):∀ (a b:List OpI),lZ v (a++b)=lZ v a++lZ (iB v a) b:=by
 intro a
 induction a generalizing v with
 | nil=>intro b;rfl
 | cons o a ih=>intro b;show _::lZ (jT v o).1 (a++b)=_;rw [ih];rfl
theorem mS {v:List Body} {l:List OpI} {i:Nat} {o:OpI} (h:l[i]? = some o):iB v (l.take (i+1))=(jT (iB v (l.take i)) o).1:=by rw [cH h,rB];rfl
theorem jF {v:List Body} {l:List OpI} {i:Nat} {o:OpI} (h:l[i]? = some o):lZ v (l.take (i+1))=lZ v (l.take i)++[(jT (iB v (l.take i)) o).2]:=by rw [cH h,aQw];rfl
theorem oQ (v:List Body):∀ l:List OpI,(lZ v l).length=l.length
 | []=>rfl
 | o::l=>by show (lZ (jT v o).1 l).length+1=l.length+1;rw [oQ (jT v o).1 l]
theorem jO {v:List Body} {o:OpI} (h:¬ (1≤o.kind∧o.kind≤6)):jT v o=(v,{ nL with err:=1 }):=by unfold jT;rw [if_pos (by omega)]
end Go.Bil

namespace Go.Bil
structure OkO (o:OpI):Prop where
 body:InB o.body
 byt:iG o.bytes
 len:o.bytes.length≤1000000
theorem aFu {m v:List Body} (R:Rel m v) (hl:m.length≤4096) (hc:∀ b∈m,check b=0) (hi:∀ b∈m,InB b):GoodV v :=
 ⟨R.sorted,by rw [R.perm.length_eq];exact hl,fun b hb=>hc b (R.perm.mem_iff.1 hb),fun b hb=>hi b (R.perm.mem_iff.1 hb)⟩
theorem bBr {v:List Body} {b:Body} (h:GoodV v) (hb:InB b):GoodV (oU v b).1:=by
 have R:=((zX h.s).add b).1
 obtain ⟨_,h2,h3⟩:=aLm (x:=b) ⟨h.s.keys,h.len,h.ok⟩
 exact aFu R h2 h3 (aVh h.inb hb)
theorem aQs {v:List Body} {k:Int} (h:GoodV v):GoodV (iC v k).1:=by
 have R:=((zX h.s).remove k).1
 have p:=aCy h.s.keys k
 refine aFu R ?_ (fun b hb=>h.ok b (zL.1 (p.mem_iff.1 hb)).1) (aGw h.s.keys h.inb)
 rw [p.length_eq]
 exact Nat.le_trans (List.length_filter_le _ _) h.len
theorem bEq {v:List Body} {k:Int} {j:Int × Int} (h:GoodV v):GoodV (rY v k j).1:=by
 by_cases hf:dO k v < 0
 ·rw [uF j hf];exact h
 ·obtain ⟨i,bb,hbi,_,hfi⟩:=(eO k v).resolve_left (fun g=>hf (by omega))
  obtain ⟨h1,h2,_,_⟩:=aWk (zX h.s) h j hfi hbi
  have hbm:=List.mem_of_getElem? hbi
  have hin:=aXc h.inb (aWv (h.inb bb hbm) j)
  have hsm:∀ b∈(tK v (pushB bb j)).1,b∈v∨b=pushB bb j:=by
   intro b hb
   unfold tK at hb
   split at hb
   ·exact .inl hb
   ·split at hb
    ·exact .inl hb
    ·exact List.mem_or_eq_of_mem_set hb
  refine aFu h1 ?_ (fun b hb => ?_) hin
  ·unfold tK
   split
   ·exact h.len
   ·split
    ·exact h.len
    ·rw [List.length_set];exact h.len
  ·rcases hsm b hb with g | rfl
   ·exact h.ok b g
   ·exact aGm (aWw (h.okb bb hbm) j)
theorem bJb {v:List Body} {o:OpI} (h:GoodV v) (ho:OkO o):GoodV (doR v o).1:=by
 by_cases h0:o.kind=0
 ·rw [bDv h0];exact bBr h ho.body
 by_cases h1:o.kind=1
 ·rw [bDw h1];exact aQs h
 by_cases h2:o.kind=2
 ·rw [bDx h2];exact bEq h
 by_cases h3:o.kind=3
 ·rw [bDy h3];exact h.step
 by_cases h4:o.kind=4
 ·rw [bDz h4];exact h
 by_cases h5:o.kind=5
 ·rw [aOz h5];exact bAg h ho.byt ho.len
 by_cases h6:o.kind=6
 ·rw [aSp h6];exact h
 rw [bJc h0 h1 h2 h3 h4 h5 h6];exact h
theorem bLe {v:List Body} {o:OpI} (h:GoodV v) (ho:OkO o):GoodV (jT v o).1:=by
 unfold jT
 split
 ·exact h
 ·exact bJb h ⟨ho.body,ho.byt,ho.len⟩
theorem zY:∀ {l:List OpI} {v:List Body},GoodV v→(∀ o∈l,OkO o)→GoodV (iB v l)
 | [],v,h,_=>h
 | o::l,v,h,hl=>by
  show GoodV (iB (jT v o).1 l)
  exact zY (bLe h (hl o (by simp))) (fun q hq=>hl q (by simp [hq]))
def oL (l:List OpI) (k i:Nat):List Int:=kH (iB [] (l.take ((i+1)*k)))
def fM (l:List OpI) (k n:Nat):List (List Int):=(List.range n).map (oL l k)
theorem aGf (l:List OpI) (k n:Nat):fM l k (n+1)=fM l k n++[oL l k n]:=by unfold fM;rw [List.range_succ,List.map_append];rfl
theorem mP (l:List OpI) (k n:Nat):(fM l k n).length=n:=by unfold fM;rw [List.length_map,List.length_range]
theorem aGc (l:List OpI) (k:Nat) {n i:Nat} (h:i < n):(fM l k n)[i]? = some (oL l k i):=by unfold fM;rw [List.getElem?_map,List.getElem?_range h];rfl
theorem bGs {l:List OpI} (hl:∀ o∈l,OkO o) {a n:Nat} (h:a≤n):iB (pI [] (kH (iB [] (l.take a)))) ((l.take n).drop a)=iB [] (l.take n):=by
 have hg:GoodV (iB [] (l.take a)):=zY GoodV.nil (fun o ho=>hl o (List.mem_of_mem_take ho))
 rw [bAh hg]
 have e:l.take n=l.take a++(l.take n).drop a:=by
  conv=>lhs;rw [← List.take_append_drop a (l.take n)]
  rw [List.take_take,Nat.min_eq_left h]
 conv=>rhs;rw [e,rB]
def iX (l:List OpI) (k:Nat) (ms:List (List Int)):Nat→Int
 | 0 => -1
 | n+1=>if iX l k ms n < 0 then (if ms[n]? = some (oL l k n) then -1 else (n:Int)) else iX l k ms n
theorem aIa {l:List OpI} {k:Nat} {ms:List (List Int)}:∀ n,(∀ i,i < n→ms[i]? = some (oL l k i))→iX l k ms n = -1
 | 0,_=>rfl
 | n+1,h=>by
  show (if _ then _ else _)=_
  rw [aIa n (fun i hi=>h i (by omega)),if_pos (by decide),if_pos (h n (by omega))]
end Go.Bil

namespace Go.Bil
def eG (z:ResI) (r:Row):List Value:=[.int .i64 z.err,.slice r.A r.n r.c,.int .i64 z.cont,.bool z.cl]
structure OutR (T:Nat) (rs:List Row) (zs:List ResI):Prop where
 len:rs.length=zs.length
 row:∀ (j:Nat) (r:Row) (z:ResI),rs[j]? = some r→zs[j]? = some z→aZ T 1 r.A r.n r.c (z.bytes.map bB) r.e
def kV (zs:List ResI) (rs:List Row):List (List Value):=List.zipWith eG zs rs
theorem OutR.nil (T:Nat):OutR T [] []:=⟨rfl,by simp⟩
theorem OutR.add {T:Nat} {rs:List Row} {zs:List ResI} {r:Row} {z:ResI} (h:OutR T rs zs) (hr:aZ T 1 r.A r.n r.c (z.bytes.map bB) r.e):OutR T (rs++[r]) (zs++[z]):=by
 refine ⟨by simp [h.len],fun j q k hq hk => ?_⟩
 by_cases hj:j < rs.length
 ·rw [List.getElem?_append_left hj] at hq
  rw [List.getElem?_append_left (by rw [← h.len];exact hj)] at hk
  exact h.row j q k hq hk
 ·have hj2:j=rs.length:=by
   have:=(List.getElem?_eq_some_iff.1 hq).1
   simp at this
   omega
  rw [hj2,List.getElem?_append_right (Nat.le_refl _),Nat.sub_self] at hq
  rw [hj2,h.len,List.getElem?_append_right (Nat.le_refl _),Nat.sub_self] at hk
  simp only [List.getElem?_cons_zero,Option.some.injEq] at hq hk
  subst hq hk
  exact hr
theorem oO {zs:List ResI} {rs:List Row} (h:rs.length=zs.length):(kV zs rs).length=zs.length:=by unfold kV;rw [List.length_zipWith,h,Nat.min_self]
theorem pU {zs:List ResI} {rs:List Row} (h:rs.length=zs.length) (z:ResI) (r:Row):kV (zs++[z]) (rs++[r])=kV zs rs++[eG z r]:=by
 unfold kV
 rw [List.zipWith_append h.symm]
 rfl
theorem OutR.rd {w0 w:World} {X:List Nat} {S:List eL} {T:Nat} {rs:List Row} {zs:List ResI} (h:OutR T rs zs) (M:Mem w0 X S w) (ht:∀ r∈rs,r.e∈S) {j:Nat} {r:Row} {z:ResI} (hr:rs[j]? = some r) (hz:zs[j]? = some z):Rd w 1 r.A r.n (z.bytes.map bB) :=
 (h.row j r z hr hz).rd M (ht r (List.mem_of_getElem? hr))
theorem bKn (l:List OpRow):∀ y∈l.map OpRow.cells,y.length=15:=by
 intro y hy
 obtain ⟨x,_,rfl⟩:=List.mem_map.1 hy
 rfl
end Go.Bil

namespace Go.Bil
theorem bLd {v:List Body} {o:OpI} (h:o.kind=1):jT v o=((oU v o.body).1,{ nL with err:=(oU v o.body).2 }):=by unfold jT;rw [if_neg (by omega)];exact bDv (by simp;omega)
theorem bSg {v:List Body} {o:OpI} (h:o.kind=2):jT v o=((iC v o.key).1,{ nL with err:=(iC v o.key).2 }):=by unfold jT;rw [if_neg (by omega)];exact bDw (by simp;omega)
theorem bSh {v:List Body} {o:OpI} (h:o.kind=3):jT v o=((rY v o.key o.push).1,{ nL with err:=(rY v o.key o.push).2 }):=by unfold jT;rw [if_neg (by omega)];exact bDx (by simp;omega)
theorem bGt {v:List Body} {o:OpI} (h:o.kind=4):jT v o=(rD v,{ nL with cont:=((lT v).length:Int),cl:=aAd v }):=by unfold jT;rw [if_neg (by omega)];exact bDy (by simp;omega)
theorem bSi {v:List Body} {o:OpI} (h:o.kind=5):jT v o=(v,{ nL with bytes:=kH v }):=by unfold jT;rw [if_neg (by omega)];exact bDz (by simp;omega)
theorem bSj {v:List Body} {o:OpI} (h:o.kind=6):jT v o=(pI v o.bytes,{ nL with err:=(nJ o.bytes).2 }):=by unfold jT;rw [if_neg (by omega)];exact aOz (by simp;omega)
theorem bGu {v:List Body} {o:OpI} (h:¬ (o.kind < 1∨6 < o.kind)):jT v o=doR v { o with kind:=o.kind - 1 }:=by unfold jT;rw [if_neg h]
theorem pT {f:Int→Option Value} {k:Int} {v:Value} (h:f k=some v):Value.tuple [((f k).getD .nilFunc),.bool (f k).isSome].toArray=Value.tuple [v,.bool true].toArray:=by rw [h];rfl
theorem aZk {f:Int→Option Value} {k:Int} (h:f k=none):Value.tuple [((f k).getD .nilFunc),.bool (f k).isSome].toArray=Value.tuple [.nilFunc,.bool false].toArray:=by rw [h];rfl
def vD (l:List OpRow) (X:List Nat):Prop:=∀ x∈l,0 < x.n→∀ q off,x.A=some ⟨q,off,none⟩→q∉X
def opsO (l:List OpRow):List OpI:=l.map OpRow.o
theorem pP {l:List OpRow} {i:Nat} {x:OpRow} (h:l[i]? = some x):(opsO l)[i]? = some x.o:=by unfold opsO;rw [List.getElem?_map,h];rfl
theorem fE (l:List OpRow):(opsO l).length=l.length:=List.length_map ..
theorem vY (l:List OpRow) (k:Nat):opsO (l.take k)=(opsO l).take k:=by unfold opsO;rw [List.map_take]
theorem aKo (l:List OpRow) (k:Nat):opsO (l.drop k)=(opsO l).drop k:=by unfold opsO;rw [List.map_drop]
theorem OpOk.okO {w:World} {o:OpI} {A:Option Addr} {n c:Nat} (h:OpOk w o A n c) (hn:n≤1000000):OkO o:=⟨h.body,h.byt,by rw [h.len];exact hn⟩
theorem OpsRd.okO {w:World} {A:Option Addr} {n:Nat} {l:List OpRow} (h:OpsRd w A n l) (hby:∀ x∈l,x.n≤1000000):∀ o∈opsO l,OkO o:=by
 intro o ho
 obtain ⟨x,hx,rfl⟩:=List.mem_map.1 ho
 exact (h.each x hx).okO (hby x hx)
end Go.Bil

namespace Go.Bil
theorem sT {rs:List Row}:∀ r∈rs,r.e∈rs.map Row.e:=fun r hr=>List.mem_map.2 ⟨r,hr,rfl⟩
theorem jE {rs:List Row} {L T:List eL} (h:∀ r∈rs,r.e∈T):∀ r∈rs,r.e∈L++T:=fun r hr=>List.mem_append_right _ (h r hr)
theorem aBi {rs:List Row} {L T:List eL} (h:∀ r∈rs,r.e∈L):∀ r∈rs,r.e∈L++T:=fun r hr=>List.mem_append_left _ (h r hr)
theorem OpsRd.none (w:World):OpsRd w none 0 []:=⟨Rd.nil w 15 Option.none,by simp⟩
theorem OpsRd.memY {w0 w:World} {X:List Nat} {S:List eL} {A:Option Addr} {n:Nat} {l:List OpRow} (h:OpsRd w0 A n l) (M:Mem w0 X S w) (hA:0 < n→∀ q off,A=some ⟨q,off,Option.none⟩→q∉X) (hX:vD l X):OpsRd w A n l:=⟨h.rd.memY M hA,fun x hx=>(h.each x hx).memY M (hX x hx)⟩
theorem OpsRd.sub {w:World} {A:Option Addr} {n c:Nat} {l:List OpRow} (h:OpsRd w A n l) (i j:Nat) (h1:i≤j) (h2:j≤n) (hc:n≤c):OpsRd w (wT A c i 15) (j - i) ((l.drop i).take (j - i)) :=
 ⟨by rw [List.map_take,List.map_drop];exact h.rd.sub i j h1 h2 hc,fun x hx=>h.each x (List.mem_of_mem_drop (List.mem_of_mem_take hx))⟩
theorem Own.dummy (w:World) (o:Obj):Own [(none,o)] w:=⟨by simp,by simp [bY]⟩
def opZ (k:Int):OpRow:=⟨⟨k,aUy,0,(0,0),[]⟩,none,0,0⟩
theorem bVz:InB aUy:=⟨by decide,by decide,by decide,by decide,by decide,by decide,by decide,by decide,by decide,by decide⟩
theorem aMz (w:World) (k:Int):OpOk w (opZ k).o (opZ k).A (opZ k).n (opZ k).c :=
 ⟨Rd.nil w 1 none,Nat.le_refl _,by simp [opZ,iG],bVz,(by decide:(-2147483648:Int)≤0∧(0:Int)≤2147483647),(by decide:(-2147483648:Int)≤0∧(0:Int)≤2147483647)⟩
end Go.Bil

namespace Go.Bil
open Go Go.RowKit Go.Deep
theorem aPv {α:Type} {f:α→List Value} {Q:α→Prop}:∀ ls:List (List Value),(∀ y∈ls,∃ x,y=f x∧Q x)→∃ l:List α,ls=l.map f∧∀ x∈l,Q x
 | [],_=>⟨[],rfl,by simp⟩
 | y::ls,h=>by
  obtain ⟨x,rfl,hx⟩:=h y (by simp)
  obtain ⟨l,rfl,hl⟩:=aPv ls (fun z hz=>h z (by simp [hz]))
  refine ⟨x::l,Z,fun z hz => ?_⟩
  rcases List.mem_cons.1 hz with rfl | hz
  ·exact hx
  ·exact hl z hz
theorem bOj (l:List Value) (h:oF [.u8] l):∃ x:Int,l=bB x∧(0≤x∧x≤255):=by
 obtain ⟨z,l',rfl,hz,hl'⟩:=gW h
 obtain rfl:=uG hl'
 exact ⟨z,Z,hz⟩
section
variable {H:Type} {enc:TypeId × Value→H} {P:Program} {w:World} {base:Nat} {spare:Nat→Bool} {held:Bool}
theorem aUm {t e fuel:Nat} {cs:List Value} {x:DataW H × List MemPlace} (hu:P.underlying t=some (.slice e)) (h:DataW.trod enc P w base spare held fuel t cs=some x):∃ (A:Option Addr) (n c:Nat),cs=[.slice A n c]∧n≤c:=by
 rcases open_slice hu h with ⟨rfl,_⟩ | ⟨a,l,c,m',n,D,Pl,rfl,hb,hlc,_⟩
 ·exact ⟨none,0,0,Z,Nat.le_refl _⟩
 ·exact ⟨_,_,_,Z,hlc⟩
structure OpT (P:Program) (m T T0 T1 T2 T3 T4 e8 b8:Nat) (fs:Array Field):Prop where
 u:P.underlying T=some (.struct fs)
 f:fs.toList.map (fun f=>(f.type,f.offset))=[(T0,0),(T1,1),(T2,11),(T3,12),(T4,14)]
 sz:P.cellsOf T=15
 l0:oZ P m T0=some [.i64]
 l1:oZ P m T1=some [.u32,.i32,.i32,.i32,.i32,.i32,.i32,.i32,.i32,.i32]
 l2:oZ P m T2=some [.u32]
 l3:oZ P m T3=some [.i32,.i32]
 l8:oZ P m e8=some [.u8]
 c0:P.cellsOf T0=1
 c1:P.cellsOf T1=10
 c2:P.cellsOf T2=1
 c3:P.cellsOf T3=2
 c4:P.cellsOf T4=1
 s:fQ P T4 e8 1 b8=true
theorem aSt {α:Type} {l:List α} (h:l.length=15):l=l.take 1++(((l.drop 1).take 10)++(((l.drop 11).take 1)++(((l.drop 12).take 2)++((l.drop 14).take 1)))):=by
 have e4:(l.drop 14).take 1=l.drop 14:=List.take_of_length_le (by rw [List.length_drop];omega)
 have e3:(l.drop 12).take 2++l.drop 14=l.drop 12:=by have g:=List.take_append_drop 2 (l.drop 12);rwa [List.drop_drop] at g
 have e2:(l.drop 11).take 1++l.drop 12=l.drop 11:=by have g:=List.take_append_drop 1 (l.drop 11);rwa [List.drop_drop] at g
 have e1:(l.drop 1).take 10++l.drop 11=l.drop 1:=by have g:=List.take_append_drop 10 (l.drop 1);rwa [List.drop_drop] at g
 rw [e4,e3,e2,e1,List.take_append_drop]
theorem aTk {m T T0 T1 T2 T3 T4 e8 b8:Nat} {fs:Array Field} (O:OpT P m T T0 T1 T2 T3 T4 e8 b8 fs) {fuel:Nat} {cs:List Value} {d:DataW H} {pl:List MemPlace} (hx:DataW.trod enc P w base spare held fuel T cs=some (d,pl)) (hw:∀ n∈d.weights P T,n≤reachBytes) :
  ∃ x:OpRow,cs=x.cells∧OpOk w x.o x.A x.n x.c:=by
 obtain ⟨xs,k,_,hd,hl,hxl,hfs⟩:=DataW.trod_struct O.u hx
 rw [O.sz] at hl
 have hlen:fs.toList.length=5:=by have:=congrArg List.length O.f;simpa using this
 have hf:∀ (i:Nat) (t o:Nat),[(T0,0),(T1,1),(T2,11),(T3,12),(T4,14)][i]? = some (t,o)→∃ f,fs[i]? = some f∧f.type=t∧f.offset=o:=by
  intro i t o hi
  rw [← O.f,List.getElem?_map] at hi
  cases hq:fs.toList[i]? with
  | none=>rw [hq] at hi;cases hi
  | some f =>
   rw [hq] at hi
   simp only [Option.map_some,Option.some.injEq,Prod.mk.injEq] at hi
   exact ⟨f,by simpa using hq,hi⟩
 have part:∀ (i:Nat) (t o z:Nat),[(T0,0),(T1,1),(T2,11),(T3,12),(T4,14)][i]? = some (t,o)→P.cellsOf t=z→∃ y,xs[i]? = some y∧DataW.trod enc P w base spare held k t ((cs.drop o).take z)=some y:=by
  intro i t o z hi hz
  obtain ⟨f,h1,rfl,rfl⟩:=hf i t o hi
  have h2:=hfs i f h1
  have hlt:i < xs.length:=by rw [hxl];exact (Array.getElem?_eq_some_iff.1 h1).1
  rw [List.getElem?_eq_getElem hlt,hz] at h2
  exact ⟨_,List.getElem?_eq_getElem hlt,h2⟩
 obtain ⟨y0,_,p0⟩:=part 0 T0 0 1 rfl O.c0
 obtain ⟨y1,_,p1⟩:=part 1 T1 1 10 rfl O.c1
 obtain ⟨y2,_,p2⟩:=part 2 T2 11 1 rfl O.c2
 obtain ⟨y3,_,p3⟩:=part 3 T3 12 2 rfl O.c3
 obtain ⟨y4,q4,p4⟩:=part 4 T4 14 1 rfl O.c4
 obtain ⟨h1,h2,h3,h4,h5,h6,zv,hzv,hzs⟩:=gP O.s
 obtain ⟨A,n,c,hsl,hnc⟩:=aUm h1 p4
 rw [hsl] at p4
 have hT:DataW.Trod enc P w base spare held T4 (.slice A n c) y4.1 y4.2:=⟨k,p4⟩
 have hw4:∀ n∈y4.1.weights P T4,n≤reachBytes:=fun n hn=>by
  refine hw n ?_
  obtain rfl:d=.agg (xs.map (·.1)):=(Prod.mk.inj hd).1
  simp only [DataW.weights,O.u]
  obtain ⟨f,g1,rfl,_⟩:=hf 4 T4 14 rfl
  have g1':fs.toList[4]? = some f:=by simpa using g1
  exact DataW.weights_mem_each (j:=4) (by rw [List.getElem?_map,g1'];rfl) (by rw [List.getElem?_map,q4];rfl) n hn
 have hs:=aDa hw4 O.s hT
 obtain ⟨ls,R,hI⟩:=aZu O.s O.l8 rfl hs hT
 obtain ⟨bs,rfl,hbs⟩:=aWm bOj ls hI
 have i0:=lH m T0 _ k _ _ O.l0 p0
 have i1:=lH m T1 _ k _ _ O.l1 p1
 have i2:=lH m T2 _ k _ _ O.l2 p2
 have i3:=lH m T3 _ k _ _ O.l3 p3
 obtain ⟨kind,l',e0,_,hl'⟩:=gW i0
 obtain rfl:=uG hl'
 obtain ⟨body,e1,hbody⟩:=bOg _ i1
 obtain ⟨key,l',e2,hkey,hl'⟩:=gW i2
 obtain rfl:=uG hl'
 obtain ⟨dx,l',e3,hdx,hl'⟩:=gW i3
 obtain ⟨dy,l'',rfl,hdy,hl''⟩:=gW hl'
 obtain rfl:=uG hl''
 refine ⟨⟨⟨kind,body,key,(dx,dy),bs⟩,A,n,c⟩, ?_,R,hnc,hbs,hbody,hdx,hdy⟩
 have e:=aSt hl
 rw [List.drop_zero] at e0
 rw [e0,e1,e2,e3,hsl] at e
 rw [e]
 rfl
theorem bFx {m t T T0 T1 T2 T3 T4 e8 b8 bytes:Nat} {A:Option Addr} {len cap:Nat} {d:DataW H} {ps:List MemPlace} (ht:fQ P t T 15 bytes=true) (O:∃ fs,OpT P m T T0 T1 T2 T3 T4 e8 b8 fs) (hw:∀ n∈d.weights P t,n≤reachBytes)
  (h:DataW.Trod enc P w base spare held t (.slice A len cap) d ps):∃ l:List OpRow,OpsRd w A len l:=by
 obtain ⟨fs,O⟩:=O
 have hbig:=aDa hw ht h
 obtain ⟨h1,h2,h3,h4,h5,h6,zv,hzv,hzs⟩:=gP ht
 obtain ⟨fuel,hf⟩:=h
 have hle:len≤140737488351232:=Nat.le_trans (Nat.le_mul_of_pos_right _ (Nat.pos_of_ne_zero h6)) hbig
 rcases open_slice h1 hf with ⟨hcs,_⟩ | ⟨a,l,c,m',n,D,Pl,hcs,hb,hlc,_,hm,hx0,hx⟩
 ·simp only [Value.cells,List.cons.injEq,Value.slice.injEq,and_true] at hcs
  obtain ⟨rfl,rfl,rfl⟩:=hcs
  exact ⟨[],Rd.nil w 15 none,by simp⟩
 ·simp only [Value.cells,List.cons.injEq,Value.slice.injEq,and_true] at hcs
  obtain ⟨rfl,rfl,rfl⟩:=hcs
  obtain ⟨rfl,_⟩:=Prod.mk.inj hx0
  have hlm:len≤m':=by rw [hm];split <;> omega
  have hww:=(xF h1 hw).2
  have hall:∀ i,i < len→∃ cs':List Value,cs'.length=15∧(∀ j,j < 15→w.cell? (a.add (i*15+j))=cs'[j]?)∧(∃ x:OpRow,cs'=x.cells∧OpOk w x.o x.A x.n x.c):=fun i hi=>by
   obtain ⟨cs',hc,ht'⟩:=hx i (by omega)
   rw [h3] at hc
   obtain ⟨q1,q2⟩:=tU hc
   refine ⟨cs',q1,fun j hj => ?_,aTk O ht' (hww (D i) (List.mem_map.2 ⟨i,List.mem_range.2 hi,Z⟩))⟩
   rw [← q2 j hj,Addr.add_add]
  obtain ⟨ls,R,hQ⟩:=aQk (by omega) (by omega) hall
  obtain ⟨l,rfl,hl⟩:=aPv ls hQ
  exact ⟨l,R,hl⟩
end
end Go.Bil

namespace Go.Bil
open Go Go.RowKit
structure BytR (T:Nat) (rs:List Row) (bs:List (List Int)):Prop where
 len:rs.length=bs.length
 row:∀ (j:Nat) (r:Row) (b:List Int),rs[j]? = some r→bs[j]? = some b→aZ T 1 r.A r.n r.c (b.map bB) r.e
theorem BytR.nil (T:Nat):BytR T [] []:=⟨rfl,by simp⟩
theorem BytR.add {T:Nat} {rs:List Row} {bs:List (List Int)} {r:Row} {b:List Int} (h:BytR T rs bs) (hr:aZ T 1 r.A r.n r.c (b.map bB) r.e):BytR T (rs++[r]) (bs++[b]):=by
 refine ⟨by simp [h.len],fun j q k hq hk => ?_⟩
 by_cases hj:j < rs.length
 ·rw [List.getElem?_append_left hj] at hq
  rw [List.getElem?_append_left (by rw [← h.len];exact hj)] at hk
  exact h.row j q k hq hk
 ·have hj2:j=rs.length:=by
   have:=(List.getElem?_eq_some_iff.1 hq).1
   simp at this
   omega
  rw [hj2,List.getElem?_append_right (Nat.le_refl _),Nat.sub_self] at hq
  rw [hj2,h.len,List.getElem?_append_right (Nat.le_refl _),Nat.sub_self] at hk
  simp only [List.getElem?_cons_zero,Option.some.injEq] at hq hk
  subst hq hk
  exact hr
theorem BytR.at {T:Nat} {rs:List Row} {bs:List (List Int)} (h:BytR T rs bs) {j:Nat} {b:List Int} (hb:bs[j]? = some b):∃ r,rs[j]? = some r∧aZ T 1 r.A r.n r.c (b.map bB) r.e:=by
 have hj:j < rs.length:=by rw [h.len];exact (List.getElem?_eq_some_iff.1 hb).1
 have hr:=List.getElem?_eq_getElem hj
 exact ⟨_,hr,h.row j _ b hr hb⟩
structure BytRd (w:World) (A:Option Addr) (n:Nat) (rs:List Row) (bs:List (List Int)):Prop where
 rd:Rd w 1 A n (rs.map pS)
 len:rs.length=bs.length
 row:∀ (j:Nat) (r:Row) (b:List Int),rs[j]? = some r→bs[j]? = some b→Rd w 1 r.A r.n (b.map bB)∧iG b∧r.n≤r.c
theorem BytRd.n_eq {w:World} {A:Option Addr} {n:Nat} {rs:List Row} {bs:List (List Int)} (h:BytRd w A n rs bs):bs.length=n∧rs.length=n:=by
 have:=h.rd.len
 rw [List.length_map] at this
 exact ⟨by rw [← h.len];exact this,this⟩
theorem BytRd.mem {w0 w:World} {S:List eL} {A:Option Addr} {n:Nat} {rs:List Row} {bs:List (List Int)} (h:BytRd w0 A n rs bs) (M:Mem w0 [] S w):BytRd w A n rs bs :=
 ⟨h.rd.mem M,h.len,fun j r b hr hb=>by obtain ⟨h1,h2,h3⟩:=h.row j r b hr hb;exact ⟨h1.mem M,h2,h3⟩⟩
def rN (rs:List Row) (X:List Nat):Prop:=∀ r∈rs,0 < r.n→∀ q off,r.A=some ⟨q,off,none⟩→q∉X
theorem BytRd.memY {w0 w:World} {X:List Nat} {S:List eL} {A:Option Addr} {n:Nat} {rs:List Row} {bs:List (List Int)} (h:BytRd w0 A n rs bs) (M:Mem w0 X S w) (hA:0 < n→∀ q off,A=some ⟨q,off,none⟩→q∉X) (hX:rN rs X):BytRd w A n rs bs :=
 ⟨h.rd.memY M hA,h.len,fun j r b hr hb=>by obtain ⟨h1,h2,h3⟩:=h.row j r b hr hb;exact ⟨h1.memY M (hX r (List.mem_of_getElem? hr)),h2,h3⟩⟩
theorem BytRd.at {w:World} {A:Option Addr} {n:Nat} {rs:List Row} {bs:List (List Int)} (h:BytRd w A n rs bs) {j:Nat} (hj:j < n):∃ r b,rs[j]? = some r∧bs[j]? = some b∧(rs.map pS)[j]? = some [.slice r.A r.n r.c]∧Rd w 1 r.A r.n (b.map bB)∧iG b∧r.n≤r.c:=by
 obtain ⟨h1,h2⟩:=h.n_eq
 have hr:=List.getElem?_eq_getElem (l:=rs) (i:=j) (by omega)
 have hb:=List.getElem?_eq_getElem (l:=bs) (i:=j) (by omega)
 exact ⟨_,_,hr,hb,by rw [List.getElem?_map,hr];rfl,h.row j _ _ hr hb⟩
theorem BytRd.none (w:World):BytRd w none 0 [] []:=⟨Rd.nil w 1 Option.none,rfl,by simp⟩
theorem BytR.rds {w0 w:World} {X:List Nat} {S:List eL} {T T' n c:Nat} {A:Option Addr} {e:eL} {rs:List Row} {bs:List (List Int)} (h:BytR T rs bs) (hq:aZ T' 1 A n c (rs.map pS) e) (M:Mem w0 X S w) (he:e∈S) (ht:∀ r∈rs,r.e∈S) (hb:∀ b∈bs,iG b):BytRd w A n rs bs :=
 ⟨hq.rd M he,h.len,fun j r b hr hbj=>⟨(h.row j r b hr hbj).rd M (ht r (List.mem_of_getElem? hr)),hb b (List.mem_of_getElem? hbj),(h.row j r b hr hbj).slice⟩⟩
theorem aZ.awayT {w0 w:World} {X:List Nat} {L R:List eL} {T sz:Nat} {A:Option Addr} {n c:Nat} {ls:List (List Value)} {e:eL} (h:aZ T sz A n c ls e) (M:Mem w0 X (L++R) w) (he:e∈R) (i k:Nat):0 < n→∀ q off,A=some ⟨q,off,none⟩→q∉bY ((L.drop i).take k):=by
 intro hn q off hA hq
 obtain ⟨b2,l,fr,h1,h2,_⟩:=h.block hn
 rw [h1] at hA
 injection hA with hA
 injection hA with hA
 subst hA
 have hap:=M.apart
 rw [kB,List.nodup_append] at hap
 obtain ⟨o,ho⟩:=gV.1 hq
 exact hap.2.2 b2 (gV.2 ⟨o,List.mem_of_mem_drop (List.mem_of_mem_take ho)⟩) b2 (gV.2 ⟨_,by rw [← h2];exact he⟩) Z
def oM (l:List OpI) (ps:List Row):List OpRow:=List.zipWith (fun o p=>⟨o,p.A,p.n,p.c⟩) l ps
structure GoodO (o:OpI):Prop where
 byt:iG o.bytes
 body:InB o.body
 p1 : -2147483648≤o.push.1∧o.push.1≤2147483647
 p2 : -2147483648≤o.push.2∧o.push.2≤2147483647
 len:o.bytes.length≤1000000
theorem GoodO.ok {o:OpI} (h:GoodO o):OkO o:=⟨h.body,h.byt,h.len⟩
theorem OpOk.good {w:World} {o:OpI} {A:Option Addr} {n c:Nat} (h:OpOk w o A n c) (hn:n≤1000000):GoodO o:=⟨h.byt,h.body,h.p1,h.p2,by rw [h.len];exact hn⟩
theorem OpsRd.good {w:World} {A:Option Addr} {n:Nat} {l:List OpRow} (h:OpsRd w A n l) (hby:∀ x∈l,x.n≤1000000):∀ o∈opsO l,GoodO o:=by
 intro o ho
 obtain ⟨x,hx,rfl⟩:=List.mem_map.1 ho
 exact (h.each x hx).good (hby x hx)
theorem vW {l:List OpI} {ps:List Row} (h:ps.length=l.length):(oM l ps).length=l.length:=by unfold oM;rw [List.length_zipWith,h,Nat.min_self]
theorem uH {l:List OpI} {ps:List Row} (h:ps.length=l.length) (o:OpI) (p:Row):oM (l++[o]) (ps++[p])=oM l ps++[⟨o,p.A,p.n,p.c⟩]:=by
 unfold oM
 rw [List.zipWith_append h.symm]
 rfl
theorem bFo {l:List OpI} {ps:List Row} {j:Nat} {o:OpI} {p:Row} (ho:l[j]? = some o) (hp:ps[j]? = some p):(oM l ps)[j]? = some ⟨o,p.A,p.n,p.c⟩:=by
 unfold oM
 rw [List.getElem?_zipWith,ho,hp]
theorem aMu {l:List OpI} {ps:List Row} {x:OpRow} (h:x∈oM l ps):∃ (j:Nat) (o:OpI) (p:Row),l[j]? = some o∧ps[j]? = some p∧x=⟨o,p.A,p.n,p.c⟩:=by
 obtain ⟨j,hj,e⟩:=List.mem_iff_getElem.1 h
 unfold oM at hj e
 rw [List.getElem_zipWith] at e
 rw [List.length_zipWith] at hj
 exact ⟨j,_,_,List.getElem?_eq_getElem (by omega),List.getElem?_eq_getElem (by omega),e.symm⟩
theorem zO {l:List OpI} {ps:List Row} (h:ps.length=l.length):opsO (oM l ps)=l:=by
 unfold opsO oM
 rw [List.map_zipWith]
 induction l generalizing ps with
 | nil=>simp
 | cons o l ih =>
  cases ps with
  | nil=>simp at h
  | cons p ps=>rw [List.zipWith_cons_cons,ih (by simpa using h)]
theorem aDy {w0 w:World} {X:List Nat} {S:List eL} {T T' n c:Nat} {A:Option Addr} {e:eL} {l:List OpI} {ps:List Row} (h:BytR T ps (l.map OpI.bytes)) (hg:∀ o∈l,GoodO o) (hq:aZ T' 15 A n c ((oM l ps).map OpRow.cells) e) (M:Mem w0 X S w) (he:e∈S) (ht:∀ r∈ps,r.e∈S):OpsRd w A n (oM l ps):=by
 refine ⟨hq.rd M he,fun x hx => ?_⟩
 obtain ⟨j,o,p,ho,hp,rfl⟩:=aMu hx
 have hr:=h.row j p o.bytes hp (by rw [List.getElem?_map,ho];rfl)
 have g:=hg o (List.mem_of_getElem? ho)
 exact ⟨hr.rd M (ht p (List.mem_of_getElem? hp)),hr.slice,g.byt,g.body,g.p1,g.p2⟩
theorem aWp {T:Nat} {l:List OpI} {ps:List Row} (h:BytR T ps (l.map OpI.bytes)) (hg:∀ o∈l,GoodO o):∀ x∈oM l ps,x.n≤1000000:=by
 intro x hx
 obtain ⟨j,o,p,ho,hp,rfl⟩:=aMu hx
 have hr:=h.row j p o.bytes hp (by rw [List.getElem?_map,ho];rfl)
 have e:o.bytes.length=p.n:=by have:=hr.1;rwa [List.length_map] at this
 have:=(hg o (List.mem_of_getElem? ho)).len
 show p.n≤1000000
 omega
theorem bFp {w0 w:World} {X:List Nat} {L R:List eL} {T:Nat} {l:List OpI} {ps:List Row} (h:BytR T ps (l.map OpI.bytes)) (M:Mem w0 X (L++R) w) (ht:∀ r∈ps,r.e∈R) (i k:Nat):vD (oM l ps) (bY ((L.drop i).take k)):=by
 intro x hx
 obtain ⟨j,o,p,ho,hp,rfl⟩:=aMu hx
 have hr:=h.row j p o.bytes hp (by rw [List.getElem?_map,ho];rfl)
 exact hr.awayT M (ht p (List.mem_of_getElem? hp)) i k
theorem aFb {i k:Nat} (hk:0 < k):((i+1) % k=0∧(i+1) / k=i / k+1∧(i / k+1)*k=i+1)∨((i+1) % k≠0∧(i+1) / k=i / k):=by
 have h:=Nat.div_add_mod i k
 have hr:=Nat.mod_lt i hk
 generalize i / k=q at *
 generalize i % k=r at *
 rcases Nat.lt_or_ge (r+1) k with g | g
 ·right
  have e:i+1=(r+1)+k*q:=by omega
  rw [e,Nat.add_mul_mod_self_left,Nat.mod_eq_of_lt g,Nat.add_mul_div_left _ _ hk,Nat.div_eq_of_lt g]
  exact ⟨by omega,by omega⟩
 ·left
  have e:i+1=k*(q+1):=by rw [Nat.mul_add,Nat.mul_one];omega
  rw [e]
  exact ⟨Nat.mul_mod_right _ _,Nat.mul_div_cancel_left _ hk,Nat.mul_comm _ _⟩
theorem aBh {l:List OpI} {i k:Nat} (hk:0 < k) (h:(i+1) % k=0):fM l k ((i+1) / k)=fM l k (i / k)++[kH (iB [] (l.take (i+1)))]∧(i+1) / k=i / k+1:=by
 rcases aFb (i:=i) hk with ⟨_,h2,h3⟩ | ⟨h1,_⟩
 ·rw [h2,aGf]
  unfold oL
  rw [h3]
  exact ⟨Z,Z⟩
 ·exact absurd h h1
theorem aGe {i k:Nat} (hk:0 < k) (h:(i+1) % k≠0):(i+1) / k=i / k:=by
 rcases aFb (i:=i) hk with ⟨h1,_⟩ | ⟨_,h2⟩
 ·exact absurd h1 h
 ·exact h2
theorem aGd {l:List OpI} {k n:Nat}:∀ b∈fM l k n,iG b:=by
 intro b hb
 unfold fM at hb
 obtain ⟨i,_,rfl⟩:=List.mem_map.1 hb
 exact aJw _
theorem aKf {l:List OpI} (o:OpI) {k n:Nat} (h:n*k≤l.length):fM (l++[o]) k n=fM l k n:=by
 unfold fM
 refine List.map_congr_left fun i hi => ?_
 have hi:=List.mem_range.1 hi
 unfold oL
 have:(i+1)*k≤n*k:=Nat.mul_le_mul_right k hi
 rw [List.take_append_of_le_length (by omega)]
theorem aKe {l:List OpI} (hl:∀ o∈l,OkO o) (n:Nat):GoodV (iB [] (l.take n)):=zY GoodV.nil (fun o ho=>hl o (List.mem_of_mem_take ho))
def aHc (l:List OpI) (k:Nat) (bs:List (List Int)) (n:Nat):List Body:=iB (if n / k=0 then [] else pI [] (bs.getD (n / k - 1) [])) ((l.take n).drop (n / k*k))
theorem aHd {l:List OpI} (hl:∀ o∈l,OkO o) {k n:Nat} (hk:0 < k) (h:n≤l.length):aHc l k (fM l k (l.length / k)) n=iB [] (l.take n):=by
 have hle:n / k*k≤n:=Nat.div_mul_le_self n k
 have hd:n / k≤l.length / k:=Nat.div_le_div_right h
 unfold aHc
 generalize n / k=q at *
 generalize l.length / k=m at *
 by_cases h0:q=0
 ·rw [if_pos h0,h0,Nat.zero_mul,List.drop_zero]
 ·rw [if_neg h0]
  have hat:=aGc l k (n:=m) (i:=q - 1) (by omega)
  have e:(fM l k m).getD (q - 1) []=kH (iB [] (l.take (q*k))):=by
   rw [List.getD_eq_getElem?_getD,hat]
   show kH (iB [] (l.take ((q - 1+1)*k)))=_
   rw [show q - 1+1=q by omega]
  rw [e]
  exact bGs hl hle
end Go.Bil

namespace Go.Bil
def opA (b:Body):OpRow:=⟨⟨1,b,0,(0,0),[]⟩,none,0,0⟩
theorem bSa (w:World) (b:Body) (h:InB b):OpOk w (opA b).o (opA b).A (opA b).n (opA b).c :=
 ⟨Rd.nil w 1 none,Nat.le_refl _,by simp [opA,iG],h,(by decide:(-2147483648:Int)≤0∧(0:Int)≤2147483647),(by decide:(-2147483648:Int)≤0∧(0:Int)≤2147483647)⟩
end Go.Bil

namespace Go.Bil
open Go Go.RowKit
theorem bHm {f n a:Nat} {z:Int} (hz:z=(n:Int)) (h:a=f / n):(f:Int).tdiv z=(a:Int):=by subst hz;subst h;rfl
theorem bKv {f n a:Nat} (h:a=f / n) (hf:f≤1000000000000):IntKind.wrap .i64 ((f:Int).tdiv (n:Int))=(a:Int):=by
 have hle:a≤f:=by rw [h];exact Nat.div_le_self f n
 rw [bHm rfl h]
 exact fJ _ (by omega) (by omega)
theorem bRt {a:Nat} (h:(a:Int)=0):a=0:=by omega
theorem bRu {a:Nat} (h:¬ (a:Int)=0):a≠0:=by omega
section
variable {P:Program} {ρ:fG} {w:World}
theorem bGh {t t':TypeId} {x y:Operand} {a b:ByteArray} (hx:ev ρ x=.string a) (hy:ev ρ y=.string b):kS P ρ w (.binOp .eql t x y t') (.bool (decide (a.data.toList=b.data.toList))):=by
 intro d2 ty pos af gd
 have e2:(a.toList == b.toList)=decide (a.data.toList=b.data.toList):=by
  rw [ByteArray.toList_eq,ByteArray.toList_eq,Bool.eq_iff_iff]
  simp only [beq_iff_eq,decide_eq_true_eq]
 have g:(eqGuard .eql t x y (.string a) (.string b)).run P w=.ok () w:=rfl
 simp only [execOp,hx,hy,Sem.run_bind,g,Result.andThen,binOp,Op.stringOp,Sem.run_pure,e2]
end
theorem bVt {xs ys:List Int} (hx:iG xs) (hy:iG ys):(strOfNums xs).data.toList=(strOfNums ys).data.toList↔xs=ys:=by
 have h:=wD xs hx (strOfNums ys).data.toList
 have g:=wD ys hy (strOfNums ys).data.toList
 have e:ys=(strOfNums ys).data.toList.map (fun y=>(y.toNat:Int)):=Decidable.not_not.1 fun k=>(g.2 k) rfl
 rw [← e] at h
 exact Decidable.not_iff_not.1 h
variable {w0 w:World} {X:List Nat} {L T T':List eL} {rs ms:List Row}
theorem Mem.pushA (p:Row) (M:Mem w0 X ((L++[p.e])++(rs.map Row.e++T)) w):Mem w0 X (L++((rs++[p]).map Row.e++T)) w :=
 M.perm (by
  rw [List.append_assoc,List.map_append,List.append_assoc]
  refine List.Perm.append_left L ?_
  rw [← List.append_assoc,← List.append_assoc]
  exact List.Perm.append_right T List.perm_append_comm)
theorem Mem.pushB (p:Row) (M:Mem w0 X ((L++[p.e])++(T++ms.map Row.e)) w):Mem w0 X (L++(T++(ms++[p]).map Row.e)) w :=
 M.perm (by
  rw [List.append_assoc,List.map_append]
  refine List.Perm.append_left L ?_
  rw [← List.append_assoc T]
  exact List.perm_append_comm)
theorem Mem.pushAB (p q:Row) (M:Mem w0 X ((L++[p.e,q.e])++(rs.map Row.e++ms.map Row.e)) w):Mem w0 X (L++((rs++[p]).map Row.e++(ms++[q]).map Row.e)) w:=by
 have e:L++[p.e,q.e]=(L++[p.e])++[q.e]:=by rw [List.append_assoc];rfl
 rw [e] at M
 exact Mem.pushA p (Mem.pushB q M)
theorem Mem.cutT (M:Mem w0 X (L++(T++T')) w):Mem w0 X (L++T) w:=M.sub ((List.Sublist.refl L).append (List.sublist_append_left T T'))
theorem Mem.noT (M:Mem w0 X (L++T) w):Mem w0 X L w:=M.sub (List.sublist_append_left L T)
theorem Mem.segE {B:List eL} {w':World} (i k:Nat) (M:Mem w0 X (L++T) w) (hk:i+k≤L.length) (C:Mem w (bY ((L.drop i).take k)) B w'):Mem w0 X ((L.take i++B++L.drop (i+k))++T) w':=by
 have h:=Mem.segU (A:=[]) (T':=[]) i k M hk (show Mem w _ (B++([]++[])) w' by rw [List.append_nil,List.append_nil];exact C)
 rw [List.append_nil,List.append_nil] at h
 exact h
theorem BytRd.seg {B:Option Addr} {m:Nat} {bs:List (List Int)} {S:List eL} (h:BytRd w0 B m rs bs) (M:Mem w0 X S w) (hd:rN rs X) (i k:Nat):rN rs (bY ((S.drop i).take k)):=by
 intro r hr
 obtain ⟨j,hj⟩:=List.getElem?_of_mem hr
 have hjl:j < m:=by rw [← h.n_eq.2];exact (List.getElem?_eq_some_iff.1 hj).1
 obtain ⟨r2,b,hr2,hb,_,hrd,_,_⟩:=h.at hjl
 rw [hj] at hr2
 obtain rfl:=Option.some.inj hr2
 exact M.away i k hrd (hd r hr)
theorem bBv (rs:List Row):rN rs []:=fun r hr hn q off hA=>by simp
theorem aEq (xs:List Int):∀ y∈xs.map bB,∀ u∈y,one u=true:=by
 intro y hy
 obtain ⟨x,_,rfl⟩:=List.mem_map.1 hy
 simp [bB,Go.Bil.one]
structure OutRd (w:World) (A:Option Addr) (n:Nat) (rs:List Row) (zs:List ResI):Prop where
 rd:Rd w 4 A n (kV zs rs)
 len:rs.length=zs.length
 row:∀ (j:Nat) (r:Row) (z:ResI),rs[j]? = some r→zs[j]? = some z→Rd w 1 r.A r.n (z.bytes.map bB)
theorem OutR.rds {T T2 n c:Nat} {A:Option Addr} {e:eL} {S:List eL} {zs:List ResI} (h:OutR T rs zs) (hq:aZ T2 4 A n c (kV zs rs) e) (M:Mem w0 X S w) (he:e∈S) (ht:∀ r∈rs,r.e∈S):OutRd w A n rs zs :=
 ⟨hq.rd M he,h.len,fun j r z hr hz=>h.rd M ht hr hz⟩
theorem OutRd.mem {w1 w2:World} {S:List eL} {A:Option Addr} {n:Nat} {zs:List ResI} (h:OutRd w1 A n rs zs) (M:Mem w1 [] S w2):OutRd w2 A n rs zs:=⟨h.rd.mem M,h.len,fun j r z hr hz=>(h.row j r z hr hz).mem M⟩
theorem OutRd.n_eq {A:Option Addr} {n:Nat} {zs:List ResI} (h:OutRd w A n rs zs):zs.length=n:=by
 have:=h.rd.len
 rwa [oO h.len] at this
structure LogR (T T1 T8:Nat) (l:List OpI) (k:Nat) (qo qm:Row) (ps ms:List Row):Prop where
 ops:aZ T 15 qo.A qo.n qo.c ((oM l ps).map OpRow.cells) qo.e
 byt:BytR T8 ps (l.map OpI.bytes)
 good:∀ o∈l,GoodO o
 mks:aZ T1 1 qm.A qm.n qm.c (ms.map pS) qm.e
 mby:BytR T8 ms (fM l k (l.length / k))
theorem LogR.plen {T T1 T8:Nat} {l:List OpI} {k:Nat} {qo qm:Row} {ps ms:List Row} (h:LogR T T1 T8 l k qo qm ps ms):ps.length=l.length:=by rw [h.byt.len,List.length_map]
theorem LogR.on {T T1 T8:Nat} {l:List OpI} {k:Nat} {qo qm:Row} {ps ms:List Row} (h:LogR T T1 T8 l k qo qm ps ms):qo.n=l.length:=by
 have:=h.ops.1
 rw [List.length_map,vW h.plen] at this
 exact this.symm
theorem LogR.mn {T T1 T8:Nat} {l:List OpI} {k:Nat} {qo qm:Row} {ps ms:List Row} (h:LogR T T1 T8 l k qo qm ps ms):qm.n=l.length / k:=by
 have:=h.mks.1
 rw [List.length_map,h.mby.len,mP] at this
 exact this.symm
theorem LogR.opsRd {S:List eL} {T T1 T8:Nat} {l:List OpI} {k:Nat} {qo qm:Row} {ps ms:List Row} (h:LogR T T1 T8 l k qo qm ps ms) (M:Mem w0 X S w) (he:qo.e∈S) (ht:∀ r∈ps,r.e∈S):OpsRd w qo.A qo.n (oM l ps):=aDy h.byt h.good h.ops M he ht
theorem LogR.bytRd {S:List eL} {T T1 T8:Nat} {l:List OpI} {k:Nat} {qo qm:Row} {ps ms:List Row} (h:LogR T T1 T8 l k qo qm ps ms) (M:Mem w0 X S w) (he:qm.e∈S) (ht:∀ r∈ms,r.e∈S):BytRd w qm.A qm.n ms (fM l k (l.length / k)):=h.mby.rds h.mks M he ht aGd
theorem LogR.opsO {T T1 T8:Nat} {l:List OpI} {k:Nat} {qo qm:Row} {ps ms:List Row} (h:LogR T T1 T8 l k qo qm ps ms):opsO (oM l ps)=l:=zO h.plen
theorem LogR.bn {T T1 T8:Nat} {l:List OpI} {k:Nat} {qo qm:Row} {ps ms:List Row} (h:LogR T T1 T8 l k qo qm ps ms):∀ x∈oM l ps,x.n≤1000000:=aWp h.byt h.good
theorem LogR.okO {T T1 T8:Nat} {l:List OpI} {k:Nat} {qo qm:Row} {ps ms:List Row} (h:LogR T T1 T8 l k qo qm ps ms):∀ o∈l,OkO o:=fun o ho=>(h.good o ho).ok
theorem aCm {l:List OpI} (hl:∀ o∈l,OkO o) {k n:Nat}:∀ b∈fM l k n,b.length≤1000000:=by
 intro b hb
 unfold fM at hb
 obtain ⟨i,_,rfl⟩:=List.mem_map.1 hb
 unfold oL
 rw [aFc]
 have:=(aKe hl ((i+1)*k)).len
 omega
theorem bJa {i k n:Nat} (hk:0 < k) (h1:i*k≤n) (h2:n < (i+1)*k):n / k=i:=Nat.div_eq_of_lt_le h1 h2
theorem bBg {l:List OpI} {k:Nat} {bs:List (List Int)}:∀ n,iX l k bs n < 0→iX l k bs n = -1
 | 0,_=>rfl
 | n+1,h=>by
  revert h
  show (if iX l k bs n < 0 then (if bs[n]? = some (oL l k n) then -1 else (n:Int)) else iX l k bs n) < 0→(if iX l k bs n < 0 then (if bs[n]? = some (oL l k n) then -1 else (n:Int)) else iX l k bs n) = -1
  by_cases h1:iX l k bs n < 0
  ·rw [if_pos h1]
   split
   ·intro;rfl
   ·intro h;omega
  ·rw [if_neg h1]
   intro h
   exact absurd h h1
def aHk (g:Int) (bs:List (List Int)) (j:Nat) (v:List Int):Int:=if g < 0∧bs[j]? ≠ some v then (j:Int) else g
theorem aUv {l:List OpI} {k:Nat} {bs:List (List Int)} (n:Nat):iX l k bs (n+1)=aHk (iX l k bs n) bs n (oL l k n):=by
 show (if iX l k bs n < 0 then (if bs[n]? = some (oL l k n) then -1 else (n:Int)) else iX l k bs n)=_
 unfold aHk
 by_cases h1:iX l k bs n < 0
 ·rw [if_pos h1]
  by_cases h2:bs[n]? = some (oL l k n)
  ·rw [if_pos h2,if_neg (fun h=>h.2 h2)]
   exact (bBg n h1).symm
  ·rw [if_neg h2,if_pos ⟨h1,h2⟩]
 ·rw [if_neg h1,if_neg (fun h=>h1 h.1)]
theorem bBh {l:List OpI} {k i:Nat} {bs:List (List Int)} (hk:0 < k) (h:(i+1) % k=0):iX l k bs ((i+1) / k)=aHk (iX l k bs (i / k)) bs (i / k) (kH (iB [] (l.take (i+1)))):=by
 rcases aFb (i:=i) hk with ⟨_,h2,h3⟩ | ⟨h1,_⟩
 ·rw [h2,aUv]
  unfold oL
  rw [h3]
 ·exact absurd h h1
def aUq (l:List OpI) (k:Nat) (bs:List (List Int)):Int × Int:=if 0≤iX l k bs bs.length then (iX l k bs bs.length,13) else ((bs.length:Int),0)
theorem bBa {l:List OpI} {k:Nat} {m:Nat}:aUq l k (fM l k m)=((m:Int),0):=by
 have h:iX l k (fM l k m) (fM l k m).length = -1:=by rw [mP];exact aIa m (fun i hi=>aGc l k hi)
 unfold aUq
 rw [h,if_neg (by decide),mP]
theorem bGx {l:List OpI} {k:Nat} {bs:List (List Int)} {n a:Nat} (ha:a=n / k) {b:List Int} (h:0 < a) (hb:bs[a - 1]? = some b):aHc l k bs n=iB (pI [] b) ((l.drop (a*k)).take (n - a*k)):=by
 unfold aHc
 rw [← ha,if_neg (by omega),List.getD_eq_getElem?_getD,hb,List.drop_take]
 rfl
theorem bAl {l:List OpI} {k:Nat} {bs:List (List Int)} {n a:Nat} (ha:a=n / k) (h:a=0):aHc l k bs n=iB [] ((l.drop (a*k)).take (n - a*k)):=by
 unfold aHc
 rw [← ha,if_pos h,List.drop_take]
theorem bKk (i k:Nat):(((i+1)*k:Nat):Int)+(k:Int)=(((i+1+1)*k:Nat):Int):=by
 rw [show (i+1+1)*k=(i+1)*k+k from Nat.succ_mul (i+1) k,Int.natCast_add]
theorem bLa (l:List OpI) (o:OpI):iB [] (l++[o])=(jT (iB [] l) o).1:=by rw [rB];rfl
theorem aIs {l:List OpI} {o:OpI} {k:Nat} (hk:0 < k) (h:(l.length+1) % k=0):fM (l++[o]) k ((l++[o]).length / k)=fM l k (l.length / k)++[kH (jT (iB [] l) o).1]:=by
 have e:(l++[o]).length=l.length+1:=by simp
 rw [e,(aBh (l:=l++[o]) hk h).1,aKf o (Nat.div_mul_le_self _ _),List.take_of_length_le (by omega),bLa]
theorem aMr {l:List OpI} {o:OpI} {k:Nat} (hk:0 < k) (h:(l.length+1) % k≠0):fM (l++[o]) k ((l++[o]).length / k)=fM l k (l.length / k):=by
 have e:(l++[o]).length=l.length+1:=by simp
 rw [e,aGe hk h,aKf o (Nat.div_mul_le_self _ _)]
theorem aPn {l:List OpI} {o:OpI} (h:∀ x∈l,GoodO x) (ho:GoodO o):∀ x∈l++[o],GoodO x:=by
 intro x hx
 rcases List.mem_append.1 hx with g | g
 ·exact h x g
 ·rw [List.mem_singleton.1 g];exact ho
theorem Mem.re {w0 w:World} {X:List Nat} {S S':List eL} (M:Mem w0 X S w) (h:∀ p:eL→Bool,S'.countP p≤S.countP p):Mem w0 X S' w:=by
 have hm:∀ e∈S',e∈S:=by
  intro e he
  classical
  have h1:0 < S'.countP (fun x=>decide (x=e)):=List.countP_pos_iff.2 ⟨e,he,by simp⟩
  have h2:=h (fun x=>decide (x=e))
  obtain ⟨x,hx,hxe⟩:=List.countP_pos_iff.1 (Nat.lt_of_lt_of_le h1 h2)
  have:x=e:=by simpa using hxe
  rw [← this];exact hx
 refine ⟨M.os,M.tape,M.output,M.size,M.old,fun b o hb=>M.own b o (hm _ hb), ?_⟩
 have hap:=M.apart
 unfold bY at hap ⊢
 rw [List.nodup_iff_count] at hap ⊢
 intro b
 have h1:=hap b
 rw [List.count_filterMap] at h1 ⊢
 exact Nat.le_trans (h _) h1
def tC:Body:=⟨1,65536,0,0,65536,0,0,0,0,0⟩
def tC1:Body:=⟨1,65536,0,0,65536,0,0, -16,0, -1024⟩
def tC2:Body:=⟨1,65536,0,0,65536,0,0, -48,0, -2048⟩
def mQ:List OpRow:=[opA tC,opZ 4,opZ 4]
theorem bVv:InB tC:=⟨by decide,by decide,by decide,by decide,by decide,by decide,by decide,by decide,by decide,by decide⟩
theorem aGp (w:World):∀ x∈mQ,OpOk w x.o x.A x.n x.c:=by
 intro x hx
 simp only [mQ,List.mem_cons,List.not_mem_nil,or_false] at hx
 rcases hx with rfl | rfl | rfl
 ·exact bSa w _ bVv
 ·exact aMz w _
 ·exact aMz w _
theorem aWu:∀ x∈mQ,x.n=0:=by
 intro x hx
 simp only [mQ,List.mem_cons,List.not_mem_nil,or_false] at hx
 rcases hx with rfl | rfl | rfl <;> rfl
theorem bSx:lT [tC]=[]:=by decide +kernel
theorem bNz:lT [tC1]=[]:=by decide +kernel
theorem bSz:rD [tC]=[tC1]:=by
 unfold rD mD
 rw [bSx]
 decide +kernel
theorem bOa:rD [tC1]=[tC2]:=by
 unfold rD mD
 rw [bNz]
 decide +kernel
theorem bSu:(jT [] (opA tC).o).1=[tC]:=by rw [bLd (o:=(opA tC).o) rfl,show oU [] (opA tC).o.body=([tC],0) by decide]
theorem bSv:(jT [tC] (opZ 4).o).1=[tC1]:=by rw [bGt (o:=(opZ 4).o) rfl];exact bSz
theorem bSw:(jT [tC1] (opZ 4).o).1=[tC2]:=by rw [bGt (o:=(opZ 4).o) rfl];exact bOa
theorem bSy:iB [] (opsO mQ)=[tC2]:=by
 show (jT (jT (jT [] (opA tC).o).1 (opZ 4).o).1 (opZ 4).o).1=_
 rw [bSu,bSv,bSw]
theorem bMi:qN [tC2] 1={ nL with body:=tC2 }:=by unfold qN;rw [if_neg (by decide)];rfl
theorem aHi {α:Type} {l:List α} {i:Nat} {x:α} (h:l[i]? = some x):∃ a b,l=a++x::b∧a.length=i:=by
 obtain ⟨hi,hx⟩:=List.getElem?_eq_some_iff.1 h
 refine ⟨l.take i,l.drop (i+1), ?_,by rw [List.length_take];omega⟩
 rw [← hx,← List.drop_eq_getElem_cons hi,List.take_append_drop]
theorem BytR.put {T i:Nat} {a b:List Row} {r r':Row} {bs:List (List Int)} {nb:List Int} (h:BytR T (a++r::b) bs) (ha:a.length=i) (hr:aZ T 1 r'.A r'.n r'.c (nb.map bB) r'.e):BytR T (a++r'::b) (bs.set i nb):=by
 refine ⟨by rw [List.length_set,← h.len];simp,fun j q k hq hk => ?_⟩
 by_cases hj:j=i
 ·subst hj
  rw [List.getElem?_append_right (by omega),ha,Nat.sub_self] at hq
  simp only [List.getElem?_cons_zero,Option.some.injEq] at hq
  subst hq
  rw [List.getElem?_set_self (by
   have:=(List.getElem?_eq_some_iff.1 hk).1
   rwa [List.length_set] at this)] at hk
  obtain rfl:=Option.some.inj hk
  exact hr
 ·rw [List.getElem?_set_ne (fun e=>hj e.symm)] at hk
  refine h.row j q k ?_ hk
  by_cases hl:j < a.length
  ·rw [List.getElem?_append_left hl] at hq ⊢
   exact hq
  ·rw [List.getElem?_append_right (by omega)] at hq ⊢
   have hs:j - a.length≠0:=by omega
   obtain ⟨s,hs⟩:=Nat.exists_eq_succ_of_ne_zero hs
   rw [hs] at hq ⊢
   exact hq
theorem bJr {a b:List Row} {r r':Row} (h:pS r'=pS r):(a++r'::b).map pS=(a++r::b).map pS:=by
 rw [List.map_append,List.map_append,List.map_cons,List.map_cons,h]
theorem aZn (l:List OpI) (k i:Nat):8≤(oL l k i).length:=by unfold oL;rw [aFc];omega
theorem aWq {r r':Row} {b:List Row} {o':OpI} (h:r'.A=r.A∧r'.n=r.n∧r'.c=r.c):∀ (a:List Row) (os:List OpI) (i:Nat),a.length=i→(oM os (a++r::b)).set i ⟨o',r.A,r.n,r.c⟩=oM (os.set i o') (a++r'::b)
 | [],os,i,ha=>by
  obtain rfl:i=0:=by simpa using ha.symm
  cases os with
  | nil=>rfl
  | cons o os =>
   obtain ⟨h1,h2,h3⟩:=h
   show (⟨o',r.A,r.n,r.c⟩:OpRow)::oM os b=⟨o',r'.A,r'.n,r'.c⟩::oM os b
   rw [h1,h2,h3]
 | x::a,os,i,ha=>by
  obtain ⟨i,rfl⟩:∃ j,i=j+1:=⟨a.length,by simpa using ha.symm⟩
  cases os with
  | nil=>rfl
  | cons o os =>
   show (⟨o,x.A,x.n,x.c⟩:OpRow)::(oM os (a++r::b)).set i ⟨o',r.A,r.n,r.c⟩=⟨o,x.A,x.n,x.c⟩::oM (os.set i o') (a++r'::b)
   rw [aWq h a os i (by simpa using ha)]
theorem aQc {r r':Row} {b:List Row} (h:r'.A=r.A∧r'.n=r.n∧r'.c=r.c):∀ (a:List Row) (os:List OpI),oM os (a++r'::b)=oM os (a++r::b)
 | [],os=>by
  cases os with
  | nil=>rfl
  | cons o os =>
   obtain ⟨h1,h2,h3⟩:=h
   show (⟨o,r'.A,r'.n,r'.c⟩:OpRow)::oM os b=⟨o,r.A,r.n,r.c⟩::oM os b
   rw [h1,h2,h3]
 | x::a,os=>by
  cases os with
  | nil=>rfl
  | cons o os =>
   show (⟨o,x.A,x.n,x.c⟩:OpRow)::oM os (a++r'::b)=⟨o,x.A,x.n,x.c⟩::oM os (a++r::b)
   rw [aQc h a os]
theorem aNb {r r':Row} {a b:List Row}:(a++r'::b).length=(a++r::b).length:=by simp
end Go.Bil
