/- Part of the proof of a law of this seat (7 texts). No conditions. -/
import Derived.Test.YtpcloigancpnbaaGreatDoorK4
import Derived.Test.YtpcloigancpnbaaGreatDoorK3
set_option linter.unusedVariables false
set_option linter.unusedSimpArgs false
set_option linter.unnecessarySimpa false
set_option maxHeartbeats 100000000
namespace Go.Bil
def cZ (s:List Body):Prop:=s.Pairwise (fun a b=>a.key < b.key)
def sP (k:Int) (s:List Body):List Body:=s.filter (fun x=>decide (x.key≠k))
def uJ (b:Body):Bool→List Body→List Body
 | true,s=>sP b.key s
 | false,[]=>[b]
 | false,x::l=>if b.key≤x.key then b::sP b.key (x::l) else x::uJ b false l
def bRg (b:Body) (r:List Body × Bool):List Body:=if r.2 then r.1 else r.1++[b]
theorem sW (b:Body):∀ (s acc:List Body) (d:Bool),bRg b (s.foldl (fY b) (acc,d))=acc++uJ b d s
 | [],acc,true=>by simp [uJ,sP,bRg]
 | [],acc,false=>by simp [uJ,bRg]
 | x::l,acc,true=>by
  have ih:=sW b l (if x.key≠b.key then acc++[x] else acc) true
  rw [List.foldl_cons]
  have e:fY b (acc,true) x=(if x.key≠b.key then acc++[x] else acc,true):=by unfold fY;by_cases h:x.key=b.key <;> simp [h]
  rw [e,ih]
  by_cases h:x.key=b.key <;> simp [uJ,sP,h]
 | x::l,acc,false=>by
  rw [List.foldl_cons]
  by_cases hb:b.key≤x.key
  ·have ih:=sW b l (if x.key≠b.key then acc++[b]++[x] else acc++[b]) true
   have e:fY b (acc,false) x=(if x.key≠b.key then acc++[b]++[x] else acc++[b],true):=by unfold fY;by_cases h:x.key=b.key <;> simp [h,hb]
   rw [e,ih]
   by_cases h:x.key=b.key <;> simp [uJ,sP,h,hb]
  ·have hne:x.key≠b.key:=by omega
   have ih:=sW b l (acc++[x]) false
   have e:fY b (acc,false) x=(acc++[x],false):=by unfold fY;simp [hb,hne]
   rw [e,ih]
   simp [uJ,hb]
theorem aWx (s:List Body) (b:Body) (g:Bool):xW s b g=uJ b g s:=by
 have:=sW b s [] g
 rw [List.nil_append] at this
 exact this
theorem aBm (b:Body):∀ s:List Body,(uJ b false s).Perm (b::sP b.key s)
 | []=>by simp [uJ,sP]
 | x::l=>by
  unfold uJ
  split
  ·exact List.Perm.refl _
  ·rename_i h
   have hne:x.key≠b.key:=by omega
   have e:sP b.key (x::l)=x::sP b.key l:=by simp [sP,hne]
   rw [e]
   exact ((aBm b l).cons x).trans (List.Perm.swap b x _)
theorem zL {k:Int} {s:List Body} {x:Body}:x∈sP k s↔x∈s∧x.key≠k:=by simp [sP]
theorem cZ.cut {s:List Body} (h:cZ s) (k:Int):cZ (sP k s):=List.Pairwise.sublist List.filter_sublist h
theorem cZ.put {b:Body}:∀ {s:List Body},cZ s→cZ (uJ b false s)
 | [],_=>by simp [uJ,cZ]
 | x::l,h=>by
  unfold uJ
  have hx:∀ y∈l,x.key < y.key:=(List.pairwise_cons.1 h).1
  have hl:cZ l:=(List.pairwise_cons.1 h).2
  split
  ·rename_i hb
   refine List.pairwise_cons.2 ⟨fun y hy => ?_,h.cut _⟩
   obtain ⟨h1,h2⟩:=zL.1 hy
   rcases List.mem_cons.1 h1 with rfl | h1
   ·omega
   ·have:=hx y h1;omega
  ·rename_i hb
   refine List.pairwise_cons.2 ⟨fun y hy => ?_,cZ.put hl⟩
   have:=(aBm b l).mem_iff.1 hy
   rcases List.mem_cons.1 this with rfl | h1
   ·omega
   ·exact hx y (zL.1 h1).1
def oU (s:List Body) (b:Body):List Body × Int :=
 if check b≠0 then (s,check b) else if 0≤dO b.key s then (s,10) else if 4096≤s.length then (s,12) else (xW s b false,0)
def qY (k:Int):Body:=⟨k,0,0,0,0,0,0,0,0,0⟩
def iC (s:List Body) (k:Int):List Body × Int:=if dO k s < 0 then (s,11) else (xW s (qY k) true,0)
def bGy (s:List Body) (b:Body):List Body × Int :=
 if check b≠0 then (s,check b) else if dO b.key s < 0 then (s,11) else (xW s b false,0)
structure Rel (m s:List Body):Prop where
 perm:s.Perm m
 sorted:cZ s
theorem Rel.nil:Rel [] []:=⟨List.Perm.refl _,by simp [cZ]⟩
theorem cZ.unique {s t:List Body} (h:cZ s) (h':cZ t) (p:s.Perm t):s=t :=
 List.Perm.eq_of_pairwise (le:=fun (a b:Body)=>a.key < b.key) (fun a b _ _ h1 h2=>by omega) h h' p
theorem cZ.keys {s:List Body} (h:cZ s):kQ s:=by
 unfold kQ List.Nodup
 rw [List.pairwise_map]
 exact h.imp (fun h=>by omega)
theorem Rel.keys {m s:List Body} (R:Rel m s):kQ m:=R.sorted.keys.perm R.perm.symm
theorem Rel.find {m s:List Body} (R:Rel m s) (k:Int):dO k s < 0↔dO k m < 0:=by
 rw [nN,nN]
 exact ⟨fun h b hb=>h b (R.perm.mem_iff.2 hb),fun h b hb=>h b (R.perm.mem_iff.1 hb)⟩
theorem aJr {k:Int} {s:List Body} (h:dO k s < 0):sP k s=s:=List.filter_eq_self.2 fun x hx=>by simpa using nN.1 h x hx
theorem Rel.put {m s:List Body} (R:Rel m s) (b:Body) {m':List Body} (h:m'.Perm (b::sP b.key m)):Rel m' (xW s b false):=by
 rw [aWx]
 exact ⟨((aBm b s).trans ((R.perm.filter _).cons b)).trans h.symm,R.sorted.put⟩
theorem Rel.add {m s:List Body} (R:Rel m s) (b:Body):Rel (oT m b).1 (oU s b).1∧(oU s b).2=(oT m b).2:=by
 unfold oT oU
 have hf:=R.find b.key
 have hl:=R.perm.length_eq
 by_cases h1:check b≠0
 ·rw [if_pos h1,if_pos h1];exact ⟨R,rfl⟩
 ·rw [if_neg h1,if_neg h1]
  by_cases h2:0≤dO b.key m
  ·have h2':0≤dO b.key s:=by omega
   rw [if_pos h2,if_pos h2'];exact ⟨R,rfl⟩
  ·have h2':¬ 0≤dO b.key s:=by omega
   rw [if_neg h2,if_neg h2',hl]
   by_cases h3:4096≤m.length
   ·rw [if_pos h3,if_pos h3];exact ⟨R,rfl⟩
   ·rw [if_neg h3,if_neg h3]
    refine ⟨R.put b ?_,Z⟩
    rw [aJr (by omega)]
    exact List.perm_append_singleton b m
theorem xN {m:List Body} (h:kQ m) {i:Nat} {b:Body} (hi:m[i]? = some b):m.eraseIdx i=sP b.key m:=by
 have e:m=m.take i++b::m.drop (i+1):=by
  have hlt:=(List.getElem?_eq_some_iff.1 hi).1
  have hb:m[i]=b:=(List.getElem?_eq_some_iff.1 hi).2
  rw [← hb,← List.drop_eq_getElem_cons hlt,List.take_append_drop]
 have hne:=aJy h hi
 rw [List.eraseIdx_eq_take_drop_succ] at hne ⊢
 conv=>rhs;rw [e]
 unfold sP
 rw [List.filter_append,List.filter_cons]
 simp only [ne_eq,not_true_eq_false,decide_false,Bool.false_eq_true,if_false]
 rw [List.filter_eq_self.2 (fun x hx=>by simpa using hne x (List.mem_append_left _ hx)),List.filter_eq_self.2 (fun x hx=>by simpa using hne x (List.mem_append_right _ hx))]
theorem Rel.remove {m s:List Body} (R:Rel m s) (k:Int):Rel (mB m k).1 (iC s k).1∧(iC s k).2=(mB m k).2:=by
 unfold mB iC
 have hf:=R.find k
 by_cases h:dO k m < 0
 ·rw [if_pos h,if_pos (hf.2 h)];exact ⟨R,rfl⟩
 ·rw [if_neg h,if_neg (fun h'=>h (hf.1 h'))]
  refine ⟨?_,Z⟩
  rcases eO k m with ⟨h1,_⟩ | ⟨i,b,h1,h2,h3⟩
  ·omega
  ·rw [h3,Int.toNat_natCast,aWx]
   have hlt:=(List.getElem?_eq_some_iff.1 h1).1
   have hk:(qY k).key=b.key:=h2.symm
   have he:uJ (qY k) true s=sP b.key s:=by unfold uJ;rw [hk]
   refine ⟨?_,by rw [he];exact R.sorted.cut _⟩
   show (uJ (qY k) true s).Perm _
   rw [he]
   exact (R.perm.filter _).trans ((List.Perm.of_eq (xN R.keys h1).symm).trans (rR hlt).symm)
theorem bHa {m:List Body} {i:Nat} {x:Body} (hi:i < m.length):(m.set i x).Perm (x::m.eraseIdx i):=by
 rw [List.set_eq_take_append_cons_drop,if_pos hi,List.eraseIdx_eq_take_drop_succ]
 exact List.perm_middle
theorem Rel.set {m s:List Body} (R:Rel m s) (b:Body):Rel (tK m b).1 (bGy s b).1∧(bGy s b).2=(tK m b).2:=by
 unfold tK bGy
 have hf:=R.find b.key
 by_cases h1:check b≠0
 ·rw [if_pos h1,if_pos h1];exact ⟨R,rfl⟩
 ·rw [if_neg h1,if_neg h1]
  by_cases h:dO b.key m < 0
  ·rw [if_pos h,if_pos (hf.2 h)];exact ⟨R,rfl⟩
  ·rw [if_neg h,if_neg (fun h'=>h (hf.1 h'))]
   refine ⟨?_,Z⟩
   rcases eO b.key m with ⟨h1,_⟩ | ⟨i,c,h1,h2,h3⟩
   ·omega
   ·rw [h3,Int.toNat_natCast]
    have hlt:=(List.getElem?_eq_some_iff.1 h1).1
    refine R.put b ((bHa hlt).trans ?_)
    rw [xN R.keys h1,h2]
theorem Rel.get {m s:List Body} (R:Rel m s) (k:Int):(dO k s < 0∧aFt m k=(qY 0,11))∨∃ (i:Nat) (b:Body),dO k s=(i:Int)∧s[i]? = some b∧aFt m k=(b,0):=by
 rcases eO k s with ⟨h1,h2⟩ | ⟨i,b,h1,h2,h3⟩
 ·have hm:dO k m < 0:=(R.find k).1 (by omega)
  refine .inl ⟨by omega, ?_⟩
  unfold aFt
  rw [if_pos hm]
  rfl
 ·refine .inr ⟨i,b,h3,h1, ?_⟩
  have hb:b∈m:=R.perm.mem_iff.1 (List.mem_of_getElem? h1)
  obtain ⟨j,hj⟩:=List.getElem?_of_mem hb
  have:=uE R.keys hj
  rw [h2] at this
  exact aAx this hj
theorem yK {a b:Int}:qE a b < 0↔a < b:=by unfold qE;(repeat' split) <;> omega
def aSz (b:Body):List Body→List Body
 | []=>[b]
 | x::l=>if b.key≤x.key then b::x::l else x::aSz b l
def aDb (m:List Body):List Body:=m.foldr aSz []
theorem aBb (b:Body):∀ l:List Body,(aSz b l).Perm (b::l)
 | []=>List.Perm.refl _
 | x::l=>by
  unfold aSz
  split
  ·exact List.Perm.refl _
  ·exact ((aBb b l).cons x).trans (List.Perm.swap b x l)
theorem qK:∀ m:List Body,(aDb m).Perm m
 | []=>List.Perm.refl _
 | b::m=>(aBb b (aDb m)).trans ((qK m).cons b)
def Up (s:List Body):Prop:=s.Pairwise (fun a b=>a.key≤b.key)
theorem aWl (b:Body):∀ {l:List Body},Up l→Up (aSz b l)
 | [],_=>by simp [aSz,Up]
 | x::l,h=>by
  unfold aSz
  have hx:∀ y∈l,x.key≤y.key:=(List.pairwise_cons.1 h).1
  split
  ·rename_i hb
   refine List.pairwise_cons.2 ⟨fun y hy => ?_,h⟩
   rcases List.mem_cons.1 hy with rfl | hy
   ·exact hb
   ·have:=hx y hy;omega
  ·refine List.pairwise_cons.2 ⟨fun y hy => ?_,aWl b (List.pairwise_cons.1 h).2⟩
   have:=(aBb b l).mem_iff.1 hy
   rcases List.mem_cons.1 this with rfl | h1
   ·omega
   ·exact hx y h1
theorem aHg:∀ m:List Body,Up (aDb m)
 | []=>by simp [aDb,Up]
 | b::m=>aWl b (aHg m)
theorem aBu {s:List Body} (h:Up s) (hk:kQ s):cZ s:=by
 unfold Up at h
 unfold kQ List.Nodup at hk
 rw [List.pairwise_map] at hk
 exact (List.Pairwise.and h hk).imp (fun ⟨h1,h2⟩=>by omega)
theorem bAz {s t:List Body} (h:Up s) (h':Up t) (p:s.Perm t) (hk:kQ s):s=t:=(aBu h hk).unique (aBu h' (hk.perm p.symm)) p
theorem bAs {m:List Body} (hk:kQ m):Rel m (aDb m):=⟨qK m,aBu (aHg m) (hk.perm (qK m))⟩
theorem Rel.eq {m s:List Body} (R:Rel m s):aDb m=s:=(bAs R.keys).sorted.unique R.sorted ((qK m).trans R.perm.symm)
end Go.Bil
namespace Go.Bil
structure InB (b:Body):Prop where
 key:0≤b.key∧b.key≤4294967295
 radius : -2147483648≤b.radius∧b.radius≤2147483647
 ax : -2147483648≤b.ax∧b.ax≤2147483647
 ay : -2147483648≤b.ay∧b.ay≤2147483647
 mass : -2147483648≤b.mass∧b.mass≤2147483647
 bounce : -2147483648≤b.bounce∧b.bounce≤2147483647
 px : -2147483648≤b.px∧b.px≤2147483647
 py : -2147483648≤b.py∧b.py≤2147483647
 vx : -2147483648≤b.vx∧b.vx≤2147483647
 vy : -2147483648≤b.vy∧b.vy≤2147483647
theorem bOg (l:List Value) (h:oF [.u32,.i32,.i32,.i32,.i32,.i32,.i32,.i32,.i32,.i32] l):∃ b,l=aF b∧InB b:=by
 obtain ⟨z0,l0,rfl,w0,h0⟩:=gW h
 obtain ⟨z1,l1,rfl,w1,h1⟩:=gW h0
 obtain ⟨z2,l2,rfl,w2,h2⟩:=gW h1
 obtain ⟨z3,l3,rfl,w3,h3⟩:=gW h2
 obtain ⟨z4,l4,rfl,w4,h4⟩:=gW h3
 obtain ⟨z5,l5,rfl,w5,h5⟩:=gW h4
 obtain ⟨z6,l6,rfl,w6,h6⟩:=gW h5
 obtain ⟨z7,l7,rfl,w7,h7⟩:=gW h6
 obtain ⟨z8,l8,rfl,w8,h8⟩:=gW h7
 obtain ⟨z9,l9,rfl,w9,h9⟩:=gW h8
 obtain rfl:=uG h9
 exact ⟨⟨z0,z1,z2,z3,z4,z5,z6,z7,z8,z9⟩,Z,⟨w0,w1,w2,w3,w4,w5,w6,w7,w8,w9⟩⟩
end Go.Bil

namespace Go.Bil
structure StV where
 A:Option Addr
 n:Nat
 c:Nat
 p:Option Nat
 er:eL
 em:eL
def aJm (l:List Body):List Body:=l.foldl (fun m b=>(oT m b).1) []
theorem aEj {l:List Body} {k:Nat} {x:Body} (h:l[k]? = some x):aJm (l.take (k+1))=(oT (aJm (l.take k)) x).1:=by
 unfold aJm
 rw [cH h,List.foldl_append]
 rfl
def aDd (l:List Body):List Body:=l.filter (fun b=>decide (check b=0))
theorem bBq {m:List Body} {x:Body} (hf:∀ b∈m,b.key≠x.key) (hl:m.length < 4096):oT (aDd m) x=(aDd (m++[x]),check x):=by
 have hle:(aDd m).length≤m.length:=List.length_filter_le _ _
 unfold oT
 by_cases h:check x=0
 ·rw [if_neg (by omega),if_neg (by
   have:dO x.key (aDd m) < 0:=nN.2 fun b hb=>hf b (List.mem_filter.1 hb).1
   omega),if_neg (by omega),h]
  simp [aDd,List.filter_append,h]
 ·rw [if_pos h]
  simp [aDd,List.filter_append,h]
theorem aPt {l:List Body} (h:kQ l) {k:Nat} {x:Body} (hx:l[k]? = some x):∀ b∈l.take k,b.key≠x.key:=by
 intro b hb e
 obtain ⟨j,hj⟩:=List.getElem?_of_mem hb
 rw [List.getElem?_take] at hj
 split at hj
 ·rename_i hlt
  have:=h.inj hj hx e
  omega
 ·cases hj
theorem aEk {l:List Body} (h:kQ l) (hl:l.length≤4096):∀ k,k≤l.length→aJm (l.take k)=aDd (l.take k)
 | 0,_=>by simp [aJm,aDd]
 | k+1,hk=>by
  obtain ⟨x,hx⟩:=cF (xs:=l) (k:=k) rfl (by omega)
  rw [aEj hx,aEk h hl k (by omega),bBq (aPt h hx) (by rw [List.length_take];omega),cH hx]
theorem aCy {m:List Body} (hk:kQ m) (k:Int):(mB m k).1.Perm (sP k m):=by
 unfold mB
 by_cases h:dO k m < 0
 ·rw [if_pos h,aJr h]
 ·rw [if_neg h]
  rcases eO k m with ⟨h1,_⟩ | ⟨i,b,h1,h2,h3⟩
  ·omega
  ·rw [h3,Int.toNat_natCast]
   have hlt:=(List.getElem?_eq_some_iff.1 h1).1
   have:=(rR hlt).trans (List.Perm.of_eq (xN hk h1))
   rwa [h2] at this
end Go.Bil
namespace Go.Bil
structure StepI where
 kind:Int
 body:Body
instance:Inhabited StepI:=⟨⟨0,qY 0⟩⟩
end Go.Bil

namespace Go.Bil
def mY:List Body→Int
 | []=>0
 | b::l=>if check b≠0 then check b else mY l
def pE (xs:List Body):Int:=if 4096 < xs.length then 12 else mY xs
theorem nW:∀ {xs:List Body},(∀ (j:Nat) (c:Body),xs[j]? = some c→check c=0)→mY xs=0
 | [],_=>rfl
 | b::l,h=>by
  unfold mY
  rw [if_neg (by have:=h 0 b (by simp);omega)]
  exact nW fun j c hj=>h (j+1) c (by simpa using hj)
theorem uC:∀ {xs:List Body} {k:Nat} {b:Body},xs[k]? = some b→check b≠0→(∀ (j:Nat) (c:Body),j < k→xs[j]? = some c→check c=0)→mY xs=check b
 | [],_,_,h,_,_=>by simp at h
 | a::l,0,b,h,hb,_=>by
  simp only [List.getElem?_cons_zero,Option.some.injEq] at h
  subst h
  unfold mY
  rw [if_pos hb]
 | a::l,k+1,b,h,hb,hn=>by
  unfold mY
  rw [if_neg (by have:=hn 0 a (by omega) (by simp);omega)]
  exact uC (by simpa using h) hb fun j c hj hc=>hn (j+1) c (by omega) (by simpa using hc)
theorem yP:∀ {xs:List Body},mY xs=0→∀ b∈xs,check b=0
 | [],_,b,hb=>by simp at hb
 | a::l,h,b,hb=>by
  unfold mY at h
  by_cases ha:check a=0
  ·rw [if_neg (by omega)] at h
   rcases List.mem_cons.1 hb with rfl | hb
   ·exact ha
   ·exact yP h b hb
  ·rw [if_pos ha] at h;exact absurd h ha
theorem bEc {xs:List Body} (h:pE xs=0):xs.length≤4096∧∀ b∈xs,check b=0:=by
 unfold pE at h
 split at h
 ·omega
 ·exact ⟨by omega,yP h⟩
theorem bEb {xs:List Body} (hl:xs.length≤4096) (h:∀ b∈xs,check b=0):pE xs=0:=by
 unfold pE
 rw [if_neg (by omega)]
 exact nW fun j c hj=>h c (List.mem_of_getElem? hj)
def aIi:List Body→Bool
 | x::y::l=>decide (x.key < y.key) && aIi (y::l)
 | _=>true
theorem vF:∀ {xs:List Body},(∀ (i:Nat) (x y:Body),xs[i]? = some x→xs[i+1]? = some y→x.key < y.key)→aIi xs=true
 | [],_=>rfl
 | [_],_=>rfl
 | x::y::l,h=>by
  unfold aIi
  rw [Bool.and_eq_true]
  exact ⟨decide_eq_true (h 0 x y (by simp) (by simp)),vF fun i a b ha hb=>h (i+1) a b (by simpa using ha) (by simpa using hb)⟩
theorem tM:∀ {xs:List Body},aIi xs=true→cZ xs
 | [],_=>by simp [cZ]
 | [_],_=>by simp [cZ]
 | x::y::l,h=>by
  unfold aIi at h
  rw [Bool.and_eq_true,decide_eq_true_eq] at h
  have ih:=tM h.2
  refine List.pairwise_cons.2 ⟨fun z hz => ?_,ih⟩
  rcases List.mem_cons.1 hz with rfl | hz
  ·exact h.1
  ·have:=(List.pairwise_cons.1 ih).1 z hz;have:=h.1;omega
theorem aRf {xs:List Body} (h:cZ xs):aIi xs=true:=vF fun i x y hx hy=>by
 have hi:=List.getElem?_eq_some_iff.1 hx
 have hj:=List.getElem?_eq_some_iff.1 hy
 have:=List.pairwise_iff_getElem.1 h i (i+1) hi.1 hj.1 (by omega)
 rwa [hi.2,hj.2] at this
theorem aEl {xs:List Body} {i:Nat} {x y:Body} (hx:xs[i]? = some x) (hy:xs[i+1]? = some y) (h:¬ x.key < y.key):aIi xs=false:=by
 cases e:aIi xs with
 | false=>rfl
 | true =>
  exfalso
  have hi:=List.getElem?_eq_some_iff.1 hx
  have hj:=List.getElem?_eq_some_iff.1 hy
  have:=List.pairwise_iff_getElem.1 (tM e) i (i+1) hi.1 hj.1 (by omega)
  rw [hi.2,hj.2] at this
  exact h this
def jD (xs:List Body):Int:=if pE xs≠0 then pE xs else if aIi xs=true then 0 else 10
instance (m:List Body):Decidable (kQ m):=by unfold kQ;infer_instance
def aCj (key:Int):List Body→Nat
 | []=>0
 | b::l=>(if b.key < key then 1 else 0)+aCj key l
theorem zI {key:Int}:∀ {xs:List Body} {k:Nat},k≤xs.length→(∀ (j:Nat) (c:Body),j < k→xs[j]? = some c→c.key < key)→(∀ (j:Nat) (c:Body),k≤j→xs[j]? = some c→¬ c.key < key)→aCj key xs=k
 | [],k,hk,_,_=>by simp at hk;simp [aCj,hk]
 | b::l,0,_,_,h2=>by
  unfold aCj
  rw [if_neg (h2 0 b (Nat.le_refl _) (by simp)),zI (k:=0) (by omega) (fun j c hj=>by omega) (fun j c _ hc=>h2 (j+1) c (by omega) (by simpa using hc))]
 | b::l,k+1,hk,h1,h2=>by
  unfold aCj
  rw [if_pos (h1 0 b (by omega) (by simp)),zI (k:=k) (by simpa using hk) (fun j c hj hc=>h1 (j+1) c (by omega) (by simpa using hc)) (fun j c hj hc=>h2 (j+1) c (by omega) (by simpa using hc))]
  omega
def iM (k:Int):List Value:=[.int .u32 k]
end Go.Bil
namespace Go.Bil
theorem aDc {xs:List Body} (h:cZ xs) {p q:Nat} {a b:Body} (hpq:p≤q) (ha:xs[p]? = some a) (hb:xs[q]? = some b):a.key≤b.key:=by
 by_cases e:p=q
 ·subst e
  rw [ha] at hb
  injection hb with hb
  rw [hb];exact Int.le_refl _
 ·have hi:=List.getElem?_eq_some_iff.1 ha
  have hj:=List.getElem?_eq_some_iff.1 hb
  have:=List.pairwise_iff_getElem.1 h p q hi.1 hj.1 (by omega)
  rw [hi.2,hj.2] at this
  omega
theorem bWj (i j:Nat):((i:Int)+(j:Int)).fdiv (2 ^ (min (1:Int).toNat IntKind.u64.bits))=(((i+j) / 2:Nat):Int):=by
 have e:(2:Int) ^ (min (1:Int).toNat IntKind.u64.bits)=2:=by decide
 rw [e,Int.fdiv_eq_ediv_of_nonneg _ (by omega)]
 omega
theorem uW {a b a' b':Value} (h1:a=a') (h2:b=b'):Value.tuple #[a,b]=Value.tuple #[a',b']:=by rw [h1,h2]
theorem aYl {a b:Int}:qE a b=0↔a=b:=by unfold qE;(repeat' split) <;> omega
theorem aYz {key:Int} {xs:List Body} (hs:cZ xs) {i:Nat} {b:Body} (hb:xs[i]? = some b) (h1:∀ (j:Nat) (c:Body),j < i→xs[j]? = some c→c.key < key) (h2:∀ (j:Nat) (c:Body),i≤j→xs[j]? = some c→¬ c.key < key):qE b.key key=0↔0≤dO key xs:=by
 rw [aYl]
 constructor
 ·intro e
  rcases eO key xs with ⟨_,h⟩ | ⟨_,_,_,_,h⟩
  ·exact absurd e (h b (List.mem_of_getElem? hb))
  ·omega
 ·intro h
  rcases eO key xs with ⟨h',_⟩ | ⟨j,c,hc,hk,_⟩
  ·omega
  ·have hij:i≤j:=by
    rcases Nat.lt_or_ge j i with hlt | hge
    ·have:=h1 j c hlt hc;omega
    ·exact hge
   have:=aDc hs hij hb hc
   have:=h2 i b (Nat.le_refl _) hb
   omega
theorem aSv {key:Int} {xs:List Body} (h1:∀ (j:Nat) (c:Body),j < xs.length→xs[j]? = some c→c.key < key):¬ 0≤dO key xs:=by
 intro h
 rcases eO key xs with ⟨h',_⟩ | ⟨j,c,hc,hk,_⟩
 ·omega
 ·have:=h1 j c (List.getElem?_eq_some_iff.1 hc).1 hc
  omega
end Go.Bil
namespace Go.Bil
theorem bFg {α:Type} {xs ys:List α} {n m:Nat} (h1:xs.length=n) (h2:ys.length=m) (hnm:n=m) (h:∀ (j:Nat) (x:α),j < n→xs[j]? = some x→ys[j]? = some x):xs=ys:=by
 apply List.ext_getElem?
 intro j
 by_cases hj:j < xs.length
 ·obtain ⟨x,hx⟩:=cF (k:=j) rfl hj
  rw [hx,h j x (by omega) hx]
 ·rw [List.getElem?_eq_none (by omega),List.getElem?_eq_none (by omega)]
end Go.Bil
namespace Go.Bil
end Go.Bil
namespace Go.Bil
theorem aTc (k:Int):∀ y∈[iM k],y.length=1∧∀ u∈y,one u=true:=by
 intro y hy
 simp only [List.mem_singleton] at hy
 subst hy
 exact ⟨Z,aS Z⟩
end Go.Bil
namespace Go.Bil
structure Mg (xs ys:List Body) (i k:Nat):Prop where
 sx:cZ xs
 sy:cZ ys
 yx:∀ (p:Nat) (a b:Body),p < k→ys[p]? = some a→xs[i]? = some b→a.key < b.key
 xy:∀ (p:Nat) (a b:Body),p < i→xs[p]? = some a→ys[k]? = some b→a.key < b.key
theorem Mg.swap {xs ys:List Body} {i k:Nat} (h:Mg xs ys i k):Mg ys xs k i:=⟨h.sy,h.sx,h.xy,h.yx⟩
theorem fK {xs:List Body} (h:cZ xs) {p q:Nat} {a b:Body} (hpq:p < q) (ha:xs[p]? = some a) (hb:xs[q]? = some b):a.key < b.key:=by
 have hi:=List.getElem?_eq_some_iff.1 ha
 have hj:=List.getElem?_eq_some_iff.1 hb
 have:=List.pairwise_iff_getElem.1 h p q hi.1 hj.1 hpq
 rwa [hi.2,hj.2] at this
theorem Mg.x {xs ys:List Body} {i k:Nat} {a:Body} (h:Mg xs ys i k) (ha:xs[i]? = some a) (hb:∀ b,ys[k]? = some b→a.key < b.key):Mg xs ys (i+1) k∧dO a.key ys < 0:=by
 refine ⟨⟨h.sx,h.sy,fun p y x hp hy hx => ?_,fun p x y hp hx hy => ?_⟩,nN.2 fun y hy => ?_⟩
 ·have:=h.yx p y a hp hy ha
  have:=fK h.sx (Nat.lt_succ_self i) ha hx
  omega
 ·by_cases e:p=i
  ·subst e
   rw [ha] at hx
   injection hx with hx
   subst hx
   exact hb y hy
  ·exact h.xy p x y (by omega) hx hy
 ·obtain ⟨q,hq⟩:=List.getElem?_of_mem hy
  rcases Nat.lt_or_ge q k with hlt | hge
  ·have:=h.yx q y a hlt hq ha;omega
  ·obtain ⟨b,hbk⟩:=cF (xs:=ys) (k:=k) rfl (by have:=(List.getElem?_eq_some_iff.1 hq).1;omega)
   have h1:=hb b hbk
   have h2:=aDc h.sy hge hbk hq
   omega
theorem Mg.y {xs ys:List Body} {i k:Nat} {b:Body} (h:Mg xs ys i k) (hb:ys[k]? = some b) (ha:∀ a,xs[i]? = some a→b.key < a.key):Mg xs ys i (k+1)∧dO b.key xs < 0:=by
 obtain ⟨h1,h2⟩:=h.swap.x hb ha
 exact ⟨h1.swap,h2⟩
theorem Mg.both {xs ys:List Body} {i k:Nat} {a b:Body} (h:Mg xs ys i k) (ha:xs[i]? = some a) (hb:ys[k]? = some b) (hk:a.key=b.key):Mg xs ys (i+1) (k+1)∧dO a.key ys=(k:Int)∧dO b.key xs=(i:Int):=by
 refine ⟨⟨h.sx,h.sy,fun p y x hp hy hx => ?_,fun p x y hp hx hy => ?_⟩, ?_, ?_⟩
 ·have h1:=fK h.sx (Nat.lt_succ_self i) ha hx
  have h2:=aDc h.sy (show p≤k by omega) hy hb
  omega
 ·have h1:=fK h.sy (Nat.lt_succ_self k) hb hy
  have h2:=aDc h.sx (show p≤i by omega) hx ha
  omega
 ·exact yO hb hk.symm fun j c hj hc=>by have:=fK h.sy hj hc hb;omega
 ·exact yO ha hk fun j c hj hc=>by have:=fK h.sx hj hc ha;omega
end Go.Bil
namespace Go.Bil
end Go.Bil
namespace Go.Bil
end Go.Bil
namespace Go.Bil
end Go.Bil
namespace Go.Bil
end Go.Bil
namespace Go.Bil
end Go.Bil
namespace Go.Bil
end Go.Bil

namespace Go.Bil
theorem aYj {v:List Body} (he:pE v=0) (hs:cZ v):jD v=0:=by
 unfold jD
 rw [if_neg (by omega),if_pos (aRf hs)]
end Go.Bil

namespace Go.Bil
structure Bx where
 x0:Int
 y0:Int
 x1:Int
 y1:Int
 deriving DecidableEq,Inhabited
def eC (a:Bx):List Value:=[.int .i32 a.x0,.int .i32 a.y0,.int .i32 a.x1,.int .i32 a.y1]
def aSr (b:Body):Int:=max b.ax (-b.ax)+b.radius
def aSs (b:Body):Int:=max b.ay (-b.ay)+b.radius
def gZ (b:Body):Bx:=⟨b.px - aSr b,b.py - aSs b,b.px+aSr b,b.py+aSs b⟩
abbrev kD (a:Bx):Prop:=a.x1 < a.x0∨a.y1 < a.y0
def iU:Bx:=⟨1,0,0,0⟩
def aKg (a b:Bx):Bx:=if kD ⟨max a.x0 b.x0,max a.y0 b.y0,min a.x1 b.x1,min a.y1 b.y1⟩ then iU else ⟨max a.x0 b.x0,max a.y0 b.y0,min a.x1 b.x1,min a.y1 b.y1⟩
abbrev ovl (a b:Bx):Prop:=(a.x0≤a.x1∧a.y0≤a.y1)∧(b.x0≤b.x1∧b.y0≤b.y1)∧(a.x0≤b.x1∧b.x0≤a.x1∧a.y0≤b.y1∧b.y0≤a.y1)
theorem bFm (a b:Bx):¬ kD (aKg a b)↔ovl a b:=by
 unfold aKg
 split
 ·rename_i h
  unfold kD at h
  simp only [kD,iU,ovl]
  simp only at h
  omega
 ·rename_i h
  unfold kD at h
  simp only [kD,ovl]
  simp only at h
  omega
structure Okb (b:Body):Prop where
 r:4096≤b.radius∧b.radius≤4194304
 a : -4194304≤b.ax∧b.ax≤4194304 ∧ -4194304≤b.ay∧b.ay≤4194304
 m:0≤b.mass∧b.mass≤1048576
 c:0≤b.bounce∧b.bounce≤65536
 p : -1073741824≤b.px∧b.px≤1073741824 ∧ -1073741824≤b.py∧b.py≤1073741824
 v : -16777216≤b.vx∧b.vx≤16777216 ∧ -16777216≤b.vy∧b.vy≤16777216
theorem aOr {b:Body} (h:check b=0):Okb b:=by
 by_cases h1:4096≤b.radius∧b.radius≤4194304
 ·by_cases h2 : -4194304≤b.ax∧b.ax≤4194304 ∧ -4194304≤b.ay∧b.ay≤4194304
  ·by_cases h3:0≤b.mass∧b.mass≤1048576
   ·by_cases h4:0≤b.bounce∧b.bounce≤65536
    ·by_cases h5 : -1073741824≤b.px∧b.px≤1073741824 ∧ -1073741824≤b.py∧b.py≤1073741824
     ·by_cases h6 : -16777216≤b.vx∧b.vx≤16777216 ∧ -16777216≤b.vy∧b.vy≤16777216
      ·exact ⟨h1,h2,h3,h4,h5,h6⟩
      ·rw [aVw b h1 h2 h3 h4 h5 h6] at h;omega
     ·rw [aVv b h1 h2 h3 h4 h5] at h;omega
    ·rw [aVu b h1 h2 h3 h4] at h;omega
   ·rw [aVt b h1 h2 h3] at h;omega
  ·rw [aVs b h1 h2] at h;omega
 ·rw [aVr b h1] at h;omega
theorem bEf {b:Body} (h:Okb b):4096≤aSr b∧aSr b≤8388608∧4096≤aSs b∧aSs b≤8388608:=by
 have:=h.r
 have:=h.a
 unfold aSr aSs
 omega
structure Okx (a:Bx):Prop where
 x0 : -2147483648≤a.x0∧a.x0≤2147483647
 y0 : -2147483648≤a.y0∧a.y0≤2147483647
 x1 : -2147483648≤a.x1∧a.x1≤2147483647
 y1 : -2147483648≤a.y1∧a.y1≤2147483647
theorem bOi {b:Body} (h:Okb b):Okx (gZ b):=by
 have h1:=bEf h
 have h2:=h.p
 constructor <;> simp only [gZ] <;> omega
end Go.Bil

namespace Go.Bil
def dX (c:Int × Int):List Value:=[.int .i32 c.1,.int .i32 c.2]
def qD (x:Int):Int:=x.fdiv 4194304
theorem bNu (x:Int):x.fdiv (2 ^ (min (22:Int).toNat IntKind.i32.bits))=qD x:=rfl
theorem aLx (x:Int):qD x=x / 4194304:=by unfold qD;exact Int.fdiv_eq_ediv_of_nonneg x (by decide)
theorem sN {x:Int} (h0 : -2147483648≤x) (h1:x≤2147483647) : -512≤qD x∧qD x≤511:=by rw [aLx];omega
theorem mL {x y:Int} (h:x≤y):qD x≤qD y:=by rw [aLx,aLx];omega
def loC (a:Bx):Int × Int:=if kD a then (0,0) else (qD a.x0,qD a.y0)
def hiC (a:Bx):Int × Int:=if kD a then (0,0) else (qD a.x1,qD a.y1)
def nX (lo hi:Int × Int):Nat:=(hi.1 - lo.1+1).toNat
def nY (lo hi:Int × Int):Nat:=(hi.2 - lo.2+1).toNat
def aGy (lo:Int × Int) (i j:Nat):List (Int × Int):=(List.range i).map (fun (p:Nat)=>(lo.1+(p:Int),lo.2+(j:Int)))
def rA (lo hi:Int × Int) (j:Nat):List (Int × Int):=(List.range j).flatMap (fun q=>aGy lo (nX lo hi) q)
def aAo (ok:Bool) (lo hi:Int × Int):List (Int × Int):=if ok then rA lo hi (nY lo hi) else []
def jX (a:Bx):List (Int × Int):=aAo (decide (¬ kD a)) (loC a) (hiC a)
theorem aQu (lo:Int × Int) (i j:Nat):(aGy lo i j).length=i:=by simp [aGy]
theorem bAj (lo:Int × Int) (i j:Nat):aGy lo (i+1) j=aGy lo i j++[(lo.1+(i:Int),lo.2+(j:Int))]:=by simp [aGy,List.range_succ]
theorem aGz (lo hi:Int × Int) (j:Nat):rA lo hi (j+1)=rA lo hi j++aGy lo (nX lo hi) j:=by simp [rA,List.range_succ]
theorem aBo (lo hi:Int × Int):∀ j,(rA lo hi j).length=j*nX lo hi
 | 0=>by simp [rA]
 | j+1=>by rw [aGz,List.length_append,aBo lo hi j,aQu,Nat.add_mul,Nat.one_mul]
theorem bGq {lo hi:Int × Int} {i j:Nat} (hx:nX lo hi≤1024) (hj:j < 1024) (hi':i < nX lo hi):(rA lo hi j).length+i < 1048576:=by
 rw [aBo]
 have:j*nX lo hi≤1023*1024:=Nat.mul_le_mul (by omega) hx
 omega
theorem bGp {lo hi:Int × Int} {j:Nat} (hx:nX lo hi≤1024) (hj:j≤1024):(rA lo hi j).length≤1048576:=by
 rw [aBo]
 exact Nat.mul_le_mul hj hx
theorem aZq {lo hi:Int × Int} {n:Nat} {c:Int × Int}:c∈rA lo hi n↔∃ q p:Nat,q < n∧p < nX lo hi∧c=(lo.1+(p:Int),lo.2+(q:Int)):=by
 simp only [rA,aGy,List.mem_flatMap,List.mem_range,List.mem_map]
 constructor
 ·rintro ⟨q,hq,p,hp,rfl⟩;exact ⟨q,p,hq,hp,rfl⟩
 ·rintro ⟨q,p,hq,hp,rfl⟩;exact ⟨q,hq,p,hp,rfl⟩
theorem aGg {a:Bx} {c:Int × Int}:c∈jX a↔¬ kD a∧qD a.x0≤c.1∧c.1≤qD a.x1∧qD a.y0≤c.2∧c.2≤qD a.y1:=by
 unfold jX aAo
 by_cases h:kD a
 ·simp [h]
 ·rw [if_pos (by simpa using h),aZq]
  simp only [loC,hiC,if_neg h,nX,nY]
  constructor
  ·rintro ⟨q,p,hq,hp,rfl⟩
   refine ⟨h, ?_⟩
   simp only
   omega
  ·rintro ⟨_,h1,h2,h3,h4⟩
   refine ⟨(c.2 - qD a.y0).toNat,(c.1 - qD a.x0).toNat,by omega,by omega, ?_⟩
   apply Prod.ext <;> simp only <;> omega
structure Okc (c:Int × Int):Prop where
 x : -512≤c.1∧c.1≤511
 y : -512≤c.2∧c.2≤511
theorem aTe {a:Bx} (h:Okx a):Okc (loC a):=by
 unfold loC
 split
 ·exact ⟨by decide,by decide⟩
 ·exact ⟨sN h.x0.1 h.x0.2,sN h.y0.1 h.y0.2⟩
theorem aSx {a:Bx} (h:Okx a):Okc (hiC a):=by
 unfold hiC
 split
 ·exact ⟨by decide,by decide⟩
 ·exact ⟨sN h.x1.1 h.x1.2,sN h.y1.1 h.y1.2⟩
theorem bNr {lo hi:Int × Int} (h1:Okc lo) (h2:Okc hi):nX lo hi≤1024:=by
 have:=h1.x;have:=h2.x
 unfold nX
 omega
theorem bNs {lo hi:Int × Int} (h1:Okc lo) (h2:Okc hi):nY lo hi≤1024:=by
 have:=h1.y;have:=h2.y
 unfold nY
 omega
theorem aSf {a:Bx} (h:Okx a):(jX a).length≤1048576:=by
 unfold jX aAo
 split
 ·exact bGp (bNr (aTe h) (aSx h)) (bNs (aTe h) (aSx h))
 ·simp
theorem bFy {a b:Bx} (h:ovl a b):∃ c,c∈jX a∧c∈jX b:=by
 obtain ⟨⟨h1,h2⟩,⟨h3,h4⟩,h5,h6,h7,h8⟩:=h
 refine ⟨(qD (max a.x0 b.x0),qD (max a.y0 b.y0)),aGg.2 ⟨by unfold kD;omega, ?_⟩,aGg.2 ⟨by unfold kD;omega, ?_⟩⟩
 ·exact ⟨mL (by omega),mL (by omega),mL (by omega),mL (by omega)⟩
 ·exact ⟨mL (by omega),mL (by omega),mL (by omega),mL (by omega)⟩
def vH (c:Int × Int):Int :=
 IntKind.u32.wrap ((BitVec.ofInt 32 (IntKind.u32.wrap ((BitVec.ofInt 32 (IntKind.u32.wrap (IntKind.u32.wrap c.1*73856093)) ^^^ BitVec.ofInt 32 (IntKind.u32.wrap (IntKind.u32.wrap c.2*19349663))).toNat)) &&& BitVec.ofInt 32 1023).toNat)
def fI (c:Int × Int):Nat:=(vH c).toNat
theorem nU (c:Int × Int):0≤vH c∧vH c < 1024:=by
 unfold vH
 generalize BitVec.ofInt 32 (IntKind.u32.wrap _)=a
 have h:(a &&& BitVec.ofInt 32 1023).toNat≤1023:=by
  rw [BitVec.toNat_and]
  exact Nat.le_trans Nat.and_le_right (by decide)
 rw [aIb _ (by omega) (by omega)]
 omega
theorem mK (c:Int × Int):fI c < 1024:=by have:=nU c;unfold fI;omega
theorem aYc (c:Int × Int):vH c=(fI c:Int):=by have:=nU c;unfold fI;omega
end Go.Bil

namespace Go.Bil
def cY (n:Int):List Int:=[n / 16777216 % 256,n / 65536 % 256,n / 256 % 256,n % 256]
def aWj (b:Body):List Int:=[b.key,b.radius,b.ax,b.ay,b.mass,b.bounce,b.px,b.py,b.vx,b.vy]
def nK (b:Body):List Int:=(aWj b).flatMap cY
def mI:List Int:=[66,73,76,49]
def kH (v:List Body):List Int:=mI++cY (v.length:Int)++v.flatMap nK
def eK (l:List Int) (a:Nat):Int:=((l.getD a 0*256+l.getD (a+1) 0)*256+l.getD (a+2) 0)*256+l.getD (a+3) 0
def lB (n:Int):Int:=if 2147483648≤n then n - 4294967296 else n
def mG (l:List Int) (a:Nat):Body:=⟨eK l a,lB (eK l (a+4)),lB (eK l (a+8)),lB (eK l (a+12)),lB (eK l (a+16)),lB (eK l (a+20)),lB (eK l (a+24)),lB (eK l (a+28)),lB (eK l (a+32)),lB (eK l (a+36))⟩
abbrev aBv (l:List Int):Prop:=8≤l.length∧l.take 4=mI∧(l.length:Int)=8+40*eK l 4
def oY (l:List Int) (n:Nat):List Body:=(List.range n).map (fun i=>mG l (8+40*i))
def nJ (l:List Int):List Body × Int:=if ¬ aBv l then ([],13) else if jD (oY l (eK l 4).toNat)≠0 then ([],jD (oY l (eK l 4).toNat)) else (oY l (eK l 4).toNat,0)
abbrev iG (l:List Int):Prop:=∀ x∈l,0≤x∧x≤255
theorem pX (n:Int):(cY n).length=4:=rfl
theorem bEd (b:Body):(nK b).length=40:=rfl
theorem aPa (v:List Body):(v.flatMap nK).length=40*v.length:=by
 induction v with
 | nil=>rfl
 | cons b v ih=>rw [List.flatMap_cons,List.length_append,ih,bEd,List.length_cons];omega
theorem aFc (v:List Body):(kH v).length=8+40*v.length:=by
 unfold kH
 rw [List.length_append,List.length_append,aPa,pX]
 rfl
theorem aHx (n:Int):iG (cY n):=fun x hx=>by
 simp only [cY,List.mem_cons,List.not_mem_nil,or_false] at hx
 rcases hx with rfl | rfl | rfl | rfl <;> omega
theorem aYv (b:Body):iG (nK b):=fun x hx=>by
 obtain ⟨n,_,h⟩:=List.mem_flatMap.1 hx
 exact aHx n x h
theorem aJw (v:List Body):iG (kH v):=fun x hx=>by
 unfold kH at hx
 rcases List.mem_append.1 hx with h | h
 ·rcases List.mem_append.1 h with h | h
  ·simp only [mI,List.mem_cons,List.not_mem_nil,or_false] at h
   rcases h with rfl | rfl | rfl | rfl <;> omega
  ·exact aHx _ x h
 ·obtain ⟨b,_,h⟩:=List.mem_flatMap.1 h
  exact aYv b x h
theorem wJ (n:Int):cY (n % 4294967296)=cY n:=by
 unfold cY
 have h1:n % 4294967296 / 16777216 % 256=n / 16777216 % 256:=by omega
 have h2:n % 4294967296 / 65536 % 256=n / 65536 % 256:=by omega
 have h3:n % 4294967296 / 256 % 256=n / 256 % 256:=by omega
 have h4:n % 4294967296 % 256=n % 256:=by omega
 rw [h1,h2,h3,h4]
theorem bBe (n:Int):cY (lB n)=cY n:=by
 unfold lB
 split
 ·rw [← wJ (n - 4294967296),← wJ n]
  congr 1
  omega
 ·rfl
theorem zC {A L B:List Int} {a:Nat} (ha:A.length=a) {j:Nat} (hj:j < L.length):(A++(L++B)).getD (a+j) 0=L.getD j 0:=by
 subst ha
 rw [List.getD_eq_getElem?_getD,List.getD_eq_getElem?_getD,List.getElem?_append_right (by omega),List.getElem?_append_left (by omega)]
 congr 2
 omega
theorem aKl {A B:List Int} {a:Nat} (ha:A.length=a) (n:Int):eK (A++(cY n++B)) a=n % 4294967296:=by
 have h0:(A++(cY n++B)).getD a 0=n / 16777216 % 256:=zC (j:=0) ha (by rw [pX];omega)
 have h1:(A++(cY n++B)).getD (a+1) 0=n / 65536 % 256:=zC (j:=1) ha (by rw [pX];omega)
 have h2:(A++(cY n++B)).getD (a+2) 0=n / 256 % 256:=zC (j:=2) ha (by rw [pX];omega)
 have h3:(A++(cY n++B)).getD (a+3) 0=n % 256:=zC (j:=3) ha (by rw [pX];omega)
 unfold eK
 rw [h0,h1,h2,h3]
 omega
theorem bKm {A B L:List Int} {a k:Nat} {n:Int} (ha:A.length=a) {P Q:List Int} (hL:L=P++(cY n++Q)) (hP:P.length=k):eK (A++(L++B)) (a+k)=n % 4294967296:=by
 have e:A++(L++B)=(A++P)++(cY n++(Q++B)):=by rw [hL];simp only [List.append_assoc]
 rw [e]
 exact aKl (by rw [List.length_append,ha,hP]) n
theorem pQ {n:Int} (h : -2147483648≤n∧n≤2147483647):lB (n % 4294967296)=n:=by unfold lB;split <;> omega
theorem aRt {A B:List Int} {a:Nat} (ha:A.length=a) {b:Body} (h:InB b):mG (A++(nK b++B)) a=b:=by
 have e:nK b=cY b.key++(cY b.radius++(cY b.ax++(cY b.ay++(cY b.mass++(cY b.bounce++(cY b.px++(cY b.py++(cY b.vx++(cY b.vy++[]))))))))):=rfl
 have f (k:Nat) (n:Int) (P Q:List Int) (hL:nK b=P++(cY n++Q)) (hP:P.length=k):eK (A++(nK b++B)) (a+k)=n % 4294967296:=bKm ha hL hP
 have f0:=f 0 b.key [] _ rfl rfl
 have f1:=f 4 b.radius (cY b.key) _ rfl rfl
 have f2:=f 8 b.ax (cY b.key++cY b.radius) _ rfl rfl
 have f3:=f 12 b.ay (cY b.key++cY b.radius++cY b.ax) _ rfl rfl
 have f4:=f 16 b.mass (cY b.key++cY b.radius++cY b.ax++cY b.ay) _ rfl rfl
 have f5:=f 20 b.bounce (cY b.key++cY b.radius++cY b.ax++cY b.ay++cY b.mass) _ rfl rfl
 have f6:=f 24 b.px (cY b.key++cY b.radius++cY b.ax++cY b.ay++cY b.mass++cY b.bounce) _ rfl rfl
 have f7:=f 28 b.py (cY b.key++cY b.radius++cY b.ax++cY b.ay++cY b.mass++cY b.bounce++cY b.px) _ rfl rfl
 have f8:=f 32 b.vx (cY b.key++cY b.radius++cY b.ax++cY b.ay++cY b.mass++cY b.bounce++cY b.px++cY b.py) _ rfl rfl
 have f9:=f 36 b.vy (cY b.key++cY b.radius++cY b.ax++cY b.ay++cY b.mass++cY b.bounce++cY b.px++cY b.py++cY b.vx) [] rfl rfl
 rw [Nat.add_zero] at f0
 obtain ⟨h0,h1,h2,h3,h4,h5,h6,h7,h8,h9⟩:=h
 unfold mG
 rw [f0,f1,f2,f3,f4,f5,f6,f7,f8,f9,pQ (by omega),pQ (by omega),pQ (by omega),pQ (by omega),pQ (by omega),pQ (by omega),pQ (by omega),pQ (by omega),pQ (by omega),Int.emod_eq_of_lt (by omega) (by omega)]
theorem aSq {v:List Body} {i:Nat} {b:Body} (h:v[i]? = some b):kH v=(mI++cY (v.length:Int)++(v.take i).flatMap nK)++(nK b++(v.drop (i+1)).flatMap nK):=by
 have hi:=List.getElem?_eq_some_iff.1 h
 have e:v.flatMap nK=(v.take i).flatMap nK++(nK b++(v.drop (i+1)).flatMap nK):=by
  conv=>lhs;rw [← List.take_append_drop i v,List.drop_eq_getElem_cons hi.1,hi.2]
  rw [List.flatMap_append,List.flatMap_cons]
 unfold kH
 rw [e]
 simp only [List.append_assoc]
theorem aOc {v:List Body} {i:Nat} {b:Body} (h:v[i]? = some b) (hb:InB b):mG (kH v) (8+40*i)=b:=by
 rw [aSq h]
 refine aRt ?_ hb
 have hi:=(List.getElem?_eq_some_iff.1 h).1
 rw [List.length_append,List.length_append,aPa,List.length_take,pX,Nat.min_eq_left (by omega)]
 rfl
theorem aKk (v:List Body) (h:v.length < 4294967296):eK (kH v) 4=(v.length:Int):=by
 have e:kH v=mI++(cY (v.length:Int)++v.flatMap nK):=by unfold kH;rw [List.append_assoc]
 rw [e,aKl (A:=mI) (a:=4) rfl]
 omega
theorem bDt {v:List Body} (hb:∀ b∈v,InB b):oY (kH v) v.length=v:=by
 refine List.ext_getElem? fun i => ?_
 unfold oY
 rw [List.getElem?_map]
 by_cases hi:i < v.length
 ·have hv:=List.getElem?_eq_getElem hi
  rw [List.getElem?_range hi,hv]
  show some (mG (kH v) (8+40*i))=some v[i]
  rw [aOc hv (hb _ (List.getElem_mem hi))]
 ·rw [List.getElem?_eq_none (by omega:v.length≤i),List.getElem?_eq_none (by rw [List.length_range];omega)]
  rfl
theorem bEj (v:List Body) (h:v.length≤4096):aBv (kH v):=by
 have hl:=aFc v
 refine ⟨by omega,Z, ?_⟩
 rw [aKk v (by omega),hl]
 omega
theorem bDs {v:List Body} (hb:∀ b∈v,InB b) (hl:v.length≤4096) (hc:jD v=0):nJ (kH v)=(v,0):=by
 unfold nJ
 rw [if_neg (Decidable.not_not.2 (bEj v hl)),aKk v (by omega),Int.toNat_natCast,bDt hb,if_neg (by omega)]
theorem nB {l:List Int} (hl:iG l) {a:Nat} (h:a+4≤l.length):0≤eK l a∧eK l a≤4294967295∧cY (eK l a)=(l.drop a).take 4:=by
 have g (j:Nat) (hj:j < l.length):l[j]? = some (l.getD j 0)∧0≤l.getD j 0∧l.getD j 0≤255:=by
  rw [List.getD_eq_getElem?_getD,List.getElem?_eq_getElem hj]
  have hb:=hl _ (List.getElem_mem hj)
  exact ⟨Z,hb.1,hb.2⟩
 obtain ⟨g0,g1,g2⟩:=g a (by omega)
 obtain ⟨g3,g4,g5⟩:=g (a+1) (by omega)
 obtain ⟨g6,g7,g8⟩:=g (a+2) (by omega)
 obtain ⟨g9,ga,gb⟩:=g (a+3) (by omega)
 have e:(l.drop a).take 4=[l.getD a 0,l.getD (a+1) 0,l.getD (a+2) 0,l.getD (a+3) 0]:=by
  have hlen:((l.drop a).take 4).length=4:=by rw [List.length_take,List.length_drop];omega
  refine List.ext_getElem? fun j => ?_
  rcases (show j=0∨j=1∨j=2∨j=3∨4≤j by omega) with rfl | rfl | rfl | rfl | hj
  ·rw [List.getElem?_take_of_lt (by omega),List.getElem?_drop];simpa using g0
  ·rw [List.getElem?_take_of_lt (by omega),List.getElem?_drop];simpa using g3
  ·rw [List.getElem?_take_of_lt (by omega),List.getElem?_drop];simpa using g6
  ·rw [List.getElem?_take_of_lt (by omega),List.getElem?_drop];simpa using g9
  ·rw [List.getElem?_eq_none (by omega),List.getElem?_eq_none (by simpa using hj)]
 rw [e]
 unfold eK cY
 generalize l.getD a 0=p at *
 generalize l.getD (a+1) 0=q at *
 generalize l.getD (a+2) 0=r at *
 generalize l.getD (a+3) 0=s at *
 refine ⟨by omega,by omega, ?_⟩
 have h1:(((p*256+q)*256+r)*256+s) / 16777216 % 256=p:=by omega
 have h2:(((p*256+q)*256+r)*256+s) / 65536 % 256=q:=by omega
 have h3:(((p*256+q)*256+r)*256+s) / 256 % 256=r:=by omega
 have h4:(((p*256+q)*256+r)*256+s) % 256=s:=by omega
 rw [h1,h2,h3,h4]
theorem aSi (l:List Int) (k:Nat):∀ n,(List.range n).flatMap (fun i=>(l.drop (k*i)).take k)=l.take (k*n)
 | 0=>by simp
 | n+1=>by
  rw [List.range_succ,List.flatMap_append,aSi l k n,List.flatMap_cons,List.flatMap_nil,List.append_nil,Nat.mul_succ,List.take_add]
theorem oE {n:Int} (h:0≤n∧n≤4294967295) : -2147483648≤lB n∧lB n≤2147483647:=by unfold lB;split <;> omega
theorem aYa {l:List Int} (hl:iG l) {a:Nat} (h:a+40≤l.length):InB (mG l a):=by
 have f (k:Nat) (hk:k≤36):0≤eK l (a+k)∧eK l (a+k)≤4294967295:=by
  have:=nB hl (a:=a+k) (by omega)
  exact ⟨this.1,this.2.1⟩
 exact ⟨f 0 (by omega),oE (f 4 (by omega)),oE (f 8 (by omega)),oE (f 12 (by omega)),oE (f 16 (by omega)),oE (f 20 (by omega)),oE (f 24 (by omega)),oE (f 28 (by omega)),oE (f 32 (by omega)),oE (f 36 (by omega))⟩
theorem bJd {l:List Int} (hl:iG l) {a:Nat} (h:a+40≤l.length):nK (mG l a)=(l.drop a).take 40:=by
 have f (k:Nat) (hk:k≤36):cY (eK l (a+k))=((l.drop a).drop k).take 4:=by rw [List.drop_drop];exact (nB hl (a:=a+k) (by omega)).2.2
 have e:=aSi (l.drop a) 4 10
 rw [← e]
 unfold nK aWj mG
 simp only [List.flatMap_cons,List.flatMap_nil,bBe]
 have f0:=f 0 (by omega)
 rw [Nat.add_zero] at f0
 rw [f0,f 4 (by omega),f 8 (by omega),f 12 (by omega),f 16 (by omega),f 20 (by omega),f 24 (by omega),f 28 (by omega),f 32 (by omega),f 36 (by omega)]
 rfl
theorem yL (l:List Int) (n:Nat):(oY l n).length=n:=by unfold oY;rw [List.length_map,List.length_range]
theorem aIn {α β:Type} {l:List α} {f g:α→List β} (h:∀ x∈l,f x=g x):l.flatMap f=l.flatMap g:=by
 induction l with
 | nil=>rfl
 | cons x l ih=>rw [List.flatMap_cons,List.flatMap_cons,h x (by simp),ih fun y hy=>h y (by simp [hy])]
theorem bEe {l:List Int} (hl:iG l) {n:Nat} (h:l.length=8+40*n):(oY l n).flatMap nK=l.drop 8:=by
 unfold oY
 rw [List.flatMap_map,aIn (g:=fun i=>((l.drop 8).drop (40*i)).take 40) (fun i hi=>by
  have:=List.mem_range.1 hi
  rw [List.drop_drop]
  exact bJd hl (by omega)),aSi,List.take_of_length_le (by rw [List.length_drop];omega)]
structure DecOk (l:List Int) (v:List Body):Prop where
 n:l.length=8+40*v.length
 e:kH v=l
 inb:∀ b∈v,InB b
 c:jD v=0
theorem bIx {l:List Int} (hl:iG l) (h:(nJ l).2=0):DecOk l (nJ l).1:=by
 unfold nJ at h ⊢
 by_cases hf:aBv l
 ·rw [if_neg (Decidable.not_not.2 hf)] at h ⊢
  by_cases hc:jD (oY l (eK l 4).toNat)=0
  ·rw [if_neg (by omega)]
   obtain ⟨h8,hm,hn⟩:=hf
   have hr:=nB hl (a:=4) (by omega)
   have hlen:l.length=8+40*(eK l 4).toNat:=by omega
   show DecOk l (oY l (eK l 4).toNat)
   refine ⟨by rw [yL];exact hlen, ?_, ?_,hc⟩
   ·unfold kH
    rw [bEe hl hlen,yL,show (((eK l 4).toNat:Nat):Int)=eK l 4 by omega,hr.2.2,← hm,← List.take_add,List.take_append_drop]
   ·intro b hb
    unfold oY at hb
    obtain ⟨i,hi,rfl⟩:=List.mem_map.1 hb
    have:=List.mem_range.1 hi
    exact aYa hl (by omega)
  ·rw [if_pos hc] at h
   exact absurd h hc
 ·rw [if_pos hf] at h
  cases h
def aCo (b:Body):List Int:=[b.key,b.radius % 4294967296,b.ax % 4294967296,b.ay % 4294967296,b.mass % 4294967296,b.bounce % 4294967296,b.px % 4294967296,b.py % 4294967296,b.vx % 4294967296,b.vy % 4294967296]
theorem aZv (b:Body):(aCo b).flatMap cY=nK b:=by
 unfold aCo nK aWj
 simp only [List.flatMap_cons,List.flatMap_nil,wJ]
theorem aZw {b:Body} (h:InB b):∀ x∈aCo b,0≤x∧x≤4294967295:=by
 obtain ⟨h0,_⟩:=h
 intro x hx
 simp only [aCo,List.mem_cons,List.not_mem_nil,or_false] at hx
 rcases hx with rfl | rfl | rfl | rfl | rfl | rfl | rfl | rfl | rfl | rfl <;> omega
theorem aYx {L:List Int} {j:Nat} {x:Int} (h:L[j]? = some x):(L.take (j+1)).flatMap cY=(L.take j).flatMap cY++cY x:=by
 rw [cH h,List.flatMap_append,List.flatMap_cons,List.flatMap_nil,List.append_nil]
theorem aJx {v:List Body} {j:Nat} {x:Body} (h:v[j]? = some x):(v.take (j+1)).flatMap nK=(v.take j).flatMap nK++nK x:=by
 rw [cH h,List.flatMap_append,List.flatMap_cons,List.flatMap_nil,List.append_nil]
theorem fS {l:List Int} {a m:Nat} (h:4≤m):eK ((l.drop a).take m) 0=eK l a:=by
 have g (j:Nat) (hj:j < m):((l.drop a).take m).getD j 0=l.getD (a+j) 0:=by
  rw [List.getD_eq_getElem?_getD,List.getD_eq_getElem?_getD,List.getElem?_take_of_lt hj,List.getElem?_drop]
 unfold eK
 rw [g 0 (by omega),g (0+1) (by omega),g (0+2) (by omega),g (0+3) (by omega)]
 rfl
theorem aJs (l:List Int) (k:Nat):oY l (k+1)=oY l k++[mG l (8+40*k)]:=by unfold oY;rw [List.range_succ,List.map_append];rfl
theorem iG.sub {l:List Int} (h:iG l) (a m:Nat):iG ((l.drop a).take m):=fun x hx=>h x (List.mem_of_mem_drop (List.mem_of_mem_take hx))
end Go.Bil
namespace Go.Bil
theorem vJ {l:List Int} (h:¬ aBv l):nJ l=([],13):=by unfold nJ;rw [if_pos h]
theorem aVy {l:List Int} {N:Nat} (h:aBv l) (hN:eK l 4=(N:Int)) (hc:jD (oY l N)≠0):nJ l=([],jD (oY l N)):=by
 unfold nJ;rw [if_neg (Decidable.not_not.2 h),hN,Int.toNat_natCast,if_pos hc]
theorem aOv {l:List Int} {N:Nat} (h:aBv l) (hN:eK l 4=(N:Int)) (hc:jD (oY l N)=0):nJ l=(oY l N,0):=by
 unfold nJ;rw [if_neg (Decidable.not_not.2 h),hN,Int.toNat_natCast,if_neg (by omega)]
theorem bVp {l:List Int} (hl:iG l) {a:Nat} (h:a+40≤l.length):∀ x∈([eK l a,eK l (a+4),eK l (a+8),eK l (a+12),eK l (a+16),eK l (a+20),eK l (a+24),eK l (a+28),eK l (a+32),eK l (a+36)]:List Int),0≤x∧x≤4294967295:=by
 have f (k:Nat) (hk:k≤36):0≤eK l (a+k)∧eK l (a+k)≤4294967295:=by
  have:=nB hl (a:=a+k) (by omega)
  exact ⟨this.1,this.2.1⟩
 intro x hx
 simp only [List.mem_cons,List.not_mem_nil,or_false] at hx
 rcases hx with rfl | rfl | rfl | rfl | rfl | rfl | rfl | rfl | rfl | rfl
 ·exact f 0 (by omega)
 ·exact f 4 (by omega)
 ·exact f 8 (by omega)
 ·exact f 12 (by omega)
 ·exact f 16 (by omega)
 ·exact f 20 (by omega)
 ·exact f 24 (by omega)
 ·exact f 28 (by omega)
 ·exact f 32 (by omega)
 ·exact f 36 (by omega)
theorem qW:mI=([66,73,76,49]:List UInt8).map (fun y=>(y.toNat:Int)):=by decide
end Go.Bil
