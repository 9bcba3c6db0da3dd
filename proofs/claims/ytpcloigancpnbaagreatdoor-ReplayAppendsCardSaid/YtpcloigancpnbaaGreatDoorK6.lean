/- Part of the proof of a law of this seat (7 texts). No conditions. -/
import Derived.Test.YtpcloigancpnbaaGreatDoorK4
import Derived.Test.YtpcloigancpnbaaGreatDoorK3
set_option linter.unusedVariables false
set_option linter.unusedSimpArgs false
set_option linter.unnecessarySimpa false
set_option maxHeartbeats 100000000
namespace Go.Bil
def dA (s:List Body):Prop:=s.Pairwise (fun a b=>a.key < b.key)
def sX (k:Int) (s:List Body):List Body:=s.filter (fun x=>decide (x.key≠k))
def uO (b:Body):Bool→List Body→List Body
 | true,s=>sX b.key s
 | false,[]=>[b]
 | false,x::l=>if b.key≤x.key then b::sX b.key (x::l) else x::uO b false l
def bRy (b:Body) (r:List Body × Bool):List Body:=if r.2 then r.1 else r.1++[b]
theorem tE (b:Body):∀ (s acc:List Body) (d:Bool),bRy b (s.foldl (gB b) (acc,d))=acc++uO b d s
 | [],acc,true=>by simp [uO,sX,bRy]
 | [],acc,false=>by simp [uO,bRy]
 | x::l,acc,true=>by
  have ih:=tE b l (if x.key≠b.key then acc++[x] else acc) true
  rw [List.foldl_cons]
  have e:gB b (acc,true) x=(if x.key≠b.key then acc++[x] else acc,true):=by unfold gB;by_cases h:x.key=b.key <;> simp [h]
  rw [e,ih]
  by_cases h:x.key=b.key <;> simp [uO,sX,h]
 | x::l,acc,false=>by
  rw [List.foldl_cons]
  by_cases hb:b.key≤x.key
  ·have ih:=tE b l (if x.key≠b.key then acc++[b]++[x] else acc++[b]) true
   have e:gB b (acc,false) x=(if x.key≠b.key then acc++[b]++[x] else acc++[b],true):=by unfold gB;by_cases h:x.key=b.key <;> simp [h,hb]
   rw [e,ih]
   by_cases h:x.key=b.key <;> simp [uO,sX,h,hb]
  ·have hne:x.key≠b.key:=by omega
   have ih:=tE b l (acc++[x]) false
   have e:gB b (acc,false) x=(acc++[x],false):=by unfold gB;simp [hb,hne]
   rw [e,ih]
   simp [uO,hb]
theorem aXh (s:List Body) (b:Body) (g:Bool):xY s b g=uO b g s:=by
 have:=tE b s [] g
 rw [List.nil_append] at this
 exact this
theorem aBr (b:Body):∀ s:List Body,(uO b false s).Perm (b::sX b.key s)
 | []=>by simp [uO,sX]
 | x::l=>by
  unfold uO
  split
  ·exact List.Perm.refl _
  ·rename_i h
   have hne:x.key≠b.key:=by omega
   have e:sX b.key (x::l)=x::sX b.key l:=by simp [sX,hne]
   rw [e]
   exact ((aBr b l).cons x).trans (List.Perm.swap b x _)
theorem zQ {k:Int} {s:List Body} {x:Body}:x∈sX k s↔x∈s∧x.key≠k:=by simp [sX]
theorem dA.cut {s:List Body} (h:dA s) (k:Int):dA (sX k s):=List.Pairwise.sublist List.filter_sublist h
theorem dA.put {b:Body}:∀ {s:List Body},dA s→dA (uO b false s)
 | [],_=>by simp [uO,dA]
 | x::l,h=>by
  unfold uO
  have hx:∀ y∈l,x.key < y.key:=(List.pairwise_cons.1 h).1
  have hl:dA l:=(List.pairwise_cons.1 h).2
  split
  ·rename_i hb
   refine List.pairwise_cons.2 ⟨fun y hy => ?_,h.cut _⟩
   obtain ⟨h1,h2⟩:=zQ.1 hy
   rcases List.mem_cons.1 h1 with rfl | h1
   ·omega
   ·have:=hx y h1;omega
  ·rename_i hb
   refine List.pairwise_cons.2 ⟨fun y hy => ?_,dA.put hl⟩
   have:=(aBr b l).mem_iff.1 hy
   rcases List.mem_cons.1 this with rfl | h1
   ·omega
   ·exact hx y (zQ.1 h1).1
def pD (s:List Body) (b:Body):List Body × Int :=
 if check b≠0 then (s,check b) else if 0≤dR b.key s then (s,10) else if 4096≤s.length then (s,12) else (xY s b false,0)
def rD (k:Int):Body:=⟨k,0,0,0,0,0,0,0,0,0⟩
def iH (s:List Body) (k:Int):List Body × Int:=if dR k s < 0 then (s,11) else (xY s (rD k) true,0)
def bHm (s:List Body) (b:Body):List Body × Int :=
 if check b≠0 then (s,check b) else if dR b.key s < 0 then (s,11) else (xY s b false,0)
structure Rel (m s:List Body):Prop where
 perm:s.Perm m
 sorted:dA s
theorem Rel.nil:Rel [] []:=⟨List.Perm.refl _,by simp [dA]⟩
theorem dA.unique {s t:List Body} (h:dA s) (h':dA t) (p:s.Perm t):s=t :=
 List.Perm.eq_of_pairwise (le:=fun (a b:Body)=>a.key < b.key) (fun a b _ _ h1 h2=>by omega) h h' p
theorem dA.keys {s:List Body} (h:dA s):kY s:=by
 unfold kY List.Nodup
 rw [List.pairwise_map]
 exact h.imp (fun h=>by omega)
theorem Rel.keys {m s:List Body} (R:Rel m s):kY m:=R.sorted.keys.perm R.perm.symm
theorem Rel.find {m s:List Body} (R:Rel m s) (k:Int):dR k s < 0↔dR k m < 0:=by
 rw [oB,oB]
 exact ⟨fun h b hb=>h b (R.perm.mem_iff.2 hb),fun h b hb=>h b (R.perm.mem_iff.1 hb)⟩
theorem aJs {k:Int} {s:List Body} (h:dR k s < 0):sX k s=s:=List.filter_eq_self.2 fun x hx=>by simpa using oB.1 h x hx
theorem Rel.put {m s:List Body} (R:Rel m s) (b:Body) {m':List Body} (h:m'.Perm (b::sX b.key m)):Rel m' (xY s b false):=by
 rw [aXh]
 exact ⟨((aBr b s).trans ((R.perm.filter _).cons b)).trans h.symm,R.sorted.put⟩
theorem Rel.add {m s:List Body} (R:Rel m s) (b:Body):Rel (pC m b).1 (pD s b).1∧(pD s b).2=(pC m b).2:=by
 unfold pC pD
 have hf:=R.find b.key
 have hl:=R.perm.length_eq
 by_cases h1:check b≠0
 ·rw [if_pos h1,if_pos h1];exact ⟨R,rfl⟩
 ·rw [if_neg h1,if_neg h1]
  by_cases h2:0≤dR b.key m
  ·have h2':0≤dR b.key s:=by omega
   rw [if_pos h2,if_pos h2'];exact ⟨R,rfl⟩
  ·have h2':¬ 0≤dR b.key s:=by omega
   rw [if_neg h2,if_neg h2',hl]
   by_cases h3:4096≤m.length
   ·rw [if_pos h3,if_pos h3];exact ⟨R,rfl⟩
   ·rw [if_neg h3,if_neg h3]
    refine ⟨R.put b ?_,Z⟩
    rw [aJs (by omega)]
    exact List.perm_append_singleton b m
theorem xO {m:List Body} (h:kY m) {i:Nat} {b:Body} (hi:m[i]? = some b):m.eraseIdx i=sX b.key m:=by
 have e:m=m.take i++b::m.drop (i+1):=by
  have hlt:=(List.getElem?_eq_some_iff.1 hi).1
  have hb:m[i]=b:=(List.getElem?_eq_some_iff.1 hi).2
  rw [← hb,← List.drop_eq_getElem_cons hlt,List.take_append_drop]
 have hne:=aJy h hi
 rw [List.eraseIdx_eq_take_drop_succ] at hne ⊢
 conv=>rhs;rw [e]
 unfold sX
 rw [List.filter_append,List.filter_cons]
 simp only [ne_eq,not_true_eq_false,decide_false,Bool.false_eq_true,if_false]
 rw [List.filter_eq_self.2 (fun x hx=>by simpa using hne x (List.mem_append_left _ hx)),List.filter_eq_self.2 (fun x hx=>by simpa using hne x (List.mem_append_right _ hx))]
theorem Rel.remove {m s:List Body} (R:Rel m s) (k:Int):Rel (mJ m k).1 (iH s k).1∧(iH s k).2=(mJ m k).2:=by
 unfold mJ iH
 have hf:=R.find k
 by_cases h:dR k m < 0
 ·rw [if_pos h,if_pos (hf.2 h)];exact ⟨R,rfl⟩
 ·rw [if_neg h,if_neg (fun h'=>h (hf.1 h'))]
  refine ⟨?_,Z⟩
  rcases eP k m with ⟨h1,_⟩ | ⟨i,b,h1,h2,h3⟩
  ·omega
  ·rw [h3,Int.toNat_natCast,aXh]
   have hlt:=(List.getElem?_eq_some_iff.1 h1).1
   have hk:(rD k).key=b.key:=h2.symm
   have he:uO (rD k) true s=sX b.key s:=by unfold uO;rw [hk]
   refine ⟨?_,by rw [he];exact R.sorted.cut _⟩
   show (uO (rD k) true s).Perm _
   rw [he]
   exact (R.perm.filter _).trans ((List.Perm.of_eq (xO R.keys h1).symm).trans (rZ hlt).symm)
theorem bHo {m:List Body} {i:Nat} {x:Body} (hi:i < m.length):(m.set i x).Perm (x::m.eraseIdx i):=by
 rw [List.set_eq_take_append_cons_drop,if_pos hi,List.eraseIdx_eq_take_drop_succ]
 exact List.perm_middle
theorem Rel.set {m s:List Body} (R:Rel m s) (b:Body):Rel (tR m b).1 (bHm s b).1∧(bHm s b).2=(tR m b).2:=by
 unfold tR bHm
 have hf:=R.find b.key
 by_cases h1:check b≠0
 ·rw [if_pos h1,if_pos h1];exact ⟨R,rfl⟩
 ·rw [if_neg h1,if_neg h1]
  by_cases h:dR b.key m < 0
  ·rw [if_pos h,if_pos (hf.2 h)];exact ⟨R,rfl⟩
  ·rw [if_neg h,if_neg (fun h'=>h (hf.1 h'))]
   refine ⟨?_,Z⟩
   rcases eP b.key m with ⟨h1,_⟩ | ⟨i,c,h1,h2,h3⟩
   ·omega
   ·rw [h3,Int.toNat_natCast]
    have hlt:=(List.getElem?_eq_some_iff.1 h1).1
    refine R.put b ((bHo hlt).trans ?_)
    rw [xO R.keys h1,h2]
theorem Rel.get {m s:List Body} (R:Rel m s) (k:Int):(dR k s < 0∧aFx m k=(rD 0,11))∨∃ (i:Nat) (b:Body),dR k s=(i:Int)∧s[i]? = some b∧aFx m k=(b,0):=by
 rcases eP k s with ⟨h1,h2⟩ | ⟨i,b,h1,h2,h3⟩
 ·have hm:dR k m < 0:=(R.find k).1 (by omega)
  refine .inl ⟨by omega, ?_⟩
  unfold aFx
  rw [if_pos hm]
  rfl
 ·refine .inr ⟨i,b,h3,h1, ?_⟩
  have hb:b∈m:=R.perm.mem_iff.1 (List.mem_of_getElem? h1)
  obtain ⟨j,hj⟩:=List.getElem?_of_mem hb
  have:=uJ R.keys hj
  rw [h2] at this
  exact aBd this hj
theorem yP {a b:Int}:qI a b < 0↔a < b:=by unfold qI;(repeat' split) <;> omega
def aTg (b:Body):List Body→List Body
 | []=>[b]
 | x::l=>if b.key≤x.key then b::x::l else x::aTg b l
def aDg (m:List Body):List Body:=m.foldr aTg []
theorem aBh (b:Body):∀ l:List Body,(aTg b l).Perm (b::l)
 | []=>List.Perm.refl _
 | x::l=>by
  unfold aTg
  split
  ·exact List.Perm.refl _
  ·exact ((aBh b l).cons x).trans (List.Perm.swap b x l)
theorem qO:∀ m:List Body,(aDg m).Perm m
 | []=>List.Perm.refl _
 | b::m=>(aBh b (aDg m)).trans ((qO m).cons b)
def Up (s:List Body):Prop:=s.Pairwise (fun a b=>a.key≤b.key)
theorem aWx (b:Body):∀ {l:List Body},Up l→Up (aTg b l)
 | [],_=>by simp [aTg,Up]
 | x::l,h=>by
  unfold aTg
  have hx:∀ y∈l,x.key≤y.key:=(List.pairwise_cons.1 h).1
  split
  ·rename_i hb
   refine List.pairwise_cons.2 ⟨fun y hy => ?_,h⟩
   rcases List.mem_cons.1 hy with rfl | hy
   ·exact hb
   ·have:=hx y hy;omega
  ·refine List.pairwise_cons.2 ⟨fun y hy => ?_,aWx b (List.pairwise_cons.1 h).2⟩
   have:=(aBh b l).mem_iff.1 hy
   rcases List.mem_cons.1 this with rfl | h1
   ·omega
   ·exact hx y h1
theorem aHj:∀ m:List Body,Up (aDg m)
 | []=>by simp [aDg,Up]
 | b::m=>aWx b (aHj m)
theorem aBz {s:List Body} (h:Up s) (hk:kY s):dA s:=by
 unfold Up at h
 unfold kY List.Nodup at hk
 rw [List.pairwise_map] at hk
 exact (List.Pairwise.and h hk).imp (fun ⟨h1,h2⟩=>by omega)
theorem bBj {s t:List Body} (h:Up s) (h':Up t) (p:s.Perm t) (hk:kY s):s=t:=(aBz h hk).unique (aBz h' (hk.perm p.symm)) p
theorem bBc {m:List Body} (hk:kY m):Rel m (aDg m):=⟨qO m,aBz (aHj m) (hk.perm (qO m))⟩
theorem Rel.eq {m s:List Body} (R:Rel m s):aDg m=s:=(bBc R.keys).sorted.unique R.sorted ((qO m).trans R.perm.symm)
end Go.Bil
namespace Go.Bil
structure InB (b:Body):Prop where
 key:0≤b.key∧b.key≤4294967295
 radius : -2147483648≤b.radius∧b.radius≤2147483647
 ax : -2147483648≤b.ax∧b.ax≤2147483647
 ay : -2147483648≤b.ay∧b.ay≤2147483647
 mass : -2147483648≤b.mass∧b.mass≤2147483647
 bounce : -2147483648≤b.bounce∧b.bounce≤2147483647
 px : -2147483648≤b.px∧b.px≤2147483647
 py : -2147483648≤b.py∧b.py≤2147483647
 vx : -2147483648≤b.vx∧b.vx≤2147483647
 vy : -2147483648≤b.vy∧b.vy≤2147483647
theorem bOx (l:List Value) (h:oS [.u32,.i32,.i32,.i32,.i32,.i32,.i32,.i32,.i32,.i32] l):∃ b,l=aF b∧InB b:=by
 obtain ⟨z0,l0,rfl,w0,h0⟩:=iA h
 obtain ⟨z1,l1,rfl,w1,h1⟩:=iA h0
 obtain ⟨z2,l2,rfl,w2,h2⟩:=iA h1
 obtain ⟨z3,l3,rfl,w3,h3⟩:=iA h2
 obtain ⟨z4,l4,rfl,w4,h4⟩:=iA h3
 obtain ⟨z5,l5,rfl,w5,h5⟩:=iA h4
 obtain ⟨z6,l6,rfl,w6,h6⟩:=iA h5
 obtain ⟨z7,l7,rfl,w7,h7⟩:=iA h6
 obtain ⟨z8,l8,rfl,w8,h8⟩:=iA h7
 obtain ⟨z9,l9,rfl,w9,h9⟩:=iA h8
 obtain rfl:=uL h9
 exact ⟨⟨z0,z1,z2,z3,z4,z5,z6,z7,z8,z9⟩,Z,⟨w0,w1,w2,w3,w4,w5,w6,w7,w8,w9⟩⟩
end Go.Bil

namespace Go.Bil
structure StV where
 A:Option Addr
 n:Nat
 c:Nat
 p:Option Nat
 er:eN
 em:eN
def aJn (l:List Body):List Body:=l.foldl (fun m b=>(pC m b).1) []
theorem aEo {l:List Body} {k:Nat} {x:Body} (h:l[k]? = some x):aJn (l.take (k+1))=(pC (aJn (l.take k)) x).1:=by
 unfold aJn
 rw [cB h,List.foldl_append]
 rfl
def aDi (l:List Body):List Body:=l.filter (fun b=>decide (check b=0))
theorem bCd {m:List Body} {x:Body} (hf:∀ b∈m,b.key≠x.key) (hl:m.length < 4096):pC (aDi m) x=(aDi (m++[x]),check x):=by
 have hle:(aDi m).length≤m.length:=List.length_filter_le _ _
 unfold pC
 by_cases h:check x=0
 ·rw [if_neg (by omega),if_neg (by
   have:dR x.key (aDi m) < 0:=oB.2 fun b hb=>hf b (List.mem_filter.1 hb).1
   omega),if_neg (by omega),h]
  simp [aDi,List.filter_append,h]
 ·rw [if_pos h]
  simp [aDi,List.filter_append,h]
theorem aPx {l:List Body} (h:kY l) {k:Nat} {x:Body} (hx:l[k]? = some x):∀ b∈l.take k,b.key≠x.key:=by
 intro b hb e
 obtain ⟨j,hj⟩:=List.getElem?_of_mem hb
 rw [List.getElem?_take] at hj
 split at hj
 ·rename_i hlt
  have:=h.inj hj hx e
  omega
 ·cases hj
theorem aEp {l:List Body} (h:kY l) (hl:l.length≤4096):∀ k,k≤l.length→aJn (l.take k)=aDi (l.take k)
 | 0,_=>by simp [aJn,aDi]
 | k+1,hk=>by
  obtain ⟨x,hx⟩:=cT (xs:=l) (k:=k) rfl (by omega)
  rw [aEo hx,aEp h hl k (by omega),bCd (aPx h hx) (by rw [List.length_take];omega),cB hx]
theorem aDd {m:List Body} (hk:kY m) (k:Int):(mJ m k).1.Perm (sX k m):=by
 unfold mJ
 by_cases h:dR k m < 0
 ·rw [if_pos h,aJs h]
 ·rw [if_neg h]
  rcases eP k m with ⟨h1,_⟩ | ⟨i,b,h1,h2,h3⟩
  ·omega
  ·rw [h3,Int.toNat_natCast]
   have hlt:=(List.getElem?_eq_some_iff.1 h1).1
   have:=(rZ hlt).trans (List.Perm.of_eq (xO hk h1))
   rwa [h2] at this
end Go.Bil
namespace Go.Bil
structure StepI where
 kind:Int
 body:Body
instance:Inhabited StepI:=⟨⟨0,rD 0⟩⟩
end Go.Bil

namespace Go.Bil
def nH:List Body→Int
 | []=>0
 | b::l=>if check b≠0 then check b else nH l
def pN (xs:List Body):Int:=if 4096 < xs.length then 12 else nH xs
theorem oK:∀ {xs:List Body},(∀ (j:Nat) (c:Body),xs[j]? = some c→check c=0)→nH xs=0
 | [],_=>rfl
 | b::l,h=>by
  unfold nH
  rw [if_neg (by have:=h 0 b (by simp);omega)]
  exact oK fun j c hj=>h (j+1) c (by simpa using hj)
theorem uH:∀ {xs:List Body} {k:Nat} {b:Body},xs[k]? = some b→check b≠0→(∀ (j:Nat) (c:Body),j < k→xs[j]? = some c→check c=0)→nH xs=check b
 | [],_,_,h,_,_=>by simp at h
 | a::l,0,b,h,hb,_=>by
  simp only [List.getElem?_cons_zero,Option.some.injEq] at h
  subst h
  unfold nH
  rw [if_pos hb]
 | a::l,k+1,b,h,hb,hn=>by
  unfold nH
  rw [if_neg (by have:=hn 0 a (by omega) (by simp);omega)]
  exact uH (by simpa using h) hb fun j c hj hc=>hn (j+1) c (by omega) (by simpa using hc)
theorem yU:∀ {xs:List Body},nH xs=0→∀ b∈xs,check b=0
 | [],_,b,hb=>by simp at hb
 | a::l,h,b,hb=>by
  unfold nH at h
  by_cases ha:check a=0
  ·rw [if_neg (by omega)] at h
   rcases List.mem_cons.1 hb with rfl | hb
   ·exact ha
   ·exact yU h b hb
  ·rw [if_pos ha] at h;exact absurd h ha
theorem bEp {xs:List Body} (h:pN xs=0):xs.length≤4096∧∀ b∈xs,check b=0:=by
 unfold pN at h
 split at h
 ·omega
 ·exact ⟨by omega,yU h⟩
theorem bEo {xs:List Body} (hl:xs.length≤4096) (h:∀ b∈xs,check b=0):pN xs=0:=by
 unfold pN
 rw [if_neg (by omega)]
 exact oK fun j c hj=>h c (List.mem_of_getElem? hj)
def aIh:List Body→Bool
 | x::y::l=>decide (x.key < y.key) && aIh (y::l)
 | _=>true
theorem vI:∀ {xs:List Body},(∀ (i:Nat) (x y:Body),xs[i]? = some x→xs[i+1]? = some y→x.key < y.key)→aIh xs=true
 | [],_=>rfl
 | [_],_=>rfl
 | x::y::l,h=>by
  unfold aIh
  rw [Bool.and_eq_true]
  exact ⟨decide_eq_true (h 0 x y (by simp) (by simp)),vI fun i a b ha hb=>h (i+1) a b (by simpa using ha) (by simpa using hb)⟩
theorem tS:∀ {xs:List Body},aIh xs=true→dA xs
 | [],_=>by simp [dA]
 | [_],_=>by simp [dA]
 | x::y::l,h=>by
  unfold aIh at h
  rw [Bool.and_eq_true,decide_eq_true_eq] at h
  have ih:=tS h.2
  refine List.pairwise_cons.2 ⟨fun z hz => ?_,ih⟩
  rcases List.mem_cons.1 hz with rfl | hz
  ·exact h.1
  ·have:=(List.pairwise_cons.1 ih).1 z hz;have:=h.1;omega
theorem aRl {xs:List Body} (h:dA xs):aIh xs=true:=vI fun i x y hx hy=>by
 have hi:=List.getElem?_eq_some_iff.1 hx
 have hj:=List.getElem?_eq_some_iff.1 hy
 have:=List.pairwise_iff_getElem.1 h i (i+1) hi.1 hj.1 (by omega)
 rwa [hi.2,hj.2] at this
theorem aEq {xs:List Body} {i:Nat} {x y:Body} (hx:xs[i]? = some x) (hy:xs[i+1]? = some y) (h:¬ x.key < y.key):aIh xs=false:=by
 cases e:aIh xs with
 | false=>rfl
 | true =>
  exfalso
  have hi:=List.getElem?_eq_some_iff.1 hx
  have hj:=List.getElem?_eq_some_iff.1 hy
  have:=List.pairwise_iff_getElem.1 (tS e) i (i+1) hi.1 hj.1 (by omega)
  rw [hi.2,hj.2] at this
  exact h this
def jH (xs:List Body):Int:=if pN xs≠0 then pN xs else if aIh xs=true then 0 else 10
instance (m:List Body):Decidable (kY m):=by unfold kY;infer_instance
def aCo (key:Int):List Body→Nat
 | []=>0
 | b::l=>(if b.key < key then 1 else 0)+aCo key l
theorem zN {key:Int}:∀ {xs:List Body} {k:Nat},k≤xs.length→(∀ (j:Nat) (c:Body),j < k→xs[j]? = some c→c.key < key)→(∀ (j:Nat) (c:Body),k≤j→xs[j]? = some c→¬ c.key < key)→aCo key xs=k
 | [],k,hk,_,_=>by simp at hk;simp [aCo,hk]
 | b::l,0,_,_,h2=>by
  unfold aCo
  rw [if_neg (h2 0 b (Nat.le_refl _) (by simp)),zN (k:=0) (by omega) (fun j c hj=>by omega) (fun j c _ hc=>h2 (j+1) c (by omega) (by simpa using hc))]
 | b::l,k+1,hk,h1,h2=>by
  unfold aCo
  rw [if_pos (h1 0 b (by omega) (by simp)),zN (k:=k) (by simpa using hk) (fun j c hj hc=>h1 (j+1) c (by omega) (by simpa using hc)) (fun j c hj hc=>h2 (j+1) c (by omega) (by simpa using hc))]
  omega
def iO (k:Int):List Value:=[.int .u32 k]
end Go.Bil
namespace Go.Bil
theorem aDh {xs:List Body} (h:dA xs) {p q:Nat} {a b:Body} (hpq:p≤q) (ha:xs[p]? = some a) (hb:xs[q]? = some b):a.key≤b.key:=by
 by_cases e:p=q
 ·subst e
  rw [ha] at hb
  injection hb with hb
  rw [hb];exact Int.le_refl _
 ·have hi:=List.getElem?_eq_some_iff.1 ha
  have hj:=List.getElem?_eq_some_iff.1 hb
  have:=List.pairwise_iff_getElem.1 h p q hi.1 hj.1 (by omega)
  rw [hi.2,hj.2] at this
  omega
theorem bXb (i j:Nat):((i:Int)+(j:Int)).fdiv (2 ^ (min (1:Int).toNat IntKind.u64.bits))=(((i+j) / 2:Nat):Int):=by
 have e:(2:Int) ^ (min (1:Int).toNat IntKind.u64.bits)=2:=by decide
 rw [e,Int.fdiv_eq_ediv_of_nonneg _ (by omega)]
 omega
theorem uZ {a b a' b':Value} (h1:a=a') (h2:b=b'):Value.tuple #[a,b]=Value.tuple #[a',b']:=by rw [h1,h2]
theorem aYx {a b:Int}:qI a b=0↔a=b:=by unfold qI;(repeat' split) <;> omega
theorem aZl {key:Int} {xs:List Body} (hs:dA xs) {i:Nat} {b:Body} (hb:xs[i]? = some b) (h1:∀ (j:Nat) (c:Body),j < i→xs[j]? = some c→c.key < key) (h2:∀ (j:Nat) (c:Body),i≤j→xs[j]? = some c→¬ c.key < key):qI b.key key=0↔0≤dR key xs:=by
 rw [aYx]
 constructor
 ·intro e
  rcases eP key xs with ⟨_,h⟩ | ⟨_,_,_,_,h⟩
  ·exact absurd e (h b (List.mem_of_getElem? hb))
  ·omega
 ·intro h
  rcases eP key xs with ⟨h',_⟩ | ⟨j,c,hc,hk,_⟩
  ·omega
  ·have hij:i≤j:=by
    rcases Nat.lt_or_ge j i with hlt | hge
    ·have:=h1 j c hlt hc;omega
    ·exact hge
   have:=aDh hs hij hb hc
   have:=h2 i b (Nat.le_refl _) hb
   omega
theorem aTc {key:Int} {xs:List Body} (h1:∀ (j:Nat) (c:Body),j < xs.length→xs[j]? = some c→c.key < key):¬ 0≤dR key xs:=by
 intro h
 rcases eP key xs with ⟨h',_⟩ | ⟨j,c,hc,hk,_⟩
 ·omega
 ·have:=h1 j c (List.getElem?_eq_some_iff.1 hc).1 hc
  omega
end Go.Bil
namespace Go.Bil
theorem bFu {α:Type} {xs ys:List α} {n m:Nat} (h1:xs.length=n) (h2:ys.length=m) (hnm:n=m) (h:∀ (j:Nat) (x:α),j < n→xs[j]? = some x→ys[j]? = some x):xs=ys:=by
 apply List.ext_getElem?
 intro j
 by_cases hj:j < xs.length
 ·obtain ⟨x,hx⟩:=cT (k:=j) rfl hj
  rw [hx,h j x (by omega) hx]
 ·rw [List.getElem?_eq_none (by omega),List.getElem?_eq_none (by omega)]
end Go.Bil
namespace Go.Bil
end Go.Bil
namespace Go.Bil
theorem aTj (k:Int):∀ y∈[iO k],y.length=1∧∀ u∈y,one u=true:=by
 intro y hy
 simp only [List.mem_singleton] at hy
 subst hy
 exact ⟨Z,aO Z⟩
end Go.Bil
namespace Go.Bil
structure Mg (xs ys:List Body) (i k:Nat):Prop where
 sx:dA xs
 sy:dA ys
 yx:∀ (p:Nat) (a b:Body),p < k→ys[p]? = some a→xs[i]? = some b→a.key < b.key
 xy:∀ (p:Nat) (a b:Body),p < i→xs[p]? = some a→ys[k]? = some b→a.key < b.key
theorem Mg.swap {xs ys:List Body} {i k:Nat} (h:Mg xs ys i k):Mg ys xs k i:=⟨h.sy,h.sx,h.xy,h.yx⟩
theorem fN {xs:List Body} (h:dA xs) {p q:Nat} {a b:Body} (hpq:p < q) (ha:xs[p]? = some a) (hb:xs[q]? = some b):a.key < b.key:=by
 have hi:=List.getElem?_eq_some_iff.1 ha
 have hj:=List.getElem?_eq_some_iff.1 hb
 have:=List.pairwise_iff_getElem.1 h p q hi.1 hj.1 hpq
 rwa [hi.2,hj.2] at this
theorem Mg.x {xs ys:List Body} {i k:Nat} {a:Body} (h:Mg xs ys i k) (ha:xs[i]? = some a) (hb:∀ b,ys[k]? = some b→a.key < b.key):Mg xs ys (i+1) k∧dR a.key ys < 0:=by
 refine ⟨⟨h.sx,h.sy,fun p y x hp hy hx => ?_,fun p x y hp hx hy => ?_⟩,oB.2 fun y hy => ?_⟩
 ·have:=h.yx p y a hp hy ha
  have:=fN h.sx (Nat.lt_succ_self i) ha hx
  omega
 ·by_cases e:p=i
  ·subst e
   rw [ha] at hx
   injection hx with hx
   subst hx
   exact hb y hy
  ·exact h.xy p x y (by omega) hx hy
 ·obtain ⟨q,hq⟩:=List.getElem?_of_mem hy
  rcases Nat.lt_or_ge q k with hlt | hge
  ·have:=h.yx q y a hlt hq ha;omega
  ·obtain ⟨b,hbk⟩:=cT (xs:=ys) (k:=k) rfl (by have:=(List.getElem?_eq_some_iff.1 hq).1;omega)
   have h1:=hb b hbk
   have h2:=aDh h.sy hge hbk hq
   omega
theorem Mg.y {xs ys:List Body} {i k:Nat} {b:Body} (h:Mg xs ys i k) (hb:ys[k]? = some b) (ha:∀ a,xs[i]? = some a→b.key < a.key):Mg xs ys i (k+1)∧dR b.key xs < 0:=by
 obtain ⟨h1,h2⟩:=h.swap.x hb ha
 exact ⟨h1.swap,h2⟩
theorem Mg.both {xs ys:List Body} {i k:Nat} {a b:Body} (h:Mg xs ys i k) (ha:xs[i]? = some a) (hb:ys[k]? = some b) (hk:a.key=b.key):Mg xs ys (i+1) (k+1)∧dR a.key ys=(k:Int)∧dR b.key xs=(i:Int):=by
 refine ⟨⟨h.sx,h.sy,fun p y x hp hy hx => ?_,fun p x y hp hx hy => ?_⟩, ?_, ?_⟩
 ·have h1:=fN h.sx (Nat.lt_succ_self i) ha hx
  have h2:=aDh h.sy (show p≤k by omega) hy hb
  omega
 ·have h1:=fN h.sy (Nat.lt_succ_self k) hb hy
  have h2:=aDh h.sx (show p≤i by omega) hx ha
  omega
 ·exact yT hb hk.symm fun j c hj hc=>by have:=fN h.sy hj hc hb;omega
 ·exact yT ha hk fun j c hj hc=>by have:=fN h.sx hj hc ha;omega
end Go.Bil
namespace Go.Bil
end Go.Bil
namespace Go.Bil
end Go.Bil
namespace Go.Bil
end Go.Bil
namespace Go.Bil
end Go.Bil
namespace Go.Bil
end Go.Bil
namespace Go.Bil
end Go.Bil

namespace Go.Bil
theorem aYv {v:List Body} (he:pN v=0) (hs:dA v):jH v=0:=by
 unfold jH
 rw [if_neg (by omega),if_pos (aRl hs)]
end Go.Bil

namespace Go.Bil
structure Bx where
 x0:Int
 y0:Int
 x1:Int
 y1:Int
 deriving DecidableEq,Inhabited
def eF (a:Bx):List Value:=[.int .i32 a.x0,.int .i32 a.y0,.int .i32 a.x1,.int .i32 a.y1]
def aSy (b:Body):Int:=max b.ax (-b.ax)+b.radius
def aSz (b:Body):Int:=max b.ay (-b.ay)+b.radius
def iD (b:Body):Bx:=⟨b.px - aSy b,b.py - aSz b,b.px+aSy b,b.py+aSz b⟩
abbrev kI (a:Bx):Prop:=a.x1 < a.x0∨a.y1 < a.y0
def iY:Bx:=⟨1,0,0,0⟩
def aKg (a b:Bx):Bx:=if kI ⟨max a.x0 b.x0,max a.y0 b.y0,min a.x1 b.x1,min a.y1 b.y1⟩ then iY else ⟨max a.x0 b.x0,max a.y0 b.y0,min a.x1 b.x1,min a.y1 b.y1⟩
abbrev ovl (a b:Bx):Prop:=(a.x0≤a.x1∧a.y0≤a.y1)∧(b.x0≤b.x1∧b.y0≤b.y1)∧(a.x0≤b.x1∧b.x0≤a.x1∧a.y0≤b.y1∧b.y0≤a.y1)
theorem bGa (a b:Bx):¬ kI (aKg a b)↔ovl a b:=by
 unfold aKg
 split
 ·rename_i h
  unfold kI at h
  simp only [kI,iY,ovl]
  simp only at h
  omega
 ·rename_i h
  unfold kI at h
  simp only [kI,ovl]
  simp only at h
  omega
structure Okb (b:Body):Prop where
 r:4096≤b.radius∧b.radius≤4194304
 a : -4194304≤b.ax∧b.ax≤4194304 ∧ -4194304≤b.ay∧b.ay≤4194304
 m:0≤b.mass∧b.mass≤1048576
 c:0≤b.bounce∧b.bounce≤65536
 p : -1073741824≤b.px∧b.px≤1073741824 ∧ -1073741824≤b.py∧b.py≤1073741824
 v : -16777216≤b.vx∧b.vx≤16777216 ∧ -16777216≤b.vy∧b.vy≤16777216
theorem aOu {b:Body} (h:check b=0):Okb b:=by
 by_cases h1:4096≤b.radius∧b.radius≤4194304
 ·by_cases h2 : -4194304≤b.ax∧b.ax≤4194304 ∧ -4194304≤b.ay∧b.ay≤4194304
  ·by_cases h3:0≤b.mass∧b.mass≤1048576
   ·by_cases h4:0≤b.bounce∧b.bounce≤65536
    ·by_cases h5 : -1073741824≤b.px∧b.px≤1073741824 ∧ -1073741824≤b.py∧b.py≤1073741824
     ·by_cases h6 : -16777216≤b.vx∧b.vx≤16777216 ∧ -16777216≤b.vy∧b.vy≤16777216
      ·exact ⟨h1,h2,h3,h4,h5,h6⟩
      ·rw [aWd b h1 h2 h3 h4 h5 h6] at h;omega
     ·rw [aWc b h1 h2 h3 h4 h5] at h;omega
    ·rw [aWb b h1 h2 h3 h4] at h;omega
   ·rw [aWa b h1 h2 h3] at h;omega
  ·rw [aVz b h1 h2] at h;omega
 ·rw [aVy b h1] at h;omega
theorem bEs {b:Body} (h:Okb b):4096≤aSy b∧aSy b≤8388608∧4096≤aSz b∧aSz b≤8388608:=by
 have:=h.r
 have:=h.a
 unfold aSy aSz
 omega
structure Okx (a:Bx):Prop where
 x0 : -2147483648≤a.x0∧a.x0≤2147483647
 y0 : -2147483648≤a.y0∧a.y0≤2147483647
 x1 : -2147483648≤a.x1∧a.x1≤2147483647
 y1 : -2147483648≤a.y1∧a.y1≤2147483647
theorem bOz {b:Body} (h:Okb b):Okx (iD b):=by
 have h1:=bEs h
 have h2:=h.p
 constructor <;> simp only [iD] <;> omega
end Go.Bil

namespace Go.Bil
def dY (c:Int × Int):List Value:=[.int .i32 c.1,.int .i32 c.2]
def qH (x:Int):Int:=x.fdiv 4194304
theorem bOj (x:Int):x.fdiv (2 ^ (min (22:Int).toNat IntKind.i32.bits))=qH x:=rfl
theorem aLx (x:Int):qH x=x / 4194304:=by unfold qH;exact Int.fdiv_eq_ediv_of_nonneg x (by decide)
theorem sV {x:Int} (h0 : -2147483648≤x) (h1:x≤2147483647) : -512≤qH x∧qH x≤511:=by rw [aLx];omega
theorem mS {x y:Int} (h:x≤y):qH x≤qH y:=by rw [aLx,aLx];omega
def loC (a:Bx):Int × Int:=if kI a then (0,0) else (qH a.x0,qH a.y0)
def hiC (a:Bx):Int × Int:=if kI a then (0,0) else (qH a.x1,qH a.y1)
def nX (lo hi:Int × Int):Nat:=(hi.1 - lo.1+1).toNat
def nY (lo hi:Int × Int):Nat:=(hi.2 - lo.2+1).toNat
def aHb (lo:Int × Int) (i j:Nat):List (Int × Int):=(List.range i).map (fun (p:Nat)=>(lo.1+(p:Int),lo.2+(j:Int)))
def rH (lo hi:Int × Int) (j:Nat):List (Int × Int):=(List.range j).flatMap (fun q=>aHb lo (nX lo hi) q)
def aAu (ok:Bool) (lo hi:Int × Int):List (Int × Int):=if ok then rH lo hi (nY lo hi) else []
def kD (a:Bx):List (Int × Int):=aAu (decide (¬ kI a)) (loC a) (hiC a)
theorem aRa (lo:Int × Int) (i j:Nat):(aHb lo i j).length=i:=by simp [aHb]
theorem bAu (lo:Int × Int) (i j:Nat):aHb lo (i+1) j=aHb lo i j++[(lo.1+(i:Int),lo.2+(j:Int))]:=by simp [aHb,List.range_succ]
theorem aHc (lo hi:Int × Int) (j:Nat):rH lo hi (j+1)=rH lo hi j++aHb lo (nX lo hi) j:=by simp [rH,List.range_succ]
theorem aBt (lo hi:Int × Int):∀ j,(rH lo hi j).length=j*nX lo hi
 | 0=>by simp [rH]
 | j+1=>by rw [aHc,List.length_append,aBt lo hi j,aRa,Nat.add_mul,Nat.one_mul]
theorem bHe {lo hi:Int × Int} {i j:Nat} (hx:nX lo hi≤1024) (hj:j < 1024) (hi':i < nX lo hi):(rH lo hi j).length+i < 1048576:=by
 rw [aBt]
 have:j*nX lo hi≤1023*1024:=Nat.mul_le_mul (by omega) hx
 omega
theorem bHd {lo hi:Int × Int} {j:Nat} (hx:nX lo hi≤1024) (hj:j≤1024):(rH lo hi j).length≤1048576:=by
 rw [aBt]
 exact Nat.mul_le_mul hj hx
theorem bAb {lo hi:Int × Int} {n:Nat} {c:Int × Int}:c∈rH lo hi n↔∃ q p:Nat,q < n∧p < nX lo hi∧c=(lo.1+(p:Int),lo.2+(q:Int)):=by
 simp only [rH,aHb,List.mem_flatMap,List.mem_range,List.mem_map]
 constructor
 ·rintro ⟨q,hq,p,hp,rfl⟩;exact ⟨q,p,hq,hp,rfl⟩
 ·rintro ⟨q,p,hq,hp,rfl⟩;exact ⟨q,hq,p,hp,rfl⟩
theorem aGi {a:Bx} {c:Int × Int}:c∈kD a↔¬ kI a∧qH a.x0≤c.1∧c.1≤qH a.x1∧qH a.y0≤c.2∧c.2≤qH a.y1:=by
 unfold kD aAu
 by_cases h:kI a
 ·simp [h]
 ·rw [if_pos (by simpa using h),bAb]
  simp only [loC,hiC,if_neg h,nX,nY]
  constructor
  ·rintro ⟨q,p,hq,hp,rfl⟩
   refine ⟨h, ?_⟩
   simp only
   omega
  ·rintro ⟨_,h1,h2,h3,h4⟩
   refine ⟨(c.2 - qH a.y0).toNat,(c.1 - qH a.x0).toNat,by omega,by omega, ?_⟩
   apply Prod.ext <;> simp only <;> omega
structure Okc (c:Int × Int):Prop where
 x : -512≤c.1∧c.1≤511
 y : -512≤c.2∧c.2≤511
theorem aTm {a:Bx} (h:Okx a):Okc (loC a):=by
 unfold loC
 split
 ·exact ⟨by decide,by decide⟩
 ·exact ⟨sV h.x0.1 h.x0.2,sV h.y0.1 h.y0.2⟩
theorem aTe {a:Bx} (h:Okx a):Okc (hiC a):=by
 unfold hiC
 split
 ·exact ⟨by decide,by decide⟩
 ·exact ⟨sV h.x1.1 h.x1.2,sV h.y1.1 h.y1.2⟩
theorem bOg {lo hi:Int × Int} (h1:Okc lo) (h2:Okc hi):nX lo hi≤1024:=by
 have:=h1.x;have:=h2.x
 unfold nX
 omega
theorem bOh {lo hi:Int × Int} (h1:Okc lo) (h2:Okc hi):nY lo hi≤1024:=by
 have:=h1.y;have:=h2.y
 unfold nY
 omega
theorem aSm {a:Bx} (h:Okx a):(kD a).length≤1048576:=by
 unfold kD aAu
 split
 ·exact bHd (bOg (aTm h) (aTe h)) (bOh (aTm h) (aTe h))
 ·simp
theorem bGm {a b:Bx} (h:ovl a b):∃ c,c∈kD a∧c∈kD b:=by
 obtain ⟨⟨h1,h2⟩,⟨h3,h4⟩,h5,h6,h7,h8⟩:=h
 refine ⟨(qH (max a.x0 b.x0),qH (max a.y0 b.y0)),aGi.2 ⟨by unfold kI;omega, ?_⟩,aGi.2 ⟨by unfold kI;omega, ?_⟩⟩
 ·exact ⟨mS (by omega),mS (by omega),mS (by omega),mS (by omega)⟩
 ·exact ⟨mS (by omega),mS (by omega),mS (by omega),mS (by omega)⟩
def vK (c:Int × Int):Int :=
 IntKind.u32.wrap ((BitVec.ofInt 32 (IntKind.u32.wrap ((BitVec.ofInt 32 (IntKind.u32.wrap (IntKind.u32.wrap c.1*73856093)) ^^^ BitVec.ofInt 32 (IntKind.u32.wrap (IntKind.u32.wrap c.2*19349663))).toNat)) &&& BitVec.ofInt 32 1023).toNat)
def fK (c:Int × Int):Nat:=(vK c).toNat
theorem oI (c:Int × Int):0≤vK c∧vK c < 1024:=by
 unfold vK
 generalize BitVec.ofInt 32 (IntKind.u32.wrap _)=a
 have h:(a &&& BitVec.ofInt 32 1023).toNat≤1023:=by
  rw [BitVec.toNat_and]
  exact Nat.le_trans Nat.and_le_right (by decide)
 rw [aIb _ (by omega) (by omega)]
 omega
theorem mR (c:Int × Int):fK c < 1024:=by have:=oI c;unfold fK;omega
theorem aYn (c:Int × Int):vK c=(fK c:Int):=by have:=oI c;unfold fK;omega
end Go.Bil

namespace Go.Bil
def cZ (n:Int):List Int:=[n / 16777216 % 256,n / 65536 % 256,n / 256 % 256,n % 256]
def aWv (b:Body):List Int:=[b.key,b.radius,b.ax,b.ay,b.mass,b.bounce,b.px,b.py,b.vx,b.vy]
def nT (b:Body):List Int:=(aWv b).flatMap cZ
def mP:List Int:=[66,73,76,49]
def kN (v:List Body):List Int:=mP++cZ (v.length:Int)++v.flatMap nT
def eJ (l:List Int) (a:Nat):Int:=((l.getD a 0*256+l.getD (a+1) 0)*256+l.getD (a+2) 0)*256+l.getD (a+3) 0
def lG (n:Int):Int:=if 2147483648≤n then n - 4294967296 else n
def mN (l:List Int) (a:Nat):Body:=⟨eJ l a,lG (eJ l (a+4)),lG (eJ l (a+8)),lG (eJ l (a+12)),lG (eJ l (a+16)),lG (eJ l (a+20)),lG (eJ l (a+24)),lG (eJ l (a+28)),lG (eJ l (a+32)),lG (eJ l (a+36))⟩
abbrev aCa (l:List Int):Prop:=8≤l.length∧l.take 4=mP∧(l.length:Int)=8+40*eJ l 4
def pH (l:List Int) (n:Nat):List Body:=(List.range n).map (fun i=>mN l (8+40*i))
def nS (l:List Int):List Body × Int:=if ¬ aCa l then ([],13) else if jH (pH l (eJ l 4).toNat)≠0 then ([],jH (pH l (eJ l 4).toNat)) else (pH l (eJ l 4).toNat,0)
abbrev iK (l:List Int):Prop:=∀ x∈l,0≤x∧x≤255
theorem qD (n:Int):(cZ n).length=4:=rfl
theorem bEq (b:Body):(nT b).length=40:=rfl
theorem aPe (v:List Body):(v.flatMap nT).length=40*v.length:=by
 induction v with
 | nil=>rfl
 | cons b v ih=>rw [List.flatMap_cons,List.length_append,ih,bEq,List.length_cons];omega
theorem aPd (v:List Body):(kN v).length=8+40*v.length:=by
 unfold kN
 rw [List.length_append,List.length_append,aPe,qD]
 rfl
theorem aHx (n:Int):iK (cZ n):=fun x hx=>by
 simp only [cZ,List.mem_cons,List.not_mem_nil,or_false] at hx
 rcases hx with rfl | rfl | rfl | rfl <;> omega
theorem aZh (b:Body):iK (nT b):=fun x hx=>by
 obtain ⟨n,_,h⟩:=List.mem_flatMap.1 hx
 exact aHx n x h
theorem aJw (v:List Body):iK (kN v):=fun x hx=>by
 unfold kN at hx
 rcases List.mem_append.1 hx with h | h
 ·rcases List.mem_append.1 h with h | h
  ·simp only [mP,List.mem_cons,List.not_mem_nil,or_false] at h
   rcases h with rfl | rfl | rfl | rfl <;> omega
  ·exact aHx _ x h
 ·obtain ⟨b,_,h⟩:=List.mem_flatMap.1 h
  exact aZh b x h
theorem wL (n:Int):cZ (n % 4294967296)=cZ n:=by
 unfold cZ
 have h1:n % 4294967296 / 16777216 % 256=n / 16777216 % 256:=by omega
 have h2:n % 4294967296 / 65536 % 256=n / 65536 % 256:=by omega
 have h3:n % 4294967296 / 256 % 256=n / 256 % 256:=by omega
 have h4:n % 4294967296 % 256=n % 256:=by omega
 rw [h1,h2,h3,h4]
theorem bBo (n:Int):cZ (lG n)=cZ n:=by
 unfold lG
 split
 ·rw [← wL (n - 4294967296),← wL n]
  congr 1
  omega
 ·rfl
theorem zH {A L B:List Int} {a:Nat} (ha:A.length=a) {j:Nat} (hj:j < L.length):(A++(L++B)).getD (a+j) 0=L.getD j 0:=by
 subst ha
 rw [List.getD_eq_getElem?_getD,List.getD_eq_getElem?_getD,List.getElem?_append_right (by omega),List.getElem?_append_left (by omega)]
 congr 2
 omega
theorem aKl {A B:List Int} {a:Nat} (ha:A.length=a) (n:Int):eJ (A++(cZ n++B)) a=n % 4294967296:=by
 have h0:(A++(cZ n++B)).getD a 0=n / 16777216 % 256:=zH (j:=0) ha (by rw [qD];omega)
 have h1:(A++(cZ n++B)).getD (a+1) 0=n / 65536 % 256:=zH (j:=1) ha (by rw [qD];omega)
 have h2:(A++(cZ n++B)).getD (a+2) 0=n / 256 % 256:=zH (j:=2) ha (by rw [qD];omega)
 have h3:(A++(cZ n++B)).getD (a+3) 0=n % 256:=zH (j:=3) ha (by rw [qD];omega)
 unfold eJ
 rw [h0,h1,h2,h3]
 omega
theorem bLb {A B L:List Int} {a k:Nat} {n:Int} (ha:A.length=a) {P Q:List Int} (hL:L=P++(cZ n++Q)) (hP:P.length=k):eJ (A++(L++B)) (a+k)=n % 4294967296:=by
 have e:A++(L++B)=(A++P)++(cZ n++(Q++B)):=by rw [hL];simp only [List.append_assoc]
 rw [e]
 exact aKl (by rw [List.length_append,ha,hP]) n
theorem pV {n:Int} (h : -2147483648≤n∧n≤2147483647):lG (n % 4294967296)=n:=by unfold lG;split <;> omega
theorem aSa {A B:List Int} {a:Nat} (ha:A.length=a) {b:Body} (h:InB b):mN (A++(nT b++B)) a=b:=by
 have e:nT b=cZ b.key++(cZ b.radius++(cZ b.ax++(cZ b.ay++(cZ b.mass++(cZ b.bounce++(cZ b.px++(cZ b.py++(cZ b.vx++(cZ b.vy++[]))))))))):=rfl
 have f (k:Nat) (n:Int) (P Q:List Int) (hL:nT b=P++(cZ n++Q)) (hP:P.length=k):eJ (A++(nT b++B)) (a+k)=n % 4294967296:=bLb ha hL hP
 have f0:=f 0 b.key [] _ rfl rfl
 have f1:=f 4 b.radius (cZ b.key) _ rfl rfl
 have f2:=f 8 b.ax (cZ b.key++cZ b.radius) _ rfl rfl
 have f3:=f 12 b.ay (cZ b.key++cZ b.radius++cZ b.ax) _ rfl rfl
 have f4:=f 16 b.mass (cZ b.key++cZ b.radius++cZ b.ax++cZ b.ay) _ rfl rfl
 have f5:=f 20 b.bounce (cZ b.key++cZ b.radius++cZ b.ax++cZ b.ay++cZ b.mass) _ rfl rfl
 have f6:=f 24 b.px (cZ b.key++cZ b.radius++cZ b.ax++cZ b.ay++cZ b.mass++cZ b.bounce) _ rfl rfl
 have f7:=f 28 b.py (cZ b.key++cZ b.radius++cZ b.ax++cZ b.ay++cZ b.mass++cZ b.bounce++cZ b.px) _ rfl rfl
 have f8:=f 32 b.vx (cZ b.key++cZ b.radius++cZ b.ax++cZ b.ay++cZ b.mass++cZ b.bounce++cZ b.px++cZ b.py) _ rfl rfl
 have f9:=f 36 b.vy (cZ b.key++cZ b.radius++cZ b.ax++cZ b.ay++cZ b.mass++cZ b.bounce++cZ b.px++cZ b.py++cZ b.vx) [] rfl rfl
 rw [Nat.add_zero] at f0
 obtain ⟨h0,h1,h2,h3,h4,h5,h6,h7,h8,h9⟩:=h
 unfold mN
 rw [f0,f1,f2,f3,f4,f5,f6,f7,f8,f9,pV (by omega),pV (by omega),pV (by omega),pV (by omega),pV (by omega),pV (by omega),pV (by omega),pV (by omega),pV (by omega),Int.emod_eq_of_lt (by omega) (by omega)]
theorem aSx {v:List Body} {i:Nat} {b:Body} (h:v[i]? = some b):kN v=(mP++cZ (v.length:Int)++(v.take i).flatMap nT)++(nT b++(v.drop (i+1)).flatMap nT):=by
 have hi:=List.getElem?_eq_some_iff.1 h
 have e:v.flatMap nT=(v.take i).flatMap nT++(nT b++(v.drop (i+1)).flatMap nT):=by
  conv=>lhs;rw [← List.take_append_drop i v,List.drop_eq_getElem_cons hi.1,hi.2]
  rw [List.flatMap_append,List.flatMap_cons]
 unfold kN
 rw [e]
 simp only [List.append_assoc]
theorem aOf {v:List Body} {i:Nat} {b:Body} (h:v[i]? = some b) (hb:InB b):mN (kN v) (8+40*i)=b:=by
 rw [aSx h]
 refine aSa ?_ hb
 have hi:=(List.getElem?_eq_some_iff.1 h).1
 rw [List.length_append,List.length_append,aPe,List.length_take,qD,Nat.min_eq_left (by omega)]
 rfl
theorem aKk (v:List Body) (h:v.length < 4294967296):eJ (kN v) 4=(v.length:Int):=by
 have e:kN v=mP++(cZ (v.length:Int)++v.flatMap nT):=by unfold kN;rw [List.append_assoc]
 rw [e,aKl (A:=mP) (a:=4) rfl]
 omega
theorem bEg {v:List Body} (hb:∀ b∈v,InB b):pH (kN v) v.length=v:=by
 refine List.ext_getElem? fun i => ?_
 unfold pH
 rw [List.getElem?_map]
 by_cases hi:i < v.length
 ·have hv:=List.getElem?_eq_getElem hi
  rw [List.getElem?_range hi,hv]
  show some (mN (kN v) (8+40*i))=some v[i]
  rw [aOf hv (hb _ (List.getElem_mem hi))]
 ·rw [List.getElem?_eq_none (by omega:v.length≤i),List.getElem?_eq_none (by rw [List.length_range];omega)]
  rfl
theorem bEw (v:List Body) (h:v.length≤4096):aCa (kN v):=by
 have hl:=aPd v
 refine ⟨by omega,Z, ?_⟩
 rw [aKk v (by omega),hl]
 omega
theorem bEf {v:List Body} (hb:∀ b∈v,InB b) (hl:v.length≤4096) (hc:jH v=0):nS (kN v)=(v,0):=by
 unfold nS
 rw [if_neg (Decidable.not_not.2 (bEw v hl)),aKk v (by omega),Int.toNat_natCast,bEg hb,if_neg (by omega)]
theorem nJ {l:List Int} (hl:iK l) {a:Nat} (h:a+4≤l.length):0≤eJ l a∧eJ l a≤4294967295∧cZ (eJ l a)=(l.drop a).take 4:=by
 have g (j:Nat) (hj:j < l.length):l[j]? = some (l.getD j 0)∧0≤l.getD j 0∧l.getD j 0≤255:=by
  rw [List.getD_eq_getElem?_getD,List.getElem?_eq_getElem hj]
  have hb:=hl _ (List.getElem_mem hj)
  exact ⟨Z,hb.1,hb.2⟩
 obtain ⟨g0,g1,g2⟩:=g a (by omega)
 obtain ⟨g3,g4,g5⟩:=g (a+1) (by omega)
 obtain ⟨g6,g7,g8⟩:=g (a+2) (by omega)
 obtain ⟨g9,ga,gb⟩:=g (a+3) (by omega)
 have e:(l.drop a).take 4=[l.getD a 0,l.getD (a+1) 0,l.getD (a+2) 0,l.getD (a+3) 0]:=by
  have hlen:((l.drop a).take 4).length=4:=by rw [List.length_take,List.length_drop];omega
  refine List.ext_getElem? fun j => ?_
  rcases (show j=0∨j=1∨j=2∨j=3∨4≤j by omega) with rfl | rfl | rfl | rfl | hj
  ·rw [List.getElem?_take_of_lt (by omega),List.getElem?_drop];simpa using g0
  ·rw [List.getElem?_take_of_lt (by omega),List.getElem?_drop];simpa using g3
  ·rw [List.getElem?_take_of_lt (by omega),List.getElem?_drop];simpa using g6
  ·rw [List.getElem?_take_of_lt (by omega),List.getElem?_drop];simpa using g9
  ·rw [List.getElem?_eq_none (by omega),List.getElem?_eq_none (by simpa using hj)]
 rw [e]
 unfold eJ cZ
 generalize l.getD a 0=p at *
 generalize l.getD (a+1) 0=q at *
 generalize l.getD (a+2) 0=r at *
 generalize l.getD (a+3) 0=s at *
 refine ⟨by omega,by omega, ?_⟩
 have h1:(((p*256+q)*256+r)*256+s) / 16777216 % 256=p:=by omega
 have h2:(((p*256+q)*256+r)*256+s) / 65536 % 256=q:=by omega
 have h3:(((p*256+q)*256+r)*256+s) / 256 % 256=r:=by omega
 have h4:(((p*256+q)*256+r)*256+s) % 256=s:=by omega
 rw [h1,h2,h3,h4]
theorem aSp (l:List Int) (k:Nat):∀ n,(List.range n).flatMap (fun i=>(l.drop (k*i)).take k)=l.take (k*n)
 | 0=>by simp
 | n+1=>by
  rw [List.range_succ,List.flatMap_append,aSp l k n,List.flatMap_cons,List.flatMap_nil,List.append_nil,Nat.mul_succ,List.take_add]
theorem oR {n:Int} (h:0≤n∧n≤4294967295) : -2147483648≤lG n∧lG n≤2147483647:=by unfold lG;split <;> omega
theorem aYl {l:List Int} (hl:iK l) {a:Nat} (h:a+40≤l.length):InB (mN l a):=by
 have f (k:Nat) (hk:k≤36):0≤eJ l (a+k)∧eJ l (a+k)≤4294967295:=by
  have:=nJ hl (a:=a+k) (by omega)
  exact ⟨this.1,this.2.1⟩
 exact ⟨f 0 (by omega),oR (f 4 (by omega)),oR (f 8 (by omega)),oR (f 12 (by omega)),oR (f 16 (by omega)),oR (f 20 (by omega)),oR (f 24 (by omega)),oR (f 28 (by omega)),oR (f 32 (by omega)),oR (f 36 (by omega))⟩
theorem bJs {l:List Int} (hl:iK l) {a:Nat} (h:a+40≤l.length):nT (mN l a)=(l.drop a).take 40:=by
 have f (k:Nat) (hk:k≤36):cZ (eJ l (a+k))=((l.drop a).drop k).take 4:=by rw [List.drop_drop];exact (nJ hl (a:=a+k) (by omega)).2.2
 have e:=aSp (l.drop a) 4 10
 rw [← e]
 unfold nT aWv mN
 simp only [List.flatMap_cons,List.flatMap_nil,bBo]
 have f0:=f 0 (by omega)
 rw [Nat.add_zero] at f0
 rw [f0,f 4 (by omega),f 8 (by omega),f 12 (by omega),f 16 (by omega),f 20 (by omega),f 24 (by omega),f 28 (by omega),f 32 (by omega),f 36 (by omega)]
 rfl
theorem yQ (l:List Int) (n:Nat):(pH l n).length=n:=by unfold pH;rw [List.length_map,List.length_range]
theorem aIm {α β:Type} {l:List α} {f g:α→List β} (h:∀ x∈l,f x=g x):l.flatMap f=l.flatMap g:=by
 induction l with
 | nil=>rfl
 | cons x l ih=>rw [List.flatMap_cons,List.flatMap_cons,h x (by simp),ih fun y hy=>h y (by simp [hy])]
theorem bEr {l:List Int} (hl:iK l) {n:Nat} (h:l.length=8+40*n):(pH l n).flatMap nT=l.drop 8:=by
 unfold pH
 rw [List.flatMap_map,aIm (g:=fun i=>((l.drop 8).drop (40*i)).take 40) (fun i hi=>by
  have:=List.mem_range.1 hi
  rw [List.drop_drop]
  exact bJs hl (by omega)),aSp,List.take_of_length_le (by rw [List.length_drop];omega)]
structure DecOk (l:List Int) (v:List Body):Prop where
 n:l.length=8+40*v.length
 e:kN v=l
 inb:∀ b∈v,InB b
 c:jH v=0
theorem bJm {l:List Int} (hl:iK l) (h:(nS l).2=0):DecOk l (nS l).1:=by
 unfold nS at h ⊢
 by_cases hf:aCa l
 ·rw [if_neg (Decidable.not_not.2 hf)] at h ⊢
  by_cases hc:jH (pH l (eJ l 4).toNat)=0
  ·rw [if_neg (by omega)]
   obtain ⟨h8,hm,hn⟩:=hf
   have hr:=nJ hl (a:=4) (by omega)
   have hlen:l.length=8+40*(eJ l 4).toNat:=by omega
   show DecOk l (pH l (eJ l 4).toNat)
   refine ⟨by rw [yQ];exact hlen, ?_, ?_,hc⟩
   ·unfold kN
    rw [bEr hl hlen,yQ,show (((eJ l 4).toNat:Nat):Int)=eJ l 4 by omega,hr.2.2,← hm,← List.take_add,List.take_append_drop]
   ·intro b hb
    unfold pH at hb
    obtain ⟨i,hi,rfl⟩:=List.mem_map.1 hb
    have:=List.mem_range.1 hi
    exact aYl hl (by omega)
  ·rw [if_pos hc] at h
   exact absurd h hc
 ·rw [if_pos hf] at h
  cases h
def aCt (b:Body):List Int:=[b.key,b.radius % 4294967296,b.ax % 4294967296,b.ay % 4294967296,b.mass % 4294967296,b.bounce % 4294967296,b.px % 4294967296,b.py % 4294967296,b.vx % 4294967296,b.vy % 4294967296]
theorem bAg (b:Body):(aCt b).flatMap cZ=nT b:=by
 unfold aCt nT aWv
 simp only [List.flatMap_cons,List.flatMap_nil,wL]
theorem bAh {b:Body} (h:InB b):∀ x∈aCt b,0≤x∧x≤4294967295:=by
 obtain ⟨h0,_⟩:=h
 intro x hx
 simp only [aCt,List.mem_cons,List.not_mem_nil,or_false] at hx
 rcases hx with rfl | rfl | rfl | rfl | rfl | rfl | rfl | rfl | rfl | rfl <;> omega
theorem aZj {L:List Int} {j:Nat} {x:Int} (h:L[j]? = some x):(L.take (j+1)).flatMap cZ=(L.take j).flatMap cZ++cZ x:=by
 rw [cB h,List.flatMap_append,List.flatMap_cons,List.flatMap_nil,List.append_nil]
theorem aJx {v:List Body} {j:Nat} {x:Body} (h:v[j]? = some x):(v.take (j+1)).flatMap nT=(v.take j).flatMap nT++nT x:=by
 rw [cB h,List.flatMap_append,List.flatMap_cons,List.flatMap_nil,List.append_nil]
theorem fW {l:List Int} {a m:Nat} (h:4≤m):eJ ((l.drop a).take m) 0=eJ l a:=by
 have g (j:Nat) (hj:j < m):((l.drop a).take m).getD j 0=l.getD (a+j) 0:=by
  rw [List.getD_eq_getElem?_getD,List.getD_eq_getElem?_getD,List.getElem?_take_of_lt hj,List.getElem?_drop]
 unfold eJ
 rw [g 0 (by omega),g (0+1) (by omega),g (0+2) (by omega),g (0+3) (by omega)]
 rfl
theorem aJt (l:List Int) (k:Nat):pH l (k+1)=pH l k++[mN l (8+40*k)]:=by unfold pH;rw [List.range_succ,List.map_append];rfl
theorem iK.sub {l:List Int} (h:iK l) (a m:Nat):iK ((l.drop a).take m):=fun x hx=>h x (List.mem_of_mem_drop (List.mem_of_mem_take hx))
end Go.Bil
namespace Go.Bil
theorem vM {l:List Int} (h:¬ aCa l):nS l=([],13):=by unfold nS;rw [if_pos h]
theorem aWf {l:List Int} {N:Nat} (h:aCa l) (hN:eJ l 4=(N:Int)) (hc:jH (pH l N)≠0):nS l=([],jH (pH l N)):=by
 unfold nS;rw [if_neg (Decidable.not_not.2 h),hN,Int.toNat_natCast,if_pos hc]
theorem aOy {l:List Int} {N:Nat} (h:aCa l) (hN:eJ l 4=(N:Int)) (hc:jH (pH l N)=0):nS l=(pH l N,0):=by
 unfold nS;rw [if_neg (Decidable.not_not.2 h),hN,Int.toNat_natCast,if_neg (by omega)]
theorem bWh {l:List Int} (hl:iK l) {a:Nat} (h:a+40≤l.length):∀ x∈([eJ l a,eJ l (a+4),eJ l (a+8),eJ l (a+12),eJ l (a+16),eJ l (a+20),eJ l (a+24),eJ l (a+28),eJ l (a+32),eJ l (a+36)]:List Int),0≤x∧x≤4294967295:=by
 have f (k:Nat) (hk:k≤36):0≤eJ l (a+k)∧eJ l (a+k)≤4294967295:=by
  have:=nJ hl (a:=a+k) (by omega)
  exact ⟨this.1,this.2.1⟩
 intro x hx
 simp only [List.mem_cons,List.not_mem_nil,or_false] at hx
 rcases hx with rfl | rfl | rfl | rfl | rfl | rfl | rfl | rfl | rfl | rfl
 ·exact f 0 (by omega)
 ·exact f 4 (by omega)
 ·exact f 8 (by omega)
 ·exact f 12 (by omega)
 ·exact f 16 (by omega)
 ·exact f 20 (by omega)
 ·exact f 24 (by omega)
 ·exact f 28 (by omega)
 ·exact f 32 (by omega)
 ·exact f 36 (by omega)
theorem rA:mP=([66,73,76,49]:List UInt8).map (fun y=>(y.toNat:Int)):=by decide
end Go.Bil
