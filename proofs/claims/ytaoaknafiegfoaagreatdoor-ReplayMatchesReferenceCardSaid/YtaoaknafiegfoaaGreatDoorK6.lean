/- Part of the proof of a law of this seat (7 texts). No conditions. -/
import Derived.Test.YtaoaknafiegfoaaGreatDoorK4
import Derived.Test.YtaoaknafiegfoaaGreatDoorK3
set_option linter.unusedVariables false
set_option linter.unusedSimpArgs false
set_option linter.unnecessarySimpa false
set_option maxHeartbeats 100000000
namespace Go.Bil
def dD (s:List Body):Prop:=s.Pairwise (fun a b=>a.key < b.key)
def uI (k:Int) (s:List Body):List Body:=s.filter (fun x=>decide (x.key≠k))
def wF (b:Body):Bool→List Body→List Body
 | true,s=>uI b.key s
 | false,[]=>[b]
 | false,x::l=>if b.key≤x.key then b::uI b.key (x::l) else x::wF b false l
def bUn (b:Body) (r:List Body × Bool):List Body:=if r.2 then r.1 else r.1++[b]
theorem uN (b:Body):∀ (s acc:List Body) (d:Bool),bUn b (s.foldl (gP b) (acc,d))=acc++wF b d s
 | [],acc,true=>by simp [wF,uI,bUn]
 | [],acc,false=>by simp [wF,bUn]
 | x::l,acc,true=>by
  have ih:=uN b l (if x.key≠b.key then acc++[x] else acc) true
  rw [List.foldl_cons]
  have e:gP b (acc,true) x=(if x.key≠b.key then acc++[x] else acc,true):=by unfold gP;by_cases h:x.key=b.key <;> simp [h]
  rw [e,ih]
  by_cases h:x.key=b.key <;> simp [wF,uI,h]
 | x::l,acc,false=>by
  rw [List.foldl_cons]
  by_cases hb:b.key≤x.key
  ·have ih:=uN b l (if x.key≠b.key then acc++[b]++[x] else acc++[b]) true
   have e:gP b (acc,false) x=(if x.key≠b.key then acc++[b]++[x] else acc++[b],true):=by unfold gP;by_cases h:x.key=b.key <;> simp [h,hb]
   rw [e,ih]
   by_cases h:x.key=b.key <;> simp [wF,uI,h,hb]
  ·have hne:x.key≠b.key:=by omega
   have ih:=uN b l (acc++[x]) false
   have e:gP b (acc,false) x=(acc++[x],false):=by unfold gP;simp [hb,hne]
   rw [e,ih]
   simp [wF,hb]
theorem aZl (s:List Body) (b:Body) (g:Bool):zQ s b g=wF b g s:=by
 have:=uN b s [] g
 rw [List.nil_append] at this
 exact this
theorem aDg (b:Body):∀ s:List Body,(wF b false s).Perm (b::uI b.key s)
 | []=>by simp [wF,uI]
 | x::l=>by
  unfold wF
  split
  ·exact List.Perm.refl _
  ·rename_i h
   have hne:x.key≠b.key:=by omega
   have e:uI b.key (x::l)=x::uI b.key l:=by simp [uI,hne]
   rw [e]
   exact ((aDg b l).cons x).trans (List.Perm.swap b x _)
theorem aBe {k:Int} {s:List Body} {x:Body}:x∈uI k s↔x∈s∧x.key≠k:=by simp [uI]
theorem dD.cut {s:List Body} (h:dD s) (k:Int):dD (uI k s):=List.Pairwise.sublist List.filter_sublist h
theorem dD.put {b:Body}:∀ {s:List Body},dD s→dD (wF b false s)
 | [],_=>by simp [wF,dD]
 | x::l,h=>by
  unfold wF
  have hx:∀ y∈l,x.key < y.key:=(List.pairwise_cons.1 h).1
  have hl:dD l:=(List.pairwise_cons.1 h).2
  split
  ·rename_i hb
   refine List.pairwise_cons.2 ⟨fun y hy => ?_,h.cut _⟩
   obtain ⟨h1,h2⟩:=aBe.1 hy
   rcases List.mem_cons.1 h1 with rfl | h1
   ·omega
   ·have:=hx y h1;omega
  ·rename_i hb
   refine List.pairwise_cons.2 ⟨fun y hy => ?_,dD.put hl⟩
   have:=(aDg b l).mem_iff.1 hy
   rcases List.mem_cons.1 this with rfl | h1
   ·omega
   ·exact hx y (aBe.1 h1).1
def pY (s:List Body) (b:Body):List Body × Int :=
 if check b≠0 then (s,check b) else if 0≤dV b.key s then (s,10) else if 4096≤s.length then (s,12) else (zQ s b false,0)
def sG (k:Int):Body:=⟨k,0,0,0,0,0,0,0,0,0⟩
def iX (s:List Body) (k:Int):List Body × Int:=if dV k s < 0 then (s,11) else (zQ s (sG k) true,0)
def bJz (s:List Body) (b:Body):List Body × Int :=
 if check b≠0 then (s,check b) else if dV b.key s < 0 then (s,11) else (zQ s b false,0)
structure Rel (m s:List Body):Prop where
 perm:s.Perm m
 sorted:dD s
theorem Rel.nil:Rel [] []:=⟨List.Perm.refl _,by simp [dD]⟩
theorem dD.unique {s t:List Body} (h:dD s) (h':dD t) (p:s.Perm t):s=t :=
 List.Perm.eq_of_pairwise (le:=fun (a b:Body)=>a.key < b.key) (fun a b _ _ h1 h2=>by omega) h h' p
theorem dD.keys {s:List Body} (h:dD s):lO s:=by
 unfold lO List.Nodup
 rw [List.pairwise_map]
 exact h.imp (fun h=>by omega)
theorem Rel.keys {m s:List Body} (R:Rel m s):lO m:=R.sorted.keys.perm R.perm.symm
theorem Rel.find {m s:List Body} (R:Rel m s) (k:Int):dV k s < 0↔dV k m < 0:=by
 rw [oT,oT]
 exact ⟨fun h b hb=>h b (R.perm.mem_iff.2 hb),fun h b hb=>h b (R.perm.mem_iff.1 hb)⟩
theorem aLi {k:Int} {s:List Body} (h:dV k s < 0):uI k s=s:=List.filter_eq_self.2 fun x hx=>by simpa using oT.1 h x hx
theorem Rel.put {m s:List Body} (R:Rel m s) (b:Body) {m':List Body} (h:m'.Perm (b::uI b.key m)):Rel m' (zQ s b false):=by
 rw [aZl]
 exact ⟨((aDg b s).trans ((R.perm.filter _).cons b)).trans h.symm,R.sorted.put⟩
theorem Rel.add {m s:List Body} (R:Rel m s) (b:Body):Rel (pX m b).1 (pY s b).1∧(pY s b).2=(pX m b).2:=by
 unfold pX pY
 have hf:=R.find b.key
 have hl:=R.perm.length_eq
 by_cases h1:check b≠0
 ·rw [if_pos h1,if_pos h1];exact ⟨R,rfl⟩
 ·rw [if_neg h1,if_neg h1]
  by_cases h2:0≤dV b.key m
  ·have h2':0≤dV b.key s:=by omega
   rw [if_pos h2,if_pos h2'];exact ⟨R,rfl⟩
  ·have h2':¬ 0≤dV b.key s:=by omega
   rw [if_neg h2,if_neg h2',hl]
   by_cases h3:4096≤m.length
   ·rw [if_pos h3,if_pos h3];exact ⟨R,rfl⟩
   ·rw [if_neg h3,if_neg h3]
    refine ⟨R.put b ?_,Z⟩
    rw [aLi (by omega)]
    exact List.perm_append_singleton b m
theorem zE {m:List Body} (h:lO m) {i:Nat} {b:Body} (hi:m[i]? = some b):m.eraseIdx i=uI b.key m:=by
 have e:m=m.take i++b::m.drop (i+1):=by
  have hlt:=(List.getElem?_eq_some_iff.1 hi).1
  have hb:m[i]=b:=(List.getElem?_eq_some_iff.1 hi).2
  rw [← hb,← List.drop_eq_getElem_cons hlt,List.take_append_drop]
 have hne:=aLn h hi
 rw [List.eraseIdx_eq_take_drop_succ] at hne ⊢
 conv=>rhs;rw [e]
 unfold uI
 rw [List.filter_append,List.filter_cons]
 simp only [ne_eq,not_true_eq_false,decide_false,Bool.false_eq_true,if_false]
 rw [List.filter_eq_self.2 (fun x hx=>by simpa using hne x (List.mem_append_left _ hx)),List.filter_eq_self.2 (fun x hx=>by simpa using hne x (List.mem_append_right _ hx))]
theorem Rel.remove {m s:List Body} (R:Rel m s) (k:Int):Rel (mW m k).1 (iX s k).1∧(iX s k).2=(mW m k).2:=by
 unfold mW iX
 have hf:=R.find k
 by_cases h:dV k m < 0
 ·rw [if_pos h,if_pos (hf.2 h)];exact ⟨R,rfl⟩
 ·rw [if_neg h,if_neg (fun h'=>h (hf.1 h'))]
  refine ⟨?_,Z⟩
  rcases eX k m with ⟨h1,_⟩ | ⟨i,b,h1,h2,h3⟩
  ·omega
  ·rw [h3,Int.toNat_natCast,aZl]
   have hlt:=(List.getElem?_eq_some_iff.1 h1).1
   have hk:(sG k).key=b.key:=h2.symm
   have he:wF (sG k) true s=uI b.key s:=by unfold wF;rw [hk]
   refine ⟨?_,by rw [he];exact R.sorted.cut _⟩
   show (wF (sG k) true s).Perm _
   rw [he]
   exact (R.perm.filter _).trans ((List.Perm.of_eq (zE R.keys h1).symm).trans (tG hlt).symm)
theorem bKb {m:List Body} {i:Nat} {x:Body} (hi:i < m.length):(m.set i x).Perm (x::m.eraseIdx i):=by
 rw [List.set_eq_take_append_cons_drop,if_pos hi,List.eraseIdx_eq_take_drop_succ]
 exact List.perm_middle
theorem Rel.set {m s:List Body} (R:Rel m s) (b:Body):Rel (vF m b).1 (bJz s b).1∧(bJz s b).2=(vF m b).2:=by
 unfold vF bJz
 have hf:=R.find b.key
 by_cases h1:check b≠0
 ·rw [if_pos h1,if_pos h1];exact ⟨R,rfl⟩
 ·rw [if_neg h1,if_neg h1]
  by_cases h:dV b.key m < 0
  ·rw [if_pos h,if_pos (hf.2 h)];exact ⟨R,rfl⟩
  ·rw [if_neg h,if_neg (fun h'=>h (hf.1 h'))]
   refine ⟨?_,Z⟩
   rcases eX b.key m with ⟨h1,_⟩ | ⟨i,c,h1,h2,h3⟩
   ·omega
   ·rw [h3,Int.toNat_natCast]
    have hlt:=(List.getElem?_eq_some_iff.1 h1).1
    refine R.put b ((bKb hlt).trans ?_)
    rw [zE R.keys h1,h2]
theorem Rel.get {m s:List Body} (R:Rel m s) (k:Int):(dV k s < 0∧aHq m k=(sG 0,11))∨∃ (i:Nat) (b:Body),dV k s=(i:Int)∧s[i]? = some b∧aHq m k=(b,0):=by
 rcases eX k s with ⟨h1,h2⟩ | ⟨i,b,h1,h2,h3⟩
 ·have hm:dV k m < 0:=(R.find k).1 (by omega)
  refine .inl ⟨by omega, ?_⟩
  unfold aHq
  rw [if_pos hm]
  rfl
 ·refine .inr ⟨i,b,h3,h1, ?_⟩
  have hb:b∈m:=R.perm.mem_iff.1 (List.mem_of_getElem? h1)
  obtain ⟨j,hj⟩:=List.getElem?_of_mem hb
  have:=vZ R.keys hj
  rw [h2] at this
  exact aCr this hj
theorem aAg {a b:Int}:rD a b < 0↔a < b:=by unfold rD;(repeat' split) <;> omega
def aVo (b:Body):List Body→List Body
 | []=>[b]
 | x::l=>if b.key≤x.key then b::x::l else x::aVo b l
def aEx (m:List Body):List Body:=m.foldr aVo []
theorem aCv (b:Body):∀ l:List Body,(aVo b l).Perm (b::l)
 | []=>List.Perm.refl _
 | x::l=>by
  unfold aVo
  split
  ·exact List.Perm.refl _
  ·exact ((aCv b l).cons x).trans (List.Perm.swap b x l)
theorem rM:∀ m:List Body,(aEx m).Perm m
 | []=>List.Perm.refl _
 | b::m=>(aCv b (aEx m)).trans ((rM m).cons b)
def Up (s:List Body):Prop:=s.Pairwise (fun a b=>a.key≤b.key)
theorem aZb (b:Body):∀ {l:List Body},Up l→Up (aVo b l)
 | [],_=>by simp [aVo,Up]
 | x::l,h=>by
  unfold aVo
  have hx:∀ y∈l,x.key≤y.key:=(List.pairwise_cons.1 h).1
  split
  ·rename_i hb
   refine List.pairwise_cons.2 ⟨fun y hy => ?_,h⟩
   rcases List.mem_cons.1 hy with rfl | hy
   ·exact hb
   ·have:=hx y hy;omega
  ·refine List.pairwise_cons.2 ⟨fun y hy => ?_,aZb b (List.pairwise_cons.1 h).2⟩
   have:=(aCv b l).mem_iff.1 hy
   rcases List.mem_cons.1 this with rfl | h1
   ·omega
   ·exact hx y h1
theorem aIy:∀ m:List Body,Up (aEx m)
 | []=>by simp [aEx,Up]
 | b::m=>aZb b (aIy m)
theorem aDo {s:List Body} (h:Up s) (hk:lO s):dD s:=by
 unfold Up at h
 unfold lO List.Nodup at hk
 rw [List.pairwise_map] at hk
 exact (List.Pairwise.and h hk).imp (fun ⟨h1,h2⟩=>by omega)
theorem bDp {s t:List Body} (h:Up s) (h':Up t) (p:s.Perm t) (hk:lO s):s=t:=(aDo h hk).unique (aDo h' (hk.perm p.symm)) p
theorem bDf {m:List Body} (hk:lO m):Rel m (aEx m):=⟨rM m,aDo (aIy m) (hk.perm (rM m))⟩
theorem Rel.eq {m s:List Body} (R:Rel m s):aEx m=s:=(bDf R.keys).sorted.unique R.sorted ((rM m).trans R.perm.symm)
end Go.Bil
namespace Go.Bil
structure InB (b:Body):Prop where
 key:0≤b.key∧b.key≤4294967295
 radius : -2147483648≤b.radius∧b.radius≤2147483647
 ax : -2147483648≤b.ax∧b.ax≤2147483647
 ay : -2147483648≤b.ay∧b.ay≤2147483647
 mass : -2147483648≤b.mass∧b.mass≤2147483647
 bounce : -2147483648≤b.bounce∧b.bounce≤2147483647
 px : -2147483648≤b.px∧b.px≤2147483647
 py : -2147483648≤b.py∧b.py≤2147483647
 vx : -2147483648≤b.vx∧b.vx≤2147483647
 vy : -2147483648≤b.vy∧b.vy≤2147483647
theorem bQy (l:List Value) (h:pM [.u32,.i32,.i32,.i32,.i32,.i32,.i32,.i32,.i32,.i32] l):∃ b,l=aF b∧InB b:=by
 obtain ⟨z0,l0,rfl,w0,h0⟩:=iA h
 obtain ⟨z1,l1,rfl,w1,h1⟩:=iA h0
 obtain ⟨z2,l2,rfl,w2,h2⟩:=iA h1
 obtain ⟨z3,l3,rfl,w3,h3⟩:=iA h2
 obtain ⟨z4,l4,rfl,w4,h4⟩:=iA h3
 obtain ⟨z5,l5,rfl,w5,h5⟩:=iA h4
 obtain ⟨z6,l6,rfl,w6,h6⟩:=iA h5
 obtain ⟨z7,l7,rfl,w7,h7⟩:=iA h6
 obtain ⟨z8,l8,rfl,w8,h8⟩:=iA h7
 obtain ⟨z9,l9,rfl,w9,h9⟩:=iA h8
 obtain rfl:=tS h9
 exact ⟨⟨z0,z1,z2,z3,z4,z5,z6,z7,z8,z9⟩,Z,⟨w0,w1,w2,w3,w4,w5,w6,w7,w8,w9⟩⟩
end Go.Bil

namespace Go.Bil
structure StV where
 A:Option Addr
 n:Nat
 c:Nat
 p:Option Nat
 er:eQ
 em:eQ
def aKz (l:List Body):List Body:=l.foldl (fun m b=>(pX m b).1) []
theorem aGe {l:List Body} {k:Nat} {x:Body} (h:l[k]? = some x):aKz (l.take (k+1))=(pX (aKz (l.take k)) x).1:=by
 unfold aKz
 rw [cC h,List.foldl_append]
 rfl
def aEz (l:List Body):List Body:=l.filter (fun b=>decide (check b=0))
theorem bEi {m:List Body} {x:Body} (hf:∀ b∈m,b.key≠x.key) (hl:m.length < 4096):pX (aEz m) x=(aEz (m++[x]),check x):=by
 have hle:(aEz m).length≤m.length:=List.length_filter_le _ _
 unfold pX
 by_cases h:check x=0
 ·rw [if_neg (by omega),if_neg (by
   have:dV x.key (aEz m) < 0:=oT.2 fun b hb=>hf b (List.mem_filter.1 hb).1
   omega),if_neg (by omega),h]
  simp [aEz,List.filter_append,h]
 ·rw [if_pos h]
  simp [aEz,List.filter_append,h]
theorem aRw {l:List Body} (h:lO l) {k:Nat} {x:Body} (hx:l[k]? = some x):∀ b∈l.take k,b.key≠x.key:=by
 intro b hb e
 obtain ⟨j,hj⟩:=List.getElem?_of_mem hb
 rw [List.getElem?_take] at hj
 split at hj
 ·rename_i hlt
  have:=h.inj hj hx e
  omega
 ·cases hj
theorem aGf {l:List Body} (h:lO l) (hl:l.length≤4096):∀ k,k≤l.length→aKz (l.take k)=aEz (l.take k)
 | 0,_=>by simp [aKz,aEz]
 | k+1,hk=>by
  obtain ⟨x,hx⟩:=cG (xs:=l) (k:=k) rfl (by omega)
  rw [aGe hx,aGf h hl k (by omega),bEi (aRw h hx) (by rw [List.length_take];omega),cC hx]
theorem aEv {m:List Body} (hk:lO m) (k:Int):(mW m k).1.Perm (uI k m):=by
 unfold mW
 by_cases h:dV k m < 0
 ·rw [if_pos h,aLi h]
 ·rw [if_neg h]
  rcases eX k m with ⟨h1,_⟩ | ⟨i,b,h1,h2,h3⟩
  ·omega
  ·rw [h3,Int.toNat_natCast]
   have hlt:=(List.getElem?_eq_some_iff.1 h1).1
   have:=(tG hlt).trans (List.Perm.of_eq (zE hk h1))
   rwa [h2] at this
end Go.Bil
namespace Go.Bil
structure StepI where
 kind:Int
 body:Body
instance:Inhabited StepI:=⟨⟨0,sG 0⟩⟩
end Go.Bil

namespace Go.Bil
def nZ:List Body→Int
 | []=>0
 | b::l=>if check b≠0 then check b else nZ l
def qG (xs:List Body):Int:=if 4096 < xs.length then 12 else nZ xs
theorem pF:∀ {xs:List Body},(∀ (j:Nat) (c:Body),xs[j]? = some c→check c=0)→nZ xs=0
 | [],_=>rfl
 | b::l,h=>by
  unfold nZ
  rw [if_neg (by have:=h 0 b (by simp);omega)]
  exact pF fun j c hj=>h (j+1) c (by simpa using hj)
theorem vW:∀ {xs:List Body} {k:Nat} {b:Body},xs[k]? = some b→check b≠0→(∀ (j:Nat) (c:Body),j < k→xs[j]? = some c→check c=0)→nZ xs=check b
 | [],_,_,h,_,_=>by simp at h
 | a::l,0,b,h,hb,_=>by
  simp only [List.getElem?_cons_zero,Option.some.injEq] at h
  subst h
  unfold nZ
  rw [if_pos hb]
 | a::l,k+1,b,h,hb,hn=>by
  unfold nZ
  rw [if_neg (by have:=hn 0 a (by omega) (by simp);omega)]
  exact vW (by simpa using h) hb fun j c hj hc=>hn (j+1) c (by omega) (by simpa using hc)
theorem aAl:∀ {xs:List Body},nZ xs=0→∀ b∈xs,check b=0
 | [],_,b,hb=>by simp at hb
 | a::l,h,b,hb=>by
  unfold nZ at h
  by_cases ha:check a=0
  ·rw [if_neg (by omega)] at h
   rcases List.mem_cons.1 hb with rfl | hb
   ·exact ha
   ·exact aAl h b hb
  ·rw [if_pos ha] at h;exact absurd h ha
theorem bGw {xs:List Body} (h:qG xs=0):xs.length≤4096∧∀ b∈xs,check b=0:=by
 unfold qG at h
 split at h
 ·omega
 ·exact ⟨by omega,aAl h⟩
theorem bGv {xs:List Body} (hl:xs.length≤4096) (h:∀ b∈xs,check b=0):qG xs=0:=by
 unfold qG
 rw [if_neg (by omega)]
 exact pF fun j c hj=>h c (List.mem_of_getElem? hj)
def aJu:List Body→Bool
 | x::y::l=>decide (x.key < y.key) && aJu (y::l)
 | _=>true
theorem xB:∀ {xs:List Body},(∀ (i:Nat) (x y:Body),xs[i]? = some x→xs[i+1]? = some y→x.key < y.key)→aJu xs=true
 | [],_=>rfl
 | [_],_=>rfl
 | x::y::l,h=>by
  unfold aJu
  rw [Bool.and_eq_true]
  exact ⟨decide_eq_true (h 0 x y (by simp) (by simp)),xB fun i a b ha hb=>h (i+1) a b (by simpa using ha) (by simpa using hb)⟩
theorem vI:∀ {xs:List Body},aJu xs=true→dD xs
 | [],_=>by simp [dD]
 | [_],_=>by simp [dD]
 | x::y::l,h=>by
  unfold aJu at h
  rw [Bool.and_eq_true,decide_eq_true_eq] at h
  have ih:=vI h.2
  refine List.pairwise_cons.2 ⟨fun z hz => ?_,ih⟩
  rcases List.mem_cons.1 hz with rfl | hz
  ·exact h.1
  ·have:=(List.pairwise_cons.1 ih).1 z hz;have:=h.1;omega
theorem aTm {xs:List Body} (h:dD xs):aJu xs=true:=xB fun i x y hx hy=>by
 have hi:=List.getElem?_eq_some_iff.1 hx
 have hj:=List.getElem?_eq_some_iff.1 hy
 have:=List.pairwise_iff_getElem.1 h i (i+1) hi.1 hj.1 (by omega)
 rwa [hi.2,hj.2] at this
theorem aGg {xs:List Body} {i:Nat} {x y:Body} (hx:xs[i]? = some x) (hy:xs[i+1]? = some y) (h:¬ x.key < y.key):aJu xs=false:=by
 cases e:aJu xs with
 | false=>rfl
 | true =>
  exfalso
  have hi:=List.getElem?_eq_some_iff.1 hx
  have hj:=List.getElem?_eq_some_iff.1 hy
  have:=List.pairwise_iff_getElem.1 (vI e) i (i+1) hi.1 hj.1 (by omega)
  rw [hi.2,hj.2] at this
  exact h this
def jT (xs:List Body):Int:=if qG xs≠0 then qG xs else if aJu xs=true then 0 else 10
instance (m:List Body):Decidable (lO m):=by unfold lO;infer_instance
def aEg (key:Int):List Body→Nat
 | []=>0
 | b::l=>(if b.key < key then 1 else 0)+aEg key l
theorem aBb {key:Int}:∀ {xs:List Body} {k:Nat},k≤xs.length→(∀ (j:Nat) (c:Body),j < k→xs[j]? = some c→c.key < key)→(∀ (j:Nat) (c:Body),k≤j→xs[j]? = some c→¬ c.key < key)→aEg key xs=k
 | [],k,hk,_,_=>by simp at hk;simp [aEg,hk]
 | b::l,0,_,_,h2=>by
  unfold aEg
  rw [if_neg (h2 0 b (Nat.le_refl _) (by simp)),aBb (k:=0) (by omega) (fun j c hj=>by omega) (fun j c _ hc=>h2 (j+1) c (by omega) (by simpa using hc))]
 | b::l,k+1,hk,h1,h2=>by
  unfold aEg
  rw [if_pos (h1 0 b (by omega) (by simp)),aBb (k:=k) (by simpa using hk) (fun j c hj hc=>h1 (j+1) c (by omega) (by simpa using hc)) (fun j c hj hc=>h2 (j+1) c (by omega) (by simpa using hc))]
  omega
def jF (k:Int):List Value:=[.int .u32 k]
end Go.Bil
namespace Go.Bil
theorem aEy {xs:List Body} (h:dD xs) {p q:Nat} {a b:Body} (hpq:p≤q) (ha:xs[p]? = some a) (hb:xs[q]? = some b):a.key≤b.key:=by
 by_cases e:p=q
 ·subst e
  rw [ha] at hb
  injection hb with hb
  rw [hb];exact Int.le_refl _
 ·have hi:=List.getElem?_eq_some_iff.1 ha
  have hj:=List.getElem?_eq_some_iff.1 hb
  have:=List.pairwise_iff_getElem.1 h p q hi.1 hj.1 (by omega)
  rw [hi.2,hj.2] at this
  omega
theorem bYs (i j:Nat):((i:Int)+(j:Int)).fdiv (2 ^ (min (1:Int).toNat IntKind.u64.bits))=(((i+j) / 2:Nat):Int):=by
 have e:(2:Int) ^ (min (1:Int).toNat IntKind.u64.bits)=2:=by decide
 rw [e,Int.fdiv_eq_ediv_of_nonneg _ (by omega)]
 omega
theorem wQ {a b a' b':Value} (h1:a=a') (h2:b=b'):Value.tuple #[a,b]=Value.tuple #[a',b']:=by rw [h1,h2]
theorem bBd {a b:Int}:rD a b=0↔a=b:=by unfold rD;(repeat' split) <;> omega
theorem bBr {key:Int} {xs:List Body} (hs:dD xs) {i:Nat} {b:Body} (hb:xs[i]? = some b) (h1:∀ (j:Nat) (c:Body),j < i→xs[j]? = some c→c.key < key) (h2:∀ (j:Nat) (c:Body),i≤j→xs[j]? = some c→¬ c.key < key):rD b.key key=0↔0≤dV key xs:=by
 rw [bBd]
 constructor
 ·intro e
  rcases eX key xs with ⟨_,h⟩ | ⟨_,_,_,_,h⟩
  ·exact absurd e (h b (List.mem_of_getElem? hb))
  ·omega
 ·intro h
  rcases eX key xs with ⟨h',_⟩ | ⟨j,c,hc,hk,_⟩
  ·omega
  ·have hij:i≤j:=by
    rcases Nat.lt_or_ge j i with hlt | hge
    ·have:=h1 j c hlt hc;omega
    ·exact hge
   have:=aEy hs hij hb hc
   have:=h2 i b (Nat.le_refl _) hb
   omega
theorem aVk {key:Int} {xs:List Body} (h1:∀ (j:Nat) (c:Body),j < xs.length→xs[j]? = some c→c.key < key):¬ 0≤dV key xs:=by
 intro h
 rcases eX key xs with ⟨h',_⟩ | ⟨j,c,hc,hk,_⟩
 ·omega
 ·have:=h1 j c (List.getElem?_eq_some_iff.1 hc).1 hc
  omega
end Go.Bil
namespace Go.Bil
theorem bIg {α:Type} {xs ys:List α} {n m:Nat} (h1:xs.length=n) (h2:ys.length=m) (hnm:n=m) (h:∀ (j:Nat) (x:α),j < n→xs[j]? = some x→ys[j]? = some x):xs=ys:=by
 apply List.ext_getElem?
 intro j
 by_cases hj:j < xs.length
 ·obtain ⟨x,hx⟩:=cG (k:=j) rfl hj
  rw [hx,h j x (by omega) hx]
 ·rw [List.getElem?_eq_none (by omega),List.getElem?_eq_none (by omega)]
end Go.Bil
namespace Go.Bil
end Go.Bil
namespace Go.Bil
theorem aVr (k:Int):∀ y∈[jF k],y.length=1∧∀ u∈y,one u=true:=by
 intro y hy
 simp only [List.mem_singleton] at hy
 subst hy
 exact ⟨Z,aP Z⟩
end Go.Bil
namespace Go.Bil
structure Mg (xs ys:List Body) (i k:Nat):Prop where
 sx:dD xs
 sy:dD ys
 yx:∀ (p:Nat) (a b:Body),p < k→ys[p]? = some a→xs[i]? = some b→a.key < b.key
 xy:∀ (p:Nat) (a b:Body),p < i→xs[p]? = some a→ys[k]? = some b→a.key < b.key
theorem Mg.swap {xs ys:List Body} {i k:Nat} (h:Mg xs ys i k):Mg ys xs k i:=⟨h.sy,h.sx,h.xy,h.yx⟩
theorem fX {xs:List Body} (h:dD xs) {p q:Nat} {a b:Body} (hpq:p < q) (ha:xs[p]? = some a) (hb:xs[q]? = some b):a.key < b.key:=by
 have hi:=List.getElem?_eq_some_iff.1 ha
 have hj:=List.getElem?_eq_some_iff.1 hb
 have:=List.pairwise_iff_getElem.1 h p q hi.1 hj.1 hpq
 rwa [hi.2,hj.2] at this
theorem Mg.x {xs ys:List Body} {i k:Nat} {a:Body} (h:Mg xs ys i k) (ha:xs[i]? = some a) (hb:∀ b,ys[k]? = some b→a.key < b.key):Mg xs ys (i+1) k∧dV a.key ys < 0:=by
 refine ⟨⟨h.sx,h.sy,fun p y x hp hy hx => ?_,fun p x y hp hx hy => ?_⟩,oT.2 fun y hy => ?_⟩
 ·have:=h.yx p y a hp hy ha
  have:=fX h.sx (Nat.lt_succ_self i) ha hx
  omega
 ·by_cases e:p=i
  ·subst e
   rw [ha] at hx
   injection hx with hx
   subst hx
   exact hb y hy
  ·exact h.xy p x y (by omega) hx hy
 ·obtain ⟨q,hq⟩:=List.getElem?_of_mem hy
  rcases Nat.lt_or_ge q k with hlt | hge
  ·have:=h.yx q y a hlt hq ha;omega
  ·obtain ⟨b,hbk⟩:=cG (xs:=ys) (k:=k) rfl (by have:=(List.getElem?_eq_some_iff.1 hq).1;omega)
   have h1:=hb b hbk
   have h2:=aEy h.sy hge hbk hq
   omega
theorem Mg.y {xs ys:List Body} {i k:Nat} {b:Body} (h:Mg xs ys i k) (hb:ys[k]? = some b) (ha:∀ a,xs[i]? = some a→b.key < a.key):Mg xs ys i (k+1)∧dV b.key xs < 0:=by
 obtain ⟨h1,h2⟩:=h.swap.x hb ha
 exact ⟨h1.swap,h2⟩
theorem Mg.both {xs ys:List Body} {i k:Nat} {a b:Body} (h:Mg xs ys i k) (ha:xs[i]? = some a) (hb:ys[k]? = some b) (hk:a.key=b.key):Mg xs ys (i+1) (k+1)∧dV a.key ys=(k:Int)∧dV b.key xs=(i:Int):=by
 refine ⟨⟨h.sx,h.sy,fun p y x hp hy hx => ?_,fun p x y hp hx hy => ?_⟩, ?_, ?_⟩
 ·have h1:=fX h.sx (Nat.lt_succ_self i) ha hx
  have h2:=aEy h.sy (show p≤k by omega) hy hb
  omega
 ·have h1:=fX h.sy (Nat.lt_succ_self k) hb hy
  have h2:=aEy h.sx (show p≤i by omega) hx ha
  omega
 ·exact aAk hb hk.symm fun j c hj hc=>by have:=fX h.sy hj hc hb;omega
 ·exact aAk ha hk fun j c hj hc=>by have:=fX h.sx hj hc ha;omega
end Go.Bil
namespace Go.Bil
end Go.Bil
namespace Go.Bil
end Go.Bil
namespace Go.Bil
end Go.Bil
namespace Go.Bil
end Go.Bil
namespace Go.Bil
end Go.Bil
namespace Go.Bil
end Go.Bil

namespace Go.Bil
theorem bBb {v:List Body} (he:qG v=0) (hs:dD v):jT v=0:=by
 unfold jT
 rw [if_neg (by omega),if_pos (aTm hs)]
end Go.Bil

namespace Go.Bil
structure Bx where
 x0:Int
 y0:Int
 x1:Int
 y1:Int
 deriving DecidableEq,Inhabited
def dY (a:Bx):List Value:=[.int .i32 a.x0,.int .i32 a.y0,.int .i32 a.x1,.int .i32 a.y1]
def aVg (b:Body):Int:=max b.ax (-b.ax)+b.radius
def aVh (b:Body):Int:=max b.ay (-b.ay)+b.radius
def iO (b:Body):Bx:=⟨b.px - aVg b,b.py - aVh b,b.px+aVg b,b.py+aVh b⟩
abbrev kZ (a:Bx):Prop:=a.x1 < a.x0∨a.y1 < a.y0
def gZ:Bx:=⟨1,0,0,0⟩
def aLw (a b:Bx):Bx:=if kZ ⟨max a.x0 b.x0,max a.y0 b.y0,min a.x1 b.x1,min a.y1 b.y1⟩ then gZ else ⟨max a.x0 b.x0,max a.y0 b.y0,min a.x1 b.x1,min a.y1 b.y1⟩
abbrev ovl (a b:Bx):Prop:=(a.x0≤a.x1∧a.y0≤a.y1)∧(b.x0≤b.x1∧b.y0≤b.y1)∧(a.x0≤b.x1∧b.x0≤a.x1∧a.y0≤b.y1∧b.y0≤a.y1)
theorem bIm (a b:Bx):¬ kZ (aLw a b)↔ovl a b:=by
 unfold aLw
 split
 ·rename_i h
  unfold kZ at h
  simp only [kZ,gZ,ovl]
  simp only at h
  omega
 ·rename_i h
  unfold kZ at h
  simp only [kZ,ovl]
  simp only at h
  omega
structure Okb (b:Body):Prop where
 r:4096≤b.radius∧b.radius≤4194304
 a : -4194304≤b.ax∧b.ax≤4194304 ∧ -4194304≤b.ay∧b.ay≤4194304
 m:0≤b.mass∧b.mass≤1048576
 c:0≤b.bounce∧b.bounce≤65536
 p : -1073741824≤b.px∧b.px≤1073741824 ∧ -1073741824≤b.py∧b.py≤1073741824
 v : -16777216≤b.vx∧b.vx≤16777216 ∧ -16777216≤b.vy∧b.vy≤16777216
theorem aQs {b:Body} (h:check b=0):Okb b:=by
 by_cases h1:4096≤b.radius∧b.radius≤4194304
 ·by_cases h2 : -4194304≤b.ax∧b.ax≤4194304 ∧ -4194304≤b.ay∧b.ay≤4194304
  ·by_cases h3:0≤b.mass∧b.mass≤1048576
   ·by_cases h4:0≤b.bounce∧b.bounce≤65536
    ·by_cases h5 : -1073741824≤b.px∧b.px≤1073741824 ∧ -1073741824≤b.py∧b.py≤1073741824
     ·by_cases h6 : -16777216≤b.vx∧b.vx≤16777216 ∧ -16777216≤b.vy∧b.vy≤16777216
      ·exact ⟨h1,h2,h3,h4,h5,h6⟩
      ·rw [aYi b h1 h2 h3 h4 h5 h6] at h;omega
     ·rw [aYh b h1 h2 h3 h4 h5] at h;omega
    ·rw [aYg b h1 h2 h3 h4] at h;omega
   ·rw [aYf b h1 h2 h3] at h;omega
  ·rw [aYe b h1 h2] at h;omega
 ·rw [aYd b h1] at h;omega
theorem bHa {b:Body} (h:Okb b):4096≤aVg b∧aVg b≤8388608∧4096≤aVh b∧aVh b≤8388608:=by
 have:=h.r
 have:=h.a
 unfold aVg aVh
 omega
structure Okx (a:Bx):Prop where
 x0 : -2147483648≤a.x0∧a.x0≤2147483647
 y0 : -2147483648≤a.y0∧a.y0≤2147483647
 x1 : -2147483648≤a.x1∧a.x1≤2147483647
 y1 : -2147483648≤a.y1∧a.y1≤2147483647
theorem bRa {b:Body} (h:Okb b):Okx (iO b):=by
 have h1:=bHa h
 have h2:=h.p
 constructor <;> simp only [iO] <;> omega
end Go.Bil

namespace Go.Bil
def eD (c:Int × Int):List Value:=[.int .i32 c.1,.int .i32 c.2]
def rC (x:Int):Int:=x.fdiv 4194304
theorem bQk (x:Int):x.fdiv (2 ^ (min (22:Int).toNat IntKind.i32.bits))=rC x:=rfl
theorem aNp (x:Int):rC x=x / 4194304:=by unfold rC;exact Int.fdiv_eq_ediv_of_nonneg x (by decide)
theorem uG {x:Int} (h0 : -2147483648≤x) (h1:x≤2147483647) : -512≤rC x∧rC x≤511:=by rw [aNp];omega
theorem nG {x y:Int} (h:x≤y):rC x≤rC y:=by rw [aNp,aNp];omega
def loC (a:Bx):Int × Int:=if kZ a then (0,0) else (rC a.x0,rC a.y0)
def hiC (a:Bx):Int × Int:=if kZ a then (0,0) else (rC a.x1,rC a.y1)
def nX (lo hi:Int × Int):Nat:=(hi.1 - lo.1+1).toNat
def nY (lo hi:Int × Int):Nat:=(hi.2 - lo.2+1).toNat
def aIr (lo:Int × Int) (i j:Nat):List (Int × Int):=(List.range i).map (fun (p:Nat)=>(lo.1+(p:Int),lo.2+(j:Int)))
def sK (lo hi:Int × Int) (j:Nat):List (Int × Int):=(List.range j).flatMap (fun q=>aIr lo (nX lo hi) q)
def aCi (ok:Bool) (lo hi:Int × Int):List (Int × Int):=if ok then sK lo hi (nY lo hi) else []
def kS (a:Bx):List (Int × Int):=aCi (decide (¬ kZ a)) (loC a) (hiC a)
theorem aSz (lo:Int × Int) (i j:Nat):(aIr lo i j).length=i:=by simp [aIr]
theorem bCx (lo:Int × Int) (i j:Nat):aIr lo (i+1) j=aIr lo i j++[(lo.1+(i:Int),lo.2+(j:Int))]:=by simp [aIr,List.range_succ]
theorem aIs (lo hi:Int × Int) (j:Nat):sK lo hi (j+1)=sK lo hi j++aIr lo (nX lo hi) j:=by simp [sK,List.range_succ]
theorem aDi (lo hi:Int × Int):∀ j,(sK lo hi j).length=j*nX lo hi
 | 0=>by simp [sK]
 | j+1=>by rw [aIs,List.length_append,aDi lo hi j,aSz,Nat.add_mul,Nat.one_mul]
theorem bJr {lo hi:Int × Int} {i j:Nat} (hx:nX lo hi≤1024) (hj:j < 1024) (hi':i < nX lo hi):(sK lo hi j).length+i < 1048576:=by
 rw [aDi]
 have:j*nX lo hi≤1023*1024:=Nat.mul_le_mul (by omega) hx
 omega
theorem bJq {lo hi:Int × Int} {j:Nat} (hx:nX lo hi≤1024) (hj:j≤1024):(sK lo hi j).length≤1048576:=by
 rw [aDi]
 exact Nat.mul_le_mul hj hx
theorem bCg {lo hi:Int × Int} {n:Nat} {c:Int × Int}:c∈sK lo hi n↔∃ q p:Nat,q < n∧p < nX lo hi∧c=(lo.1+(p:Int),lo.2+(q:Int)):=by
 simp only [sK,aIr,List.mem_flatMap,List.mem_range,List.mem_map]
 constructor
 ·rintro ⟨q,hq,p,hp,rfl⟩;exact ⟨q,p,hq,hp,rfl⟩
 ·rintro ⟨q,p,hq,hp,rfl⟩;exact ⟨q,hq,p,hp,rfl⟩
theorem aIa {a:Bx} {c:Int × Int}:c∈kS a↔¬ kZ a∧rC a.x0≤c.1∧c.1≤rC a.x1∧rC a.y0≤c.2∧c.2≤rC a.y1:=by
 unfold kS aCi
 by_cases h:kZ a
 ·simp [h]
 ·rw [if_pos (by simpa using h),bCg]
  simp only [loC,hiC,if_neg h,nX,nY]
  constructor
  ·rintro ⟨q,p,hq,hp,rfl⟩
   refine ⟨h, ?_⟩
   simp only
   omega
  ·rintro ⟨_,h1,h2,h3,h4⟩
   refine ⟨(c.2 - rC a.y0).toNat,(c.1 - rC a.x0).toNat,by omega,by omega, ?_⟩
   apply Prod.ext <;> simp only <;> omega
structure Okc (c:Int × Int):Prop where
 x : -512≤c.1∧c.1≤511
 y : -512≤c.2∧c.2≤511
theorem aVu {a:Bx} (h:Okx a):Okc (loC a):=by
 unfold loC
 split
 ·exact ⟨by decide,by decide⟩
 ·exact ⟨uG h.x0.1 h.x0.2,uG h.y0.1 h.y0.2⟩
theorem aVm {a:Bx} (h:Okx a):Okc (hiC a):=by
 unfold hiC
 split
 ·exact ⟨by decide,by decide⟩
 ·exact ⟨uG h.x1.1 h.x1.2,uG h.y1.1 h.y1.2⟩
theorem bQi {lo hi:Int × Int} (h1:Okc lo) (h2:Okc hi):nX lo hi≤1024:=by
 have:=h1.x;have:=h2.x
 unfold nX
 omega
theorem bQj {lo hi:Int × Int} (h1:Okc lo) (h2:Okc hi):nY lo hi≤1024:=by
 have:=h1.y;have:=h2.y
 unfold nY
 omega
theorem aUu {a:Bx} (h:Okx a):(kS a).length≤1048576:=by
 unfold kS aCi
 split
 ·exact bJq (bQi (aVu h) (aVm h)) (bQj (aVu h) (aVm h))
 ·simp
theorem bIx {a b:Bx} (h:ovl a b):∃ c,c∈kS a∧c∈kS b:=by
 obtain ⟨⟨h1,h2⟩,⟨h3,h4⟩,h5,h6,h7,h8⟩:=h
 refine ⟨(rC (max a.x0 b.x0),rC (max a.y0 b.y0)),aIa.2 ⟨by unfold kZ;omega, ?_⟩,aIa.2 ⟨by unfold kZ;omega, ?_⟩⟩
 ·exact ⟨nG (by omega),nG (by omega),nG (by omega),nG (by omega)⟩
 ·exact ⟨nG (by omega),nG (by omega),nG (by omega),nG (by omega)⟩
def xD (c:Int × Int):Int :=
 IntKind.u32.wrap ((BitVec.ofInt 32 (IntKind.u32.wrap ((BitVec.ofInt 32 (IntKind.u32.wrap (IntKind.u32.wrap c.1*73856093)) ^^^ BitVec.ofInt 32 (IntKind.u32.wrap (IntKind.u32.wrap c.2*19349663))).toNat)) &&& BitVec.ofInt 32 1023).toNat)
def fW (c:Int × Int):Nat:=(xD c).toNat
theorem pD (c:Int × Int):0≤xD c∧xD c < 1024:=by
 unfold xD
 generalize BitVec.ofInt 32 (IntKind.u32.wrap _)=a
 have h:(a &&& BitVec.ofInt 32 1023).toNat≤1023:=by
  rw [BitVec.toNat_and]
  exact Nat.le_trans Nat.and_le_right (by decide)
 rw [aJo _ (by omega) (by omega)]
 omega
theorem nF (c:Int × Int):fW c < 1024:=by have:=pD c;unfold fW;omega
theorem bAt (c:Int × Int):xD c=(fW c:Int):=by have:=pD c;unfold fW;omega
end Go.Bil

namespace Go.Bil
def dB (n:Int):List Int:=[n / 16777216 % 256,n / 65536 % 256,n / 256 % 256,n % 256]
def aYy (b:Body):List Int:=[b.key,b.radius,b.ax,b.ay,b.mass,b.bounce,b.px,b.py,b.vx,b.vy]
def oN (b:Body):List Int:=(aYy b).flatMap dB
def nD:List Int:=[66,73,76,49]
def lE (v:List Body):List Int:=nD++dB (v.length:Int)++v.flatMap oN
def eP (l:List Int) (a:Nat):Int:=((l.getD a 0*256+l.getD (a+1) 0)*256+l.getD (a+2) 0)*256+l.getD (a+3) 0
def lX (n:Int):Int:=if 2147483648≤n then n - 4294967296 else n
def nA (l:List Int) (a:Nat):Body:=⟨eP l a,lX (eP l (a+4)),lX (eP l (a+8)),lX (eP l (a+12)),lX (eP l (a+16)),lX (eP l (a+20)),lX (eP l (a+24)),lX (eP l (a+28)),lX (eP l (a+32)),lX (eP l (a+36))⟩
abbrev aDp (l:List Int):Prop:=8≤l.length∧l.take 4=nD∧(l.length:Int)=8+40*eP l 4
def qD (l:List Int) (n:Nat):List Body:=(List.range n).map (fun i=>nA l (8+40*i))
def oM (l:List Int):List Body × Int:=if ¬ aDp l then ([],13) else if jT (qD l (eP l 4).toNat)≠0 then ([],jT (qD l (eP l 4).toNat)) else (qD l (eP l 4).toNat,0)
abbrev gU (l:List Int):Prop:=∀ x∈l,0≤x∧x≤255
theorem qW (n:Int):(dB n).length=4:=rfl
theorem bGx (b:Body):(oN b).length=40:=rfl
theorem aRb (v:List Body):(v.flatMap oN).length=40*v.length:=by
 induction v with
 | nil=>rfl
 | cons b v ih=>rw [List.flatMap_cons,List.length_append,ih,bGx,List.length_cons];omega
theorem aGy (v:List Body):(lE v).length=8+40*v.length:=by
 unfold lE
 rw [List.length_append,List.length_append,aRb,qW]
 rfl
theorem aJm (n:Int):gU (dB n):=fun x hx=>by
 simp only [dB,List.mem_cons,List.not_mem_nil,or_false] at hx
 rcases hx with rfl | rfl | rfl | rfl <;> omega
theorem bBn (b:Body):gU (oN b):=fun x hx=>by
 obtain ⟨n,_,h⟩:=List.mem_flatMap.1 hx
 exact aJm n x h
theorem xG (v:List Body):gU (lE v):=fun x hx=>by
 unfold lE at hx
 rcases List.mem_append.1 hx with h | h
 ·rcases List.mem_append.1 h with h | h
  ·simp only [nD,List.mem_cons,List.not_mem_nil,or_false] at h
   rcases h with rfl | rfl | rfl | rfl <;> omega
  ·exact aJm _ x h
 ·obtain ⟨b,_,h⟩:=List.mem_flatMap.1 h
  exact bBn b x h
theorem yB (n:Int):dB (n % 4294967296)=dB n:=by
 unfold dB
 have h1:n % 4294967296 / 16777216 % 256=n / 16777216 % 256:=by omega
 have h2:n % 4294967296 / 65536 % 256=n / 65536 % 256:=by omega
 have h3:n % 4294967296 / 256 % 256=n / 256 % 256:=by omega
 have h4:n % 4294967296 % 256=n % 256:=by omega
 rw [h1,h2,h3,h4]
theorem bDt (n:Int):dB (lX n)=dB n:=by
 unfold lX
 split
 ·rw [← yB (n - 4294967296),← yB n]
  congr 1
  omega
 ·rfl
theorem aAv {A L B:List Int} {a:Nat} (ha:A.length=a) {j:Nat} (hj:j < L.length):(A++(L++B)).getD (a+j) 0=L.getD j 0:=by
 subst ha
 rw [List.getD_eq_getElem?_getD,List.getD_eq_getElem?_getD,List.getElem?_append_right (by omega),List.getElem?_append_left (by omega)]
 congr 2
 omega
theorem aMb {A B:List Int} {a:Nat} (ha:A.length=a) (n:Int):eP (A++(dB n++B)) a=n % 4294967296:=by
 have h0:(A++(dB n++B)).getD a 0=n / 16777216 % 256:=aAv (j:=0) ha (by rw [qW];omega)
 have h1:(A++(dB n++B)).getD (a+1) 0=n / 65536 % 256:=aAv (j:=1) ha (by rw [qW];omega)
 have h2:(A++(dB n++B)).getD (a+2) 0=n / 256 % 256:=aAv (j:=2) ha (by rw [qW];omega)
 have h3:(A++(dB n++B)).getD (a+3) 0=n % 256:=aAv (j:=3) ha (by rw [qW];omega)
 unfold eP
 rw [h0,h1,h2,h3]
 omega
theorem bNj {A B L:List Int} {a k:Nat} {n:Int} (ha:A.length=a) {P Q:List Int} (hL:L=P++(dB n++Q)) (hP:P.length=k):eP (A++(L++B)) (a+k)=n % 4294967296:=by
 have e:A++(L++B)=(A++P)++(dB n++(Q++B)):=by rw [hL];simp only [List.append_assoc]
 rw [e]
 exact aMb (by rw [List.length_append,ha,hP]) n
theorem qP {n:Int} (h : -2147483648≤n∧n≤2147483647):lX (n % 4294967296)=n:=by unfold lX;split <;> omega
theorem aUf {A B:List Int} {a:Nat} (ha:A.length=a) {b:Body} (h:InB b):nA (A++(oN b++B)) a=b:=by
 have e:oN b=dB b.key++(dB b.radius++(dB b.ax++(dB b.ay++(dB b.mass++(dB b.bounce++(dB b.px++(dB b.py++(dB b.vx++(dB b.vy++[]))))))))):=rfl
 have f (k:Nat) (n:Int) (P Q:List Int) (hL:oN b=P++(dB n++Q)) (hP:P.length=k):eP (A++(oN b++B)) (a+k)=n % 4294967296:=bNj ha hL hP
 have f0:=f 0 b.key [] _ rfl rfl
 have f1:=f 4 b.radius (dB b.key) _ rfl rfl
 have f2:=f 8 b.ax (dB b.key++dB b.radius) _ rfl rfl
 have f3:=f 12 b.ay (dB b.key++dB b.radius++dB b.ax) _ rfl rfl
 have f4:=f 16 b.mass (dB b.key++dB b.radius++dB b.ax++dB b.ay) _ rfl rfl
 have f5:=f 20 b.bounce (dB b.key++dB b.radius++dB b.ax++dB b.ay++dB b.mass) _ rfl rfl
 have f6:=f 24 b.px (dB b.key++dB b.radius++dB b.ax++dB b.ay++dB b.mass++dB b.bounce) _ rfl rfl
 have f7:=f 28 b.py (dB b.key++dB b.radius++dB b.ax++dB b.ay++dB b.mass++dB b.bounce++dB b.px) _ rfl rfl
 have f8:=f 32 b.vx (dB b.key++dB b.radius++dB b.ax++dB b.ay++dB b.mass++dB b.bounce++dB b.px++dB b.py) _ rfl rfl
 have f9:=f 36 b.vy (dB b.key++dB b.radius++dB b.ax++dB b.ay++dB b.mass++dB b.bounce++dB b.px++dB b.py++dB b.vx) [] rfl rfl
 rw [Nat.add_zero] at f0
 obtain ⟨h0,h1,h2,h3,h4,h5,h6,h7,h8,h9⟩:=h
 unfold nA
 rw [f0,f1,f2,f3,f4,f5,f6,f7,f8,f9,qP (by omega),qP (by omega),qP (by omega),qP (by omega),qP (by omega),qP (by omega),qP (by omega),qP (by omega),qP (by omega),Int.emod_eq_of_lt (by omega) (by omega)]
theorem aVf {v:List Body} {i:Nat} {b:Body} (h:v[i]? = some b):lE v=(nD++dB (v.length:Int)++(v.take i).flatMap oN)++(oN b++(v.drop (i+1)).flatMap oN):=by
 have hi:=List.getElem?_eq_some_iff.1 h
 have e:v.flatMap oN=(v.take i).flatMap oN++(oN b++(v.drop (i+1)).flatMap oN):=by
  conv=>lhs;rw [← List.take_append_drop i v,List.drop_eq_getElem_cons hi.1,hi.2]
  rw [List.flatMap_append,List.flatMap_cons]
 unfold lE
 rw [e]
 simp only [List.append_assoc]
theorem aQb {v:List Body} {i:Nat} {b:Body} (h:v[i]? = some b) (hb:InB b):nA (lE v) (8+40*i)=b:=by
 rw [aVf h]
 refine aUf ?_ hb
 have hi:=(List.getElem?_eq_some_iff.1 h).1
 rw [List.length_append,List.length_append,aRb,List.length_take,qW,Nat.min_eq_left (by omega)]
 rfl
theorem aMa (v:List Body) (h:v.length < 4294967296):eP (lE v) 4=(v.length:Int):=by
 have e:lE v=nD++(dB (v.length:Int)++v.flatMap oN):=by unfold lE;rw [List.append_assoc]
 rw [e,aMb (A:=nD) (a:=4) rfl]
 omega
theorem bGn {v:List Body} (hb:∀ b∈v,InB b):qD (lE v) v.length=v:=by
 refine List.ext_getElem? fun i => ?_
 unfold qD
 rw [List.getElem?_map]
 by_cases hi:i < v.length
 ·have hv:=List.getElem?_eq_getElem hi
  rw [List.getElem?_range hi,hv]
  show some (nA (lE v) (8+40*i))=some v[i]
  rw [aQb hv (hb _ (List.getElem_mem hi))]
 ·rw [List.getElem?_eq_none (by omega:v.length≤i),List.getElem?_eq_none (by rw [List.length_range];omega)]
  rfl
theorem bHi (v:List Body) (h:v.length≤4096):aDp (lE v):=by
 have hl:=aGy v
 refine ⟨by omega,Z, ?_⟩
 rw [aMa v (by omega),hl]
 omega
theorem bGm {v:List Body} (hb:∀ b∈v,InB b) (hl:v.length≤4096) (hc:jT v=0):oM (lE v)=(v,0):=by
 unfold oM
 rw [if_neg (Decidable.not_not.2 (bHi v hl)),aMa v (by omega),Int.toNat_natCast,bGn hb,if_neg (by omega)]
theorem oC {l:List Int} (hl:gU l) {a:Nat} (h:a+4≤l.length):0≤eP l a∧eP l a≤4294967295∧dB (eP l a)=(l.drop a).take 4:=by
 have g (j:Nat) (hj:j < l.length):l[j]? = some (l.getD j 0)∧0≤l.getD j 0∧l.getD j 0≤255:=by
  rw [List.getD_eq_getElem?_getD,List.getElem?_eq_getElem hj]
  have hb:=hl _ (List.getElem_mem hj)
  exact ⟨Z,hb.1,hb.2⟩
 obtain ⟨g0,g1,g2⟩:=g a (by omega)
 obtain ⟨g3,g4,g5⟩:=g (a+1) (by omega)
 obtain ⟨g6,g7,g8⟩:=g (a+2) (by omega)
 obtain ⟨g9,ga,gb⟩:=g (a+3) (by omega)
 have e:(l.drop a).take 4=[l.getD a 0,l.getD (a+1) 0,l.getD (a+2) 0,l.getD (a+3) 0]:=by
  have hlen:((l.drop a).take 4).length=4:=by rw [List.length_take,List.length_drop];omega
  refine List.ext_getElem? fun j => ?_
  rcases (show j=0∨j=1∨j=2∨j=3∨4≤j by omega) with rfl | rfl | rfl | rfl | hj
  ·rw [List.getElem?_take_of_lt (by omega),List.getElem?_drop];simpa using g0
  ·rw [List.getElem?_take_of_lt (by omega),List.getElem?_drop];simpa using g3
  ·rw [List.getElem?_take_of_lt (by omega),List.getElem?_drop];simpa using g6
  ·rw [List.getElem?_take_of_lt (by omega),List.getElem?_drop];simpa using g9
  ·rw [List.getElem?_eq_none (by omega),List.getElem?_eq_none (by simpa using hj)]
 rw [e]
 unfold eP dB
 generalize l.getD a 0=p at *
 generalize l.getD (a+1) 0=q at *
 generalize l.getD (a+2) 0=r at *
 generalize l.getD (a+3) 0=s at *
 refine ⟨by omega,by omega, ?_⟩
 have h1:(((p*256+q)*256+r)*256+s) / 16777216 % 256=p:=by omega
 have h2:(((p*256+q)*256+r)*256+s) / 65536 % 256=q:=by omega
 have h3:(((p*256+q)*256+r)*256+s) / 256 % 256=r:=by omega
 have h4:(((p*256+q)*256+r)*256+s) % 256=s:=by omega
 rw [h1,h2,h3,h4]
theorem aUx (l:List Int) (k:Nat):∀ n,(List.range n).flatMap (fun i=>(l.drop (k*i)).take k)=l.take (k*n)
 | 0=>by simp
 | n+1=>by
  rw [List.range_succ,List.flatMap_append,aUx l k n,List.flatMap_cons,List.flatMap_nil,List.append_nil,Nat.mul_succ,List.take_add]
theorem pL {n:Int} (h:0≤n∧n≤4294967295) : -2147483648≤lX n∧lX n≤2147483647:=by unfold lX;split <;> omega
theorem bAr {l:List Int} (hl:gU l) {a:Nat} (h:a+40≤l.length):InB (nA l a):=by
 have f (k:Nat) (hk:k≤36):0≤eP l (a+k)∧eP l (a+k)≤4294967295:=by
  have:=oC hl (a:=a+k) (by omega)
  exact ⟨this.1,this.2.1⟩
 exact ⟨f 0 (by omega),pL (f 4 (by omega)),pL (f 8 (by omega)),pL (f 12 (by omega)),pL (f 16 (by omega)),pL (f 20 (by omega)),pL (f 24 (by omega)),pL (f 28 (by omega)),pL (f 32 (by omega)),pL (f 36 (by omega))⟩
theorem bMc {l:List Int} (hl:gU l) {a:Nat} (h:a+40≤l.length):oN (nA l a)=(l.drop a).take 40:=by
 have f (k:Nat) (hk:k≤36):dB (eP l (a+k))=((l.drop a).drop k).take 4:=by rw [List.drop_drop];exact (oC hl (a:=a+k) (by omega)).2.2
 have e:=aUx (l.drop a) 4 10
 rw [← e]
 unfold oN aYy nA
 simp only [List.flatMap_cons,List.flatMap_nil,bDt]
 have f0:=f 0 (by omega)
 rw [Nat.add_zero] at f0
 rw [f0,f 4 (by omega),f 8 (by omega),f 12 (by omega),f 16 (by omega),f 20 (by omega),f 24 (by omega),f 28 (by omega),f 32 (by omega),f 36 (by omega)]
 rfl
theorem aAh (l:List Int) (n:Nat):(qD l n).length=n:=by unfold qD;rw [List.length_map,List.length_range]
theorem aJz {α β:Type} {l:List α} {f g:α→List β} (h:∀ x∈l,f x=g x):l.flatMap f=l.flatMap g:=by
 induction l with
 | nil=>rfl
 | cons x l ih=>rw [List.flatMap_cons,List.flatMap_cons,h x (by simp),ih fun y hy=>h y (by simp [hy])]
theorem bGy {l:List Int} (hl:gU l) {n:Nat} (h:l.length=8+40*n):(qD l n).flatMap oN=l.drop 8:=by
 unfold qD
 rw [List.flatMap_map,aJz (g:=fun i=>((l.drop 8).drop (40*i)).take 40) (fun i hi=>by
  have:=List.mem_range.1 hi
  rw [List.drop_drop]
  exact bMc hl (by omega)),aUx,List.take_of_length_le (by rw [List.length_drop];omega)]
structure DecOk (l:List Int) (v:List Body):Prop where
 n:l.length=8+40*v.length
 e:lE v=l
 inb:∀ b∈v,InB b
 c:jT v=0
theorem bLw {l:List Int} (hl:gU l) (h:(oM l).2=0):DecOk l (oM l).1:=by
 unfold oM at h ⊢
 by_cases hf:aDp l
 ·rw [if_neg (Decidable.not_not.2 hf)] at h ⊢
  by_cases hc:jT (qD l (eP l 4).toNat)=0
  ·rw [if_neg (by omega)]
   obtain ⟨h8,hm,hn⟩:=hf
   have hr:=oC hl (a:=4) (by omega)
   have hlen:l.length=8+40*(eP l 4).toNat:=by omega
   show DecOk l (qD l (eP l 4).toNat)
   refine ⟨by rw [aAh];exact hlen, ?_, ?_,hc⟩
   ·unfold lE
    rw [bGy hl hlen,aAh,show (((eP l 4).toNat:Nat):Int)=eP l 4 by omega,hr.2.2,← hm,← List.take_add,List.take_append_drop]
   ·intro b hb
    unfold qD at hb
    obtain ⟨i,hi,rfl⟩:=List.mem_map.1 hb
    have:=List.mem_range.1 hi
    exact bAr hl (by omega)
  ·rw [if_pos hc] at h
   exact absurd h hc
 ·rw [if_pos hf] at h
  cases h
def aEk (b:Body):List Int:=[b.key,b.radius % 4294967296,b.ax % 4294967296,b.ay % 4294967296,b.mass % 4294967296,b.bounce % 4294967296,b.px % 4294967296,b.py % 4294967296,b.vx % 4294967296,b.vy % 4294967296]
theorem bCk (b:Body):(aEk b).flatMap dB=oN b:=by
 unfold aEk oN aYy
 simp only [List.flatMap_cons,List.flatMap_nil,yB]
theorem bCl {b:Body} (h:InB b):∀ x∈aEk b,0≤x∧x≤4294967295:=by
 obtain ⟨h0,_⟩:=h
 intro x hx
 simp only [aEk,List.mem_cons,List.not_mem_nil,or_false] at hx
 rcases hx with rfl | rfl | rfl | rfl | rfl | rfl | rfl | rfl | rfl | rfl <;> omega
theorem bBp {L:List Int} {j:Nat} {x:Int} (h:L[j]? = some x):(L.take (j+1)).flatMap dB=(L.take j).flatMap dB++dB x:=by
 rw [cC h,List.flatMap_append,List.flatMap_cons,List.flatMap_nil,List.append_nil]
theorem aLm {v:List Body} {j:Nat} {x:Body} (h:v[j]? = some x):(v.take (j+1)).flatMap oN=(v.take j).flatMap oN++oN x:=by
 rw [cC h,List.flatMap_append,List.flatMap_cons,List.flatMap_nil,List.append_nil]
theorem gH {l:List Int} {a m:Nat} (h:4≤m):eP ((l.drop a).take m) 0=eP l a:=by
 have g (j:Nat) (hj:j < m):((l.drop a).take m).getD j 0=l.getD (a+j) 0:=by
  rw [List.getD_eq_getElem?_getD,List.getD_eq_getElem?_getD,List.getElem?_take_of_lt hj,List.getElem?_drop]
 unfold eP
 rw [g 0 (by omega),g (0+1) (by omega),g (0+2) (by omega),g (0+3) (by omega)]
 rfl
theorem aLj (l:List Int) (k:Nat):qD l (k+1)=qD l k++[nA l (8+40*k)]:=by unfold qD;rw [List.range_succ,List.map_append];rfl
theorem gU.sub {l:List Int} (h:gU l) (a m:Nat):gU ((l.drop a).take m):=fun x hx=>h x (List.mem_of_mem_drop (List.mem_of_mem_take hx))
end Go.Bil
namespace Go.Bil
theorem xF {l:List Int} (h:¬ aDp l):oM l=([],13):=by unfold oM;rw [if_pos h]
theorem aYk {l:List Int} {N:Nat} (h:aDp l) (hN:eP l 4=(N:Int)) (hc:jT (qD l N)≠0):oM l=([],jT (qD l N)):=by
 unfold oM;rw [if_neg (Decidable.not_not.2 h),hN,Int.toNat_natCast,if_pos hc]
theorem aQw {l:List Int} {N:Nat} (h:aDp l) (hN:eP l 4=(N:Int)) (hc:jT (qD l N)=0):oM l=(qD l N,0):=by
 unfold oM;rw [if_neg (Decidable.not_not.2 h),hN,Int.toNat_natCast,if_neg (by omega)]
theorem bXy {l:List Int} (hl:gU l) {a:Nat} (h:a+40≤l.length):∀ x∈([eP l a,eP l (a+4),eP l (a+8),eP l (a+12),eP l (a+16),eP l (a+20),eP l (a+24),eP l (a+28),eP l (a+32),eP l (a+36)]:List Int),0≤x∧x≤4294967295:=by
 have f (k:Nat) (hk:k≤36):0≤eP l (a+k)∧eP l (a+k)≤4294967295:=by
  have:=oC hl (a:=a+k) (by omega)
  exact ⟨this.1,this.2.1⟩
 intro x hx
 simp only [List.mem_cons,List.not_mem_nil,or_false] at hx
 rcases hx with rfl | rfl | rfl | rfl | rfl | rfl | rfl | rfl | rfl | rfl
 ·exact f 0 (by omega)
 ·exact f 4 (by omega)
 ·exact f 8 (by omega)
 ·exact f 12 (by omega)
 ·exact f 16 (by omega)
 ·exact f 20 (by omega)
 ·exact f 24 (by omega)
 ·exact f 28 (by omega)
 ·exact f 32 (by omega)
 ·exact f 36 (by omega)
theorem sD:nD=([66,73,76,49]:List UInt8).map (fun y=>(y.toNat:Int)):=by decide
end Go.Bil
