/- Part of the proof of a law of this seat (7 texts). No conditions. -/
import Derived.Test.YtaoaknafiegfoaaGreatDoorK4
import Derived.Test.YtaoaknafiegfoaaGreatDoorK3
set_option linter.unusedVariables false
set_option linter.unusedSimpArgs false
set_option linter.unnecessarySimpa false
set_option maxHeartbeats 100000000
namespace Go.Bil
def bY (s:List Body):Prop:=s.Pairwise (fun a b=>a.key < b.key)
def pD (k:Int) (s:List Body):List Body:=s.filter (fun x=>decide (x.key≠k))
def pT (b:Body):Bool→List Body→List Body
 | true,s=>pD b.key s
 | false,[]=>[b]
 | false,x::l=>if b.key≤x.key then b::pD b.key (x::l) else x::pT b false l
def bHa (b:Body) (r:List Body × Bool):List Body:=if r.2 then r.1 else r.1++[b]
theorem pG (b:Body):∀ (s acc:List Body) (d:Bool),bHa b (s.foldl (nG b) (acc,d))=acc++pT b d s
 | [],acc,true=>by simp [pT,pD,bHa]
 | [],acc,false=>by simp [pT,bHa]
 | x::l,acc,true=>by
  have ih:=pG b l (if x.key≠b.key then acc++[x] else acc) true
  rw [List.foldl_cons]
  have e:nG b (acc,true) x=(if x.key≠b.key then acc++[x] else acc,true):=by unfold nG;by_cases h:x.key=b.key <;> simp [h]
  rw [e,ih]
  by_cases h:x.key=b.key <;> simp [pT,pD,h]
 | x::l,acc,false=>by
  rw [List.foldl_cons]
  by_cases hb:b.key≤x.key
  ·have ih:=pG b l (if x.key≠b.key then acc++[b]++[x] else acc++[b]) true
   have e:nG b (acc,false) x=(if x.key≠b.key then acc++[b]++[x] else acc++[b],true):=by unfold nG;by_cases h:x.key=b.key <;> simp [h,hb]
   rw [e,ih]
   by_cases h:x.key=b.key <;> simp [pT,pD,h,hb]
  ·have hne:x.key≠b.key:=by omega
   have ih:=pG b l (acc++[x]) false
   have e:nG b (acc,false) x=(acc++[x],false):=by unfold nG;simp [hb,hne]
   rw [e,ih]
   simp [pT,hb]
theorem aPp (s:List Body) (b:Body) (g:Bool):aGc s b g=pT b g s:=by
 have:=pG b s [] g
 rw [List.nil_append] at this
 exact this
theorem wA (b:Body):∀ s:List Body,(pT b false s).Perm (b::pD b.key s)
 | []=>by simp [pT,pD]
 | x::l=>by
  unfold pT
  split
  ·exact List.Perm.refl _
  ·rename_i h
   have hne:x.key≠b.key:=by omega
   have e:pD b.key (x::l)=x::pD b.key l:=by simp [pD,hne]
   rw [e]
   exact ((wA b l).cons x).trans (List.Perm.swap b x _)
theorem uJ {k:Int} {s:List Body} {x:Body}:x∈pD k s↔x∈s∧x.key≠k:=by simp [pD]
theorem bY.cut {s:List Body} (h:bY s) (k:Int):bY (pD k s):=List.Pairwise.sublist List.filter_sublist h
theorem bY.put {b:Body}:∀ {s:List Body},bY s→bY (pT b false s)
 | [],_=>by simp [pT,bY]
 | x::l,h=>by
  unfold pT
  have hx:∀ y∈l,x.key < y.key:=(List.pairwise_cons.1 h).1
  have hl:bY l:=(List.pairwise_cons.1 h).2
  split
  ·rename_i hb
   refine List.pairwise_cons.2 ⟨fun y hy => ?_,h.cut _⟩
   obtain ⟨h1,h2⟩:=uJ.1 hy
   rcases List.mem_cons.1 h1 with rfl | h1
   ·omega
   ·have:=hx y h1;omega
  ·rename_i hb
   refine List.pairwise_cons.2 ⟨fun y hy => ?_,bY.put hl⟩
   have:=(wA b l).mem_iff.1 hy
   rcases List.mem_cons.1 this with rfl | h1
   ·omega
   ·exact hx y (uJ.1 h1).1
def pZ (s:List Body) (b:Body):List Body × Int :=
 if check b≠0 then (s,check b) else if 0≤cI b.key s then (s,10) else if 4096≤s.length then (s,12) else (aGc s b false,0)
def rL (k:Int):Body:=⟨k,0,0,0,0,0,0,0,0,0⟩
def iJ (s:List Body) (k:Int):List Body × Int:=if cI k s < 0 then (s,11) else (aGc s (rL k) true,0)
def aWz (s:List Body) (b:Body):List Body × Int :=
 if check b≠0 then (s,check b) else if cI b.key s < 0 then (s,11) else (aGc s b false,0)
structure Rel (m s:List Body):Prop where
 perm:s.Perm m
 sorted:bY s
theorem Rel.nil:Rel [] []:=⟨List.Perm.refl _,by simp [bY]⟩
theorem bY.unique {s t:List Body} (h:bY s) (h':bY t) (p:s.Perm t):s=t :=
 List.Perm.eq_of_pairwise (le:=fun (a b:Body)=>a.key < b.key) (fun a b _ _ h1 h2=>by omega) h h' p
theorem bY.keys {s:List Body} (h:bY s):iL s:=by
 unfold iL List.Nodup
 rw [List.pairwise_map]
 exact h.imp (fun h=>by omega)
theorem Rel.keys {m s:List Body} (R:Rel m s):iL m:=R.sorted.keys.perm R.perm.symm
theorem Rel.find {m s:List Body} (R:Rel m s) (k:Int):cI k s < 0↔cI k m < 0:=by
 rw [kL,kL]
 exact ⟨fun h b hb=>h b (R.perm.mem_iff.2 hb),fun h b hb=>h b (R.perm.mem_iff.1 hb)⟩
theorem aDa {k:Int} {s:List Body} (h:cI k s < 0):pD k s=s:=List.filter_eq_self.2 fun x hx=>by simpa using kL.1 h x hx
theorem Rel.put {m s:List Body} (R:Rel m s) (b:Body) {m':List Body} (h:m'.Perm (b::pD b.key m)):Rel m' (aGc s b false):=by
 rw [aPp]
 exact ⟨((wA b s).trans ((R.perm.filter _).cons b)).trans h.symm,R.sorted.put⟩
theorem Rel.add {m s:List Body} (R:Rel m s) (b:Body):Rel (lF m b).1 (pZ s b).1∧(pZ s b).2=(lF m b).2:=by
 unfold lF pZ
 have hf:=R.find b.key
 have hl:=R.perm.length_eq
 by_cases h1:check b≠0
 ·rw [if_pos h1,if_pos h1];exact ⟨R,rfl⟩
 ·rw [if_neg h1,if_neg h1]
  by_cases h2:0≤cI b.key m
  ·have h2':0≤cI b.key s:=by omega
   rw [if_pos h2,if_pos h2'];exact ⟨R,rfl⟩
  ·have h2':¬ 0≤cI b.key s:=by omega
   rw [if_neg h2,if_neg h2',hl]
   by_cases h3:4096≤m.length
   ·rw [if_pos h3,if_pos h3];exact ⟨R,rfl⟩
   ·rw [if_neg h3,if_neg h3]
    refine ⟨R.put b ?_,Z⟩
    rw [aDa (by omega)]
    exact List.perm_append_singleton b m
theorem sX {m:List Body} (h:iL m) {i:Nat} {b:Body} (hi:m[i]? = some b):m.eraseIdx i=pD b.key m:=by
 have e:m=m.take i++b::m.drop (i+1):=by
  have hlt:=(List.getElem?_eq_some_iff.1 hi).1
  have hb:m[i]=b:=(List.getElem?_eq_some_iff.1 hi).2
  rw [← hb,← List.drop_eq_getElem_cons hlt,List.take_append_drop]
 have hne:=aEg h hi
 rw [List.eraseIdx_eq_take_drop_succ] at hne ⊢
 conv=>rhs;rw [e]
 unfold pD
 rw [List.filter_append,List.filter_cons]
 simp only [ne_eq,not_true_eq_false,decide_false,Bool.false_eq_true,if_false]
 rw [List.filter_eq_self.2 (fun x hx=>by simpa using hne x (List.mem_append_left _ hx)),List.filter_eq_self.2 (fun x hx=>by simpa using hne x (List.mem_append_right _ hx))]
theorem Rel.remove {m s:List Body} (R:Rel m s) (k:Int):Rel (jJ m k).1 (iJ s k).1∧(iJ s k).2=(jJ m k).2:=by
 unfold jJ iJ
 have hf:=R.find k
 by_cases h:cI k m < 0
 ·rw [if_pos h,if_pos (hf.2 h)];exact ⟨R,rfl⟩
 ·rw [if_neg h,if_neg (fun h'=>h (hf.1 h'))]
  refine ⟨?_,Z⟩
  rcases dG k m with ⟨h1,_⟩ | ⟨i,b,h1,h2,h3⟩
  ·omega
  ·rw [h3,Int.toNat_natCast,aPp]
   have hlt:=(List.getElem?_eq_some_iff.1 h1).1
   have hk:(rL k).key=b.key:=h2.symm
   have he:pT (rL k) true s=pD b.key s:=by unfold pT;rw [hk]
   refine ⟨?_,by rw [he];exact R.sorted.cut _⟩
   show (pT (rL k) true s).Perm _
   rw [he]
   exact (R.perm.filter _).trans ((List.Perm.of_eq (sX R.keys h1).symm).trans (nT hlt).symm)
theorem aZv {m:List Body} {i:Nat} {x:Body} (hi:i < m.length):(m.set i x).Perm (x::m.eraseIdx i):=by
 rw [List.set_eq_take_append_cons_drop,if_pos hi,List.eraseIdx_eq_take_drop_succ]
 exact List.perm_middle
theorem Rel.set {m s:List Body} (R:Rel m s) (b:Body):Rel (pN m b).1 (aWz s b).1∧(aWz s b).2=(pN m b).2:=by
 unfold pN aWz
 have hf:=R.find b.key
 by_cases h1:check b≠0
 ·rw [if_pos h1,if_pos h1];exact ⟨R,rfl⟩
 ·rw [if_neg h1,if_neg h1]
  by_cases h:cI b.key m < 0
  ·rw [if_pos h,if_pos (hf.2 h)];exact ⟨R,rfl⟩
  ·rw [if_neg h,if_neg (fun h'=>h (hf.1 h'))]
   refine ⟨?_,Z⟩
   rcases dG b.key m with ⟨h1,_⟩ | ⟨i,c,h1,h2,h3⟩
   ·omega
   ·rw [h3,Int.toNat_natCast]
    have hlt:=(List.getElem?_eq_some_iff.1 h1).1
    refine R.put b ((aZv hlt).trans ?_)
    rw [sX R.keys h1,h2]
theorem Rel.get {m s:List Body} (R:Rel m s) (k:Int):(cI k s < 0∧zY m k=(rL 0,11))∨∃ (i:Nat) (b:Body),cI k s=(i:Int)∧s[i]? = some b∧zY m k=(b,0):=by
 rcases dG k s with ⟨h1,h2⟩ | ⟨i,b,h1,h2,h3⟩
 ·have hm:cI k m < 0:=(R.find k).1 (by omega)
  refine .inl ⟨by omega, ?_⟩
  unfold zY
  rw [if_pos hm]
  rfl
 ·refine .inr ⟨i,b,h3,h1, ?_⟩
  have hb:b∈m:=R.perm.mem_iff.1 (List.mem_of_getElem? h1)
  obtain ⟨j,hj⟩:=List.getElem?_of_mem hb
  have:=pX R.keys hj
  rw [h2] at this
  exact vH this hj
theorem uD {a b:Int}:mJ a b < 0↔a < b:=by unfold mJ;(repeat' split) <;> omega
def aMh (b:Body):List Body→List Body
 | []=>[b]
 | x::l=>if b.key≤x.key then b::x::l else x::aMh b l
def xI (m:List Body):List Body:=m.foldr aMh []
theorem vO (b:Body):∀ l:List Body,(aMh b l).Perm (b::l)
 | []=>List.Perm.refl _
 | x::l=>by
  unfold aMh
  split
  ·exact List.Perm.refl _
  ·exact ((vO b l).cons x).trans (List.Perm.swap b x l)
theorem mK:∀ m:List Body,(xI m).Perm m
 | []=>List.Perm.refl _
 | b::m=>(vO b (xI m)).trans ((mK m).cons b)
def Up (s:List Body):Prop:=s.Pairwise (fun a b=>a.key≤b.key)
theorem aPz (b:Body):∀ {l:List Body},Up l→Up (aMh b l)
 | [],_=>by simp [aMh,Up]
 | x::l,h=>by
  unfold aMh
  have hx:∀ y∈l,x.key≤y.key:=(List.pairwise_cons.1 h).1
  split
  ·rename_i hb
   refine List.pairwise_cons.2 ⟨fun y hy => ?_,h⟩
   rcases List.mem_cons.1 hy with rfl | hy
   ·exact hb
   ·have:=hx y hy;omega
  ·refine List.pairwise_cons.2 ⟨fun y hy => ?_,aPz b (List.pairwise_cons.1 h).2⟩
   have:=(vO b l).mem_iff.1 hy
   rcases List.mem_cons.1 this with rfl | h1
   ·omega
   ·exact hx y h1
theorem aAj:∀ m:List Body,Up (xI m)
 | []=>by simp [xI,Up]
 | b::m=>aPz b (aAj m)
theorem vY {s:List Body} (h:Up s) (hk:iL s):bY s:=by
 unfold Up at h
 unfold iL List.Nodup at hk
 rw [List.pairwise_map] at hk
 exact (List.Pairwise.and h hk).imp (fun ⟨h1,h2⟩=>by omega)
theorem aSu {s t:List Body} (h:Up s) (h':Up t) (p:s.Perm t) (hk:iL s):s=t:=(vY h hk).unique (vY h' (hk.perm p.symm)) p
theorem aRs {m:List Body} (hk:iL m):Rel m (xI m):=⟨mK m,vY (aAj m) (hk.perm (mK m))⟩
theorem Rel.eq {m s:List Body} (R:Rel m s):xI m=s:=(aRs R.keys).sorted.unique R.sorted ((mK m).trans R.perm.symm)
end Go.Bil
namespace Go.Bil
structure InB (b:Body):Prop where
 key:0≤b.key∧b.key≤4294967295
 radius : -2147483648≤b.radius∧b.radius≤2147483647
 ax : -2147483648≤b.ax∧b.ax≤2147483647
 ay : -2147483648≤b.ay∧b.ay≤2147483647
 mass : -2147483648≤b.mass∧b.mass≤2147483647
 bounce : -2147483648≤b.bounce∧b.bounce≤2147483647
 px : -2147483648≤b.px∧b.px≤2147483647
 py : -2147483648≤b.py∧b.py≤2147483647
 vx : -2147483648≤b.vx∧b.vx≤2147483647
 vy : -2147483648≤b.vy∧b.vy≤2147483647
theorem bHf (l:List Value) (h:kV [.u32,.i32,.i32,.i32,.i32,.i32,.i32,.i32,.i32,.i32] l):∃ b,l=aF b∧InB b:=by
 obtain ⟨z0,l0,rfl,w0,h0⟩:=eN h
 obtain ⟨z1,l1,rfl,w1,h1⟩:=eN h0
 obtain ⟨z2,l2,rfl,w2,h2⟩:=eN h1
 obtain ⟨z3,l3,rfl,w3,h3⟩:=eN h2
 obtain ⟨z4,l4,rfl,w4,h4⟩:=eN h3
 obtain ⟨z5,l5,rfl,w5,h5⟩:=eN h4
 obtain ⟨z6,l6,rfl,w6,h6⟩:=eN h5
 obtain ⟨z7,l7,rfl,w7,h7⟩:=eN h6
 obtain ⟨z8,l8,rfl,w8,h8⟩:=eN h7
 obtain ⟨z9,l9,rfl,w9,h9⟩:=eN h8
 obtain rfl:=pV h9
 exact ⟨⟨z0,z1,z2,z3,z4,z5,z6,z7,z8,z9⟩,Z,⟨w0,w1,w2,w3,w4,w5,w6,w7,w8,w9⟩⟩
end Go.Bil

namespace Go.Bil
structure StV where
 A:Option Addr
 n:Nat
 c:Nat
 p:Option Nat
 er:cY
 em:cY
def aEf (l:List Body):List Body:=l.foldl (fun m b=>(lF m b).1) []
theorem aBm {l:List Body} {k:Nat} {x:Body} (h:l[k]? = some x):aEf (l.take (k+1))=(lF (aEf (l.take k)) x).1:=by
 unfold aEf
 rw [cQ h,List.foldl_append]
 rfl
def wG (l:List Body):List Body:=l.filter (fun b=>decide (check b=0))
theorem aZy {m:List Body} {x:Body} (hf:∀ b∈m,b.key≠x.key) (hl:m.length < 4096):lF (wG m) x=(wG (m++[x]),check x):=by
 have hle:(wG m).length≤m.length:=List.length_filter_le _ _
 unfold lF
 by_cases h:check x=0
 ·rw [if_neg (by omega),if_neg (by
   have:cI x.key (wG m) < 0:=kL.2 fun b hb=>hf b (List.mem_filter.1 hb).1
   omega),if_neg (by omega),h]
  simp [wG,List.filter_append,h]
 ·rw [if_pos h]
  simp [wG,List.filter_append,h]
theorem aKh {l:List Body} (h:iL l) {k:Nat} {x:Body} (hx:l[k]? = some x):∀ b∈l.take k,b.key≠x.key:=by
 intro b hb e
 obtain ⟨j,hj⟩:=List.getElem?_of_mem hb
 rw [List.getElem?_take] at hj
 split at hj
 ·rename_i hlt
  have:=h.inj hj hx e
  omega
 ·cases hj
theorem yT {l:List Body} (h:iL l) (hl:l.length≤4096):∀ k,k≤l.length→aEf (l.take k)=wG (l.take k)
 | 0,_=>by simp [aEf,wG]
 | k+1,hk=>by
  obtain ⟨x,hx⟩:=cF (xs:=l) (k:=k) rfl (by omega)
  rw [aBm hx,yT h hl k (by omega),aZy (aKh h hx) (by rw [List.length_take];omega),cQ hx]
theorem xF {m:List Body} (hk:iL m) (k:Int):(jJ m k).1.Perm (pD k m):=by
 unfold jJ
 by_cases h:cI k m < 0
 ·rw [if_pos h,aDa h]
 ·rw [if_neg h]
  rcases dG k m with ⟨h1,_⟩ | ⟨i,b,h1,h2,h3⟩
  ·omega
  ·rw [h3,Int.toNat_natCast]
   have hlt:=(List.getElem?_eq_some_iff.1 h1).1
   have:=(nT hlt).trans (List.Perm.of_eq (sX hk h1))
   rwa [h2] at this
end Go.Bil
namespace Go.Bil
structure StepI where
 kind:Int
 body:Body
instance:Inhabited StepI:=⟨⟨0,rL 0⟩⟩
end Go.Bil

namespace Go.Bil
def jY:List Body→Int
 | []=>0
 | b::l=>if check b≠0 then check b else jY l
def pM (xs:List Body):Int:=if 4096 < xs.length then 12 else jY xs
theorem nL:∀ {xs:List Body},(∀ (j:Nat) (c:Body),xs[j]? = some c→check c=0)→jY xs=0
 | [],_=>rfl
 | b::l,h=>by
  unfold jY
  rw [if_neg (by have:=h 0 b (by simp);omega)]
  exact nL fun j c hj=>h (j+1) c (by simpa using hj)
theorem wM:∀ {xs:List Body} {k:Nat} {b:Body},xs[k]? = some b→check b≠0→(∀ (j:Nat) (c:Body),j < k→xs[j]? = some c→check c=0)→jY xs=check b
 | [],_,_,h,_,_=>by simp at h
 | a::l,0,b,h,hb,_=>by
  simp only [List.getElem?_cons_zero,Option.some.injEq] at h
  subst h
  unfold jY
  rw [if_pos hb]
 | a::l,k+1,b,h,hb,hn=>by
  unfold jY
  rw [if_neg (by have:=hn 0 a (by omega) (by simp);omega)]
  exact wM (by simpa using h) hb fun j c hj hc=>hn (j+1) c (by omega) (by simpa using hc)
theorem uM:∀ {xs:List Body},jY xs=0→∀ b∈xs,check b=0
 | [],_,b,hb=>by simp at hb
 | a::l,h,b,hb=>by
  unfold jY at h
  by_cases ha:check a=0
  ·rw [if_neg (by omega)] at h
   rcases List.mem_cons.1 hb with rfl | hb
   ·exact ha
   ·exact uM h b hb
  ·rw [if_pos ha] at h;exact absurd h ha
theorem aYe {xs:List Body} (h:pM xs=0):xs.length≤4096∧∀ b∈xs,check b=0:=by
 unfold pM at h
 split at h
 ·omega
 ·exact ⟨by omega,uM h⟩
theorem aYg {xs:List Body} (hl:xs.length≤4096) (h:∀ b∈xs,check b=0):pM xs=0:=by
 unfold pM
 rw [if_neg (by omega)]
 exact nL fun j c hj=>h c (List.mem_of_getElem? hj)
def aCs:List Body→Bool
 | x::y::l=>decide (x.key < y.key) && aCs (y::l)
 | _=>true
theorem vU:∀ {xs:List Body},(∀ (i:Nat) (x y:Body),xs[i]? = some x→xs[i+1]? = some y→x.key < y.key)→aCs xs=true
 | [],_=>rfl
 | [_],_=>rfl
 | x::y::l,h=>by
  unfold aCs
  rw [Bool.and_eq_true]
  exact ⟨decide_eq_true (h 0 x y (by simp) (by simp)),vU fun i a b ha hb=>h (i+1) a b (by simpa using ha) (by simpa using hb)⟩
theorem qL:∀ {xs:List Body},aCs xs=true→bY xs
 | [],_=>by simp [bY]
 | [_],_=>by simp [bY]
 | x::y::l,h=>by
  unfold aCs at h
  rw [Bool.and_eq_true,decide_eq_true_eq] at h
  have ih:=qL h.2
  refine List.pairwise_cons.2 ⟨fun z hz => ?_,ih⟩
  rcases List.mem_cons.1 hz with rfl | hz
  ·exact h.1
  ·have:=(List.pairwise_cons.1 ih).1 z hz;have:=h.1;omega
theorem aJm {xs:List Body} (h:bY xs):aCs xs=true:=vU fun i x y hx hy=>by
 have hi:=List.getElem?_eq_some_iff.1 hx
 have hj:=List.getElem?_eq_some_iff.1 hy
 have:=List.pairwise_iff_getElem.1 h i (i+1) hi.1 hj.1 (by omega)
 rwa [hi.2,hj.2] at this
theorem aMn {xs:List Body} {i:Nat} {x y:Body} (hx:xs[i]? = some x) (hy:xs[i+1]? = some y) (h:¬ x.key < y.key):aCs xs=false:=by
 cases e:aCs xs with
 | false=>rfl
 | true =>
  exfalso
  have hi:=List.getElem?_eq_some_iff.1 hx
  have hj:=List.getElem?_eq_some_iff.1 hy
  have:=List.pairwise_iff_getElem.1 (qL e) i (i+1) hi.1 hj.1 (by omega)
  rw [hi.2,hj.2] at this
  exact h this
def iB (xs:List Body):Int:=if pM xs≠0 then pM xs else if aCs xs=true then 0 else 10
instance (m:List Body):Decidable (iL m):=by unfold iL;infer_instance
def wR (key:Int):List Body→Nat
 | []=>0
 | b::l=>(if b.key < key then 1 else 0)+wR key l
theorem tE {key:Int}:∀ {xs:List Body} {k:Nat},k≤xs.length→(∀ (j:Nat) (c:Body),j < k→xs[j]? = some c→c.key < key)→(∀ (j:Nat) (c:Body),k≤j→xs[j]? = some c→¬ c.key < key)→wR key xs=k
 | [],k,hk,_,_=>by simp at hk;simp [wR,hk]
 | b::l,0,_,_,h2=>by
  unfold wR
  rw [if_neg (h2 0 b (Nat.le_refl _) (by simp)),tE (k:=0) (by omega) (fun j c hj=>by omega) (fun j c _ hc=>h2 (j+1) c (by omega) (by simpa using hc))]
 | b::l,k+1,hk,h1,h2=>by
  unfold wR
  rw [if_pos (h1 0 b (by omega) (by simp)),tE (k:=k) (by simpa using hk) (fun j c hj hc=>h1 (j+1) c (by omega) (by simpa using hc)) (fun j c hj hc=>h2 (j+1) c (by omega) (by simpa using hc))]
  omega
def fG (k:Int):List Value:=[.int .u32 k]
end Go.Bil
namespace Go.Bil
theorem wH {xs:List Body} (h:bY xs) {p q:Nat} {a b:Body} (hpq:p≤q) (ha:xs[p]? = some a) (hb:xs[q]? = some b):a.key≤b.key:=by
 by_cases e:p=q
 ·subst e
  rw [ha] at hb
  injection hb with hb
  rw [hb];exact Int.le_refl _
 ·have hi:=List.getElem?_eq_some_iff.1 ha
  have hj:=List.getElem?_eq_some_iff.1 hb
  have:=List.pairwise_iff_getElem.1 h p q hi.1 hj.1 (by omega)
  rw [hi.2,hj.2] at this
  omega
theorem bNh (i j:Nat):((i:Int)+(j:Int)).fdiv (2 ^ (min (1:Int).toNat IntKind.u64.bits))=(((i+j) / 2:Nat):Int):=by
 have e:(2:Int) ^ (min (1:Int).toNat IntKind.u64.bits)=2:=by decide
 rw [e,Int.fdiv_eq_ediv_of_nonneg _ (by omega)]
 omega
theorem aCd {a b a' b':Value} (h1:a=a') (h2:b=b'):Value.tuple #[a,b]=Value.tuple #[a',b']:=by rw [h1,h2]
theorem aRq {a b:Int}:mJ a b=0↔a=b:=by unfold mJ;(repeat' split) <;> omega
theorem aQx {key:Int} {xs:List Body} (hs:bY xs) {i:Nat} {b:Body} (hb:xs[i]? = some b) (h1:∀ (j:Nat) (c:Body),j < i→xs[j]? = some c→c.key < key) (h2:∀ (j:Nat) (c:Body),i≤j→xs[j]? = some c→¬ c.key < key):mJ b.key key=0↔0≤cI key xs:=by
 rw [aRq]
 constructor
 ·intro e
  rcases dG key xs with ⟨_,h⟩ | ⟨_,_,_,_,h⟩
  ·exact absurd e (h b (List.mem_of_getElem? hb))
  ·omega
 ·intro h
  rcases dG key xs with ⟨h',_⟩ | ⟨j,c,hc,hk,_⟩
  ·omega
  ·have hij:i≤j:=by
    rcases Nat.lt_or_ge j i with hlt | hge
    ·have:=h1 j c hlt hc;omega
    ·exact hge
   have:=wH hs hij hb hc
   have:=h2 i b (Nat.le_refl _) hb
   omega
theorem aLh {key:Int} {xs:List Body} (h1:∀ (j:Nat) (c:Body),j < xs.length→xs[j]? = some c→c.key < key):¬ 0≤cI key xs:=by
 intro h
 rcases dG key xs with ⟨h',_⟩ | ⟨j,c,hc,hk,_⟩
 ·omega
 ·have:=h1 j c (List.getElem?_eq_some_iff.1 hc).1 hc
  omega
end Go.Bil
namespace Go.Bil
theorem aYc {α:Type} {xs ys:List α} {n m:Nat} (h1:xs.length=n) (h2:ys.length=m) (hnm:n=m) (h:∀ (j:Nat) (x:α),j < n→xs[j]? = some x→ys[j]? = some x):xs=ys:=by
 apply List.ext_getElem?
 intro j
 by_cases hj:j < xs.length
 ·obtain ⟨x,hx⟩:=cF (k:=j) rfl hj
  rw [hx,h j x (by omega) hx]
 ·rw [List.getElem?_eq_none (by omega),List.getElem?_eq_none (by omega)]
end Go.Bil
namespace Go.Bil
end Go.Bil
namespace Go.Bil
theorem aKx (k:Int):∀ y∈[fG k],y.length=1∧∀ u∈y,one u=true:=by
 intro y hy
 simp only [List.mem_singleton] at hy
 subst hy
 exact ⟨Z,aQ Z⟩
end Go.Bil
namespace Go.Bil
structure Mg (xs ys:List Body) (i k:Nat):Prop where
 sx:bY xs
 sy:bY ys
 yx:∀ (p:Nat) (a b:Body),p < k→ys[p]? = some a→xs[i]? = some b→a.key < b.key
 xy:∀ (p:Nat) (a b:Body),p < i→xs[p]? = some a→ys[k]? = some b→a.key < b.key
theorem Mg.swap {xs ys:List Body} {i k:Nat} (h:Mg xs ys i k):Mg ys xs k i:=⟨h.sy,h.sx,h.xy,h.yx⟩
theorem dW {xs:List Body} (h:bY xs) {p q:Nat} {a b:Body} (hpq:p < q) (ha:xs[p]? = some a) (hb:xs[q]? = some b):a.key < b.key:=by
 have hi:=List.getElem?_eq_some_iff.1 ha
 have hj:=List.getElem?_eq_some_iff.1 hb
 have:=List.pairwise_iff_getElem.1 h p q hi.1 hj.1 hpq
 rwa [hi.2,hj.2] at this
theorem Mg.x {xs ys:List Body} {i k:Nat} {a:Body} (h:Mg xs ys i k) (ha:xs[i]? = some a) (hb:∀ b,ys[k]? = some b→a.key < b.key):Mg xs ys (i+1) k∧cI a.key ys < 0:=by
 refine ⟨⟨h.sx,h.sy,fun p y x hp hy hx => ?_,fun p x y hp hx hy => ?_⟩,kL.2 fun y hy => ?_⟩
 ·have:=h.yx p y a hp hy ha
  have:=dW h.sx (Nat.lt_succ_self i) ha hx
  omega
 ·by_cases e:p=i
  ·subst e
   rw [ha] at hx
   injection hx with hx
   subst hx
   exact hb y hy
  ·exact h.xy p x y (by omega) hx hy
 ·obtain ⟨q,hq⟩:=List.getElem?_of_mem hy
  rcases Nat.lt_or_ge q k with hlt | hge
  ·have:=h.yx q y a hlt hq ha;omega
  ·obtain ⟨b,hbk⟩:=cF (xs:=ys) (k:=k) rfl (by have:=(List.getElem?_eq_some_iff.1 hq).1;omega)
   have h1:=hb b hbk
   have h2:=wH h.sy hge hbk hq
   omega
theorem Mg.y {xs ys:List Body} {i k:Nat} {b:Body} (h:Mg xs ys i k) (hb:ys[k]? = some b) (ha:∀ a,xs[i]? = some a→b.key < a.key):Mg xs ys i (k+1)∧cI b.key xs < 0:=by
 obtain ⟨h1,h2⟩:=h.swap.x hb ha
 exact ⟨h1.swap,h2⟩
theorem Mg.both {xs ys:List Body} {i k:Nat} {a b:Body} (h:Mg xs ys i k) (ha:xs[i]? = some a) (hb:ys[k]? = some b) (hk:a.key=b.key):Mg xs ys (i+1) (k+1)∧cI a.key ys=(k:Int)∧cI b.key xs=(i:Int):=by
 refine ⟨⟨h.sx,h.sy,fun p y x hp hy hx => ?_,fun p x y hp hx hy => ?_⟩, ?_, ?_⟩
 ·have h1:=dW h.sx (Nat.lt_succ_self i) ha hx
  have h2:=wH h.sy (show p≤k by omega) hy hb
  omega
 ·have h1:=dW h.sy (Nat.lt_succ_self k) hb hy
  have h2:=wH h.sx (show p≤i by omega) hx ha
  omega
 ·exact aBs hb hk.symm fun j c hj hc=>by have:=dW h.sy hj hc hb;omega
 ·exact aBs ha hk fun j c hj hc=>by have:=dW h.sx hj hc ha;omega
end Go.Bil
namespace Go.Bil
end Go.Bil
namespace Go.Bil
end Go.Bil
namespace Go.Bil
end Go.Bil
namespace Go.Bil
end Go.Bil
namespace Go.Bil
end Go.Bil
namespace Go.Bil
end Go.Bil

namespace Go.Bil
theorem aUj {v:List Body} (he:pM v=0) (hs:bY v):iB v=0:=by
 unfold iB
 rw [if_neg (by omega),if_pos (aJm hs)]
end Go.Bil

namespace Go.Bil
structure Bx where
 x0:Int
 y0:Int
 x1:Int
 y1:Int
 deriving DecidableEq,Inhabited
def cS (a:Bx):List Value:=[.int .i32 a.x0,.int .i32 a.y0,.int .i32 a.x1,.int .i32 a.y1]
def aRd (b:Body):Int:=max b.ax (-b.ax)+b.radius
def aTy (b:Body):Int:=max b.ay (-b.ay)+b.radius
def jB (b:Body):Bx:=⟨b.px - aRd b,b.py - aTy b,b.px+aRd b,b.py+aTy b⟩
abbrev iF (a:Bx):Prop:=a.x1 < a.x0∨a.y1 < a.y0
def fU:Bx:=⟨1,0,0,0⟩
def aEp (a b:Bx):Bx:=if iF ⟨max a.x0 b.x0,max a.y0 b.y0,min a.x1 b.x1,min a.y1 b.y1⟩ then fU else ⟨max a.x0 b.x0,max a.y0 b.y0,min a.x1 b.x1,min a.y1 b.y1⟩
abbrev ovl (a b:Bx):Prop:=(a.x0≤a.x1∧a.y0≤a.y1)∧(b.x0≤b.x1∧b.y0≤b.y1)∧(a.x0≤b.x1∧b.x0≤a.x1∧a.y0≤b.y1∧b.y0≤a.y1)
theorem aXk (a b:Bx):¬ iF (aEp a b)↔ovl a b:=by
 unfold aEp
 split
 ·rename_i h
  unfold iF at h
  simp only [iF,fU,ovl]
  simp only at h
  omega
 ·rename_i h
  unfold iF at h
  simp only [iF,ovl]
  simp only at h
  omega
structure Okb (b:Body):Prop where
 r:4096≤b.radius∧b.radius≤4194304
 a : -4194304≤b.ax∧b.ax≤4194304 ∧ -4194304≤b.ay∧b.ay≤4194304
 m:0≤b.mass∧b.mass≤1048576
 c:0≤b.bounce∧b.bounce≤65536
 p : -1073741824≤b.px∧b.px≤1073741824 ∧ -1073741824≤b.py∧b.py≤1073741824
 v : -16777216≤b.vx∧b.vx≤16777216 ∧ -16777216≤b.vy∧b.vy≤16777216
theorem aKj {b:Body} (h:check b=0):Okb b:=by
 by_cases h1:4096≤b.radius∧b.radius≤4194304
 ·by_cases h2 : -4194304≤b.ax∧b.ax≤4194304 ∧ -4194304≤b.ay∧b.ay≤4194304
  ·by_cases h3:0≤b.mass∧b.mass≤1048576
   ·by_cases h4:0≤b.bounce∧b.bounce≤65536
    ·by_cases h5 : -1073741824≤b.px∧b.px≤1073741824 ∧ -1073741824≤b.py∧b.py≤1073741824
     ·by_cases h6 : -16777216≤b.vx∧b.vx≤16777216 ∧ -16777216≤b.vy∧b.vy≤16777216
      ·exact ⟨h1,h2,h3,h4,h5,h6⟩
      ·rw [aOq b h1 h2 h3 h4 h5 h6] at h;omega
     ·rw [aPa b h1 h2 h3 h4 h5] at h;omega
    ·rw [aQb b h1 h2 h3 h4] at h;omega
   ·rw [aPk b h1 h2 h3] at h;omega
  ·rw [aPb b h1 h2] at h;omega
 ·rw [aPv b h1] at h;omega
theorem aUs {b:Body} (h:Okb b):4096≤aRd b∧aRd b≤8388608∧4096≤aTy b∧aTy b≤8388608:=by
 have:=h.r
 have:=h.a
 unfold aRd aTy
 omega
structure Okx (a:Bx):Prop where
 x0 : -2147483648≤a.x0∧a.x0≤2147483647
 y0 : -2147483648≤a.y0∧a.y0≤2147483647
 x1 : -2147483648≤a.x1∧a.x1≤2147483647
 y1 : -2147483648≤a.y1∧a.y1≤2147483647
theorem bFu {b:Body} (h:Okb b):Okx (jB b):=by
 have h1:=aUs h
 have h2:=h.p
 constructor <;> simp only [jB] <;> omega
end Go.Bil

namespace Go.Bil
def cJ (c:Int × Int):List Value:=[.int .i32 c.1,.int .i32 c.2]
def mC (x:Int):Int:=x.fdiv 4194304
theorem bEv (x:Int):x.fdiv (2 ^ (min (22:Int).toNat IntKind.i32.bits))=mC x:=rfl
theorem aGx (x:Int):mC x=x / 4194304:=by unfold mC;exact Int.fdiv_eq_ediv_of_nonneg x (by decide)
theorem pF {x:Int} (h0 : -2147483648≤x) (h1:x≤2147483647) : -512≤mC x∧mC x≤511:=by rw [aGx];omega
theorem jP {x y:Int} (h:x≤y):mC x≤mC y:=by rw [aGx,aGx];omega
def loC (a:Bx):Int × Int:=if iF a then (0,0) else (mC a.x0,mC a.y0)
def hiC (a:Bx):Int × Int:=if iF a then (0,0) else (mC a.x1,mC a.y1)
def nX (lo hi:Int × Int):Nat:=(hi.1 - lo.1+1).toNat
def nY (lo hi:Int × Int):Nat:=(hi.2 - lo.2+1).toNat
def zD (lo:Int × Int) (i j:Nat):List (Int × Int):=(List.range i).map (fun (p:Nat)=>(lo.1+(p:Int),lo.2+(j:Int)))
def nE (lo hi:Int × Int) (j:Nat):List (Int × Int):=(List.range j).flatMap (fun q=>zD lo (nX lo hi) q)
def vK (ok:Bool) (lo hi:Int × Int):List (Int × Int):=if ok then nE lo hi (nY lo hi) else []
def gP (a:Bx):List (Int × Int):=vK (decide (¬ iF a)) (loC a) (hiC a)
theorem aJr (lo:Int × Int) (i j:Nat):(zD lo i j).length=i:=by simp [zD]
theorem aUk (lo:Int × Int) (i j:Nat):zD lo (i+1) j=zD lo i j++[(lo.1+(i:Int),lo.2+(j:Int))]:=by simp [zD,List.range_succ]
theorem zP (lo hi:Int × Int) (j:Nat):nE lo hi (j+1)=nE lo hi j++zD lo (nX lo hi) j:=by simp [nE,List.range_succ]
theorem vG (lo hi:Int × Int):∀ j,(nE lo hi j).length=j*nX lo hi
 | 0=>by simp [nE]
 | j+1=>by rw [zP,List.length_append,vG lo hi j,aJr,Nat.add_mul,Nat.one_mul]
theorem aVp {lo hi:Int × Int} {i j:Nat} (hx:nX lo hi≤1024) (hj:j < 1024) (hi':i < nX lo hi):(nE lo hi j).length+i < 1048576:=by
 rw [vG]
 have:j*nX lo hi≤1023*1024:=Nat.mul_le_mul (by omega) hx
 omega
theorem aYd {lo hi:Int × Int} {j:Nat} (hx:nX lo hi≤1024) (hj:j≤1024):(nE lo hi j).length≤1048576:=by
 rw [vG]
 exact Nat.mul_le_mul hj hx
theorem aSh {lo hi:Int × Int} {n:Nat} {c:Int × Int}:c∈nE lo hi n↔∃ q p:Nat,q < n∧p < nX lo hi∧c=(lo.1+(p:Int),lo.2+(q:Int)):=by
 simp only [nE,zD,List.mem_flatMap,List.mem_range,List.mem_map]
 constructor
 ·rintro ⟨q,hq,p,hp,rfl⟩;exact ⟨q,p,hq,hp,rfl⟩
 ·rintro ⟨q,p,hq,hp,rfl⟩;exact ⟨q,hq,p,hp,rfl⟩
theorem aAw {a:Bx} {c:Int × Int}:c∈gP a↔¬ iF a∧mC a.x0≤c.1∧c.1≤mC a.x1∧mC a.y0≤c.2∧c.2≤mC a.y1:=by
 unfold gP vK
 by_cases h:iF a
 ·simp [h]
 ·rw [if_pos (by simpa using h),aSh]
  simp only [loC,hiC,if_neg h,nX,nY]
  constructor
  ·rintro ⟨q,p,hq,hp,rfl⟩
   refine ⟨h, ?_⟩
   simp only
   omega
  ·rintro ⟨_,h1,h2,h3,h4⟩
   refine ⟨(c.2 - mC a.y0).toNat,(c.1 - mC a.x0).toNat,by omega,by omega, ?_⟩
   apply Prod.ext <;> simp only <;> omega
structure Okc (c:Int × Int):Prop where
 x : -512≤c.1∧c.1≤511
 y : -512≤c.2∧c.2≤511
theorem aNf {a:Bx} (h:Okx a):Okc (loC a):=by
 unfold loC
 split
 ·exact ⟨by decide,by decide⟩
 ·exact ⟨pF h.x0.1 h.x0.2,pF h.y0.1 h.y0.2⟩
theorem aLz {a:Bx} (h:Okx a):Okc (hiC a):=by
 unfold hiC
 split
 ·exact ⟨by decide,by decide⟩
 ·exact ⟨pF h.x1.1 h.x1.2,pF h.y1.1 h.y1.2⟩
theorem bFg {lo hi:Int × Int} (h1:Okc lo) (h2:Okc hi):nX lo hi≤1024:=by
 have:=h1.x;have:=h2.x
 unfold nX
 omega
theorem bEs {lo hi:Int × Int} (h1:Okc lo) (h2:Okc hi):nY lo hi≤1024:=by
 have:=h1.y;have:=h2.y
 unfold nY
 omega
theorem aNp {a:Bx} (h:Okx a):(gP a).length≤1048576:=by
 unfold gP vK
 split
 ·exact aYd (bFg (aNf h) (aLz h)) (bEs (aNf h) (aLz h))
 ·simp
theorem aWf {a b:Bx} (h:ovl a b):∃ c,c∈gP a∧c∈gP b:=by
 obtain ⟨⟨h1,h2⟩,⟨h3,h4⟩,h5,h6,h7,h8⟩:=h
 refine ⟨(mC (max a.x0 b.x0),mC (max a.y0 b.y0)),aAw.2 ⟨by unfold iF;omega, ?_⟩,aAw.2 ⟨by unfold iF;omega, ?_⟩⟩
 ·exact ⟨jP (by omega),jP (by omega),jP (by omega),jP (by omega)⟩
 ·exact ⟨jP (by omega),jP (by omega),jP (by omega),jP (by omega)⟩
def qZ (c:Int × Int):Int :=
 IntKind.u32.wrap ((BitVec.ofInt 32 (IntKind.u32.wrap ((BitVec.ofInt 32 (IntKind.u32.wrap (IntKind.u32.wrap c.1*73856093)) ^^^ BitVec.ofInt 32 (IntKind.u32.wrap (IntKind.u32.wrap c.2*19349663))).toNat)) &&& BitVec.ofInt 32 1023).toNat)
def dO (c:Int × Int):Nat:=(qZ c).toNat
theorem kQ (c:Int × Int):0≤qZ c∧qZ c < 1024:=by
 unfold qZ
 generalize BitVec.ofInt 32 (IntKind.u32.wrap _)=a
 have h:(a &&& BitVec.ofInt 32 1023).toNat≤1023:=by
  rw [BitVec.toNat_and]
  exact Nat.le_trans Nat.and_le_right (by decide)
 rw [aDp _ (by omega) (by omega)]
 omega
theorem jS (c:Int × Int):dO c < 1024:=by have:=kQ c;unfold dO;omega
theorem aRu (c:Int × Int):qZ c=(dO c:Int):=by have:=kQ c;unfold dO;omega
end Go.Bil

namespace Go.Bil
def cD (n:Int):List Int:=[n / 16777216 % 256,n / 65536 % 256,n / 256 % 256,n % 256]
def aWw (b:Body):List Int:=[b.key,b.radius,b.ax,b.ay,b.mass,b.bounce,b.px,b.py,b.vx,b.vy]
def kT (b:Body):List Int:=(aWw b).flatMap cD
def lG:List Int:=[66,73,76,49]
def iK (v:List Body):List Int:=lG++cD (v.length:Int)++v.flatMap kT
def eF (l:List Int) (a:Nat):Int:=((l.getD a 0*256+l.getD (a+1) 0)*256+l.getD (a+2) 0)*256+l.getD (a+3) 0
def nR (n:Int):Int:=if 2147483648≤n then n - 4294967296 else n
def lI (l:List Int) (a:Nat):Body:=⟨eF l a,nR (eF l (a+4)),nR (eF l (a+8)),nR (eF l (a+12)),nR (eF l (a+16)),nR (eF l (a+20)),nR (eF l (a+24)),nR (eF l (a+28)),nR (eF l (a+32)),nR (eF l (a+36))⟩
abbrev zV (l:List Int):Prop:=8≤l.length∧l.take 4=lG∧(l.length:Int)=8+40*eF l 4
def mR (l:List Int) (n:Nat):List Body:=(List.range n).map (fun i=>lI l (8+40*i))
def kX (l:List Int):List Body × Int:=if ¬ zV l then ([],13) else if iB (mR l (eF l 4).toNat)≠0 then ([],iB (mR l (eF l 4).toNat)) else (mR l (eF l 4).toNat,0)
abbrev gA (l:List Int):Prop:=∀ x∈l,0≤x∧x≤255
theorem lW (n:Int):(cD n).length=4:=rfl
theorem aVl (b:Body):(kT b).length=40:=rfl
theorem aIz (v:List Body):(v.flatMap kT).length=40*v.length:=by
 induction v with
 | nil=>rfl
 | cons b v ih=>rw [List.flatMap_cons,List.length_append,ih,aVl,List.length_cons];omega
theorem zB (v:List Body):(iK v).length=8+40*v.length:=by
 unfold iK
 rw [List.length_append,List.length_append,aIz,lW]
 rfl
theorem zU (n:Int):gA (cD n):=fun x hx=>by
 simp only [cD,List.mem_cons,List.not_mem_nil,or_false] at hx
 rcases hx with rfl | rfl | rfl | rfl <;> omega
theorem aUd (b:Body):gA (kT b):=fun x hx=>by
 obtain ⟨n,_,h⟩:=List.mem_flatMap.1 hx
 exact zU n x h
theorem vS (v:List Body):gA (iK v):=fun x hx=>by
 unfold iK at hx
 rcases List.mem_append.1 hx with h | h
 ·rcases List.mem_append.1 h with h | h
  ·simp only [lG,List.mem_cons,List.not_mem_nil,or_false] at h
   rcases h with rfl | rfl | rfl | rfl <;> omega
  ·exact zU _ x h
 ·obtain ⟨b,_,h⟩:=List.mem_flatMap.1 h
  exact aUd b x h
theorem vW (n:Int):cD (n % 4294967296)=cD n:=by
 unfold cD
 have h1:n % 4294967296 / 16777216 % 256=n / 16777216 % 256:=by omega
 have h2:n % 4294967296 / 65536 % 256=n / 65536 % 256:=by omega
 have h3:n % 4294967296 / 256 % 256=n / 256 % 256:=by omega
 have h4:n % 4294967296 % 256=n % 256:=by omega
 rw [h1,h2,h3,h4]
theorem aSt (n:Int):cD (nR n)=cD n:=by
 unfold nR
 split
 ·rw [← vW (n - 4294967296),← vW n]
  congr 1
  omega
 ·rfl
theorem uF {A L B:List Int} {a:Nat} (ha:A.length=a) {j:Nat} (hj:j < L.length):(A++(L++B)).getD (a+j) 0=L.getD j 0:=by
 subst ha
 rw [List.getD_eq_getElem?_getD,List.getD_eq_getElem?_getD,List.getElem?_append_right (by omega),List.getElem?_append_left (by omega)]
 congr 2
 omega
theorem aEm {A B:List Int} {a:Nat} (ha:A.length=a) (n:Int):eF (A++(cD n++B)) a=n % 4294967296:=by
 have h0:(A++(cD n++B)).getD a 0=n / 16777216 % 256:=uF (j:=0) ha (by rw [lW];omega)
 have h1:(A++(cD n++B)).getD (a+1) 0=n / 65536 % 256:=uF (j:=1) ha (by rw [lW];omega)
 have h2:(A++(cD n++B)).getD (a+2) 0=n / 256 % 256:=uF (j:=2) ha (by rw [lW];omega)
 have h3:(A++(cD n++B)).getD (a+3) 0=n % 256:=uF (j:=3) ha (by rw [lW];omega)
 unfold eF
 rw [h0,h1,h2,h3]
 omega
theorem bAt {A B L:List Int} {a k:Nat} {n:Int} (ha:A.length=a) {P Q:List Int} (hL:L=P++(cD n++Q)) (hP:P.length=k):eF (A++(L++B)) (a+k)=n % 4294967296:=by
 have e:A++(L++B)=(A++P)++(cD n++(Q++B)):=by rw [hL];simp only [List.append_assoc]
 rw [e]
 exact aEm (by rw [List.length_append,ha,hP]) n
theorem lS {n:Int} (h : -2147483648≤n∧n≤2147483647):nR (n % 4294967296)=n:=by unfold nR;split <;> omega
theorem aNa {A B:List Int} {a:Nat} (ha:A.length=a) {b:Body} (h:InB b):lI (A++(kT b++B)) a=b:=by
 have e:kT b=cD b.key++(cD b.radius++(cD b.ax++(cD b.ay++(cD b.mass++(cD b.bounce++(cD b.px++(cD b.py++(cD b.vx++(cD b.vy++[]))))))))):=rfl
 have f (k:Nat) (n:Int) (P Q:List Int) (hL:kT b=P++(cD n++Q)) (hP:P.length=k):eF (A++(kT b++B)) (a+k)=n % 4294967296:=bAt ha hL hP
 have f0:=f 0 b.key [] _ rfl rfl
 have f1:=f 4 b.radius (cD b.key) _ rfl rfl
 have f2:=f 8 b.ax (cD b.key++cD b.radius) _ rfl rfl
 have f3:=f 12 b.ay (cD b.key++cD b.radius++cD b.ax) _ rfl rfl
 have f4:=f 16 b.mass (cD b.key++cD b.radius++cD b.ax++cD b.ay) _ rfl rfl
 have f5:=f 20 b.bounce (cD b.key++cD b.radius++cD b.ax++cD b.ay++cD b.mass) _ rfl rfl
 have f6:=f 24 b.px (cD b.key++cD b.radius++cD b.ax++cD b.ay++cD b.mass++cD b.bounce) _ rfl rfl
 have f7:=f 28 b.py (cD b.key++cD b.radius++cD b.ax++cD b.ay++cD b.mass++cD b.bounce++cD b.px) _ rfl rfl
 have f8:=f 32 b.vx (cD b.key++cD b.radius++cD b.ax++cD b.ay++cD b.mass++cD b.bounce++cD b.px++cD b.py) _ rfl rfl
 have f9:=f 36 b.vy (cD b.key++cD b.radius++cD b.ax++cD b.ay++cD b.mass++cD b.bounce++cD b.px++cD b.py++cD b.vx) [] rfl rfl
 rw [Nat.add_zero] at f0
 obtain ⟨h0,h1,h2,h3,h4,h5,h6,h7,h8,h9⟩:=h
 unfold lI
 rw [f0,f1,f2,f3,f4,f5,f6,f7,f8,f9,lS (by omega),lS (by omega),lS (by omega),lS (by omega),lS (by omega),lS (by omega),lS (by omega),lS (by omega),lS (by omega),Int.emod_eq_of_lt (by omega) (by omega)]
theorem aNz {v:List Body} {i:Nat} {b:Body} (h:v[i]? = some b):iK v=(lG++cD (v.length:Int)++(v.take i).flatMap kT)++(kT b++(v.drop (i+1)).flatMap kT):=by
 have hi:=List.getElem?_eq_some_iff.1 h
 have e:v.flatMap kT=(v.take i).flatMap kT++(kT b++(v.drop (i+1)).flatMap kT):=by
  conv=>lhs;rw [← List.take_append_drop i v,List.drop_eq_getElem_cons hi.1,hi.2]
  rw [List.flatMap_append,List.flatMap_cons]
 unfold iK
 rw [e]
 simp only [List.append_assoc]
theorem aKk {v:List Body} {i:Nat} {b:Body} (h:v[i]? = some b) (hb:InB b):lI (iK v) (8+40*i)=b:=by
 rw [aNz h]
 refine aNa ?_ hb
 have hi:=(List.getElem?_eq_some_iff.1 h).1
 rw [List.length_append,List.length_append,aIz,List.length_take,lW,Nat.min_eq_left (by omega)]
 rfl
theorem aDd (v:List Body) (h:v.length < 4294967296):eF (iK v) 4=(v.length:Int):=by
 have e:iK v=lG++(cD (v.length:Int)++v.flatMap kT):=by unfold iK;rw [List.append_assoc]
 rw [e,aEm (A:=lG) (a:=4) rfl]
 omega
theorem aXu {v:List Body} (hb:∀ b∈v,InB b):mR (iK v) v.length=v:=by
 refine List.ext_getElem? fun i => ?_
 unfold mR
 rw [List.getElem?_map]
 by_cases hi:i < v.length
 ·have hv:=List.getElem?_eq_getElem hi
  rw [List.getElem?_range hi,hv]
  show some (lI (iK v) (8+40*i))=some v[i]
  rw [aKk hv (hb _ (List.getElem_mem hi))]
 ·rw [List.getElem?_eq_none (by omega:v.length≤i),List.getElem?_eq_none (by rw [List.length_range];omega)]
  rfl
theorem aZd (v:List Body) (h:v.length≤4096):zV (iK v):=by
 have hl:=zB v
 refine ⟨by omega,Z, ?_⟩
 rw [aDd v (by omega),hl]
 omega
theorem aVd {v:List Body} (hb:∀ b∈v,InB b) (hl:v.length≤4096) (hc:iB v=0):kX (iK v)=(v,0):=by
 unfold kX
 rw [if_neg (Decidable.not_not.2 (aZd v hl)),aDd v (by omega),Int.toNat_natCast,aXu hb,if_neg (by omega)]
theorem qQ {l:List Int} (hl:gA l) {a:Nat} (h:a+4≤l.length):0≤eF l a∧eF l a≤4294967295∧cD (eF l a)=(l.drop a).take 4:=by
 have g (j:Nat) (hj:j < l.length):l[j]? = some (l.getD j 0)∧0≤l.getD j 0∧l.getD j 0≤255:=by
  rw [List.getD_eq_getElem?_getD,List.getElem?_eq_getElem hj]
  have hb:=hl _ (List.getElem_mem hj)
  exact ⟨Z,hb.1,hb.2⟩
 obtain ⟨g0,g1,g2⟩:=g a (by omega)
 obtain ⟨g3,g4,g5⟩:=g (a+1) (by omega)
 obtain ⟨g6,g7,g8⟩:=g (a+2) (by omega)
 obtain ⟨g9,ga,gb⟩:=g (a+3) (by omega)
 have e:(l.drop a).take 4=[l.getD a 0,l.getD (a+1) 0,l.getD (a+2) 0,l.getD (a+3) 0]:=by
  have hlen:((l.drop a).take 4).length=4:=by rw [List.length_take,List.length_drop];omega
  refine List.ext_getElem? fun j => ?_
  rcases (show j=0∨j=1∨j=2∨j=3∨4≤j by omega) with rfl | rfl | rfl | rfl | hj
  ·rw [List.getElem?_take_of_lt (by omega),List.getElem?_drop];simpa using g0
  ·rw [List.getElem?_take_of_lt (by omega),List.getElem?_drop];simpa using g3
  ·rw [List.getElem?_take_of_lt (by omega),List.getElem?_drop];simpa using g6
  ·rw [List.getElem?_take_of_lt (by omega),List.getElem?_drop];simpa using g9
  ·rw [List.getElem?_eq_none (by omega),List.getElem?_eq_none (by simpa using hj)]
 rw [e]
 unfold eF cD
 generalize l.getD a 0=p at *
 generalize l.getD (a+1) 0=q at *
 generalize l.getD (a+2) 0=r at *
 generalize l.getD (a+3) 0=s at *
 refine ⟨by omega,by omega, ?_⟩
 have h1:(((p*256+q)*256+r)*256+s) / 16777216 % 256=p:=by omega
 have h2:(((p*256+q)*256+r)*256+s) / 65536 % 256=q:=by omega
 have h3:(((p*256+q)*256+r)*256+s) / 256 % 256=r:=by omega
 have h4:(((p*256+q)*256+r)*256+s) % 256=s:=by omega
 rw [h1,h2,h3,h4]
theorem aNu (l:List Int) (k:Nat):∀ n,(List.range n).flatMap (fun i=>(l.drop (k*i)).take k)=l.take (k*n)
 | 0=>by simp
 | n+1=>by
  rw [List.range_succ,List.flatMap_append,aNu l k n,List.flatMap_cons,List.flatMap_nil,List.append_nil,Nat.mul_succ,List.take_add]
theorem lQ {n:Int} (h:0≤n∧n≤4294967295) : -2147483648≤nR n∧nR n≤2147483647:=by unfold nR;split <;> omega
theorem aQp {l:List Int} (hl:gA l) {a:Nat} (h:a+40≤l.length):InB (lI l a):=by
 have f (k:Nat) (hk:k≤36):0≤eF l (a+k)∧eF l (a+k)≤4294967295:=by
  have:=qQ hl (a:=a+k) (by omega)
  exact ⟨this.1,this.2.1⟩
 exact ⟨f 0 (by omega),lQ (f 4 (by omega)),lQ (f 8 (by omega)),lQ (f 12 (by omega)),lQ (f 16 (by omega)),lQ (f 20 (by omega)),lQ (f 24 (by omega)),lQ (f 28 (by omega)),lQ (f 32 (by omega)),lQ (f 36 (by omega))⟩
theorem bAr {l:List Int} (hl:gA l) {a:Nat} (h:a+40≤l.length):kT (lI l a)=(l.drop a).take 40:=by
 have f (k:Nat) (hk:k≤36):cD (eF l (a+k))=((l.drop a).drop k).take 4:=by rw [List.drop_drop];exact (qQ hl (a:=a+k) (by omega)).2.2
 have e:=aNu (l.drop a) 4 10
 rw [← e]
 unfold kT aWw lI
 simp only [List.flatMap_cons,List.flatMap_nil,aSt]
 have f0:=f 0 (by omega)
 rw [Nat.add_zero] at f0
 rw [f0,f 4 (by omega),f 8 (by omega),f 12 (by omega),f 16 (by omega),f 20 (by omega),f 24 (by omega),f 28 (by omega),f 32 (by omega),f 36 (by omega)]
 rfl
theorem aBh (l:List Int) (n:Nat):(mR l n).length=n:=by unfold mR;rw [List.length_map,List.length_range]
theorem aCu {α β:Type} {l:List α} {f g:α→List β} (h:∀ x∈l,f x=g x):l.flatMap f=l.flatMap g:=by
 induction l with
 | nil=>rfl
 | cons x l ih=>rw [List.flatMap_cons,List.flatMap_cons,h x (by simp),ih fun y hy=>h y (by simp [hy])]
theorem aZp {l:List Int} (hl:gA l) {n:Nat} (h:l.length=8+40*n):(mR l n).flatMap kT=l.drop 8:=by
 unfold mR
 rw [List.flatMap_map,aCu (g:=fun i=>((l.drop 8).drop (40*i)).take 40) (fun i hi=>by
  have:=List.mem_range.1 hi
  rw [List.drop_drop]
  exact bAr hl (by omega)),aNu,List.take_of_length_le (by rw [List.length_drop];omega)]
structure DecOk (l:List Int) (v:List Body):Prop where
 n:l.length=8+40*v.length
 e:iK v=l
 inb:∀ b∈v,InB b
 c:iB v=0
theorem bDo {l:List Int} (hl:gA l) (h:(kX l).2=0):DecOk l (kX l).1:=by
 unfold kX at h ⊢
 by_cases hf:zV l
 ·rw [if_neg (Decidable.not_not.2 hf)] at h ⊢
  by_cases hc:iB (mR l (eF l 4).toNat)=0
  ·rw [if_neg (by omega)]
   obtain ⟨h8,hm,hn⟩:=hf
   have hr:=qQ hl (a:=4) (by omega)
   have hlen:l.length=8+40*(eF l 4).toNat:=by omega
   show DecOk l (mR l (eF l 4).toNat)
   refine ⟨by rw [aBh];exact hlen, ?_, ?_,hc⟩
   ·unfold iK
    rw [aZp hl hlen,aBh,show (((eF l 4).toNat:Nat):Int)=eF l 4 by omega,hr.2.2,← hm,← List.take_add,List.take_append_drop]
   ·intro b hb
    unfold mR at hb
    obtain ⟨i,hi,rfl⟩:=List.mem_map.1 hb
    have:=List.mem_range.1 hi
    exact aQp hl (by omega)
  ·rw [if_pos hc] at h
   exact absurd h hc
 ·rw [if_pos hf] at h
  cases h
def wI (b:Body):List Int:=[b.key,b.radius % 4294967296,b.ax % 4294967296,b.ay % 4294967296,b.mass % 4294967296,b.bounce % 4294967296,b.px % 4294967296,b.py % 4294967296,b.vx % 4294967296,b.vy % 4294967296]
theorem aSs (b:Body):(wI b).flatMap cD=kT b:=by
 unfold wI kT aWw
 simp only [List.flatMap_cons,List.flatMap_nil,vW]
theorem aTb {b:Body} (h:InB b):∀ x∈wI b,0≤x∧x≤4294967295:=by
 obtain ⟨h0,_⟩:=h
 intro x hx
 simp only [wI,List.mem_cons,List.not_mem_nil,or_false] at hx
 rcases hx with rfl | rfl | rfl | rfl | rfl | rfl | rfl | rfl | rfl | rfl <;> omega
theorem aSl {L:List Int} {j:Nat} {x:Int} (h:L[j]? = some x):(L.take (j+1)).flatMap cD=(L.take j).flatMap cD++cD x:=by
 rw [cQ h,List.flatMap_append,List.flatMap_cons,List.flatMap_nil,List.append_nil]
theorem aTn {v:List Body} {j:Nat} {x:Body} (h:v[j]? = some x):(v.take (j+1)).flatMap kT=(v.take j).flatMap kT++kT x:=by
 rw [cQ h,List.flatMap_append,List.flatMap_cons,List.flatMap_nil,List.append_nil]
theorem iP {l:List Int} {a m:Nat} (h:4≤m):eF ((l.drop a).take m) 0=eF l a:=by
 have g (j:Nat) (hj:j < m):((l.drop a).take m).getD j 0=l.getD (a+j) 0:=by
  rw [List.getD_eq_getElem?_getD,List.getD_eq_getElem?_getD,List.getElem?_take_of_lt hj,List.getElem?_drop]
 unfold eF
 rw [g 0 (by omega),g (0+1) (by omega),g (0+2) (by omega),g (0+3) (by omega)]
 rfl
theorem aTe (l:List Int) (k:Nat):mR l (k+1)=mR l k++[lI l (8+40*k)]:=by unfold mR;rw [List.range_succ,List.map_append];rfl
theorem gA.sub {l:List Int} (h:gA l) (a m:Nat):gA ((l.drop a).take m):=fun x hx=>h x (List.mem_of_mem_drop (List.mem_of_mem_take hx))
end Go.Bil
namespace Go.Bil
theorem aGq {l:List Int} (h:¬ zV l):kX l=([],13):=by unfold kX;rw [if_pos h]
theorem bAv {l:List Int} {N:Nat} (h:zV l) (hN:eF l 4=(N:Int)) (hc:iB (mR l N)≠0):kX l=([],iB (mR l N)):=by
 unfold kX;rw [if_neg (Decidable.not_not.2 h),hN,Int.toNat_natCast,if_pos hc]
theorem aZl {l:List Int} {N:Nat} (h:zV l) (hN:eF l 4=(N:Int)) (hc:iB (mR l N)=0):kX l=(mR l N,0):=by
 unfold kX;rw [if_neg (Decidable.not_not.2 h),hN,Int.toNat_natCast,if_neg (by omega)]
theorem bLf {l:List Int} (hl:gA l) {a:Nat} (h:a+40≤l.length):∀ x∈([eF l a,eF l (a+4),eF l (a+8),eF l (a+12),eF l (a+16),eF l (a+20),eF l (a+24),eF l (a+28),eF l (a+32),eF l (a+36)]:List Int),0≤x∧x≤4294967295:=by
 have f (k:Nat) (hk:k≤36):0≤eF l (a+k)∧eF l (a+k)≤4294967295:=by
  have:=qQ hl (a:=a+k) (by omega)
  exact ⟨this.1,this.2.1⟩
 intro x hx
 simp only [List.mem_cons,List.not_mem_nil,or_false] at hx
 rcases hx with rfl | rfl | rfl | rfl | rfl | rfl | rfl | rfl | rfl | rfl
 ·exact f 0 (by omega)
 ·exact f 4 (by omega)
 ·exact f 8 (by omega)
 ·exact f 12 (by omega)
 ·exact f 16 (by omega)
 ·exact f 20 (by omega)
 ·exact f 24 (by omega)
 ·exact f 28 (by omega)
 ·exact f 32 (by omega)
 ·exact f 36 (by omega)
theorem wY:lG=([66,73,76,49]:List UInt8).map (fun y=>(y.toNat:Int)):=by decide
end Go.Bil
