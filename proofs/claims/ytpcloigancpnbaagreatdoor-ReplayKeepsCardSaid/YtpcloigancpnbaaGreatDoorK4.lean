/- Part of the proof of a law of this seat (1 texts). No conditions. -/
import Derived.Test.YtpcloigancpnbaaGreatDoorK2
import Derived.Sort.Grow
set_option linter.unusedVariables false
set_option linter.unusedSimpArgs false
set_option linter.unnecessarySimpa false
set_option maxHeartbeats 100000000
namespace Go.Bil
def yD (m:List Body) (k:Int):Option Int:=if dO k m < 0 then none else some (dO k m)
theorem eO (k:Int):∀ m:List Body,(dO k m = -1∧∀ b∈m,b.key≠k)∨∃ (i:Nat) (b:Body),m[i]? = some b∧b.key=k∧dO k m=(i:Int)
 | []=>.inl ⟨rfl,by simp⟩
 | b::m=>by
  unfold dO
  by_cases h:b.key=k
  ·exact .inr ⟨0,b,by simp,h,by simp [h]⟩
  ·rw [if_neg h]
   rcases eO k m with ⟨h1,h2⟩ | ⟨i,c,h1,h2,h3⟩
   ·refine .inl ⟨by simp [h1],fun c hc => ?_⟩
    rcases List.mem_cons.1 hc with rfl | hc
    ·exact h
    ·exact h2 c hc
   ·refine .inr ⟨i+1,c,by simpa using h1,h2, ?_⟩
    simp only [h3]
    rw [if_neg (by omega)]
    omega
theorem nO (k:Int) (m:List Body):(yD m k=none∧∀ b∈m,b.key≠k)∨∃ (i:Nat) (b:Body),m[i]? = some b∧b.key=k∧yD m k=some (i:Int):=by
 rcases eO k m with ⟨h1,h2⟩ | ⟨i,b,h1,h2,h3⟩
 ·exact .inl ⟨by simp [yD,h1],h2⟩
 ·exact .inr ⟨i,b,h1,h2,by unfold yD;rw [h3,if_neg (by omega)]⟩
theorem aFv {k:Int} {m:List Body} (h:∀ b∈m,b.key≠k):yD m k=none:=by
 rcases nO k m with ⟨h1,_⟩ | ⟨i,b,h1,h2,_⟩
 ·exact h1
 ·exact absurd h2 (h b (List.mem_of_getElem? h1))
def kQ (m:List Body):Prop:=(m.map (·.key)).Nodup
theorem kQ.inj {m:List Body} (h:kQ m) {i j:Nat} {a b:Body} (ha:m[i]? = some a) (hb:m[j]? = some b) (hk:a.key=b.key):i=j:=by
 have h1:(m.map (·.key))[i]? = some a.key:=by simp [ha]
 have h2:(m.map (·.key))[j]? = some a.key:=by simp [hb,hk]
 exact (List.getElem?_inj (List.getElem?_eq_some_iff.1 h1).1 h).1 (h1.trans h2.symm)
theorem uE {m:List Body} (h:kQ m) {i:Nat} {b:Body} (hi:m[i]? = some b):yD m b.key=some (i:Int):=by
 rcases nO b.key m with ⟨_,h2⟩ | ⟨j,c,h1,h2,h3⟩
 ·exact absurd Z (h2 b (List.mem_of_getElem? hi))
 ·rw [h3,h.inj h1 hi h2]
theorem lF {k:Int} {m:List Body}:dO k m=match yD m k with | some z=>z | none => -1:=by
 rcases eO k m with ⟨h1,_⟩ | ⟨i,b,_,_,h3⟩
 ·simp [yD,h1]
 ·unfold yD;rw [h3,if_neg (by omega)]
theorem aFx (k:Int) (m:List Body):(yD m k).isSome=decide (0≤dO k m):=by
 rcases eO k m with ⟨h1,_⟩ | ⟨i,b,_,_,h3⟩
 ·simp [yD,h1]
 ·unfold yD;rw [h3,if_neg (by omega)];simp
theorem nN {k:Int} {m:List Body}:dO k m < 0↔∀ b∈m,b.key≠k:=by
 rcases eO k m with ⟨h1,h2⟩ | ⟨i,b,h1,h2,h3⟩
 ·exact ⟨fun _=>h2,fun _=>by omega⟩
 ·exact ⟨fun h=>by omega,fun h=>absurd h2 (h b (List.mem_of_getElem? h1))⟩
theorem kQ.snoc {m:List Body} (h:kQ m) {x:Body} (hx:dO x.key m < 0):kQ (m++[x]):=by
 unfold kQ at *
 rw [List.map_append,List.nodup_append]
 refine ⟨h,by simp, ?_⟩
 intro a ha c hc hac
 simp only [List.map_cons,List.map_nil,List.mem_singleton] at hc
 obtain ⟨q,hq1,hq2⟩:=List.mem_map.1 ha
 exact nN.1 hx q hq1 (by rw [hq2,hac,hc])
theorem aPq {m:List Body} (h:kQ m) {x:Body} (hx:dO x.key m < 0) (a:Int):yD (m++[x]) a=if a=x.key then some (m.length:Int) else yD m a:=by
 by_cases ha:a=x.key
 ·rw [if_pos ha,ha]
  exact uE (h.snoc hx) (by simp)
 ·rw [if_neg ha]
  rcases nO a m with ⟨h1,h2⟩ | ⟨i,b,h1,h2,h3⟩
  ·rw [h1]
   refine aFv fun b hb => ?_
   rcases List.mem_append.1 hb with hb | hb
   ·exact h2 b hb
   ·simp only [List.mem_singleton] at hb
    rw [hb];exact fun e=>ha e.symm
  ·rw [h3,← h2]
   exact uE (h.snoc hx) (by rw [List.getElem?_append_left (List.getElem?_eq_some_iff.1 h1).1];exact h1)
def oT (m:List Body) (x:Body):List Body × Int :=
 if check x≠0 then (m,check x) else if 0≤dO x.key m then (m,10) else if 4096≤m.length then (m,12) else (m++[x],0)
theorem bEv {m:List Body} {i:Nat} {b x:Body} (hi:m[i]? = some b) (hk:x.key=b.key):(m.set i x).map (·.key)=m.map (·.key):=by
 apply List.ext_getElem?
 intro q
 simp only [List.getElem?_map,List.getElem?_set]
 by_cases hq:i=q
 ·subst hq
  have hlt:i < m.length:=(List.getElem?_eq_some_iff.1 hi).1
  rw [hi]
  simp [hlt,hk]
 ·simp [hq]
theorem xO (k:Int):∀ {m m':List Body},m.map (·.key)=m'.map (·.key)→dO k m=dO k m'
 | [],[],_=>rfl
 | [],_::_,h=>by simp at h
 | _::_,[],h=>by simp at h
 | a::m,b::m',h=>by
  simp only [List.map_cons,List.cons.injEq] at h
  unfold dO
  rw [h.1,xO k h.2]
theorem bEp {m m':List Body} (h:m.map (·.key)=m'.map (·.key)) (k:Int):yD m k=yD m' k:=by unfold yD;rw [xO k h]
def tK (m:List Body) (x:Body):List Body × Int :=
 if check x≠0 then (m,check x) else if dO x.key m < 0 then (m,11) else (m.set (dO x.key m).toNat x,0)
def aAq (m:List Body) (i:Nat):List Body:=(m.set i (m.getD (m.length - 1) ⟨0,0,0,0,0,0,0,0,0,0⟩)).take (m.length - 1)
def mB (m:List Body) (k:Int):List Body × Int:=if dO k m < 0 then (m,11) else (aAq m (dO k m).toNat,0)
theorem rR {m:List Body} {i:Nat} (hi:i < m.length):(aAq m i).Perm (m.eraseIdx i):=by
 obtain ⟨dl,bl,rfl⟩:∃ dl bl,m=dl++[bl]:=⟨m.dropLast,m.getLast (by intro e;subst e;simp at hi),(List.dropLast_concat_getLast _).symm⟩
 unfold aAq
 simp only [List.length_append,List.length_cons,List.length_nil,Nat.zero_add,Nat.add_sub_cancel] at hi ⊢
 have hl:(dl++[bl]).getD dl.length ⟨0,0,0,0,0,0,0,0,0,0⟩=bl:=by simp
 rw [hl]
 by_cases h:i=dl.length
 ·subst h
  simp [List.eraseIdx_append_of_length_le]
 ·have hlt:i < dl.length:=by omega
  rw [List.set_append_left _ _ hlt,List.take_append_of_le_length (by simp),List.take_of_length_le (by simp),List.eraseIdx_append_of_lt_length hlt]
  rw [List.set_eq_take_append_cons_drop,if_pos hlt,List.eraseIdx_eq_take_drop_succ]
  refine List.perm_middle.trans ?_
  exact (List.perm_append_singleton _ _).symm
theorem bIw {m:List Body} {i j:Nat} {b:Body} (hj:m[j]? = some b) (hne:j≠i) (hlt:j < m.length - 1):(aAq m i)[j]? = some b:=by
 unfold aAq
 rw [List.getElem?_take_of_lt hlt,List.getElem?_set_ne (Ne.symm hne),hj]
theorem aYp {m:List Body} {i:Nat} {bl:Body} (hl:m[m.length - 1]? = some bl) (hlt:i < m.length - 1):(aAq m i)[i]? = some bl:=by
 unfold aAq
 rw [List.getElem?_take_of_lt hlt,List.getElem?_set_self (by omega)]
 simp [List.getD_eq_getElem?_getD,hl]
theorem kQ.perm {m m':List Body} (h:kQ m) (p:m'.Perm m):kQ m':=(p.map _).nodup_iff.2 h
theorem kQ.cut {m:List Body} (h:kQ m) {i:Nat} (hi:i < m.length):kQ (aAq m i):=by
 refine kQ.perm ?_ (rR hi)
 exact List.Sublist.nodup ((List.eraseIdx_sublist m i).map _) h
theorem aJy {m:List Body} (h:kQ m) {i:Nat} {b:Body} (hi:m[i]? = some b):∀ c∈m.eraseIdx i,c.key≠b.key:=by
 intro c hc e
 obtain ⟨j,hj⟩:=List.getElem?_of_mem hc
 rw [List.getElem?_eraseIdx] at hj
 split at hj
 ·have:=h.inj hj hi e;omega
 ·have:=h.inj hj hi e;omega
theorem bJu {m:List Body} (h:kQ m) {i:Nat} {b bl:Body} (hi:m[i]? = some b) (hl:m[m.length - 1]? = some bl) (a:Int) :
  yD (aAq m i) a=if a=b.key then none else if a=bl.key then some (i:Int) else yD m a:=by
 have hlt:i < m.length:=(List.getElem?_eq_some_iff.1 hi).1
 have hp:=rR hlt
 by_cases ha:a=b.key
 ·rw [if_pos ha,ha]
  exact aFv fun c hc=>aJy h hi c (hp.mem_iff.1 hc)
 ·rw [if_neg ha]
  by_cases hal:a=bl.key
  ·rw [if_pos hal,hal]
   have hne:i≠m.length - 1:=by
    intro e
    subst e
    rw [hl] at hi
    injection hi with hi
    exact ha (by rw [hal,hi])
   exact uE (h.cut hlt) (aYp hl (by omega))
  ·rw [if_neg hal]
   rcases nO a m with ⟨h1,h2⟩ | ⟨j,c,h1,h2,h3⟩
   ·rw [h1]
    exact aFv fun c hc=>h2 c ((List.eraseIdx_sublist m i).subset (hp.mem_iff.1 hc))
   ·rw [h3,← h2]
    have hji:j≠i:=by
     intro e
     subst e
     rw [hi] at h1
     injection h1 with h1
     exact ha (by rw [← h2,h1])
    have hjl:j≠m.length - 1:=by
     intro e
     subst e
     rw [hl] at h1
     injection h1 with h1
     exact hal (by rw [← h2,h1])
    have hjlt:j < m.length:=(List.getElem?_eq_some_iff.1 h1).1
    exact uE (h.cut hlt) (bIw h1 hji (by omega))
structure StoreIs (T:Nat) (A:Option Addr) (n c:Nat) (p:Option Nat) (e1 e2:eL) (m:List Body):Prop where
 row:aZ T 10 A n c (m.map aF) e1
 map:kT .u32 (Value.int .i64) (yD m) p e2
 keys:kQ m
 cap:m.length≤4096
 ok:∀ b∈m,check b=0
theorem StoreIs.nil (T:Nat) (o o':Obj):StoreIs T none 0 0 none (none,o) (none,o') []:=⟨aZ.nil _ _ _,.inl ⟨rfl,rfl,fun k=>rfl⟩,by simp [kQ],by simp,by simp⟩
theorem aLm {m:List Body} {x:Body} (h:kQ m∧m.length≤4096∧∀ b∈m,check b=0):kQ (oT m x).1∧(oT m x).1.length≤4096∧∀ b∈(oT m x).1,check b=0:=by
 unfold oT
 split
 ·exact h
 ·split
  ·exact h
  ·split
   ·exact h
   ·refine ⟨h.1.snoc (by omega),by simp;omega,fun b hb => ?_⟩
    rcases List.mem_append.1 hb with hb | hb
    ·exact h.2.2 b hb
    ·simp only [List.mem_singleton] at hb
     subst hb
     omega
theorem kT.isSome {β:Type} {kk:IntKind} {enc:β→Value} {f:Int→Option β} {p:Option Nat} {e:eL} {k:Int} {v:β} (h:kT kk enc f p e) (hf:f k=some v):p.isSome=true:=by
 rcases h with ⟨_,_,h⟩ | ⟨q,_,h,_⟩
 ·rw [h] at hf;cases hf
 ·rw [h];rfl
def aFt (m:List Body) (k:Int):Body × Int:=if dO k m < 0 then (⟨0,0,0,0,0,0,0,0,0,0⟩,11) else (m.getD (dO k m).toNat ⟨0,0,0,0,0,0,0,0,0,0⟩,0)
theorem aKb {m:List Body} {k:Int} (h:yD m k=none):aFt m k=(⟨0,0,0,0,0,0,0,0,0,0⟩,11):=by
 unfold aFt
 rw [lF,h]
 rfl
theorem aAx {m:List Body} {k:Int} {i:Nat} {b:Body} (h:yD m k=some (i:Int)) (hb:m[i]? = some b):aFt m k=(b,0):=by
 unfold aFt
 rw [lF,h]
 simp only []
 rw [if_neg (by omega),Int.toNat_natCast,List.getD_eq_getElem?_getD,hb]
 rfl
theorem StoreIs.put {T:Nat} {A:Option Addr} {n c:Nat} {p:Option Nat} {e1 e1' e2:eL} {m:List Body} (hs:StoreIs T A n c p e1 e2 m) {i:Nat} {b x:Body} (hb:m[i]? = some b) (hk:x.key=b.key) (hx:check x=0)
  (hr:aZ T 10 A n c ((m.set i x).map aF) e1'):StoreIs T A n c p e1' e2 (m.set i x):=by
 have hkeys:=bEv hb hk
 refine ⟨hr,hs.map.congr fun k=>bEp hkeys k,by unfold kQ;rw [hkeys];exact hs.keys,by simpa using hs.cap,fun y hy => ?_⟩
 rcases List.mem_or_eq_of_mem_set hy with h | h
 ·exact hs.ok y h
 ·rw [h];exact hx
theorem StoreIs.cut {T:Nat} {A:Option Addr} {n c:Nat} {p:Option Nat} {e1 e1' e2 e2':eL} {m:List Body} (hs:StoreIs T A n c p e1 e2 m) {i:Nat} {b bl:Body} {key:Int} {u:Int} (hb:m[i]? = some b) (hk:b.key=key) (hl:m[m.length - 1]? = some bl) (hu:u=(i:Int)) {h:Nat} (hh:h=n - 1)
  (hr:aZ T 10 A n c ((m.set i bl).map aF) e1') (hm:kT .u32 (Value.int .i64) (fun a=>if a=key then none else if a=bl.key then some u else yD m a) p e2'):StoreIs T (wT A c 0 10) (h - 0) (c - 0) p e1' e2' (aAq m i):=by
 have hlt:i < m.length:=(List.getElem?_eq_some_iff.1 hb).1
 have hlen:m.length=n:=by simpa using hs.row.1
 subst hu
 subst hh
 subst hk
 have hcut:aAq m i=(m.set i bl).take (n - 1):=by
  unfold aAq
  rw [hlen] at hl ⊢
  rw [List.getD_eq_getElem?_getD,hl]
  rfl
 have hp:=rR hlt
 refine ⟨?_,hm.congr fun a => ?_,hs.keys.cut hlt, ?_,fun y hy=>hs.ok y ((List.eraseIdx_sublist m i).subset (hp.mem_iff.1 hy))⟩
 ·rw [hcut,List.map_take]
  exact hr.pre (n - 1) (by omega)
 ·exact bJu hs.keys hb hl a
 ·rw [hp.length_eq,List.length_eraseIdx]
  have:=hs.cap
  split <;> omega
end Go.Bil
namespace Go.Bil
def qE (a b:Int):Int:=if a < b then -1 else if b < a then 1 else 0
theorem bVm (w:World) (o p:Obj):∃ q os,({ ({ w with heap:=w.heap.push o }:World) with heap:=(w.heap.push o).push p }:World)=Go.Sort.grow (w.drewN q) os:=⟨0,#[o,p],by
 have e:(w.heap.push o).push p=w.heap++#[o,p]:=by apply Array.ext';simp
 simp [Go.Sort.grow,e,World.drewN]⟩
theorem aRs (m:List Body):∀ y∈m.map aF,∀ u∈y,one u=true:=by
 intro y hy
 obtain ⟨b,_,rfl⟩:=List.mem_map.1 hy
 exact iQ b
end Go.Bil
