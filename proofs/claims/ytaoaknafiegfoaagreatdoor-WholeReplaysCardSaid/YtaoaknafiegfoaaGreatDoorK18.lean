/- Part of the proof of a law of this seat (15 texts). No conditions. -/
import Derived.Test.YtaoaknafiegfoaaGreatDoorK7
import Derived.Test.YtaoaknafiegfoaaGreatDoorK17
set_option linter.unusedVariables false
set_option linter.unusedSimpArgs false
set_option linter.unnecessarySimpa false
set_option maxHeartbeats 100000000
namespace Go.Bil
abbrev Pt:=Int × Int
structure PtI (v:Pt):Prop where
 x : -1082130432≤v.1∧v.1≤1082130432
 y : -1082130432≤v.2∧v.2≤1082130432
structure SgI (p q:Pt):Prop where
 hp:PtI p
 hq:PtI q
 x : -16777216≤q.1 - p.1∧q.1 - p.1≤16777216
 y : -16777216≤q.2 - p.2∧q.2 - p.2≤16777216
theorem PtI.i32 {v:Pt} (h:PtI v):I32 v:=⟨by have:=h.x;omega,by have:=h.y;omega⟩
theorem PtI.inX {v u:Pt} (h:PtI v) (g:PtI u):yK (u.1 - v.1):=by have:=h.x;have:=g.x;unfold yK;omega
theorem PtI.inY {v u:Pt} (h:PtI v) (g:PtI u):yK (u.2 - v.2):=by have:=h.y;have:=g.y;unfold yK;omega
theorem aAv {a b:Int} {A B:Nat} (ha:a.natAbs≤A) (hb:b.natAbs≤B) : -((A*B:Nat):Int)≤a*b∧a*b≤((A*B:Nat):Int):=by
 have h:=Nat.mul_le_mul ha hb
 rw [← Int.natAbs_mul] at h
 omega
theorem sqN (a:Int):0≤a*a:=by rw [← Int.natAbs_mul_self];omega
def mE (p q:Pt):Int:=(q.1 - p.1)*(q.1 - p.1)+(q.2 - p.2)*(q.2 - p.2)
def pQ (p q c:Pt):Int:=max 0 (min ((c.1 - p.1)*(q.1 - p.1)+(c.2 - p.2)*(q.2 - p.2)) (mE p q))
theorem uB {p q:Pt} (h:SgI p q):0≤mE p q∧mE p q≤562949953421312∧(0≤(q.1 - p.1)*(q.1 - p.1)∧(q.1 - p.1)*(q.1 - p.1)≤281474976710656)∧0≤(q.2 - p.2)*(q.2 - p.2)∧(q.2 - p.2)*(q.2 - p.2)≤281474976710656:=by
 have hx:=h.x
 have hy:=h.y
 have a:=aAv (a:=q.1 - p.1) (b:=q.1 - p.1) (A:=16777216) (B:=16777216) (by omega) (by omega)
 have b:=aAv (a:=q.2 - p.2) (b:=q.2 - p.2) (A:=16777216) (B:=16777216) (by omega) (by omega)
 have c:=sqN (q.1 - p.1)
 have d:=sqN (q.2 - p.2)
 unfold mE
 omega
theorem aHs {p q c:Pt} (h:SgI p q):0≤pQ p q c∧pQ p q c≤mE p q:=by
 have:=uB h
 unfold pQ
 omega
theorem aSz {p q c:Pt} (h:SgI p q) (hc:PtI c):(-36310272144179200≤(c.1 - p.1)*(q.1 - p.1)∧(c.1 - p.1)*(q.1 - p.1)≤36310272144179200) ∧ -36310272144179200≤(c.2 - p.2)*(q.2 - p.2)∧(c.2 - p.2)*(q.2 - p.2)≤36310272144179200:=by
 have hx:=h.x
 have hy:=h.y
 have:=hc.x;have:=hc.y;have:=h.hp.x;have:=h.hp.y
 have a:=aAv (a:=c.1 - p.1) (b:=q.1 - p.1) (A:=2164260864) (B:=16777216) (by omega) (by omega)
 have b:=aAv (a:=c.2 - p.2) (b:=q.2 - p.2) (A:=2164260864) (B:=16777216) (by omega) (by omega)
 omega
theorem bKh {a n d:Int} (hn:0≤n) (hnd:n≤d) (hd:0 < d):(0≤a→0≤a*n / d∧a*n / d≤a)∧(a≤0→a≤a*n / d∧a*n / d≤0):=by
 refine ⟨fun h=>⟨Int.ediv_nonneg (Int.mul_nonneg h hn) (Int.le_of_lt hd), ?_⟩,fun h=>⟨?_, ?_⟩⟩
 ·exact Int.ediv_le_of_le_mul hd (Int.mul_le_mul_of_nonneg_left hnd h)
 ·exact (Int.le_ediv_iff_mul_le hd).2 (Int.mul_le_mul_of_nonpos_left h hnd)
 ·have h1:a*n≤0:=Int.mul_nonpos_of_nonpos_of_nonneg h hn
  exact Int.ediv_le_of_le_mul hd (by omega)
def eD (p q c:Pt):Pt:=if mE p q=0 then p else (p.1+(q.1 - p.1)*pQ p q c / mE p q,p.2+(q.2 - p.2)*pQ p q c / mE p q)
theorem aIc {p q c:Pt} (h:SgI p q) (hd:mE p q≠0):((-16777216≤(q.1 - p.1)*pQ p q c / mE p q∧(q.1 - p.1)*pQ p q c / mE p q≤16777216) ∧ -1082130432≤p.1+(q.1 - p.1)*pQ p q c / mE p q∧p.1+(q.1 - p.1)*pQ p q c / mE p q≤1082130432) ∧
  (-16777216≤(q.2 - p.2)*pQ p q c / mE p q∧(q.2 - p.2)*pQ p q c / mE p q≤16777216) ∧ -1082130432≤p.2+(q.2 - p.2)*pQ p q c / mE p q∧p.2+(q.2 - p.2)*pQ p q c / mE p q≤1082130432:=by
 have hn:=aHs (c:=c) h
 have hD:=uB h
 have a:=bKh (a:=q.1 - p.1) hn.1 hn.2 (by omega)
 have b:=bKh (a:=q.2 - p.2) hn.1 hn.2 (by omega)
 have:=h.hp.x;have:=h.hp.y;have:=h.hq.x;have:=h.hq.y;have:=h.x;have:=h.y
 generalize (q.1 - p.1)*pQ p q c / mE p q=u at *
 generalize (q.2 - p.2)*pQ p q c / mE p q=v at *
 omega
theorem fB {p q c:Pt} (h:SgI p q):PtI (eD p q c):=by
 unfold eD
 split
 ·exact h.hp
 ·rename_i hd
  have:=aIc (c:=c) h hd
  exact ⟨this.1.2,this.2.2⟩
abbrev Ch:=Pt × Pt × Nat
def gD (s:Ch) (x y:Pt):Ch:=if lsq (y.1 - x.1) (y.2 - x.2) < s.2.2 then (x,y,lsq (y.1 - x.1) (y.2 - x.2)) else s
def ch0:Ch:=((0,0),(0,0),18446744073709551615)
def qF (ap aq bp bq:Pt):Ch:=gD (gD (gD (gD ch0 ap (eD bp bq ap)) aq (eD bp bq aq)) (eD ap aq bp) bp) (eD ap aq bq) bq
structure ChI (s:Ch):Prop where
 a:PtI s.1
 b:PtI s.2.1
 l:s.2.2 < 18446744073709551616
theorem ChI.step {s:Ch} {x y:Pt} (h:ChI s) (hx:PtI x) (hy:PtI y):ChI (gD s x y):=by
 unfold gD
 split
 ·exact ⟨hx,hy,(zT (hx.inX hy) (hx.inY hy)).1⟩
 ·exact h
theorem aYw:ChI ch0:=⟨⟨by decide,by decide⟩,⟨by decide,by decide⟩,by decide⟩
theorem aTc {ap aq bp bq:Pt} (h1:SgI ap aq) (h2:SgI bp bq):ChI (qF ap aq bp bq) :=
 (((aYw.step h1.hp (fB h2)).step h1.hq (fB h2)).step (fB h1) h2.hp).step (fB h1) h2.hq
def aKc (b:Body):Pt:=(b.px - b.ax,b.py - b.ay)
def aKe (b:Body):Pt:=(b.px+b.ax,b.py+b.ay)
theorem xV {b:Body} (h:Okb b):SgI (aKc b) (aKe b):=by
 have:=h.a;have:=h.p
 refine ⟨⟨?_, ?_⟩,⟨?_, ?_⟩, ?_, ?_⟩ <;> simp only [aKc,aKe] <;> omega
structure Con where
 low:Int
 high:Int
 nx:Int
 ny:Int
 depth:Int
deriving DecidableEq
def cM (c:Con):List Value:=[.int .u32 c.low,.int .u32 c.high,.int .i32 c.nx,.int .i32 c.ny,.int .i32 c.depth]
def wK (a b:Body):Ch:=qF (aKc a) (aKe a) (aKc b) (aKe b)
def yZ (s:Ch):Int:=s.2.1.1 - s.1.1
def aBl (s:Ch):Int:=s.2.1.2 - s.1.2
def nK (a b:Body):Option Con :=
 if (a.radius+b.radius).natAbs*(a.radius+b.radius).natAbs≤lsq (yZ (wK a b)) (aBl (wK a b)) then none
 else some ⟨a.key,b.key,(mG (yZ (wK a b)) (aBl (wK a b))).1,(mG (yZ (wK a b)) (aBl (wK a b))).2,IntKind.wrap .i32 (a.radius+b.radius - len (yZ (wK a b)) (aBl (wK a b)))⟩
def mV (a b:Body):Option Con:=if b.key < a.key then nK b a else nK a b
def mF (b:Body):List Value:=aF b++cN (aKc b)++cN (aKe b)
def loB (a b:Body):Body:=if b.key < a.key then b else a
def hiB (a b:Body):Body:=if b.key < a.key then a else b
theorem aKa (a b:Body):mV a b=nK (loB a b) (hiB a b):=by unfold mV loB hiB;split <;> rfl
theorem bGp {a b:Body} (ha:Okb a) (hb:Okb b):Okb (loB a b)∧Okb (hiB a b):=by unfold loB hiB;split <;> exact ⟨by assumption,by assumption⟩
theorem aAq {a b:Body} (ha:Okb a) (hb:Okb b):ChI (wK a b):=aTc (xV ha) (xV hb)
theorem bEq {a b:Body} (ha:Okb a) (hb:Okb b):yK (yZ (wK a b))∧yK (aBl (wK a b)):=⟨(aAq ha hb).a.inX (aAq ha hb).b,(aAq ha hb).a.inY (aAq ha hb).b⟩
def bIm (o:Option Con):List Value:=cM (o.getD ⟨0,0,0,0,0⟩)
theorem bIv {a b:Body} (ha:Okb a) (hb:Okb b):0≤(a.radius+b.radius)*(a.radius+b.radius)∧(a.radius+b.radius)*(a.radius+b.radius)≤70368744177664:=by
 have:=ha.r;have:=hb.r
 have h:=aAv (a:=a.radius+b.radius) (b:=a.radius+b.radius) (A:=8388608) (B:=8388608) (by omega) (by omega)
 have:=sqN (a.radius+b.radius)
 omega
theorem bBe (s:Int) (h:0≤s*s∧s*s≤70368744177664):IntKind.wrap .u64 (s*s)=((s.natAbs*s.natAbs:Nat):Int):=by
 rw [sQ,Int.natAbs_mul_self];omega
end Go.Bil

namespace Go.Bil
def rZ (b:Body):Value:=.agg (aF b).toArray
def aYm:Body:=⟨0,0,0,0,0,0,0,0,0,0⟩
def boM (xs:List Body):Int→Option Body:=fun k=>xs.reverse.find? (fun b=>decide (b.key=k))
theorem bCl (k:Int):boM [] k=none:=rfl
theorem aXd {xs:List Body} {k:Nat} {b:Body} (h:xs[k]? = some b) (q:Int):boM (xs.take (k+1)) q=if q=b.key then some b else boM (xs.take k) q:=by
 unfold boM
 rw [cQ h,List.reverse_append]
 simp only [List.reverse_cons,List.reverse_nil,List.nil_append,List.singleton_append,List.find?_cons]
 by_cases e:q=b.key
 ·rw [if_pos e,decide_eq_true e.symm]
 ·rw [if_neg e,decide_eq_false (fun h=>e h.symm)]
theorem aPm {xs:List Body} (hs:bY xs) {b:Body} (hb:b∈xs):boM xs b.key=some b:=by
 unfold boM
 cases hf:xs.reverse.find? (fun c=>decide (c.key=b.key)) with
 | none =>
  have:=List.find?_eq_none.1 hf b (by simpa using hb)
  simp at this
 | some c =>
  have hc:=List.find?_some hf
  have hm:c∈xs:=by simpa using List.mem_of_find?_eq_some hf
  simp only [decide_eq_true_eq] at hc
  rw [mA hs hm hb hc]
def aEy (f:Int→Option Body) (z:Int × Int):Option Con:=(f z.1).bind fun a=>(f z.2).bind fun b=>mV a b
def lL (xs:List Body):List Con:=(lM xs).filterMap (aEy (boM xs))
theorem wL {xs:List Body} (hs:bY xs) {z:Int × Int} (h:z∈lM xs):∃ a b,a∈xs∧b∈xs∧a.key < b.key∧z=(a.key,b.key)∧boM xs z.1=some a∧boM xs z.2=some b:=by
 obtain ⟨a,ha,b,hb,h1,h2,rfl⟩:=(aRe hs).1 h
 exact ⟨a,b,ha,hb,h1,Z,aPm hs ha,aPm hs hb⟩
theorem rA {f:Int→Option Body} {z:Int × Int} {a b:Body} (h1:f z.1=some a) (h2:f z.2=some b):aEy f z=mV a b:=by simp [aEy,h1,h2]
theorem aNm {a b:Body} {c:Con} (h:nK a b=some c):c.low=a.key∧c.high=b.key:=by
 unfold nK at h
 split at h
 ·cases h
 ·injection h with h;subst h;exact ⟨rfl,rfl⟩
theorem aTz {a b:Body} {c:Con} (hk:a.key < b.key) (h:mV a b=some c):c.low=a.key∧c.high=b.key:=by
 unfold mV at h
 rw [if_neg (by omega)] at h
 exact aNm h
theorem bCn {α β:Type} {l:List α} {k:Nat} {z:α} {g:α→Option β} (h:l[k]? = some z):(l.take (k+1)).filterMap g=(l.take k).filterMap g++(g z).toList:=by
 rw [cQ h,List.filterMap_append]
 cases hg:g z <;> simp [hg]
theorem aJd (xs:List Body):(lL xs).length≤(lM xs).length:=List.length_filterMap_le _ _
theorem Mem.orderC {w0 w:World} {X:List Nat} {a b c d:cY} (M:Mem w0 X [a,b,c,d] w):Mem w0 X [c,b,a,d] w :=
 M.perm ((List.Perm.swap b a [c,d]).trans (((List.Perm.swap c a [d]).cons b).trans (List.Perm.swap c b [a,d])))
def qT:Con→List Con→Con
 | b,[]=>b
 | b,c::l=>qT (if b.depth < c.depth then c else b) l
def bFk:List Con→Option Con
 | []=>none
 | c::l=>some (qT c l)
end Go.Bil

namespace Go.Bil
theorem wC:∀ (l:List Con) (b:Con),b.depth≤(qT b l).depth∧∀ c∈l,c.depth≤(qT b l).depth
 | [],b=>⟨Int.le_refl _,by simp⟩
 | x::l,b=>by
  have ih:=wC l (if b.depth < x.depth then x else b)
  have e:qT b (x::l)=qT (if b.depth < x.depth then x else b) l:=rfl
  rw [e]
  by_cases hx:b.depth < x.depth
  ·rw [if_pos hx] at ih ⊢
   refine ⟨by omega,fun c hc => ?_⟩
   rcases List.mem_cons.1 hc with rfl | hc
   ·exact ih.1
   ·exact ih.2 c hc
  ·rw [if_neg hx] at ih ⊢
   refine ⟨ih.1,fun c hc => ?_⟩
   rcases List.mem_cons.1 hc with rfl | hc
   ·omega
   ·exact ih.2 c hc
theorem aKb:∀ (l:List Con) (b:Con),∃ j:Nat,(b::l)[j]? = some (qT b l)∧∀ (i:Nat) (c:Con),i < j→(b::l)[i]? = some c→c.depth < (qT b l).depth
 | [],b=>⟨0,rfl,fun i c h=>by omega⟩
 | x::l,b=>by
  have e:qT b (x::l)=qT (if b.depth < x.depth then x else b) l:=rfl
  obtain ⟨j,h1,h2⟩:=aKb l (if b.depth < x.depth then x else b)
  have hm:=wC l (if b.depth < x.depth then x else b)
  rw [e]
  by_cases hc:b.depth < x.depth
  ·rw [if_pos hc] at h1 h2 hm ⊢
   refine ⟨j+1,by simpa using h1,fun i c hi hci => ?_⟩
   cases i with
   | zero=>simp only [List.getElem?_cons_zero,Option.some.injEq] at hci;subst hci;omega
   | succ i=>exact h2 i c (by omega) (by simpa using hci)
  ·rw [if_neg hc] at h1 h2 hm ⊢
   cases j with
   | zero=>exact ⟨0,by simpa using h1,fun i c h=>by omega⟩
   | succ j =>
    have hb:=h2 0 b (by omega) rfl
    refine ⟨j+2,by simpa using h1,fun i c hi hci => ?_⟩
    match i,hci with
    | 0,hci=>simp only [List.getElem?_cons_zero,Option.some.injEq] at hci;subst hci;exact hb
    | 1,hci=>simp only [List.getElem?_cons_succ,List.getElem?_cons_zero,Option.some.injEq] at hci;subst hci;omega
    | i+2,hci=>exact h2 (i+1) c (by omega) (by simpa using hci)
def bLh:Con:=⟨0,0,0,0,0⟩
theorem aUh {l:List Con} {d:Con} (hd:(bFk l).getD bLh=d) (hl:l≠[]):d∈l∧(∀ c∈l,c.depth≤d.depth)∧∀ (i:Nat) (c:Con),l[i]? = some c→d∉l.take i→c.depth=d.depth→c=d:=by
 cases l with
 | nil=>exact absurd rfl hl
 | cons b l =>
  have hd':qT b l=d:=hd
  obtain ⟨j,h1,h2⟩:=aKb l b
  have hm:=wC l b
  rw [hd'] at h1 h2 hm
  refine ⟨List.mem_of_getElem? h1,fun c hc => ?_,fun i c hi hn he => ?_⟩
  ·rcases List.mem_cons.1 hc with rfl | hc
   ·exact hm.1
   ·exact hm.2 c hc
  ·rcases Nat.lt_trichotomy i j with h | h | h
   ·have:=h2 i c h hi;omega
   ·subst h;rw [hi] at h1;injection h1
   ·refine absurd (List.mem_of_getElem? (i:=j) ?_) hn
    rw [List.getElem?_take,if_pos h];exact h1
end Go.Bil
namespace Go.Bil
structure ChL (s:Ch):Prop where
 i:ChI s
 l:s.2.2=lsq (s.2.1.1 - s.1.1) (s.2.1.2 - s.1.2)
theorem ChL.step {s:Ch} {x y:Pt} (h:ChL s) (hx:PtI x) (hy:PtI y):ChL (gD s x y):=by
 refine ⟨h.i.step hx hy, ?_⟩
 unfold gD
 split
 ·rfl
 ·exact h.l
end Go.Bil
namespace Go.Bil
end Go.Bil
namespace Go.Bil
end Go.Bil
namespace Go.Bil
end Go.Bil
namespace Go.Bil
structure BestC (ys:List Con) (i j:Nat):Prop where
 lt:ys≠[]→j < ys.length
 z:i=0→j=0
 ji:i≠0→j < i
 mx:∀ (p:Nat) (x b:Con),p < i→ys[p]? = some x→ys[j]? = some b→x.depth≤b.depth∧(p < j→x.depth < b.depth)
theorem BestC.new {ys:List Con} {i j:Nat} {x b:Con} (h:BestC ys i j) (hx:ys[i]? = some x) (hb:ys[j]? = some b) (hc:x.depth > b.depth):BestC ys (i+1) i:=by
 have hi:=(List.getElem?_eq_some_iff.1 hx).1
 refine ⟨fun _=>hi,fun h=>by omega,fun _=>by omega,fun p y c hp hy hcx => ?_⟩
 rw [hx] at hcx
 injection hcx with hcx
 subst hcx
 by_cases hpi:p=i
 ·subst hpi
  rw [hx] at hy
  injection hy with hy
  subst hy
  exact ⟨Int.le_refl _,fun h=>by omega⟩
 ·have:=(h.mx p y b (by omega) hy hb).1
  exact ⟨by omega,fun _=>by omega⟩
theorem BestC.old {ys:List Con} {i j:Nat} {x b:Con} (h:BestC ys i j) (hx:ys[i]? = some x) (hb:ys[j]? = some b) (hc:¬ x.depth > b.depth):BestC ys (i+1) j:=by
 refine ⟨h.lt,fun h=>by omega,fun _ => ?_,fun p y c hp hy hcx => ?_⟩
 ·by_cases hi:i=0
  ·have:=h.z hi;omega
  ·have:=h.ji hi;omega
 ·rw [hb] at hcx
  injection hcx with hcx
  subst hcx
  by_cases hpi:p=i
  ·subst hpi
   rw [hx] at hy
   injection hy with hy
   subst hy
   refine ⟨by omega,fun hpj => ?_⟩
   by_cases hi:p=0
   ·have:=h.z hi;omega
   ·have:=h.ji hi;omega
  ·exact h.mx p y b (by omega) hy hb
theorem BestC.done {ys:List Con} {m j:Nat} {d:Con} (h:BestC ys m j) (hn:ys≠[]) (hl:ys.length=m) (hd:(bFk ys).getD bLh=d):∃ x,ys[j]? = some x∧d=x:=by
 have hj:=h.lt hn
 refine ⟨ys[j],List.getElem?_eq_getElem hj, ?_⟩
 have hg:=List.getElem?_eq_getElem hj
 obtain ⟨h1,h2,h3⟩:=aUh hd hn
 obtain ⟨p,hp⟩:=List.getElem?_of_mem h1
 have hpl:=(List.getElem?_eq_some_iff.1 hp).1
 have e1:=(h.mx p d _ (by omega) hp hg).1
 have e2:=h2 _ (List.getElem_mem hj)
 refine (h3 j _ hg ?_ (by omega)).symm
 intro hm
 obtain ⟨q,hq⟩:=List.getElem?_of_mem hm
 rw [List.getElem?_take] at hq
 split at hq
 ·have:=(h.mx q d _ (by omega) hq hg).2 (by omega)
  omega
 ·cases hq
theorem bDf {xs:List Body} (hs:bY xs) {c:Con} (h:c∈lL xs):∃ a b,a∈xs∧b∈xs∧a.key < b.key∧mV a b=some c∧c.low=a.key∧c.high=b.key:=by
 obtain ⟨z,hz,hc⟩:=List.mem_filterMap.1 h
 obtain ⟨a,b,ha,hb,hk,rfl,h1,h2⟩:=wL hs hz
 rw [rA h1 h2] at hc
 have:=aTz hk hc
 exact ⟨a,b,ha,hb,hk,hc,this.1,this.2⟩
end Go.Bil

namespace Go.Bil
def bMo (a:Bx):Prop:=a=fU∨(a.x0≤a.x1∧a.y0≤a.y1)
structure Meas where
 nb:Int
 ns:Int
 sp:Nat
 sx:Int
 sy:Int
 bx:Bx
 ov:Int
deriving DecidableEq
structure OkM (k:Nat) (m:Meas):Prop where
 g:bMo m.bx
 x:m.bx=fU∨Okx m.bx
 nb:0≤m.nb∧m.nb≤k
 ns:0≤m.ns∧m.ns≤m.nb
 sp:m.sp < 18446744073709551616
 sx : -(16777216*(k:Int))≤m.sx∧m.sx≤16777216*k
 sy : -(16777216*(k:Int))≤m.sy∧m.sy≤16777216*k
 ov : -(2147483648*((k:Int)*k))≤m.ov∧m.ov≤2147483648*((k:Int)*k)
theorem OkM.mono {j k:Nat} {a:Meas} (h:OkM j a) (hjk:j≤k):OkM k a:=by
 have n1:=h.nb;have x1:=h.sx;have y1:=h.sy;have o1:=h.ov
 have hsq:(j:Int)*j≤(k:Int)*k:=Int.mul_le_mul (by omega) (by omega) (by omega) (by omega)
 refine ⟨h.g,h.x,by omega,h.ns,h.sp,by omega,by omega, ?_⟩
 generalize (j:Int)*j=J at *
 generalize (k:Int)*k=K at *
 omega
theorem bDy {xs:List Body}:(lL xs).length≤xs.length*xs.length:=Nat.le_trans (aJd xs) (aDc xs xs.length)
end Go.Bil

namespace Go.Bil
end Go.Bil

namespace Go.Bil
end Go.Bil
namespace Go.Bil
structure RightOne (xs:List Body) (c:Con):Prop where
 ne:¬ c.low=c.high
 l:0≤cI c.low xs
 h:0≤cI c.high xs
instance (xs:List Body) (c:Con):Decidable (RightOne xs c):=decidable_of_iff (¬ c.low=c.high∧0≤cI c.low xs∧0≤cI c.high xs) ⟨fun h=>⟨h.1,h.2.1,h.2.2⟩,fun h=>⟨h.1,h.2,h.3⟩⟩
end Go.Bil
namespace Go.Bil
theorem bDa {xs:List Body} {i:Nat} {b:Body} (h:xs[i]? = some b):xs.getD i default=b:=by rw [List.getD_eq_getElem?_getD,h];rfl
end Go.Bil
namespace Go.Bil
theorem aQj {xs:List Body} {k:Int} (h:0≤cI k xs):∃ (p:Nat) (x:Body),xs[p]? = some x∧x.key=k∧cI k xs=(p:Int):=(dG k xs).elim (fun e=>absurd e.1 (by omega)) id
end Go.Bil

namespace Go.Bil
def jG (n l:Int):Int:=max (-l) (min n l)
theorem eJ (n:Int) {l:Int} (h:0≤l) : -l≤jG n l∧jG n l≤l:=by unfold jG;omega
theorem aUp {dx dy:Int} (hx:yK dx) (hy:yK dy):(-65536≤(mG dx dy).1∧(mG dx dy).1≤65536)∧(-65536≤(mG dx dy).2∧(mG dx dy).2≤65536):=by
 have hl:=aFd hx hy
 unfold mG
 by_cases h0:len dx dy=0
 ·rw [if_pos h0];decide
 ·rw [if_neg h0]
  have hs:=(tD (lsq dx dy)).2
  have hle:∀ a:Nat,a*a≤lsq dx dy→a≤vN (lsq dx dy):=fun a ha=>by
   by_cases g:a≤vN (lsq dx dy)
   ·exact g
   ·have:=Nat.mul_le_mul (show vN (lsq dx dy)+1≤a by omega) (show vN (lsq dx dy)+1≤a by omega);omega
  have h1:=hle dx.natAbs (by unfold lsq;omega)
  have h2:=hle dy.natAbs (by unfold lsq;omega)
  have hp:0 < len dx dy:=by omega
  have key:∀ d:Int,d.natAbs≤vN (lsq dx dy) → -65536≤d*65536 / len dx dy∧d*65536 / len dx dy≤65536:=fun d hd=>by
   have hd' : -(len dx dy)≤d∧d≤len dx dy:=by unfold len;omega
   exact ⟨Int.le_ediv_of_mul_le hp (by omega),Int.ediv_le_of_le_mul hp (by omega)⟩
  have k1:=key dx h1
  have k2:=key dy h2
  rw [mT _ (by omega) (by omega),mT _ (by omega) (by omega)]
  exact ⟨k1,k2⟩
structure Okn (c:Con):Prop where
 x : -65536≤c.nx∧c.nx≤65536
 y : -65536≤c.ny∧c.ny≤65536
 d : -2147483648≤c.depth∧c.depth≤2147483647
theorem aOb {a b:Body} {c:Con} (ha:Okb a) (hb:Okb b) (h:nK a b=some c):Okn c:=by
 have hw:∀ x:Int, -2147483648≤IntKind.wrap .i32 x∧IntKind.wrap .i32 x≤2147483647:=fun x=>by
  simp only [IntKind.wrap,IntKind.bits,IntKind.signed,Bool.true_and,decide_eq_true_eq,ge_iff_le];split <;> omega
 have hd:=bEq ha hb
 have hu:=aUp hd.1 hd.2
 unfold nK at h
 split at h
 ·cases h
 ·injection h with h
  revert hu h
  generalize mG (yZ (wK a b)) (aBl (wK a b))=u
  generalize a.radius+b.radius - len (yZ (wK a b)) (aBl (wK a b))=q
  intro hu h
  subst h
  exact Okn.mk hu.1 hu.2 (hw q)
structure OkC (xs:List Body) (c:Con):Prop where
 ne:c.low < c.high
 l:0≤cI c.low xs
 h:0≤cI c.high xs
 n:Okn c
theorem aJe {xs:List Body} {b:Body} (hb:b∈xs):0≤cI b.key xs:=by
 rcases dG b.key xs with ⟨_,g⟩ | ⟨i,y,_,_,g⟩
 ·exact absurd Z (g b hb)
 ·omega
theorem aBx {xs:List Body} (hs:bY xs) (hb:∀ b∈xs,Okb b):∀ c∈lL xs,OkC xs c:=fun c hc=>by
 obtain ⟨a,b,ha,hb',hk,h,e1,e2⟩:=bDf hs hc
 have h':=h
 unfold mV at h'
 rw [if_neg (by omega)] at h'
 exact ⟨by omega,by rw [e1];exact aJe ha,by rw [e2];exact aJe hb',aOb (hb a ha) (hb b hb') h'⟩
def uV (c:Con) (a b:Body):Int:=((b.vx - a.vx)*c.nx+(b.vy - a.vy)*c.ny) / 65536
def mU (c:Con) (a b:Body):Int:=if 0≤uV c a b∨a.mass+b.mass=0 then 0 else -uV c a b*(65536+max a.bounce b.bounce) / (a.mass+b.mass)
def qC (j m n:Int):Int:=j*m / 65536*n / 65536
theorem aFr {c:Con} {a b:Body} (hc:Okn c) (ha:Okb a) (hb:Okb b):(-2199023255552≤(b.vx - a.vx)*c.nx∧(b.vx - a.vx)*c.nx≤2199023255552)∧(-2199023255552≤(b.vy - a.vy)*c.ny∧(b.vy - a.vy)*c.ny≤2199023255552) ∧ -67108864≤uV c a b∧uV c a b≤67108864:=by
 have h1:=ha.v;have h2:=hb.v;have h3:=hc.x;have h4:=hc.y
 have m1:=aAv (a:=b.vx - a.vx) (b:=c.nx) (A:=33554432) (B:=65536) (by omega) (by omega)
 have m2:=aAv (a:=b.vy - a.vy) (b:=c.ny) (A:=33554432) (B:=65536) (by omega) (by omega)
 unfold uV
 omega
theorem aJv {c:Con} {a b:Body} (hc:Okn c) (ha:Okb a) (hb:Okb b) (h:¬ (0≤uV c a b)):0 ≤ -uV c a b*(65536+max a.bounce b.bounce) ∧ -uV c a b*(65536+max a.bounce b.bounce)≤8796093022208:=by
 have h1:=aFr hc ha hb
 have h2:=ha.c;have h3:=hb.c
 have m:=aAv (a := -uV c a b) (b:=65536+max a.bounce b.bounce) (A:=67108864) (B:=131072) (by omega) (by omega)
 have n:=Int.mul_nonneg (a := -uV c a b) (b:=65536+max a.bounce b.bounce) (by omega) (by omega)
 omega
theorem aHz {x s m:Int} (hx:0≤x) (hs:0 < s) (hm:0≤m∧m≤s):0≤x / s∧x / s≤x∧0≤x / s*m∧x / s*m≤x:=by
 have h0:0≤x / s:=Int.ediv_nonneg hx (by omega)
 have h1:x / s*s≤x:=Int.ediv_mul_le x (by omega)
 have h2:x / s*m≤x / s*s:=Int.mul_le_mul_of_nonneg_left hm.2 h0
 have h3:x / s*1≤x / s*s:=Int.mul_le_mul_of_nonneg_left (by omega) h0
 have h4:0≤x / s*m:=Int.mul_nonneg h0 hm.1
 omega
theorem xZ {c:Con} {a b:Body} (hc:Okn c) (ha:Okb a) (hb:Okb b) {m:Int} (hm:0≤m∧m≤a.mass+b.mass):0≤mU c a b∧mU c a b≤8796093022208∧0≤mU c a b*m∧mU c a b*m≤8796093022208:=by
 have h2:=ha.m;have h3:=hb.m
 unfold mU
 split
 ·simp
 ·rename_i h
  have hp:=aJv hc ha hb (fun g=>h (.inl g))
  have hd:=aHz hp.1 (s:=a.mass+b.mass) (by omega) hm
  omega
theorem nC {j m n:Int} (h:0≤j*m∧j*m≤8796093022208) (hn : -65536≤n∧n≤65536):(0≤j*m / 65536∧j*m / 65536≤134217728)∧(-8796093022208≤j*m / 65536*n∧j*m / 65536*n≤8796093022208) ∧ -134217728≤qC j m n∧qC j m n≤134217728:=by
 have hk:0≤j*m / 65536∧j*m / 65536≤134217728:=by omega
 have m1:=aAv (a:=j*m / 65536) (b:=n) (A:=134217728) (B:=65536) (by omega) (by omega)
 unfold qC
 generalize j*m / 65536=k at *
 omega
def zE (xs:List Body) (k:Int):Body:=xs.getD (cI k xs).toNat default
theorem aZc {xs:List Body} {k:Int} {p:Nat} {x:Body} (hx:xs[p]? = some x) (hp:cI k xs=(p:Int)):zE xs k=x:=by
 unfold zE
 rw [hp,Int.toNat_natCast,bDa hx]
theorem yJ {xs:List Body} {k:Int} (h:0≤cI k xs):zE xs k∈xs∧(zE xs k).key=k:=by
 obtain ⟨p,x,hx,hk,hf⟩:=aQj h
 rw [aZc hx hf]
 exact ⟨List.mem_of_getElem? hx,hk⟩
def jV (xs:List Body) (c:Con):Int:=mU c (zE xs c.low) (zE xs c.high)
def ctr (xs:List Body) (g:Con→Int) (c:Con) (b:Body):Int:=if c.low=b.key then -qC (jV xs c) b.mass (g c) else if c.high=b.key then qC (jV xs c) b.mass (g c) else 0
def gH (xs:List Body) (cs:List Con) (g:Con→Int) (b:Body):Int:=(cs.map (fun c=>ctr xs g c b)).sum
theorem aTr {xs:List Body} {cs:List Con} {k:Nat} {c:Con} (h:cs[k]? = some c) (g:Con→Int) (b:Body):gH xs (cs.take (k+1)) g b=gH xs (cs.take k) g b+ctr xs g c b:=by
 unfold gH
 rw [cQ h,List.map_append,List.sum_append]
 simp
theorem aTk (xs:List Body) (cs:List Con) (g:Con→Int) (b:Body):gH xs (cs.take 0) g b=0:=by simp [gH]
theorem bEc {xs:List Body} {c:Con} {g:Con→Int} {b:Body} (hs:bY xs) (hx:∀ b∈xs,Okb b) (hc:OkC xs c) (hg : -65536≤g c∧g c≤65536) (hb:b∈xs) : -134217728≤ctr xs g c b∧ctr xs g c b≤134217728:=by
 obtain ⟨l1,l2⟩:=yJ hc.l
 obtain ⟨h1,h2⟩:=yJ hc.h
 have ma:=(hx _ l1).m;have mb:=(hx _ h1).m
 unfold ctr
 split
 ·rename_i e
  have:zE xs c.low=b:=mA hs l1 hb (by rw [l2,e])
  have hr:=xZ hc.n (hx _ l1) (hx _ h1) (m:=b.mass) (by rw [← this];omega)
  have:=(nC hr.2.2 hg).2.2
  unfold jV
  omega
 ·split
  ·rename_i e
   have:zE xs c.high=b:=mA hs h1 hb (by rw [h2,e])
   have hr:=xZ hc.n (hx _ l1) (hx _ h1) (m:=b.mass) (by rw [← this];omega)
   have:=(nC hr.2.2 hg).2.2
   unfold jV
   omega
  ·omega
theorem aPg {cs:List Con} {f:Con→Int} {B:Int} (hB:0≤B) (h:∀ c∈cs, -B≤f c∧f c≤B) : -(cs.length*B)≤(cs.map f).sum∧(cs.map f).sum≤cs.length*B:=by
 induction cs with
 | nil=>simp
 | cons c cs ih =>
  have h0:=h c (by simp)
  have h1:=ih (fun d hd=>h d (by simp [hd]))
  rw [List.map_cons,List.sum_cons,List.length_cons,Int.natCast_add,Int.add_mul]
  omega
theorem uA {xs:List Body} {cs:List Con} {g:Con→Int} {b:Body} (hs:bY xs) (hx:∀ b∈xs,Okb b) (hc:∀ c∈cs,OkC xs c) (hg:∀ c∈cs, -65536≤g c∧g c≤65536) (hb:b∈xs) : -(cs.length*134217728)≤gH xs cs g b∧gH xs cs g b≤cs.length*134217728 :=
 aPg (by decide) (fun c h=>bEc hs hx (hc c h) (hg c h) hb)
def aJf (xs:List Body) (cs:List Con) (b:Body):Body:={ b with vx:=jG (b.vx+gH xs cs (·.nx) b) 16777216,vy:=jG (b.vy+gH xs cs (·.ny) b) 16777216 }
def bDm (xs:List Body) (cs:List Con) (b:Body):Bool:=decide (jG (b.vx+gH xs cs (·.nx) b) 16777216≠b.vx+gH xs cs (·.nx) b) || decide (jG (b.vy+gH xs cs (·.ny) b) 16777216≠b.vy+gH xs cs (·.ny) b)
def aGu (xs:List Body) (cs:List Con):List Body:=xs.map (aJf xs cs)
def aZe (xs:List Body) (cs:List Con):Bool:=xs.any (bDm xs cs)
def iR (xs:List Body) (cs:List Con):Nat→List Body × Bool
 | 0=>(xs,false)
 | k+1=>(aGu (iR xs cs k).1 cs,(iR xs cs k).2 || aZe (iR xs cs k).1 cs)
structure SameB (a b:Body):Prop where
 key:a.key=b.key
 radius:a.radius=b.radius
 ax:a.ax=b.ax
 ay:a.ay=b.ay
 mass:a.mass=b.mass
 bounce:a.bounce=b.bounce
structure Like (xs ys:List Body):Prop where
 len:ys.length=xs.length
 at_:∀ (i:Nat) (x y:Body),xs[i]? = some x→ys[i]? = some y→SameB y x
theorem Like.refl (xs:List Body):Like xs xs:=⟨rfl,fun i x y h1 h2=>by rw [h1] at h2;injection h2 with h2;subst h2;exact ⟨rfl,rfl,rfl,rfl,rfl,rfl⟩⟩
theorem Like.trans {xs ys zs:List Body} (h:Like xs ys) (g:Like ys zs):Like xs zs:=⟨by rw [g.len,h.len],fun i x z hx hz=>by
 have hi:=(List.getElem?_eq_some_iff.1 hx).1
 have hy:ys[i]? = some (ys[i]'(by rw [h.len];exact hi)):=List.getElem?_eq_getElem _
 have a:=h.at_ i x _ hx hy
 have b:=g.at_ i _ z hy hz
 exact ⟨b.key.trans a.key,b.radius.trans a.radius,b.ax.trans a.ax,b.ay.trans a.ay,b.mass.trans a.mass,b.bounce.trans a.bounce⟩⟩
theorem Like.map {xs:List Body} {f:Body→Body} (h:∀ b∈xs,SameB (f b) b):Like xs (xs.map f):=⟨by simp,fun i x y hx hy=>by
 rw [List.getElem?_map,hx] at hy
 injection hy with hy
 subst hy
 exact h x (List.mem_of_getElem? hx)⟩
theorem Like.keys {xs ys:List Body} (h:Like xs ys):ys.map (·.key)=xs.map (·.key):=by
 apply List.ext_getElem?
 intro i
 rw [List.getElem?_map,List.getElem?_map]
 by_cases hi:i < xs.length
 ·have h1:xs[i]? = some xs[i]:=List.getElem?_eq_getElem hi
  have h2:ys[i]? = some (ys[i]'(by rw [h.len];exact hi)):=List.getElem?_eq_getElem _
  rw [h1,h2]
  exact congrArg some (h.at_ i _ _ h1 h2).key
 ·have hl:=h.len
  rw [List.getElem?_eq_none (show ys.length≤i by omega),List.getElem?_eq_none (show xs.length≤i by omega)]
theorem Like.sorted {xs ys:List Body} (h:Like xs ys) (hs:bY xs):bY ys:=by
 have:=h.keys
 unfold bY at *
 have h1:(xs.map (·.key)).Pairwise (· < ·):=List.pairwise_map.2 hs
 rw [← this] at h1
 exact List.pairwise_map.1 h1
theorem Like.find {xs ys:List Body} (h:Like xs ys) (k:Int):cI k ys=cI k xs:=sR k h.keys
theorem Like.okc {xs ys:List Body} (h:Like xs ys) {c:Con} (hc:OkC xs c):OkC ys c:=⟨hc.ne,by rw [h.find];exact hc.l,by rw [h.find];exact hc.h,hc.n⟩
theorem aWo (xs:List Body) (cs:List Con):Like xs (aGu xs cs):=Like.map (fun b _=>⟨rfl,rfl,rfl,rfl,rfl,rfl⟩)
theorem bHh {xs:List Body} {cs:List Con} (h:∀ b∈xs,Okb b):∀ b∈aGu xs cs,Okb b:=fun b hb=>by
 obtain ⟨x,hx,rfl⟩:=List.mem_map.1 hb
 have:=h x hx
 exact ⟨this.r,this.a,this.m,this.c,this.p,⟨(eJ _ (by decide)).1,(eJ _ (by decide)).2,(eJ _ (by decide)).1,(eJ _ (by decide)).2⟩⟩
theorem kH (xs:List Body) (cs:List Con):∀ k,Like xs (iR xs cs k).1
 | 0=>Like.refl xs
 | k+1=>(kH xs cs k).trans (aWo _ cs)
theorem uG {xs:List Body} {cs:List Con} (h:∀ b∈xs,Okb b):∀ k,∀ b∈(iR xs cs k).1,Okb b
 | 0=>h
 | k+1=>bHh (uG h k)
def qD (b:Body):Body:=if b.mass=0 then b else { b with vy:=jG (b.vy - 1024) 16777216 }
def pU (b:Body):Bool:=decide (b.mass≠0) && decide (jG (b.vy - 1024) 16777216≠b.vy - 1024)
def sF (xs:List Body):List Body:=xs.map qD
theorem aRz (b:Body):SameB (qD b) b:=by unfold qD;split <;> exact ⟨rfl,rfl,rfl,rfl,rfl,rfl⟩
theorem nW (xs:List Body):Like xs (sF xs):=Like.map (fun b _=>aRz b)
theorem aVk {b:Body} (h:Okb b):Okb (qD b):=by
 unfold qD
 split
 ·exact h
 ·exact ⟨h.r,h.a,h.m,h.c,h.p,⟨h.v.1,h.v.2.1,(eJ _ (by decide)).1,(eJ _ (by decide)).2⟩⟩
theorem aGr {xs:List Body} (h:∀ b∈xs,Okb b):∀ b∈sF xs,Okb b:=fun b hb=>by
 obtain ⟨x,hx,rfl⟩:=List.mem_map.1 hb
 exact aVk (h x hx)
def qS (c:Con) (a b:Body):Int:=if c.depth - 1024≤0∨(a.mass=0∧b.mass=0) then 0 else (c.depth - 1024)*26214 / 65536
def pP (c:Con) (a b:Body) (m:Int):Int:=qS c a b*m / max 1 (a.mass+b.mass)
theorem aGw {c:Con} {a b:Body} (hc:Okn c):0≤qS c a b∧qS c a b≤1073741824:=by
 have:=hc.d
 unfold qS
 split <;> omega
theorem bDp {c:Con} {a b:Body} {m:Int} (hc:Okn c) (hm:0≤m∧m≤1048576):(0≤qS c a b*m∧qS c a b*m≤1125899906842624)∧0≤pP c a b m∧pP c a b m≤1125899906842624:=by
 have h:=aGw (a:=a) (b:=b) hc
 have m1:=aAv (a:=qS c a b) (b:=m) (A:=1073741824) (B:=1048576) (by omega) (by omega)
 have h0:=Int.mul_nonneg h.1 hm.1
 have hd:=aHz h0 (s:=max 1 (a.mass+b.mass)) (by omega) (m:=0) (by omega)
 unfold pP
 omega
theorem aGt {c:Con} {a b:Body} {m:Int} (hc:Okn c) (hm:0≤m∧m≤a.mass+b.mass):0≤pP c a b m∧pP c a b m≤1073741824:=by
 have h:=aGw (a:=a) (b:=b) hc
 have hs:m≤max 1 (a.mass+b.mass):=by omega
 have h1:qS c a b*m≤qS c a b*max 1 (a.mass+b.mass):=Int.mul_le_mul_of_nonneg_left hs h.1
 have h2:pP c a b m≤qS c a b:=Int.ediv_le_of_le_mul (by omega) h1
 have h3:0≤pP c a b m:=Int.ediv_nonneg (Int.mul_nonneg h.1 hm.1) (by omega)
 omega
def aBd (xs:List Body) (g:Con→Int) (c:Con) (b:Body):Int:=if c.low=b.key then -(pP c (zE xs c.low) (zE xs c.high) b.mass*g c / 65536) else if c.high=b.key then pP c (zE xs c.low) (zE xs c.high) b.mass*g c / 65536 else 0
def uH (xs:List Body) (cs:List Con) (g:Con→Int) (b:Body):Int:=(cs.map (fun c=>aBd xs g c b)).sum
theorem aEl {xs:List Body} {cs:List Con} {k:Nat} {c:Con} (h:cs[k]? = some c) (g:Con→Int) (b:Body):uH xs (cs.take (k+1)) g b=uH xs (cs.take k) g b+aBd xs g c b:=by
 unfold uH
 rw [cQ h,List.map_append,List.sum_append]
 simp
theorem aEw (xs:List Body) (cs:List Con) (g:Con→Int) (b:Body):uH xs (cs.take 0) g b=0:=by simp [uH]
theorem rD {s n:Int} (hs:0≤s∧s≤1073741824) (hn : -65536≤n∧n≤65536):(-70368744177664≤s*n∧s*n≤70368744177664) ∧ -1073741824≤s*n / 65536∧s*n / 65536≤1073741824:=by
 have m1:=aAv (a:=s) (b:=n) (A:=1073741824) (B:=65536) (by omega) (by omega)
 omega
theorem aXv {xs:List Body} {c:Con} {g:Con→Int} {b:Body} (hs:bY xs) (hx:∀ b∈xs,Okb b) (hc:OkC xs c) (hg : -65536≤g c∧g c≤65536) (hb:b∈xs) : -1073741824≤aBd xs g c b∧aBd xs g c b≤1073741824:=by
 obtain ⟨l1,l2⟩:=yJ hc.l
 obtain ⟨h1,h2⟩:=yJ hc.h
 have ma:=(hx _ l1).m;have mb:=(hx _ h1).m
 unfold aBd
 split
 ·rename_i e
  have:zE xs c.low=b:=mA hs l1 hb (by rw [l2,e])
  have hr:=aGt (c:=c) (a:=zE xs c.low) (b:=zE xs c.high) (m:=b.mass) hc.n (by rw [← this];omega)
  have:=(rD hr hg).2
  omega
 ·split
  ·rename_i e
   have:zE xs c.high=b:=mA hs h1 hb (by rw [h2,e])
   have hr:=aGt (c:=c) (a:=zE xs c.low) (b:=zE xs c.high) (m:=b.mass) hc.n (by rw [← this];omega)
   have:=(rD hr hg).2
   omega
  ·omega
theorem aJg {xs:List Body} {cs:List Con} {g:Con→Int} {b:Body} (hs:bY xs) (hx:∀ b∈xs,Okb b) (hc:∀ c∈cs,OkC xs c) (hg:∀ c∈cs, -65536≤g c∧g c≤65536) (hb:b∈xs) : -(cs.length*1073741824)≤uH xs cs g b∧uH xs cs g b≤cs.length*1073741824 :=
 aPg (by decide) (fun c h=>aXv hs hx (hc c h) (hg c h) hb)
def aMw (b:Body) (s:Int):Int:=b.px+s+b.vx / 64
def aKu (b:Body) (s:Int):Int:=b.py+s+b.vy / 64
def aGs (b:Body) (sx sy:Int):Body:={ b with px:=jG (aMw b sx) 1073741824,py:=jG (aKu b sy) 1073741824 }
def aUg (b:Body) (sx sy:Int):Bool:=decide (jG (aMw b sx) 1073741824≠aMw b sx) || decide (jG (aKu b sy) 1073741824≠aKu b sy)
def aPd (xs:List Body) (cs:List Con) (ys:List Body):List Body:=ys.map (fun b=>aGs b (uH xs cs (·.nx) b) (uH xs cs (·.ny) b))
def aXf (xs:List Body) (cs:List Con) (ys:List Body):Bool:=ys.any (fun b=>aUg b (uH xs cs (·.nx) b) (uH xs cs (·.ny) b))
theorem aXe (b:Body) (sx sy:Int):SameB (aGs b sx sy) b:=⟨rfl,rfl,rfl,rfl,rfl,rfl⟩
theorem aTo (xs:List Body) (cs:List Con) (ys:List Body):Like ys (aPd xs cs ys):=Like.map (fun b _=>aXe b _ _)
theorem bBo {b:Body} (h:Okb b) (sx sy:Int):Okb (aGs b sx sy):=⟨h.r,h.a,h.m,h.c,⟨(eJ _ (by decide)).1,(eJ _ (by decide)).2,(eJ _ (by decide)).1,(eJ _ (by decide)).2⟩,h.v⟩
theorem bDx {xs:List Body} {cs:List Con} {ys:List Body} (h:∀ b∈ys,Okb b):∀ b∈aPd xs cs ys,Okb b:=fun b hb=>by
 obtain ⟨x,hx,rfl⟩:=List.mem_map.1 hb
 exact bBo (h x hx) _ _
def nA (xs:List Body):List Body:=(iR (sF xs) (lL xs) 4).1
def oF (xs:List Body):List Body:=aPd xs (lL xs) (nA xs)
def sA (xs:List Body):Bool:=(xs.any pU || (iR (sF xs) (lL xs) 4).2) || aXf xs (lL xs) (nA xs)
theorem vZ (xs:List Body):Like xs (oF xs):=(nW xs).trans ((kH _ _ 4).trans (aTo _ _ _))
theorem aPr {xs:List Body} (h:∀ b∈xs,Okb b):∀ b∈oF xs,Okb b:=bDx (uG (aGr h) 4)
end Go.Bil

namespace Go.Bil
structure Apart (xs:List Body) (cs:List Con) (k:Nat) (q:Int):Prop where
 s:bY xs
 f:∀ c∈cs,(c.low≠q∧0≤cI c.low xs)∧c.high≠q∧0≤cI c.high xs
 at_:∃ y,xs[k]? = some y∧y.key=q
theorem Apart.like {xs ys:List Body} {cs:List Con} {k:Nat} {q:Int} (h:Apart xs cs k q) (l:Like xs ys):Apart ys cs k q:=by
 refine ⟨l.sorted h.s,fun c hc => ?_, ?_⟩
 ·rw [l.find,l.find];exact h.f c hc
 ·obtain ⟨y,hy,e⟩:=h.at_
  have hk:=(List.getElem?_eq_some_iff.1 hy).1
  have h2:ys[k]? = some (ys[k]'(by rw [l.len];exact hk)):=List.getElem?_eq_getElem _
  exact ⟨_,h2,by rw [(l.at_ k _ _ hy h2).key,e]⟩
end Go.Bil

namespace Go.Bil
theorem rM {xs:List Body} {k:Int} (hs:bY xs) (h:0≤cI k xs):∃ (p:Nat) (x:Body),xs[p]? = some x∧x.key=k∧wR k xs=p∧zE xs k=x∧x∈xs:=by
 obtain ⟨p,x,hp,hk,hf⟩:=aQj h
 subst hk
 exact ⟨p,x,hp,Z,tE (by have:=(List.getElem?_eq_some_iff.1 hp).1;omega) (fun j c hj hc=>dW hs hj hc hp) (fun j c hj hc=>by have:=wH hs hj hp hc;omega),aZc hp hf,List.mem_of_getElem? hp⟩
theorem aJn {α:Type} {xs:List Body} (hs:bY xs) {pa pb:Nat} {xa xb:Body} (ha:xs[pa]? = some xa) (hb:xs[pb]? = some xb) (hne:xa.key < xb.key) {F G:Body→α} (h:∀ b∈xs,b.key≠xa.key→b.key≠xb.key→G b=F b):((xs.map F).set pa (G xa)).set pb (G xb)=xs.map G:=by
 apply List.ext_getElem?
 intro i
 have la:=(List.getElem?_eq_some_iff.1 ha).1
 have lb:=(List.getElem?_eq_some_iff.1 hb).1
 by_cases h1:pb=i
 ·subst h1
  rw [List.getElem?_set_self (by simpa using lb),List.getElem?_map,hb];rfl
 ·rw [List.getElem?_set_ne h1]
  by_cases h2:pa=i
  ·subst h2
   rw [List.getElem?_set_self (by simpa using la),List.getElem?_map,ha];rfl
  ·rw [List.getElem?_set_ne h2,List.getElem?_map,List.getElem?_map]
   cases hi:xs[i]? with
   | none=>rfl
   | some b =>
    have e1:b.key≠xa.key:=by
     rcases Nat.lt_or_gt_of_ne h2 with g | g
     ·have:=dW hs g ha hi;omega
     ·have:=dW hs g hi ha;omega
    have e2:b.key≠xb.key:=by
     rcases Nat.lt_or_gt_of_ne h1 with g | g
     ·have:=dW hs g hb hi;omega
     ·have:=dW hs g hi hb;omega
    exact congrArg some (h b (List.mem_of_getElem? hi) e1 e2).symm
def aFn (xs:List Body) (g:Con→Int) (c:Con) (F:Body→Int) (b:Body):Int:=F b+ctr xs g c b
theorem aOr {xs:List Body} (hs:bY xs) {pa pb:Nat} {xa xb:Body} {c:Con} (ha:xs[pa]? = some xa) (hb:xs[pb]? = some xb) (ka:xa.key=c.low) (kb:xb.key=c.high) (hc:OkC xs c) (ba:zE xs c.low=xa) (bb:zE xs c.high=xb) (g:Con→Int) (F:Body→Int) :
  ((xs.map F).set pa (F xa - qC (mU c xa xb) xa.mass (g c))).set pb (F xb+qC (mU c xa xb) xb.mass (g c))=xs.map (aFn xs g c F):=by
 have hne:=hc.ne
 have e1:aFn xs g c F xa=F xa - qC (mU c xa xb) xa.mass (g c):=by unfold aFn ctr jV;rw [if_pos ka.symm,ba,bb];omega
 have e2:aFn xs g c F xb=F xb+qC (mU c xa xb) xb.mass (g c):=by unfold aFn ctr jV;rw [if_neg (by omega),if_pos kb.symm,ba,bb]
 rw [← e1,← e2]
 exact aJn hs ha hb (by omega) (fun b _ h1 h2=>by unfold aFn ctr;rw [if_neg (by omega),if_neg (by omega)];omega)
theorem sW {α:Type} {l:List α} {i j:Nat} {x y:α} (h:l[j]? = some y) (hij:i≠j):(l.set i x)[j]? = some y:=by rw [List.getElem?_set_ne hij];exact h
theorem aEb {xs:List Body} {cs:List Con} {k:Nat} {c:Con} (h:cs[k]? = some c) (g:Con→Int):aFn xs g c (fun b=>gH xs (cs.take k) g b)=fun b=>gH xs (cs.take (k+1)) g b:=funext fun b=>(aTr h g b).symm
def cC (z:Int):List Value:=[.int .i64 z]
theorem bCp (k:Nat):List.replicate k ([.int .i64 0]:List Value)=(List.replicate k (0:Int)).map cC:=by simp [cC]
theorem aPf {α β:Type} {l:List α} {n:Nat} (h:l.length=n) (z:β):List.replicate n z=l.map (fun _=>z):=(List.eq_replicate_iff.2 ⟨by rw [List.length_map,h],fun b hb=>by obtain ⟨_,_,e⟩:=List.mem_map.1 hb;exact e.symm⟩).symm
def cK (z:Int × Int):List Value:=[.int .i64 z.1,.int .i64 z.2]
theorem bDn (k:Nat):List.replicate k ([.int .i64 0,.int .i64 0]:List Value)=(List.replicate k ((0,0):Int × Int)).map cK:=by simp [cK]
def jH (xs:List Body) (cs:List Con) (b:Body):Int × Int:=(uH xs cs (·.nx) b,uH xs cs (·.ny) b)
def aNe (xs:List Body) (c:Con) (F:Body→Int × Int) (b:Body):Int × Int:=((F b).1+aBd xs (·.nx) c b,(F b).2+aBd xs (·.ny) c b)
def aJh (s z:Int) (c:Con) (f:Int × Int):Int × Int:=(f.1+z*(s*c.nx / 65536),f.2+z*(s*c.ny / 65536))
theorem bBr {xs:List Body} (hs:bY xs) {pa pb:Nat} {xa xb:Body} {c:Con} (ha:xs[pa]? = some xa) (hb:xs[pb]? = some xb) (ka:xa.key=c.low) (kb:xb.key=c.high) (hc:OkC xs c) (ba:zE xs c.low=xa) (bb:zE xs c.high=xb) (F:Body→Int × Int) :
  ((xs.map F).set pa (aJh (pP c xa xb xa.mass) (-1) c (F xa))).set pb (aJh (pP c xa xb xb.mass) 1 c (F xb))=xs.map (aNe xs c F):=by
 have hne:=hc.ne
 have e1:aNe xs c F xa=aJh (pP c xa xb xa.mass) (-1) c (F xa):=by unfold aNe aBd aJh;rw [if_pos ka.symm,if_pos ka.symm,ba,bb];apply Prod.ext <;> (try simp only) <;> omega
 have e2:aNe xs c F xb=aJh (pP c xa xb xb.mass) 1 c (F xb):=by unfold aNe aBd aJh;rw [if_neg (by omega),if_pos kb.symm,if_neg (by omega),if_pos kb.symm,ba,bb];apply Prod.ext <;> (try simp only) <;> omega
 rw [← e1,← e2]
 exact aJn hs ha hb (by omega) (fun b _ h1 h2=>by unfold aNe aBd;rw [if_neg (by omega),if_neg (by omega),if_neg (by omega),if_neg (by omega)];apply Prod.ext <;> (try simp only) <;> omega)
theorem aTp {xs:List Body} {cs:List Con} {k:Nat} {c:Con} (h:cs[k]? = some c):aNe xs c (jH xs (cs.take k))=jH xs (cs.take (k+1)):=funext fun b=>Prod.ext (aEl h _ b).symm (aEl h _ b).symm
theorem aR.awayB {w0 w:World} {X:List Nat} {S:List cY} {T sz:Nat} {A:Option Addr} {n c:Nat} {ls:List (List Value)} {e:cY} {b:Nat} {o:Obj} (h:aR T sz A n c ls e) (M:Mem w0 X S w) (i j:Nat) (hi:eI S i=some e) (hj:eI S j=some (some b,o)) (hij:Nat.beq i j=false):0 < n→∀ q off,A=some ⟨q,off,none⟩→q∉bI [(some b,o)]:=by
 intro hn q off hA hq
 obtain ⟨b2,L,_,h1,h2,_⟩:=h.block hn
 rw [h1] at hA
 injection hA with hA
 injection hA with hA
 subst hA
 have hqb:b2=b:=by simpa [bI] using hq
 subst hqb
 rw [gK] at hi hj
 have ha:=M.apart
 have hne:i≠j:=fun g=>by subst g;simp at hij
 have hli:=(List.getElem?_eq_some_iff.1 hi).1
 have hlj:=(List.getElem?_eq_some_iff.1 hj).1
 have key:∀ (a b:Nat) (x y:cY),a < b→S[a]? = some x→S[b]? = some y→x.1=some b2→y.1=some b2→False:=fun p r x y hpr hx hy ex ey=>by
  have e1:S=S.take r++S.drop r:=(List.take_append_drop r S).symm
  rw [e1,gS] at ha
  have m1:b2∈bI (S.take r):=eM.2 ⟨x.2,by rw [← ex];exact List.mem_of_getElem? (by rw [List.getElem?_take_of_lt hpr];exact hx)⟩
  have m2:b2∈bI (S.drop r):=eM.2 ⟨y.2,by rw [← ey];exact List.mem_of_getElem? (i:=0) (by rw [List.getElem?_drop];exact hy)⟩
  exact (List.nodup_append.1 ha).2.2 _ m1 _ m2 Z
 rcases Nat.lt_or_gt_of_ne hne with g | g
 ·exact key i j _ _ g hi hj (by rw [h2]) Z
 ·exact key j i _ _ g hj hi Z (by rw [h2])
end Go.Bil

namespace Go.Bil
def hdr (r:Row):List Value:=[.slice r.A r.n r.c]
structure IslR (T:Nat) (rs:List Row) (L:List (List Int)):Prop where
 len:rs.length=L.length
 row:∀ (j:Nat) (r:Row) (l:List Int),rs[j]? = some r→L[j]? = some l→aR T 1 r.A r.n r.c (l.map fG) r.e
theorem IslR.nil (T:Nat):IslR T [] []:=⟨rfl,by simp⟩
theorem IslR.snoc {T:Nat} {rs:List Row} {L:List (List Int)} (h:IslR T rs L):IslR T (rs++[fM]) (L++[[]]):=by
 refine ⟨by simp [h.len],fun j r l hr hl => ?_⟩
 by_cases hj:j < rs.length
 ·rw [List.getElem?_append_left hj] at hr
  rw [List.getElem?_append_left (by rw [← h.len];exact hj)] at hl
  exact h.row j r l hr hl
 ·have hj2:j=rs.length:=by
   have:=(List.getElem?_eq_some_iff.1 hr).1
   simp at this
   omega
  rw [hj2,List.getElem?_append_right (Nat.le_refl _),Nat.sub_self] at hr
  rw [hj2,h.len,List.getElem?_append_right (Nat.le_refl _),Nat.sub_self] at hl
  simp only [List.getElem?_cons_zero,Option.some.injEq] at hr hl
  subst hr hl
  exact aR.nil _ _ _
theorem IslR.put {T:Nat} {rs:List Row} {L:List (List Int)} (h:IslR T rs L) {j:Nat} {r:Row} {l:List Int} (hj:j < L.length) (hr:aR T 1 r.A r.n r.c (l.map fG) r.e):IslR T (rs.set j r) (L.set j l):=by
 refine ⟨by rw [List.length_set,List.length_set,h.len],fun k q m hq hm => ?_⟩
 rw [List.getElem?_set] at hq hm
 by_cases hk:j=k
 ·subst hk
  rw [if_pos rfl,if_pos (by rw [h.len];exact hj)] at hq
  rw [if_pos rfl,if_pos hj] at hm
  injection hq with hq
  injection hm with hm
  subst hq hm
  exact hr
 ·rw [if_neg hk] at hq hm
  exact h.row k q m hq hm
end Go.Bil

namespace Go.Bil
theorem Mem.dummyL {w0 w:World} {X:List Nat} {L T:List cY} (M:Mem w0 X (L++T) w) (o:Obj):Mem w0 X ((L++[(none,o)])++T) w :=
 (M.dummy o).perm (by rw [List.append_assoc,List.append_assoc];exact List.Perm.append_left L List.perm_append_comm)
theorem Mem.pushNew {w0 w:World} {X:List Nat} {L:List cY} {rs:List Row} (r:Row) (M:Mem w0 X ((L++[r.e])++rs.map Row.e) w):Mem w0 X (L++(rs++[r]).map Row.e) w :=
 M.perm (by rw [List.append_assoc,List.map_append];exact List.Perm.append_left L List.perm_append_comm)
theorem IslR.add {T:Nat} {rs:List Row} {L:List (List Int)} {r:Row} {l:List Int} (h:IslR T rs L) (hr:aR T 1 r.A r.n r.c (l.map fG) r.e):IslR T (rs++[r]) (L++[l]):=by
 refine ⟨by simp [h.len],fun j q k hq hk => ?_⟩
 by_cases hj:j < rs.length
 ·rw [List.getElem?_append_left hj] at hq
  rw [List.getElem?_append_left (by rw [← h.len];exact hj)] at hk
  exact h.row j q k hq hk
 ·have hj2:j=rs.length:=by
   have:=(List.getElem?_eq_some_iff.1 hq).1
   simp at this
   omega
  rw [hj2,List.getElem?_append_right (Nat.le_refl _),Nat.sub_self] at hq
  rw [hj2,h.len,List.getElem?_append_right (Nat.le_refl _),Nat.sub_self] at hk
  simp only [List.getElem?_cons_zero,Option.some.injEq] at hq hk
  subst hq hk
  exact hr
end Go.Bil

namespace Go.Bil
structure IslRd (w:World) (A:Option Addr) (n:Nat) (rs:List Row) (L:List (List Int)):Prop where
 hd:Rd w 1 A n (rs.map hdr)
 len:rs.length=L.length
 row:∀ (j:Nat) (r:Row) (l:List Int),rs[j]? = some r→L[j]? = some l→Rd w 1 r.A r.n (l.map fG)
theorem IslRd.mem {w0 w:World} {S:List cY} {A:Option Addr} {n:Nat} {rs:List Row} {L:List (List Int)} (h:IslRd w0 A n rs L) (M:Mem w0 [] S w):IslRd w A n rs L :=
 ⟨h.hd.mem M,h.len,fun j r l hr hl=>(h.row j r l hr hl).mem M⟩
theorem IslRd.n_eq {w:World} {A:Option Addr} {n:Nat} {rs:List Row} {L:List (List Int)} (h:IslRd w A n rs L):L.length=n∧rs.length=n:=by
 have:=h.hd.len
 rw [List.length_map] at this
 exact ⟨by rw [← h.len];exact this,this⟩
theorem IslR.rd {w0 w:World} {X:List Nat} {S:List cY} {T T' c n:Nat} {A:Option Addr} {e:cY} {rs:List Row} {L:List (List Int)} (h:IslR T rs L) (hq:aR T' 1 A n c (rs.map hdr) e) (M:Mem w0 X S w) (he:e∈S) (ht:∀ r∈rs,r.e∈S):IslRd w A n rs L :=
 ⟨hq.rd M he,h.len,fun j r l hr hl=>(h.row j r l hr hl).rd M (ht r (List.mem_of_getElem? hr))⟩
theorem IslRd.one {w:World} {A A1:Option Addr} {n1 c1:Nat} {l1:List Int} (h0:Rd w 1 A 1 [[.slice A1 n1 c1]]) (h1:Rd w 1 A1 n1 (l1.map fG)):IslRd w A 1 [⟨A1,n1,c1,default⟩] [l1]:=by
 refine ⟨h0,Z,fun j r l hr hl => ?_⟩
 match j with
 | 0=>simp only [List.getElem?_cons_zero,Option.some.injEq] at hr hl;subst hr hl;exact h1
 | j+1=>simp at hr
theorem IslRd.two {w:World} {A A1 A2:Option Addr} {n1 c1 n2 c2:Nat} {l1 l2:List Int} (h0:Rd w 1 A 2 [[.slice A1 n1 c1],[.slice A2 n2 c2]]) (h1:Rd w 1 A1 n1 (l1.map fG)) (h2:Rd w 1 A2 n2 (l2.map fG)):IslRd w A 2 [⟨A1,n1,c1,default⟩,⟨A2,n2,c2,default⟩] [l1,l2]:=by
 refine ⟨h0,Z,fun j r l hr hl => ?_⟩
 match j with
 | 0=>simp only [List.getElem?_cons_zero,Option.some.injEq] at hr hl;subst hr hl;exact h1
 | 1=>simp only [List.getElem?_cons_succ,List.getElem?_cons_zero,Option.some.injEq] at hr hl;subst hr hl;exact h2
 | j+2=>simp at hr
end Go.Bil

namespace Go.Bil
end Go.Bil

namespace Go.Bil
open Go Go.RowKit Go.Deep
section
variable {H:Type} {enc:TypeId × Value→H} {P:Program} {w:World} {base:Nat} {spare:Nat→Bool} {held:Bool}
theorem aKf {sz len:Nat} {a:Addr} {Q:List Value→Prop} (hsz:0 < sz) (hbig:len≤281474976710656) (hall:∀ i,i < len→∃ cs':List Value,cs'.length=sz∧(∀ j,j < sz→w.cell? (a.add (i*sz+j))=cs'[j]?)∧Q cs') :
  ∃ ls:List (List Value),Rd w sz (some a) len ls∧∀ l∈ls,Q l:=by
 have hex:∀ k,k≤len→∃ ls:List (List Value),ls.length=k∧∀ i l,ls[i]? = some l→l.length=sz∧(∀ j,j < sz→w.cell? (a.add (i*sz+j))=l[j]?)∧Q l:=by
  intro k
  induction k with
  | zero=>intro _;exact ⟨[],rfl,by simp⟩
  | succ k ih =>
   intro hk'
   obtain ⟨ls,q1,q2⟩:=ih (by omega)
   obtain ⟨cs',r1,r2,r3⟩:=hall k (by omega)
   refine ⟨ls++[cs'],by simp [q1],fun i l hil => ?_⟩
   rw [List.getElem?_append] at hil
   split at hil
   ·exact q2 i l hil
   ·rename_i hge
    have hik:i=k:=by
     have:=(List.getElem?_eq_some_iff.1 hil).1
     simp at this
     omega
    subst hik
    simp only [q1,Nat.sub_self,List.getElem?_cons_zero,Option.some.injEq] at hil
    subst hil
    exact ⟨r1,r2,r3⟩
 obtain ⟨ls,q1,q2⟩:=hex len (Nat.le_refl _)
 refine ⟨ls,⟨q1,fun l hl' => ?_,hbig,fun hpos => ?_⟩,fun l hl' => ?_⟩
 ·obtain ⟨i,hi⟩:=List.getElem?_of_mem hl'
  exact (q2 i l hi).1
 ·obtain ⟨l0,hl0⟩:∃ l0,ls[0]? = some l0:=⟨ls[0]'(by omega),List.getElem?_eq_getElem _⟩
  obtain ⟨r1,r2,_⟩:=q2 0 l0 hl0
  have hc0:=r2 0 (by omega)
  have hl00:l0[0]? = some (l0[0]'(by omega)):=List.getElem?_eq_getElem _
  rw [hl00] at hc0
  obtain ⟨b,off,spot⟩:=a
  have hs:spot=none:=by
   cases spot with
   | none=>rfl
   | some s =>
    exfalso
    simp only [World.cell?] at hc0
    split at hc0
    ·have:((⟨b,off,some s⟩:Addr).add (0*sz+0)).spot.isSome=true:=by unfold Addr.add;split <;> simp_all
     rw [this] at hc0
     simp at hc0
    ·cases hc0
  subst hs
  refine ⟨b,off,Z, ?_,fun i l hil j v hj => ?_⟩
  ·rw [dH] at hc0
   unfold World.cell? at hc0
   by_cases hlt:b < w.heap.size
   ·exact hlt
   ·rw [Array.getElem?_eq_none (Nat.le_of_not_lt hlt)] at hc0
    cases hc0
  ·obtain ⟨r1,r2,_⟩:=q2 i l hil
   have hj':j < sz:=by rw [← r1];exact (List.getElem?_eq_some_iff.1 hj).1
   have:=r2 j hj'
   rw [dH,← Nat.add_assoc] at this
   rw [this,hj]
 ·obtain ⟨i,hi⟩:=List.getElem?_of_mem hl'
  exact (q2 i l hi).2.2
theorem xC {e:TypeId}:∀ {l:List (DataW H)} {d:DataW H},d∈l→∀ n∈d.weights P e,n∈DataW.weightsAll P e l
 | x::l,d,hd,n,hn=>by
  simp only [DataW.weightsAll,List.mem_append]
  rcases List.mem_cons.1 hd with rfl | hd
  ·exact .inl hn
  ·exact .inr (xC hd n hn)
theorem sD {t e:TypeId} {elems sp:List (DataW H)} (hu:P.underlying t=some (.slice e)) (h:∀ n∈(DataW.slice elems sp).weights P t,n≤reachBytes):(elems.length+sp.length)*P.bytesOf e≤reachBytes∧∀ d∈elems,∀ n∈d.weights P e,n≤reachBytes:=by
 simp only [DataW.weights,hu,List.mem_cons,List.mem_append] at h
 exact ⟨h _ (.inl Z),fun d hd n hn=>h n (.inr (.inl (xC hd n hn)))⟩
theorem wF {t e sz bytes:Nat} {A:Option Addr} {len cap:Nat} {d:DataW H} {ps:List MemPlace} (hw:∀ n∈d.weights P t,n≤reachBytes) (hs:eG P t e sz bytes=true) (h:DataW.Trod enc P w base spare held t (.slice A len cap) d ps):len*bytes≤140737488351232:=by
 obtain ⟨h1,h2,h3,h4,h5,h6,zv,hzv,hzs⟩:=eL hs
 obtain ⟨fuel,hf⟩:=h
 rcases open_slice h1 hf with ⟨hcs,_⟩ | ⟨a,l,c,m',n,D,Pl,hcs,hb,hlc,_,hm,hx,_⟩
 ·simp only [Value.cells,List.cons.injEq,Value.slice.injEq,and_true] at hcs
  obtain ⟨rfl,rfl,rfl⟩:=hcs
  simp
 ·simp only [Value.cells,List.cons.injEq,Value.slice.injEq,and_true] at hcs
  obtain ⟨rfl,rfl,rfl⟩:=hcs
  obtain ⟨rfl,_⟩:=Prod.mk.inj hx
  have z:=(sD h1 hw).1
  rw [h4] at z
  simp only [List.length_map,List.length_range] at z
  have hr:reachBytes=140737488351232:=rfl
  rw [hr] at z
  exact Nat.le_trans (Nat.mul_le_mul_right _ (by omega)) z
end
end Go.Bil

namespace Go.Bil
open Go Go.RowKit
variable {P:Program} {n:Nat} {Q:Exit→dM→World→Prop} {ρ:dM} {w:World} {l0 rest:List Oper}
section
variable {d:Nat} {ty:TypeId} {pos:String} {af:Array Edge} {gd:Option (Nat × Bool)}
variable {w0:World} {X:List Nat} {S:List cY}
variable {β:Type}
theorem lX (i:Nat) {t kt et:Nat} {kk:IntKind} {enc:β→Value} {x y u:Operand} {f:Int→Option β} {p:Option Nat} {e:cY} {k:Int} {v:β} (ht:wB P t kt et kk=true) (M:Mem w0 X S w) (hg:jW l0 ρ gd=true) (hi:eI S i=some e) (hm:iT kk enc f p e) (hp:p.isSome=true)
  (hx:ev ρ x=.map p) (hy:ev ρ y=.int kk k) (hu:ev ρ u=enc v)
  (h:∀ e' w',iT kk enc (fun a=>if a=k then some v else f a) p e'→Mem w0 X (S.set i e') w'→wl P n l0 rest Q ρ w'):wl P n l0 (⟨none,.insert t x y u,ty,pos,af,gd⟩::rest) Q ρ w:=by
 obtain ⟨h1,h2⟩:=rE ht
 rcases hm with ⟨rfl,_⟩ | ⟨b,o,rfl,rfl,l,clock,rfl,hn,hf⟩
 ·simp at hp
 ·have hck:(Instr.checkKey false 10000 kt (.int kk k)).run P w=.ok () w:=MapKept.run_checkKey (d:=.int kk) h2 (by simp [MapKept.IsKey]) false 9999
  have hfk:=MapKept.run_findKey (P:=P) (w:=w) h2 (kU kk enc k l 0)
  have hb:=M.at_ hi
  cases hq:lki k l 0 with
  | none =>
   have hnot:=tQ hq
   obtain ⟨w',hw',M'⟩:=iS (P:=P) (o':=.map ((l++[(k,v,clock)]).map (lO kk enc)).toArray (clock+1)) M hi ⟨_,_,rfl⟩
   refine nB hg ?_ (h _ w' (.inr ⟨b,_,Z,Z,l++[(k,v,clock)],clock+1,Z, ?_, ?_⟩) M')
   ·have e1:(l.map (lO kk enc)).toArray.push { key:=.int kk k,val:=enc v,born:=clock }=((l++[(k,v,clock)]).map (lO kk enc)).toArray:=by simp [lO]
    simp only [execOp,hx,hy,hu,Instr.mapUpdate,Sem.run_bind,bC h1,Result.andThen_ok,MapKept.run_getObj_map hb,hck,List.toList_toArray,hfk,hq,Option.map_none,e1,hw',Sem.run_pure]
   ·rw [List.map_append,List.nodup_append]
    refine ⟨hn,by simp, ?_⟩
    intro a ha c hc hac
    simp only [List.map_cons,List.map_nil,List.mem_singleton] at hc
    obtain ⟨q,hq1,hq2⟩:=List.mem_map.1 ha
    exact hnot q hq1 (by rw [hq2,hac,hc])
   ·intro a
    show (if a=k then some v else f a)=_
    rw [uW,← hf a]
    by_cases ha:a=k
    ·rw [if_pos ha,ha,hf k,sP hnot]
     simp [lk]
    ·rw [if_neg ha]
     have:lk a [(k,v,clock)]=none:=sP (by simpa using fun e=>ha e.symm)
     rw [this];simp
  | some q =>
   obtain ⟨j,v0⟩:=q
   obtain ⟨_,p0,hj,hp0,_⟩:=tG hq
   rw [Nat.sub_zero] at hj
   obtain ⟨w',hw',M'⟩:=iS (P:=P) (o':=.map ((l.set j (k,v,p0.2.2)).map (lO kk enc)).toArray clock) M hi ⟨_,_,rfl⟩
   refine nB hg ?_ (h _ w' (.inr ⟨b,_,Z,Z,l.set j (k,v,p0.2.2),clock,Z,by rw [aHn hj hp0];exact hn,fun a=>by rw [aNr hj hp0 hn a,← hf a]⟩) M')
   have hold:((((l.map (lO kk enc)).toArray[j]?).map (·.key)).getD (.int kk k))=.int kk k:=by simp [hj,lO,hp0]
   have hkey:(Instr.keyThatStays (.int kk k) (.int kk k)).run P w=.ok (.int kk k) w:=MapKept.run_keyThatStays (d:=.int kk) (by simp [MapKept.IsKey])
   simp only [execOp,hx,hy,hu,Instr.mapUpdate,Sem.run_bind,bC h1,Result.andThen_ok,MapKept.run_getObj_map hb,hck,List.toList_toArray,hfk,hq,Option.map_some,hold,hkey,wN hj,hw',Sem.run_pure]
end
theorem aAp:∀ (S:List cY) (ks:List Bool),ks.length=S.length→S.Perm (lB S ks++lB S (ks.map (!·)))
 | [],[],_=>List.Perm.nil
 | e::S,b::ks,h=>by
  have ih:=aAp S ks (by simpa using h)
  cases b
  ·simp only [lB,List.map_cons,Bool.not_false,cond_false,cond_true]
   exact (List.Perm.cons e ih).trans List.perm_middle.symm
  ·simp only [lB,List.map_cons,Bool.not_true,cond_false,cond_true,List.cons_append]
   exact List.Perm.cons e ih
theorem Mem.ownK {w0 w:World} {X:List Nat} {S:List cY} (ks:List Bool) (M:Mem w0 X S w):Own (lB S ks) w:=(M.keep ks).toOwn
theorem Mem.callK {w0 w w':World} {X:List Nat} {S A':List cY} (ks:List Bool) (hk:ks.length=S.length) (M:Mem w0 X S w) (C:Mem w (bI (lB S ks)) A' w'):Mem w0 X (A'++lB S (ks.map (!·))) w' :=
 (M.perm (aAp S ks hk)).call C
theorem Mem.segU {w0 w w':World} {X:List Nat} {L T B A T':List cY} (i k:Nat) (M:Mem w0 X (L++T) w) (hk:i+k≤L.length) (C:Mem w (bI ((L.drop i).take k)) (B++(A++T')) w'):Mem w0 X (((L.take i++B++L.drop (i+k))++(T++T'))++A) w':=by
 have hL:(L.drop i)=(L.drop i).take k++L.drop (i+k):=by rw [← List.drop_drop,List.take_append_drop]
 have hP:(L++T).Perm ((L.drop i).take k++(L.take i++(L.drop (i+k)++T))):=by
  have h1:L++T=L.take i++(((L.drop i).take k)++(L.drop (i+k)++T)):=by
   rw [← List.append_assoc ((L.drop i).take k),← hL,← List.append_assoc,List.take_append_drop]
  rw [h1,← List.append_assoc (L.take i),← List.append_assoc ((L.drop i).take k) (L.take i)]
  exact List.Perm.append_right _ List.perm_append_comm
 refine ((M.perm hP).call C).perm ?_
 have g1:(B++(A++T')++(L.take i++(L.drop (i+k)++T))).Perm ((L.take i++(L.drop (i+k)++T))++(B++(A++T'))):=List.perm_append_comm
 refine g1.trans ?_
 simp only [List.append_assoc]
 refine List.Perm.append_left _ ?_
 have g2:(L.drop (i+k)++(T++(B++(A++T')))).Perm (B++(L.drop (i+k)++(T++(A++T')))):=by
  rw [← List.append_assoc (L.drop (i+k)),← List.append_assoc (L.drop (i+k)++T),← List.append_assoc (L.drop (i+k)),← List.append_assoc B]
  exact List.Perm.append_right _ List.perm_append_comm
 refine g2.trans ?_
 refine List.Perm.append_left _ (List.Perm.append_left _ (List.Perm.append_left _ List.perm_append_comm))
theorem Mem.awayK {w0 w:World} {X:List Nat} {S:List cY} {sz nn:Nat} {A:Option Addr} {ls:List (List Value)} (ks:List Bool) (M:Mem w0 X S w) (R:Rd w0 sz A nn ls) (hd:0 < nn→∀ q off,A=some ⟨q,off,none⟩→q∉X):0 < nn→∀ q off,A=some ⟨q,off,none⟩→q∉bI (lB S ks) :=
 (M.keep ks).away 0 (lB S ks).length R hd |> fun h hn q off hA hq=>h hn q off hA (by simpa using hq)
end Go.Bil
