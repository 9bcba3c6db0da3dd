/- Part of the proof of a law of this seat (10 texts). No conditions. -/
import Derived.WalkKit
import Derived.Still
import Derived.Deep.Draws
import Derived.Deep.LoopGhost
set_option linter.unusedVariables false
set_option linter.unusedSimpArgs false
set_option linter.unnecessarySimpa false
set_option maxHeartbeats 100000000
namespace Go.Bil
theorem Z.{u} {α:Sort u} {a:α}:a=a:=rfl
abbrev fG:=Nat→Value
def upd (ρ:fG) (d:Nat) (v:Value):fG:=fun t=>bif Nat.beq t d then v else ρ t
def put (ρ:fG) (d:Option Nat) (v:Value):fG:=match d with | some d=>upd ρ d v | none=>ρ
def ev (ρ:fG):Operand→Value
 | .tmp t=>ρ t
 | .const v=>v
 | .global g=>.pointer (some ⟨g,0,none⟩)
 | .func f=>.func (.func f) #[] #[]
theorem oR {ρ:fG} {d:Nat} {v:Value} (h:ρ d=v):upd ρ d v=ρ:=by
 funext t
 unfold upd
 cases e:Nat.beq t d with
 | false=>rfl
 | true=>rw [Nat.eq_of_beq_eq_true e,h];rfl
structure Agree (n:Nat) (a:Act) (ρ:fG):Prop where
 size:a.tmps.size=n
 defers:a.defers=[]
 at_:∀ t,a.tmps.getD t undef=ρ t
theorem Agree.eval {n:Nat} {a:Act} {ρ:fG} (h:Agree n a ρ):a.eval=ev ρ:=by
 funext x
 cases x with
 | tmp t=>exact h.at_ t
 | _=>rfl
theorem Agree.upd {n:Nat} {a:Act} {ρ:fG} (h:Agree n a ρ) (d:Nat) (hd:Nat.blt d n=true) (v:Value):Agree n (a.put (some d) v) (upd ρ d v):=by
 have hd':d < a.tmps.size:=by rw [h.size];simpa using hd
 refine ⟨by simp [Act.put,h.size],h.defers,fun t => ?_⟩
 have ht:=h.at_ t
 unfold Bil.upd
 cases e:Nat.beq t d with
 | true =>
  have:t=d:=Nat.eq_of_beq_eq_true e
  subst this
  simp [Act.put,hd']
 | false =>
  have hne:d≠t:=fun h=>by subst h;simp at e
  simpa [Act.put,Array.getElem?_setIfInBounds_ne hne] using ht
def qO (n:Nat) (Q:Exit→fG→World→Prop):Exit→Act→World→Prop:=fun e a w=>∃ ρ,Agree n a ρ∧Q e ρ w
@[irreducible] def W (P:Program) (n:Nat) (c:Code) (Q:Exit→fG→World→Prop) (ρ:fG) (w:World):Prop :=
 ∀ a,Agree n a ρ→c.wp P (qO n Q) a w
@[irreducible] def wl (P:Program) (n:Nat) (l0 l:List Oper) (Q:Exit→fG→World→Prop) (ρ:fG) (w:World):Prop :=
 ∀ a,Agree n a ρ→wpList P l0.toArray (qO n Q) l a w
section
variable {P:Program} {n:Nat} {Q:Exit→fG→World→Prop} {ρ:fG} {w:World}
def pJ (K:fG→World→Prop) (Q:Exit→fG→World→Prop):Exit→fG→World→Prop
 | .normal,ρ,w=>K ρ w
 | e,ρ,w=>Q e ρ w
def aIj (id:Nat) (Q:Exit→fG→World→Prop):Exit→fG→World→Prop
 | .exit i,ρ,w=>if i=id then Q .normal ρ w else Q (.exit i) ρ w
 | e,ρ,w=>Q e ρ w
theorem aC {K:fG→World→Prop} (h:K ρ w):pJ K Q .normal ρ w:=h
theorem dC {K:fG→World→Prop} {i:Nat} (h:Q (.exit i) ρ w):pJ K Q (.exit i) ρ w:=h
theorem cO {K:fG→World→Prop} (h:Q .ret ρ w):pJ K Q .ret ρ w:=h
theorem cR {id:Nat} (h:Q .normal ρ w):aIj id Q .normal ρ w:=h
theorem lU {id:Nat} (h:Q .ret ρ w):aIj id Q .ret ρ w:=h
theorem eJ {id:Nat} (h:Q .normal ρ w):aIj id Q (.exit id) ρ w:=by simpa [aIj] using h
theorem bIk {id i:Nat} (hi:Nat.beq i id=false) (h:Q (.exit i) ρ w):aIj id Q (.exit i) ρ w:=by
 have:i≠id:=fun e=>by subst e;simp at hi
 simpa [aIj,this] using h
theorem aZj {K:fG→World→Prop} {P:Program} {n:Nat} {c:Code} {Q:Exit→fG→World→Prop} (hK:∀ ρ w,K ρ w→W P n c Q ρ w) {e:Exit} {a:Act} {w:World} (h:qO n (pJ K Q) e a w) :
  Exit.then (fun a w=>c.wp P (qO n Q) a w) (qO n Q) e a w:=by
 obtain ⟨ρ,ha,hq⟩:=h
 cases e with
 | normal=>have:=hK ρ w hq;unfold W at this;exact this a ha
 | _=>exact ⟨ρ,ha,hq⟩
theorem bNy {c:Code} {Q':Exit→fG→World→Prop} (h:W P n c Q ρ w) (hq:∀ e ρ w,Q e ρ w→Q' e ρ w):W P n c Q' ρ w:=by
 unfold W at *
 exact fun a ha=>Code.wp_mono (fun e a w ⟨ρ,h1,h2⟩=>⟨ρ,h1,hq _ _ _ h2⟩) (h a ha)
theorem aE {x y:Code} (h:W P n x (pJ (W P n y Q) Q) ρ w):W P n (.seq x y) Q ρ w:=by
 unfold W
 intro a ha
 unfold W at h
 exact wp_seq (Code.wp_mono (fun e a w hq=>aZj (c:=y) (K:=W P n y Q) (fun _ _ h=>h) (by unfold W;exact hq)) (h a ha))
theorem bNx {x y:Code} (J:fG→World→Prop) (h:W P n x (pJ J Q) ρ w) (hy:∀ ρ w,J ρ w→W P n y Q ρ w):W P n (.seq x y) Q ρ w :=
 aE (bNy h fun e ρ w hq=>by cases e <;> first | exact hq | exact hy _ _ hq)
theorem aP {id:Nat} {c:Code} (h:W P n c (aIj id Q) ρ w):W P n (.block id c) Q ρ w:=by
 unfold W at *
 intro a ha
 refine wp_block (Code.wp_mono ?_ (h a ha))
 rintro e a w ⟨ρ,h1,h2⟩
 cases e with
 | exit i =>
  simp only [aIj] at h2
  simp only [Exit.inBlock]
  split <;> rename_i hi
  ·rw [if_pos hi] at h2;exact ⟨ρ,h1,h2⟩
  ·rw [if_neg hi] at h2;exact ⟨ρ,h1,h2⟩
 | _=>exact ⟨ρ,h1,h2⟩
theorem aM (h:Q .normal ρ w):W P n .skip Q ρ w:=by unfold W;exact fun a ha=>wp_skip ⟨ρ,ha,h⟩
theorem cN {id:Nat} (h:Q (.exit id) ρ w):W P n (.exit id) Q ρ w:=by unfold W;exact fun a ha=>wp_exit ⟨ρ,ha,h⟩
theorem aO (h:Q .ret ρ w):W P n .ret Q ρ w:=by unfold W;exact fun a ha=>wp_ret ⟨ρ,ha,h⟩
theorem iL {c:Operand} {x y:Code} (b:Bool) (hc:ev ρ c=.bool b) (ht:b=true→W P n x Q ρ w) (hf:b=false→W P n y Q ρ w):W P n (.cond c x y) Q ρ w:=by
 unfold W at *
 intro a ha
 refine wp_cond_split (t:=b) (by rw [ha.eval];exact hc) (fun h=>ht h a ha) (fun h=>hf h a ha)
theorem aU {c:Operand} {x y:Code} {p:Prop} {dp:Decidable p} (hc:ev ρ c=.bool (@decide p dp)) (ht:p→W P n x Q ρ w) (hf:¬ p→W P n y Q ρ w):W P n (.cond c x y) Q ρ w :=
 iL _ hc (fun h=>ht (of_decide_eq_true h)) (fun h=>hf (of_decide_eq_false h))
theorem cE {c:Operand} {x y:Code} (hc:ev ρ c=.bool true) (h:W P n x Q ρ w):W P n (.cond c x y) Q ρ w:=iL true hc (fun _=>h) (fun h=>by cases h)
theorem cG {c:Operand} {x y:Code} (hc:ev ρ c=.bool false) (h:W P n y Q ρ w):W P n (.cond c x y) Q ρ w:=iL false hc (fun h=>by cases h) (fun _=>h)
def aUp (ρ:fG):List (Nat × Value)→fG
 | []=>ρ
 | (t,v)::l=>upd (aUp ρ l) t v
def oS (ρ:fG):List (Nat × Value)→Prop
 | []=>True
 | (t,v)::l=>ρ t=v∧oS ρ l
def bRr (t:Nat):List Nat→Bool
 | []=>false
 | x::l=>bif Nat.beq t x then true else bRr t l
def keep (K:List Nat) (ρ ρ':fG):fG:=fun t=>bif bRr t K then ρ t else ρ' t
def pY (ρ ρ':fG):List Nat→Prop
 | []=>True
 | t::l=>ρ' t=ρ t∧pY ρ ρ' l
theorem wG {ρ:fG}:∀ {l:List (Nat × Value)},oS ρ l→aUp ρ l=ρ
 | [],_=>rfl
 | (t,v)::l,h=>by
  show upd (aUp ρ l) t v=ρ
  rw [wG h.2]
  exact oR h.1
theorem aBc {ρ ρ':fG}:∀ {K:List Nat},pY ρ ρ' K→keep K ρ ρ'=ρ'
 | [],_=>rfl
 | t::K,h=>by
  have ih:=aBc h.2
  funext x
  have ihx:=congrFun ih x
  unfold keep at *
  unfold bRr
  cases e:Nat.beq x t with
  | true=>rw [Nat.eq_of_beq_eq_true e];exact h.1.symm
  | false=>exact ihx
def aNk {σ:Type} (K:List Nat) (ρ0:fG) (fr:σ→List (Nat × Value)) (I:σ→World→Prop) (μ:σ→Nat) (s:σ) (Q:Exit→fG→World→Prop):Exit→fG→World→Prop :=
 pJ (fun ρ w=>∃ s',oS ρ (fr s')∧pY ρ0 ρ K∧I s' w∧μ s' < μ s) Q
theorem aBx {ρ:fG}:∀ K:List Nat,pY ρ ρ K
 | []=>trivial
 | _::K=>⟨rfl,aBx K⟩
theorem dG {σ:Type} {c:Code} (K:List Nat) (fr:σ→List (Nat × Value)) (I:σ→World→Prop) (μ:σ→Nat) (s0:σ) (h0:oS ρ (fr s0)) (hI:I s0 w)
  (round:∀ s ρ' w',I s w'→W P n c (aNk K ρ fr I μ s Q) (aUp (keep K ρ ρ') (fr s)) w'):W P n (.loop c) Q ρ w:=by
 unfold W
 intro a ha
 refine wp_loop_ghost (fun m a w=>∃ s ρ',Agree n a ρ'∧oS ρ' (fr s)∧pY ρ ρ' K∧I s w∧μ s=m) (μ s0) ⟨s0,ρ,ha,h0,aBx K,hI,rfl⟩ ?_
 rintro m a' w' ⟨s,ρ',ha',hL,hK,hIs,hm⟩
 have hr:=round s ρ' w' hIs
 have e:aUp (keep K ρ ρ') (fr s)=ρ':=by rw [aBc hK];exact wG hL
 rw [e] at hr
 unfold W at hr
 refine Code.wp_mono ?_ (hr a' ha')
 rintro e a'' w'' ⟨ρ'',h1,h2⟩
 cases e with
 | normal =>
  obtain ⟨s',hL',hK',hI',hlt⟩:=h2
  exact ⟨μ s',by omega,s',ρ'',h1,hL',hK',hI',rfl⟩
 | _=>exact ⟨ρ'',h1,h2⟩
end
def Wr (P:Program) (n:Nat) (c:Code) (Q:Exit→fG→World→Prop):Nat→fG→World→Prop
 | 0,_,_=>False
 | k+1,ρ,w=>W P n c (pJ (Wr P n c Q k) Q) ρ w
theorem fO {P:Program} {n:Nat} {c:Code} {Q:Exit→fG→World→Prop} {k:Nat} {ρ:fG} {w:World} (h:W P n c (pJ (Wr P n c Q k) Q) ρ w):Wr P n c Q (k+1) ρ w:=h
theorem jH {P:Program} {n:Nat} {Q:Exit→fG→World→Prop} {ρ:fG} {w:World} {c:Code} (k:Nat) (h:Wr P n c Q k ρ w):W P n (.loop c) Q ρ w:=by
 have key:∀ k ρ w a,Agree n a ρ→Wr P n c Q k ρ w→Code.rounds P c (qO n Q) k a w:=by
  intro k
  induction k with
  | zero=>intro ρ w a _ h;exact h.elim
  | succ k ih =>
   intro ρ w a ha h
   have h':W P n c (pJ (Wr P n c Q k) Q) ρ w:=h
   unfold W at h'
   rw [rounds_succ]
   refine Code.wp_mono ?_ (h' a ha)
   rintro e a' w' ⟨ρ',h1,h2⟩
   cases e with
   | normal=>exact ih ρ' w' a' h1 h2
   | _=>exact ⟨ρ',h1,h2⟩
 unfold W
 exact fun a ha=>wp_loop_rounds k (key k ρ w a ha h)
def uP (rs:Array ResultVar) (ρ:fG):Sem Value:=do
 let vs ← rs.mapM fun
  | .tmp t=>pure (ρ t)
  | .cell a t=>do loadVar t (← asAddr (ρ a))
 pure (if h:vs.size=1 then vs[0] else .tuple vs)
def aDi (P:Program) (rs:Array ResultVar) (R:Value→World→Prop):Exit→fG→World→Prop
 | .normal,ρ,w=>∃ v,(uP rs ρ).run P w=.ok v w∧R v w
 | .ret,ρ,w=>∃ v,(uP rs ρ).run P w=.ok v w∧R v w
 | _,_,_=>False
def fr0:Nat→List Value→fG
 | _,[]=>fun _=>undef
 | k,v::l=>upd (fr0 (k+1) l) k v
theorem bEk (l:List Value):∀ k t,fr0 k l t=if k≤t then l.getD (t - k) undef else undef:=by
 induction l with
 | nil=>intro k t;simp [fr0]
 | cons v l ih =>
  intro k t
  unfold fr0 upd
  cases e:Nat.beq t k with
  | true =>
   have:t=k:=Nat.eq_of_beq_eq_true e
   subst this
   simp
  | false =>
   have hne:t≠k:=fun h=>by subst h;simp at e
   simp only [cond_false,ih]
   by_cases h:k≤t
   ·rw [if_pos (by omega),if_pos h]
    obtain ⟨m,rfl⟩:∃ m,t=k+1+m:=⟨t - (k+1),by omega⟩
    have e1:k+1+m - (k+1)=m:=by omega
    have e2:k+1+m - k=m+1:=by omega
    rw [e1,e2]
    simp
   ·rw [if_neg (by omega),if_neg h]
theorem xZ (fn:Func) {n:Nat} {a:Act} {ρ:fG} (ha:Agree n a ρ):results fn a.tmps=uP fn.results ρ:=by
 unfold results uP
 simp only [ha.at_]
 rfl
theorem aI {P:Program} {f:FuncId} {fn:Func} {c:Code} {args:List Value} {w:World} {R:Value→World→Prop} (rs:Array ResultVar) (n:Nat)
  (hf:P.funcs[f]? = some fn) (hb:fn.body=some c) (hr:fn.results=rs) (hn:fn.ntmps=n) (hle:Nat.ble args.length n=true)
  (h:W P n c (aDi P rs R) (fr0 0 args) w):Calls P f args.toArray w (fun e w'=>∃ v,e=.returned v∧R v w'):=by
 subst hr
 refine calls_of_wp hf hb ?_
 have hle':args.length≤n:=by simpa using hle
 have ha:Agree n { tmps:=args.toArray++Array.replicate (fn.ntmps - args.toArray.size) undef,defers:=[] } (fr0 0 args):=by
  refine ⟨by simp;omega,rfl,fun t => ?_⟩
  rw [bEk]
  simp only [Nat.zero_le,if_true,Nat.sub_zero]
  by_cases h1:t < args.length
  ·simp only [Array.getD_eq_getD_getElem?,List.getD_eq_getElem?_getD]
   rw [Array.getElem?_append_left (by simpa using h1)]
   simp
  ·simp only [Array.getD_eq_getD_getElem?,List.getD_eq_getElem?_getD]
   rw [Array.getElem?_append_right (by simpa using Nat.le_of_not_lt h1)]
   simp only [Array.getElem?_replicate]
   split <;> simp [List.getElem?_eq_none (Nat.le_of_not_lt h1)]
 unfold W at h
 refine Code.wp_mono ?_ (h _ ha)
 rintro e a w' ⟨ρ,h1,h2⟩
 cases e with
 | normal =>
  obtain ⟨v,h3,h4⟩:=h2
  exact ⟨h1.defers,v,by rw [xZ fn h1];exact h3,v,rfl,h4⟩
 | ret =>
  obtain ⟨v,h3,h4⟩:=h2
  exact ⟨h1.defers,v,by rw [xZ fn h1];exact h3,v,rfl,h4⟩
 | _=>exact h2.elim
section
variable {P:Program} {R:Value→World→Prop} {ρ:fG} {w:World}
theorem cI {t:Nat} (v:Value) (hv:ρ t=v) (h:R v w):aDi P #[.tmp t] R .ret ρ w:=⟨v,by simp [uP,hv],h⟩
theorem fX {t u:Nat} (v1 v2:Value) (h1:ρ t=v1) (h2:ρ u=v2) (h:R (.tuple #[v1,v2]) w):aDi P #[.tmp t,.tmp u] R .ret ρ w:=⟨_,by simp [uP,h1,h2],h⟩
theorem kI (h:R (.tuple #[]) w):aDi P #[] R .normal ρ w:=⟨_,by simp [uP],h⟩
end
end Go.Bil

namespace Go.Bil
def oN:List Oper→Nat→Option Oper
 | [],_=>none
 | o::_,0=>some o
 | _::l,k+1=>oN l k
theorem vX:∀ (l:List Oper) (j:Nat),oN l j=l[j]?
 | [],j=>by simp [oN]
 | o::l,0=>by simp [oN]
 | o::l,k+1=>by simp [oN,vX l k]
def ans (l0:List Oper) (ρ:fG) (j:Nat):Option Bool :=
 match oN l0 j with
 | some ⟨some t,_,_,_,_,_⟩=>(match ρ t with | .bool b=>some b | _=>none)
 | _=>none
def nA (l0:List Oper) (ρ:fG):Option (Nat × Bool)→Bool
 | none=>true
 | some (j,want)=>(match ans l0 ρ j with | some b=>(match b,want with | true,true=>true | false,false=>true | _,_=>false) | none=>false)
section
variable {P:Program} {n:Nat} {Q:Exit→fG→World→Prop} {ρ:fG} {w:World} {l0 rest:List Oper}
theorem aOb {a:Act} (ha:Agree n a ρ) (j:Nat):yielded l0.toArray a.tmps j=ans l0 ρ j:=by
 unfold yielded ans
 rw [vX]
 simp only [List.getElem?_toArray]
 cases h:l0[j]? with
 | none=>rfl
 | some o =>
  obtain ⟨dst,_,_,_,_,_⟩:=o
  cases dst with
  | none=>rfl
  | some t =>
   have ht:ρ t=(a.tmps[t]?).getD undef:=by rw [← ha.at_ t];simp
   simp only [Option.bind_some,ht]
   cases h2:a.tmps[t]? with
   | none=>rfl
   | some v=>cases v <;> rfl
theorem kE {a:Act} (ha:Agree n a ρ) (o:Oper):Region.wanted o (yielded l0.toArray a.tmps)=nA l0 ρ o.guard:=by
 unfold Region.wanted nA
 cases o.guard with
 | none=>rfl
 | some g =>
  obtain ⟨j,want⟩:=g
  simp only [aOb ha]
  cases ans l0 ρ j with
  | none=>rfl
  | some b=>cases b <;> cases want <;> rfl
theorem aB (h:Q .normal ρ w):wl P n l0 [] Q ρ w:=by unfold wl;exact fun a ha=>⟨ρ,ha,h⟩
theorem aA {id:Nat} {l:List Oper} (h:wl P n l l Q ρ w):W P n (.region id l.toArray false) Q ρ w:=by
 unfold W
 unfold wl at h
 exact fun a ha=>wp_region_lit (h a ha)
theorem nT {d:Nat} {op:Op} {ty:TypeId} {pos:String} {af:Array Edge} {gd:Option (Nat × Bool)} {v:Value} {w':World} (hg:nA l0 ρ gd=true) (hd:Nat.blt d n=true)
  (hrun:(execOp (ev ρ) ⟨some d,op,ty,pos,af,gd⟩).run P w=.ok (.value v) w') (h:wl P n l0 rest Q (upd ρ d v) w'):wl P n l0 (⟨some d,op,ty,pos,af,gd⟩::rest) Q ρ w:=by
 unfold wl at *
 intro a ha
 unfold wpList
 rw [kE ha]
 rw [if_pos hg]
 refine .inl ?_
 unfold Oper.wp
 rw [ha.eval,hrun]
 exact h _ (ha.upd d hd v)
def kS (P:Program) (ρ:fG) (w:World) (op:Op) (v:Value):Prop:=∀ dst ty pos af gd,(execOp (ev ρ) ⟨dst,op,ty,pos,af,gd⟩).run P w=.ok (.value v) w
theorem bWl {d:Nat} {op:Op} {ty:TypeId} {pos:String} {af:Array Edge} {gd:Option (Nat × Bool)} {v:Value} (A:kS P ρ w op v) (hg:nA l0 ρ gd=true) (hd:Nat.blt d n=true)
  (h:wl P n l0 rest Q (upd ρ d v) w):wl P n l0 (⟨some d,op,ty,pos,af,gd⟩::rest) Q ρ w:=nT hg hd (A _ _ _ _ _) h
theorem aEg {op:Op} {ty:TypeId} {pos:String} {af:Array Edge} {gd:Option (Nat × Bool)} {v:Value} {w':World} (hg:nA l0 ρ gd=true)
  (hrun:(execOp (ev ρ) ⟨none,op,ty,pos,af,gd⟩).run P w=.ok (.value v) w') (h:wl P n l0 rest Q ρ w'):wl P n l0 (⟨none,op,ty,pos,af,gd⟩::rest) Q ρ w:=by
 unfold wl at *
 intro a ha
 unfold wpList
 rw [kE ha]
 rw [if_pos hg]
 refine .inl ?_
 unfold Oper.wp
 rw [ha.eval,hrun]
 exact h _ ha
theorem rF {op:Op} {ty:TypeId} {pos:String} {af:Array Edge} {gd:Option (Nat × Bool)} {w':World} (hg:nA l0 ρ gd=true)
  (hrun:(execOp (ev ρ) ⟨none,op,ty,pos,af,gd⟩).run P w=.ok .skip w') (h:wl P n l0 rest Q ρ w'):wl P n l0 (⟨none,op,ty,pos,af,gd⟩::rest) Q ρ w:=by
 unfold wl at *
 intro a ha
 unfold wpList
 rw [kE ha]
 rw [if_pos hg]
 refine .inl ?_
 unfold Oper.wp
 rw [ha.eval,hrun]
 exact h _ ha
theorem aN {d:Nat} {op:Op} {ty:TypeId} {pos:String} {af:Array Edge} {gd:Option (Nat × Bool)} (hg:nA l0 ρ gd=false) (hd:Nat.blt d n=true)
  (h:wl P n l0 rest Q (upd ρ d undef) w):wl P n l0 (⟨some d,op,ty,pos,af,gd⟩::rest) Q ρ w:=by
 unfold wl at *
 intro a ha
 unfold wpList
 rw [kE ha]
 rw [if_neg (by simp [hg])]
 exact h _ (ha.upd d hd undef)
theorem kM {l:List Oper} (t:Nat) (b:Bool) (ht:ρ t=.bool b) (h1:b=true→wl P n l0 l Q (upd ρ t (.bool true)) w) (h2:b=false→wl P n l0 l Q (upd ρ t (.bool false)) w):wl P n l0 l Q ρ w:=by
 cases b with
 | true=>have:=h1 rfl;rwa [oR ht] at this
 | false=>have:=h2 rfl;rwa [oR ht] at this
theorem dQ {l:List Oper} (t:Nat) {p:Prop} {dp:Decidable p} (ht:ρ t=.bool (@decide p dp)) (h1:p→wl P n l0 l Q (upd ρ t (.bool true)) w) (h2:¬ p→wl P n l0 l Q (upd ρ t (.bool false)) w):wl P n l0 l Q ρ w :=
 kM t _ ht (fun h=>h1 (of_decide_eq_true h)) (fun h=>h2 (of_decide_eq_false h))
theorem aL {l:List Oper} (t:Nat) (v:Value) (ht:ρ t=v) (h:wl P n l0 l Q (upd ρ t v) w):wl P n l0 l Q ρ w:=by
 rwa [oR ht] at h
section
variable {d:Nat} {ty:TypeId} {pos:String} {af:Array Edge} {gd:Option (Nat × Bool)}
theorem aH {x:Operand} (v:Value) (hx:ev ρ x=v):kS P ρ w (.move x) v:=fun dst ty pos af gd=>(by rw [← hx];rfl)
theorem aJ {x:Operand} (v:Value) (hx:ev ρ x=v):kS P ρ w (.assign x) v:=fun dst ty pos af gd=>(by rw [← hx];rfl)
theorem bR {c x y:Operand} (b:Bool) (v:Value) (hc:ev ρ c=.bool b) (hv:(bif b then ev ρ x else ev ρ y)=v):kS P ρ w (.pick c x y) v:=fun dst ty pos af gd=>(by subst hv;cases b <;> simp [execOp,hc,asBool])
def aIq (op:BinOp) (k:IntKind) (a b:Int):Option Value :=
 match op with
 | .add=>some (.int k (k.wrap (a+b)))
 | .sub=>some (.int k (k.wrap (a - b)))
 | .mul=>some (.int k (k.wrap (a*b)))
 | .and=>some (.int k (k.wrap ((BitVec.ofInt k.bits a &&& BitVec.ofInt k.bits b).toNat)))
 | .or=>some (.int k (k.wrap ((BitVec.ofInt k.bits a ||| BitVec.ofInt k.bits b).toNat)))
 | .xor=>some (.int k (k.wrap ((BitVec.ofInt k.bits a ^^^ BitVec.ofInt k.bits b).toNat)))
 | .andNot=>some (.int k (k.wrap ((BitVec.ofInt k.bits a &&& ~~~ BitVec.ofInt k.bits b).toNat)))
 | .eql=>some (.bool (decide (a=b)))
 | .neq=>some (.bool (decide (¬ a=b)))
 | .lss=>some (.bool (decide (a < b)))
 | .leq=>some (.bool (decide (a≤b)))
 | .gtr=>some (.bool (decide (b < a)))
 | .geq=>some (.bool (decide (b≤a)))
 | _=>none
theorem oH (op:BinOp) (t:TypeId) (x y:Operand) (k k':IntKind) (a b:Int) (w:World):(eqGuard op t x y (.int k a) (.int k' b)).run P w=.ok () w:=by
 cases op <;> rfl
theorem aXx (op:BinOp) (t:TypeId) (k:IntKind) (a b:Int) (v:Value) (h:aIq op k a b=some v) (w:World):(binOp op t (.int k a) (.int k b)).run P w=.ok v w:=by
 cases op <;> simp only [aIq,Option.some.injEq,reduceCtorEq] at h <;> subst h <;> simp [binOp,Op.intArith,Op.intBits,Op.intCmp,bne,Int.instDecidableEq]
 all_goals first
  | rfl
  | (congr 1;exact (Bool.decide_coe _).symm ▸ rfl)
  | (by_cases e:a=b <;> simp [e])
theorem cA {op:BinOp} {t t':TypeId} {x y:Operand} {k:IntKind} {a b:Int} (v:Value) (hx:ev ρ x=.int k a) (hy:ev ρ y=.int k b) (hv:aIq op k a b=some v):kS P ρ w (.binOp op t x y t') v:=fun dst ty pos af gd=>(by simp only [execOp,hx,hy,Sem.run_bind,oH,Result.andThen_ok,aXx op t k a b v hv,Sem.run_pure])
theorem gA {t t':TypeId} {x y:Operand} {k:IntKind} {a b:Int} (hx:ev ρ x=.int k a) (hy:ev ρ y=.int k b) (hb:b≠0):kS P ρ w (.binOp .quo t x y t') (.int k (k.wrap (a.tdiv b))):=fun dst ty pos af gd=>(by simp [execOp,hx,hy,oH,binOp,Op.intDiv,hb])
theorem iJ {t t':TypeId} {x y:Operand} {k:IntKind} {a b:Int} (hx:ev ρ x=.int k a) (hy:ev ρ y=.int k b) (hb:b≠0):kS P ρ w (.binOp .rem t x y t') (.int k (a.tmod b)):=fun dst ty pos af gd=>(by simp [execOp,hx,hy,oH,binOp,Op.intDiv,hb])
theorem zR {t t':TypeId} {x y:Operand} {k k':IntKind} {a b:Int} (hx:ev ρ x=.int k a) (hy:ev ρ y=.int k' b) (hb:0≤b):kS P ρ w (.binOp .shl t x y t') (.int k (k.wrap (a*2 ^ (min b.toNat k.bits)))):=fun dst ty pos af gd=>(by simp [execOp,hx,hy,oH,binOp,Op.shift,show ¬ b < 0 by omega])
theorem kK {t t':TypeId} {x y:Operand} {k k':IntKind} {a b:Int} (hx:ev ρ x=.int k a) (hy:ev ρ y=.int k' b) (hb:0≤b):kS P ρ w (.binOp .shr t x y t') (.int k (a.fdiv (2 ^ (min b.toNat k.bits)))):=fun dst ty pos af gd=>(by simp [execOp,hx,hy,oH,binOp,Op.shift,show ¬ b < 0 by omega])
theorem pH {t:TypeId} {x:Operand} {p:Prop} {dp:Decidable p} (hx:ev ρ x=.bool (@decide p dp)):kS P ρ w (.unOp .not t x) (.bool (decide (¬ p))):=fun dst ty pos af gd=>(by simp [execOp,hx,Op.unary])
theorem gR {t:TypeId} {x:Operand} {b:Bool} (v:Bool) (hx:ev ρ x=.bool b) (hv:(!b)=v):kS P ρ w (.unOp .not t x) (.bool v):=fun dst ty pos af gd=>(by subst hv;simp [execOp,hx,Op.unary])
theorem sE {t:TypeId} {x:Operand} {k:IntKind} {a:Int} (hx:ev ρ x=.int k a):kS P ρ w (.unOp .neg t x) (.int k (k.wrap (- a))):=fun dst ty pos af gd=>(by simp [execOp,hx,Op.unary,Op.intArith])
theorem dF {s t:TypeId} {x:Operand} {k k':IntKind} {a:Int} (hs:(P.underlying s).isSome=true) (ht:P.underlying t=some (.int k')) (hx:ev ρ x=.int k a):kS P ρ w (.convert s t x) (.int k' (k'.wrap a)):=by
 intro dst ty pos af gd
 obtain ⟨ds,hs'⟩:=Option.isSome_iff_exists.1 hs
 cases ds <;> simp [execOp,convert,underlying,hs',ht,hx,Conv.intToInt]
theorem aZz {x:Operand} {i:Nat} {l:List Value} (v:Value) (hx:ev ρ x=.tuple l.toArray) (hv:l[i]? = some v):kS P ρ w (.extract x i) v:=fun dst ty pos af gd=>(by simp [execOp,hx,Instr.extract,hv])
theorem aTp {fn:Fn} {first cap:List Operand}:kS P ρ w (.makeFunc fn first.toArray cap.toArray) (.func fn (first.map (ev ρ)).toArray (cap.map (ev ρ)).toArray):=fun dst ty pos af gd=>(by simp [execOp,Instr.makeFunc])
theorem cK {x:Operand} {t:TypeId} {e:TypeId} {A:Option Addr} {m c:Nat} (ht:P.underlying t=some (.slice e)) (hx:ev ρ x=.slice A m c):kS P ρ w (.call ⟨.builtin .len,[x].toArray,[t].toArray⟩) (.int .i64 (m:Int)):=fun dst ty pos af gd=>(by simp [execOp,hx,resolve,invoke,builtin,Builtin.len_,underlying,ht,goInt])
theorem bL {x:Operand} {a:Addr} (hx:ev ρ x=.pointer (some a)):kS P ρ w (.nilCheck x) (.pointer (some a)):=fun dst ty pos af gd=>(by simp [execOp,hx])
theorem bLs {x:Operand} {args:List Operand} {ts:Array TypeId} {f:FuncId} {first cap:List Value} {fn:Func} (hf:P.funcs[f]? = some fn) (hb:fn.body.isNone=false) (hnm:(fn.name == "runtime.NumGoroutine")=false)
  (hg:nA l0 ρ gd=true) (hd:Nat.blt d n=true) (hx:ev ρ x=.func (.func f) first.toArray cap.toArray)
  (h:Calls P f (first++args.map (ev ρ)++cap).toArray w (fun e w'=>∃ v,e=.returned v∧wl P n l0 rest Q (upd ρ d v) w')) :
  wl P n l0 (⟨some d,.call ⟨.value x,args.toArray,ts⟩,ty,pos,af,gd⟩::rest) Q ρ w:=by
 unfold wl at *
 intro a ha
 unfold wpList
 rw [kE ha]
 rw [if_pos hg]
 refine .inl ?_
 unfold Oper.wp
 rw [ha.eval]
 have:(execOp (ev ρ) ⟨some d,.call ⟨.value x,args.toArray,ts⟩,ty,pos,af,gd⟩).run P w=.ok (.enter f (first++args.map (ev ρ)++cap).toArray) w:=by
  have hb':¬ fn.body=Option.none:=by intro e;rw [e] at hb;cases hb
  have hnm':¬ fn.name = "runtime.NumGoroutine" := by simpa using hnm
  simp [execOp,hx,resolve,Deferred.ofValue,invoke,callFunc,hf,hnm',hb']
 rw [this]
 refine Calls.mono h ?_
 rintro e w' ⟨v,rfl,hv⟩
 exact hv _ (ha.upd d hd v)
end
end
end Go.Bil

namespace Go.Bil
open Go.RowKit (Below)
def iV (P:Program) (T:TypeId):Bool :=
 match P.underlying T with
 | some (.struct _) | some (.array ..) | none=>false
 | _=>P.cellsOf T == 1
def jA (P:Program) (T:TypeId):Option Nat :=
 match P.underlying T with
 | some (.struct _) | some (.array ..)=>(P.info? T).map (·.size)
 | _=>none
def eT (P:Program) (s f:Nat) (off:Nat):Bool :=
 match P.underlying s with
 | some (.struct fs)=>(match fs[f]? with | some x=>x.offset == off && P.cellsOf x.type != 0 && (P.info? x.type).isSome | none=>false)
 | _=>false
def gQ (P:Program) (T:TypeId):Option (List Value):=((P.info? T).bind (·.zero)).map (·.cells.toList)
def nI (P:Program) (T:TypeId):Option Value:=(P.info? T).bind (·.zero)
theorem bW {P:Program} {T:TypeId} {d:TypeDesc} (h:P.underlying T=some d) (w:World):(underlying T).run P w=.ok d w:=by simp [underlying,h]
theorem eI {P:Program} {T:TypeId} (h:(P.info? T).isSome=true) (w:World):(sizeOf T).run P w=.ok (P.cellsOf T) w:=by
 obtain ⟨i,hi⟩:=Option.isSome_iff_exists.1 h
 simp [sizeOf,typeInfo,Program.cellsOf,hi]
theorem mH {P:Program} {T:TypeId} {d:TypeDesc} (h:P.underlying T=some d):(P.info? T).isSome=true:=by
 unfold Program.underlying at h
 cases hi:P.info? T with
 | none=>simp [hi] at h
 | some i=>rfl
theorem aBl {P:Program} {T:TypeId} (h:iV P T=true) (w:World):(isAgg T).run P w=.ok false w∧P.cellsOf T=1∧(P.info? T).isSome=true:=by
 unfold iV at h
 cases hu:P.underlying T with
 | none=>simp [hu] at h
 | some d =>
  have hi:=mH hu
  cases d <;> simp [hu] at h <;> exact ⟨by simp [isAgg,underlying,hu],h,hi⟩
theorem pR {P:Program} {T m:Nat} (h:jA P T=some m) (w:World):(isAgg T).run P w=.ok true w∧P.cellsOf T=m∧(P.info? T).isSome=true:=by
 unfold jA at h
 cases hu:P.underlying T with
 | none=>simp [hu] at h
 | some d =>
  cases d <;> simp [hu] at h <;> obtain ⟨i,hi,hm⟩:=h <;> exact ⟨by simp [isAgg,underlying,hu],by simp [Program.cellsOf,hi,hm],by simp [hi]⟩
abbrev eL:=Option Nat × Obj
def bY (S:List eL):List Nat:=S.filterMap (·.1)
def bc (l:List Value) (T:TypeId):Obj:=.cells l.toArray T (0,0)
def bm (l:List Value) (T:TypeId) (fr:Nat × Nat):Obj:=.cells l.toArray T fr
abbrev bBk (fr:Nat × Nat) (k:Nat):Prop:=fr=(0,0)∨k≤fr.1
structure Mem (w0:World) (X:List Nat) (S:List eL) (w:World):Prop where
 os:w.os=w0.os
 tape:w.tape=w0.tape
 output:w.output=w0.output
 size:w0.heap.size≤w.heap.size
 old:∀ b,b < w0.heap.size→b∉X→w.heap[b]? = w0.heap[b]?
 own:∀ b o,(some b,o)∈S→w.heap[b]? = some o∧(w0.heap.size≤b∨b∈X)
 apart:(bY S).Nodup
theorem Mem.refl (w:World):Mem w [] [] w:=⟨rfl,rfl,rfl,Nat.le_refl _,fun _ _ _=>rfl,by simp,by simp [bY]⟩
theorem gV {S:List eL} {b:Nat}:b∈bY S↔∃ o,(some b,o)∈S:=by
 simp only [bY,List.mem_filterMap]
 constructor
 ·rintro ⟨⟨x,o⟩,h,rfl⟩;exact ⟨o,h⟩
 ·rintro ⟨o,h⟩;exact ⟨_,h,rfl⟩
structure Own (S:List eL) (w:World):Prop where
 own:∀ b o,(some b,o)∈S→w.heap[b]? = some o
 apart:(bY S).Nodup
theorem Own.mem {S:List eL} {w:World} (h:Own S w):Mem w (bY S) S w :=
 ⟨rfl,rfl,rfl,Nat.le_refl _,fun _ _ _=>rfl,fun b o hb=>⟨h.own b o hb,.inr (gV.2 ⟨o,hb⟩)⟩,h.apart⟩
theorem Own.nil (w:World):Own [] w:=⟨by simp,by simp [bY]⟩
section
variable {w0 w w':World} {X:List Nat} {S S':List eL}
theorem Mem.lt (M:Mem w0 X S w) {b:Nat} {o:Obj} (h:(some b,o)∈S):b < w.heap.size:=by
 have:=(M.own b o h).1
 exact (Array.getElem?_eq_some_iff.1 this).1
theorem Mem.perm (M:Mem w0 X S w) (h:S.Perm S'):Mem w0 X S' w :=
 ⟨M.os,M.tape,M.output,M.size,M.old,fun b o hb=>M.own b o (h.mem_iff.2 hb),(h.filterMap _).nodup_iff.1 M.apart⟩
theorem Mem.sub (M:Mem w0 X S w) (h:S'.Sublist S):Mem w0 X S' w :=
 ⟨M.os,M.tape,M.output,M.size,M.old,fun b o hb=>M.own b o (h.subset hb),(h.filterMap _).nodup M.apart⟩
theorem Mem.toOwn (M:Mem w0 X S w):Own S w:=⟨fun b o h=>(M.own b o h).1,M.apart⟩
theorem kB (A B:List eL):bY (A++B)=bY A++bY B:=by simp [bY]
theorem Mem.call {A R A':List eL} (M:Mem w0 X (A++R) w) (C:Mem w (bY A) A' w'):Mem w0 X (A'++R) w':=by
 have hA:∀ b,b∈bY A→w0.heap.size≤b∨b∈X:=fun b hb=>by
  obtain ⟨o,ho⟩:=gV.1 hb
  exact (M.own b o (List.mem_append_left _ ho)).2
 have hap:=M.apart
 rw [kB,List.nodup_append] at hap
 obtain ⟨_,hR,hAR⟩:=hap
 refine ⟨C.os.trans M.os,C.tape.trans M.tape,C.output.trans M.output,Nat.le_trans M.size C.size, ?_, ?_, ?_⟩
 ·intro b hb hX
  rw [C.old b (Nat.lt_of_lt_of_le hb M.size) ?_]
  ·exact M.old b hb hX
  ·intro hbA
   rcases hA b hbA with h | h
   ·omega
   ·exact hX h
 ·intro b o hb
  rcases List.mem_append.1 hb with h | h
  ·obtain ⟨h1,h2⟩:=C.own b o h
   refine ⟨h1, ?_⟩
   rcases h2 with h2 | h2
   ·exact .inl (Nat.le_trans M.size h2)
   ·exact hA b h2
  ·obtain ⟨h1,h2⟩:=M.own b o (List.mem_append_right _ h)
   refine ⟨?_,h2⟩
   rw [C.old b (M.lt (List.mem_append_right _ h)) ?_,h1]
   intro hbA
   exact hAR b hbA b (gV.2 ⟨o,h⟩) Z
 ·rw [kB,List.nodup_append]
  refine ⟨C.apart,hR, ?_⟩
  intro x hx y hy hxy
  subst hxy
  obtain ⟨o,ho⟩:=gV.1 hx
  obtain ⟨o',ho'⟩:=gV.1 hy
  have hlt:=M.lt (List.mem_append_right A ho')
  rcases (C.own x o ho).2 with h | h
  ·omega
  ·exact hAR x h x hy Z
theorem Mem.call0 {A':List eL} (M:Mem w0 X S w) (C:Mem w [] A' w'):Mem w0 X (S++A') w' :=
 (Mem.call (A:=[]) (R:=S) (by simpa using M) C).perm List.perm_append_comm
theorem Mem.callB (M:Mem w0 X S w) (C:Below w.heap.size w w'):Mem w0 X S w':=by
 have:=M.call0 (A':=[]) ⟨C.os,C.tape,C.output,C.size,fun b hb _=>C.block b hb,by simp,by simp [bY]⟩
 simpa using this
theorem Mem.below (M:Mem w0 [] S w):Below w0.heap.size w0 w:=⟨M.os,M.tape,M.output,M.size,fun b hb=>M.old b hb (by simp)⟩
theorem Mem.drop (M:Mem w0 X S w):Mem w0 X [] w:=M.sub (List.nil_sublist _)
theorem Mem.seg {A':List eL} (i k:Nat) (M:Mem w0 X S w) (C:Mem w (bY ((S.drop i).take k)) A' w') :
  Mem w0 X (S.take i++A'.take k++S.drop (i+k)++A'.drop k) w':=by
 have e:S=S.take i++((S.drop i).take k++S.drop (i+k)):=by
  rw [← List.drop_drop,List.take_append_drop,List.take_append_drop]
 have p:S.Perm ((S.drop i).take k++(S.take i++S.drop (i+k))):=by
  conv=>lhs;rw [e]
  rw [← List.append_assoc,← List.append_assoc]
  exact List.perm_append_comm.append_right _
 refine ((M.perm p).call C).perm ?_
 have e':A'=A'.take k++A'.drop k:=(List.take_append_drop k A').symm
 conv=>lhs;rw [e']
 simp only [List.append_assoc]
 have q:(A'.take k++(A'.drop k++(S.take i++S.drop (i+k)))).Perm (A'.take k++(S.take i++(S.drop (i+k)++A'.drop k))):=by
  refine List.Perm.append_left _ ?_
  rw [← List.append_assoc (S.take i)]
  exact List.perm_append_comm
 refine q.trans ?_
 rw [← List.append_assoc,← List.append_assoc (S.take i)]
 exact List.perm_append_comm.append_right _
def oK:List eL→List Bool→List eL
 | e::S,b::ks=>bif b then e::oK S ks else oK S ks
 | _,_=>[]
theorem vT:∀ (S:List eL) (ks:List Bool),(oK S ks).Sublist S
 | [],ks=>by cases ks <;> simp [oK]
 | e::S,[]=>by simp [oK]
 | e::S,b::ks=>by
  unfold oK
  cases b with
  | true=>exact (vT S ks).cons_cons e
  | false=>exact (vT S ks).cons e
theorem Mem.keep (ks:List Bool) (M:Mem w0 X S w):Mem w0 X (oK S ks) w:=M.sub (vT S ks)
theorem aBa (w:World) (o:Obj) (b:Nat):({ w with heap:=w.heap.push o }:World).heap[b]? = if b=w.heap.size then some o else w.heap[b]? := by
 show (w.heap.push o)[b]? = _
 rw [Array.getElem?_push]
theorem Mem.alloc (M:Mem w0 X S w) (o:Obj):Mem w0 X (S++[(some w.heap.size,o)]) { w with heap:=w.heap.push o }:=by
 refine ⟨M.os,M.tape,M.output,by simpa using Nat.le_succ_of_le M.size, ?_, ?_, ?_⟩
 ·intro b hb hX
  rw [aBa,if_neg (by have:=M.size;omega)]
  exact M.old b hb hX
 ·intro b o' hb
  rcases List.mem_append.1 hb with h | h
  ·obtain ⟨h1,h2⟩:=M.own b o' h
   have:=M.lt h
   exact ⟨by rw [aBa,if_neg (by omega)];exact h1,h2⟩
  ·simp only [List.mem_singleton,Prod.mk.injEq,Option.some.injEq] at h
   obtain ⟨rfl,rfl⟩:=h
   exact ⟨by rw [aBa,if_pos rfl],.inl M.size⟩
 ·rw [kB,List.nodup_append]
  refine ⟨M.apart,by simp [bY], ?_⟩
  intro x hx y hy hxy
  subst hxy
  obtain ⟨o',ho'⟩:=gV.1 hx
  have:=M.lt ho'
  have hy':x=w.heap.size:=by simpa [bY] using hy
  omega
theorem Mem.dummy (M:Mem w0 X S w) (o:Obj):Mem w0 X (S++[(none,o)]) w :=
 ⟨M.os,M.tape,M.output,M.size,M.old,fun b o' hb=>by
  rcases List.mem_append.1 hb with h | h
  ·exact M.own b o' h
  ·simp at h,by rw [kB];simpa [bY] using M.apart⟩
theorem bBx {i b:Nat} {o o':Obj} (h:S[i]? = some (some b,o)):bY (S.set i (some b,o'))=bY S:=by
 induction S generalizing i with
 | nil=>simp at h
 | cons e S ih =>
  cases i with
  | zero =>
   simp only [List.getElem?_cons_zero,Option.some.injEq] at h
   subst h
   simp [bY]
  | succ i =>
   simp only [List.getElem?_cons_succ] at h
   have:=ih h
   simp only [List.set_cons_succ,bY,List.filterMap_cons] at this ⊢
   cases e.1 <;> simp [this]
theorem Mem.write {i b:Nat} {o:Obj} (M:Mem w0 X S w) (hi:S[i]? = some (some b,o)) (o':Obj) (hw:w'.os=w.os∧w'.tape=w.tape∧w'.output=w.output∧w'.heap.size=w.heap.size)
  (hb:w'.heap[b]? = some o') (hne:∀ c,c≠b→w'.heap[c]? = w.heap[c]?):Mem w0 X (S.set i (some b,o')) w':=by
 obtain ⟨h1,h2,h3,h4⟩:=hw
 have hmem:(some b,o)∈S:=List.mem_of_getElem? hi
 refine ⟨h1.trans M.os,h2.trans M.tape,h3.trans M.output,by rw [h4];exact M.size, ?_, ?_,by rw [bBx hi];exact M.apart⟩
 ·intro c hc hX
  rw [hne c ?_]
  ·exact M.old c hc hX
  ·intro e
   subst e
   rcases (M.own c o hmem).2 with h | h
   ·omega
   ·exact hX h
 ·intro c o'' hc
  rcases List.mem_or_eq_of_mem_set hc with h | h
  ·by_cases hcb:c=b
   ·subst hcb
    refine ⟨?_,(M.own c o hmem).2⟩
    rw [hb]
    obtain ⟨j,hj⟩:=List.getElem?_of_mem hc
    by_cases hij:j=i
    ·subst hij
     rw [List.getElem?_set_self (by have:=(List.getElem?_eq_some_iff.1 hi).1;exact this)] at hj
     injection hj with hj
     injection hj with _ hj
     rw [hj]
    ·exfalso
     rw [List.getElem?_set_ne (Ne.symm hij)] at hj
     have hnd:=M.apart
     exact nodup_two hnd hij hj hi
   ·obtain ⟨h5,h6⟩:=M.own c o'' h
    exact ⟨by rw [hne c hcb];exact h5,h6⟩
  ·injection h with h5 h6
   injection h5 with h5
   subst h5
   subst h6
   exact ⟨hb,(M.own c o hmem).2⟩
where
 nodup_two {S:List eL} {i j b:Nat} {o o':Obj} (h:(bY S).Nodup) (hij:j≠i) (hj:S[j]? = some (some b,o')) (hi:S[i]? = some (some b,o)):False:=by
  induction S generalizing i j with
  | nil=>simp at hi
  | cons e S ih =>
   have hS:(bY S).Nodup:=(List.Sublist.filterMap _ (List.sublist_cons_self e S)).nodup h
   have hhead:∀ (k:Nat) (o1 o2:Obj),e=(some b,o1)→S[k]? = some (some b,o2)→False:=by
    rintro k o1 o2 rfl hk
    have:b∈bY S:=gV.2 ⟨o2,List.mem_of_getElem? hk⟩
    simp only [bY,List.filterMap_cons,List.nodup_cons] at h
    exact h.1 this
   cases i with
   | zero =>
    cases j with
    | zero=>exact hij rfl
    | succ j =>
     simp only [List.getElem?_cons_zero,Option.some.injEq,List.getElem?_cons_succ] at hi hj
     exact hhead j _ _ hi hj
   | succ i =>
    cases j with
    | zero =>
     simp only [List.getElem?_cons_zero,Option.some.injEq,List.getElem?_cons_succ] at hi hj
     exact hhead i _ _ hj hi
    | succ j =>
     simp only [List.getElem?_cons_succ] at hi hj
     exact ih hS (by omega) hj hi
end
def nth:List Value→Nat→Option Value
 | [],_=>none
 | v::_,0=>some v
 | _::l,k+1=>nth l k
theorem nQ:∀ (l:List Value) (j:Nat),nth l j=l[j]?
 | [],j=>by simp [nth]
 | o::l,0=>by simp [nth]
 | o::l,k+1=>by simp [nth,nQ l k]
def gD:List eL→Nat→Option eL
 | [],_=>none
 | v::_,0=>some v
 | _::l,k+1=>gD l k
theorem jS:∀ (l:List eL) (j:Nat),gD l j=l[j]?
 | [],j=>by simp [gD]
 | o::l,0=>by simp [gD]
 | o::l,k+1=>by simp [gD,jS l k]
def fN:Value→List Value
 | .agg cs=>cs.toList
 | v=>[v]
theorem wH (v:Value):v.cells=(fN v).toArray:=by cases v <;> simp [Value.cells,fN]
def dL (w:World) (b off:Nat) (l:List Value):Prop:=∀ j v,l[j]? = some v→w.cell? ⟨b,off+j,none⟩=some v
theorem eV (b o k:Nat):(⟨b,o,none⟩:Addr).add k=⟨b,o+k,none⟩:=by unfold Addr.add;split <;> simp_all
theorem lD {w:World} {b off:Nat} {l:List Value} {T:TypeId} {fr:Nat × Nat} (h:w.heap[b]? = some (.cells l.toArray T fr)):w.cell? ⟨b,off,none⟩=l[off]? := by
 simp [World.cell?,h]
theorem aFq {w:World} {b off:Nat} {l:List Value} {T:TypeId} (h:w.heap[b]? = some (bc l T)):w.frozen? ⟨b,off,none⟩=false:=by
 simp [World.frozen?,h,bc]
theorem dL.of_heap {w:World} {b off:Nat} {l m:List Value} {T:TypeId} {fr:Nat × Nat} (h:w.heap[b]? = some (.cells l.toArray T fr)) (hm:m=(l.drop off).take m.length):dL w b off m:=by
 intro j v hj
 rw [lD h]
 rw [hm] at hj
 simp only [List.getElem?_take,List.getElem?_drop] at hj
 split at hj
 ·exact hj
 ·cases hj
theorem dL.below {w w':World} {b off:Nat} {l:List Value} (h:dL w b off l) (hl:l≠[]) (hb:w'.heap[b]? = w.heap[b]?):dL w' b off l:=by
 intro j v hj
 rw [← h j v hj]
 simp [World.cell?,hb]
theorem dL.lt {w:World} {b off:Nat} {l:List Value} (h:dL w b off l) (hl:l≠[]):b < w.heap.size:=by
 cases l with
 | nil=>exact absurd rfl hl
 | cons v l =>
  have:=h 0 v (by simp)
  simp only [World.cell?] at this
  split at this
  ·rename_i h1;exact (Array.getElem?_eq_some_iff.1 h1).1
  ·cases this
theorem dL.part {w:World} {b off:Nat} {l:List Value} (h:dL w b off l) (k m:Nat):dL w b (off+k) ((l.drop k).take m):=by
 intro j v hj
 simp only [List.getElem?_take,List.getElem?_drop] at hj
 split at hj
 ·have:=h (k+j) v hj
  rwa [Nat.add_assoc]
 ·cases hj
section
variable {P:Program} {n:Nat} {Q:Exit→fG→World→Prop} {ρ:fG} {w:World} {l0 rest:List Oper}
variable {d:Nat} {ty:TypeId} {pos:String} {af:Array Edge} {gd:Option (Nat × Bool)}
theorem zZ {T:TypeId} {b off:Nat} {v:Value} (hT:iV P T=true) (h:w.cell? ⟨b,off,none⟩=some v):(loadVar T ⟨b,off,none⟩).run P w=.ok v w:=by
 simp only [loadVar,Sem.run_bind,(aBl hT w).1,Result.andThen_ok]
 simp [run_load,h]
theorem fZ {T m:Nat} {b off:Nat} {l:List Value} (hT:jA P T=some m) (hm:l.length=m) (h:dL w b off l):(loadVar T ⟨b,off,none⟩).run P w=.ok (.agg l.toArray) w:=by
 obtain ⟨h1,h2,h3⟩:=pR hT w
 simp only [loadVar,Sem.run_bind,h1,Result.andThen_ok,if_true,eI h3,h2]
 have:(loadCells ⟨b,off,none⟩ m).run P w=.ok l.toArray w:=by
  rw [← hm]
  exact run_loadCells_list w _ l (fun j v hj=>by rw [eV];exact h j v hj)
 simp [this]
theorem aWz {T:TypeId} {x:Operand} {b off:Nat} (v:Value) (hT:iV P T=true) (hx:ev ρ x=.pointer (some ⟨b,off,none⟩)) (hc:w.cell? ⟨b,off,none⟩=some v):kS P ρ w (.load T x) v:=fun dst ty pos af gd=>(by simp [execOp,hx,Instr.loadAt,Instr.sureAddr,zZ hT hc])
theorem aEa {T m:Nat} {x:Operand} {b off:Nat} (l:List Value) (hT:jA P T=some m) (hx:ev ρ x=.pointer (some ⟨b,off,none⟩)) (hm:l.length=m) (hc:dL w b off l):kS P ρ w (.load T x) (.agg l.toArray):=fun dst ty pos af gd=>(by simp [execOp,hx,Instr.loadAt,Instr.sureAddr,fZ hT hm hc])
variable {w0:World} {X:List Nat} {S:List eL}
theorem Mem.at_ {i b:Nat} {o:Obj} (M:Mem w0 X S w) (hi:gD S i=some (some b,o)):w.heap[b]? = some o:=by
 rw [jS] at hi
 exact (M.own b o (List.mem_of_getElem? hi)).1
theorem aK (i:Nat) {T:TypeId} {x:Operand} {b off:Nat} {l:List Value} {T':TypeId} (v:Value) (hT:iV P T=true) (M:Mem w0 X S w) (hx:ev ρ x=.pointer (some ⟨b,off,none⟩))
  (hi:gD S i=some (some b,bc l T')) (hv:nth l off=some v):kS P ρ w (.load T x) v:=aWz v hT  hx (by rw [lD (M.at_ hi),← nQ];exact hv)
theorem qZ (i:Nat) {T m:Nat} {x:Operand} {b off:Nat} {l:List Value} {T':TypeId} (v:List Value) (hT:jA P T=some m) (M:Mem w0 X S w) (hx:ev ρ x=.pointer (some ⟨b,off,none⟩))
  (hi:gD S i=some (some b,bc l T')) (hv:(l.drop off).take m=v) (hl:v.length=m):kS P ρ w (.load T x) (.agg v.toArray):=aEa v hT  hx hl (dL.of_heap (M.at_ hi) (by rw [hl];exact hv.symm))
theorem aD {s f:Nat} (off':Nat) {x:Operand} {b off:Nat} (hf:eT P s f off'=true) (hx:ev ρ x=.pointer (some ⟨b,off,none⟩)):kS P ρ w (.fieldAddr s x f) (.pointer (some ⟨b,off+off',none⟩)):=by
 intro dst ty pos af gd
 unfold eT at hf
 cases hu:P.underlying s with
 | none=>simp [hu] at hf
 | some D =>
  cases D <;> simp [hu] at hf
  rename_i fs
  cases hx':fs[f]? with
  | none=>simp [hx'] at hf
  | some fd =>
   simp [hx'] at hf
   obtain ⟨⟨h1,h2⟩,h3⟩:=hf
   simp [execOp,hx,Instr.fieldAt,bW hu,hx',Instr.sureAddr,fieldPlace,eI h3,h2,eV,h1]
theorem aR {T:TypeId} {z:List Value} (hz:gQ P T=some z) (M:Mem w0 X S w) (hg:nA l0 ρ gd=true) (hd:Nat.blt d n=true)
  (h:∀ b w',Mem w0 X (S++[(some b,bc z T)]) w'→wl P n l0 rest Q (upd ρ d (.pointer (some ⟨b,0,none⟩))) w'):wl P n l0 (⟨some d,.alloc T,ty,pos,af,gd⟩::rest) Q ρ w:=by
 refine nT hg hd ?_ (h w.heap.size _ (M.alloc _))
 unfold gQ at hz
 cases hi:P.info? T with
 | none=>simp [hi] at hz
 | some i =>
  cases hz':i.zero with
  | none=>simp [hi,hz'] at hz
  | some v =>
   simp [hi,hz'] at hz
   subst hz
   simp [execOp,Instr.alloc,zeroValue,typeInfo,hi,hz',newVar,newRow,bc]
theorem bN {T:TypeId} {x:Operand} (v:Value) (M:Mem w0 X S w) (hg:nA l0 ρ gd=true) (hd:Nat.blt d n=true) (hx:ev ρ x=v)
  (h:∀ b w',Mem w0 X (S++[(some b,bc (fN v) T)]) w'→wl P n l0 rest Q (upd ρ d (.pointer (some ⟨b,0,none⟩))) w'):wl P n l0 (⟨some d,.box T x,ty,pos,af,gd⟩::rest) Q ρ w:=by
 refine nT hg hd ?_ (h w.heap.size _ (M.alloc _))
 simp [execOp,Instr.box,newVar,newRow,bc,hx,wH]
def one (v:Value):Bool:=match v with | .agg _ | .tuple _=>false | _=>true
theorem tI {w:World} {b off:Nat} {l:List Value} {T:TypeId} {fr:Nat × Nat} (h:w.heap[b]? = some (bm l T fr)) (hf:bBk fr l.length) (ho:off < l.length):w.frozen? ⟨b,off,none⟩=false:=by
 obtain ⟨lo,hi⟩:=fr
 simp [World.frozen?,h,bm]
 rcases hf with h | h
 ·injection h with h1 h2;omega
 ·have:l.length≤lo:=h
  omega
theorem zE (w:World) (b off:Nat) (v:Value) (l:List Value) (T:TypeId) (fr:Nat × Nat) (h:w.heap[b]? = some (bm l T fr)) :
  (w.setCell ⟨b,off,none⟩ v).heap[b]? = some (bm (l.set off v) T fr)∧∀ c,c≠b→(w.setCell ⟨b,off,none⟩ v).heap[c]? = w.heap[c]? := by
 constructor
 ·simp [World.setCell,Array.getElem?_modify,h,bm]
 ·intro c hc
  simp only [World.setCell,Array.getElem?_modify]
  rw [if_neg (fun e=>hc e.symm)]
theorem Mem.setCellM {i b off:Nat} {l:List Value} {T:TypeId} {fr:Nat × Nat} (M:Mem w0 X S w) (hi:gD S i=some (some b,bm l T fr)) (v:Value) :
  Mem w0 X (S.set i (some b,bm (l.set off v) T fr)) (w.setCell ⟨b,off,none⟩ v):=by
 have h:=M.at_ hi
 rw [jS] at hi
 exact M.write hi _ ⟨rfl,rfl,rfl,by simp [World.setCell]⟩ (zE w b off v l T fr h).1 (zE w b off v l T fr h).2
theorem Mem.setCell {i b off:Nat} {l:List Value} {T:TypeId} (M:Mem w0 X S w) (hi:gD S i=some (some b,bc l T)) (v:Value) :
  Mem w0 X (S.set i (some b,bc (l.set off v) T)) (w.setCell ⟨b,off,none⟩ v):=Mem.setCellM (fr:=(0,0)) M hi v
theorem bHz (i:Nat) {T:TypeId} {x y:Operand} {b off:Nat} {l:List Value} {T':TypeId} {fr:Nat × Nat} (v:Value) (hT:iV P T=true) (M:Mem w0 X S w) (hg:nA l0 ρ gd=true) (hx:ev ρ x=.pointer (some ⟨b,off,none⟩)) (hy:ev ρ y=v) (h1:one v=true)
  (hi:gD S i=some (some b,bm l T' fr)) (hf:bBk fr l.length) (hoff:(nth l off).isSome=true) (h:∀ w',Mem w0 X (S.set i (some b,bm (l.set off v) T' fr)) w'→wl P n l0 rest Q ρ w'):wl P n l0 (⟨none,.store T x y,ty,pos,af,gd⟩::rest) Q ρ w:=by
 refine rF hg ?_ (h _ (M.setCellM hi v))
 obtain ⟨h2,h3,h4⟩:=aBl hT w
 have hh:=M.at_ hi
 obtain ⟨u,hu⟩:=Option.isSome_iff_exists.1 hoff
 have hc:w.cell? ⟨b,off,none⟩=some u:=by rw [lD hh,← nQ];exact hu
 have hcs:v.cells=#[v]:=by cases v <;> simp [Value.cells,one] at h1 ⊢
 have h1':v.oneCell'=true:=by cases v <;> simp [Value.oneCell',one] at h1 ⊢
 have hlo:off < l.length:=by rw [nQ] at hu;exact (List.getElem?_eq_some_iff.1 hu).1
 simp [execOp,hx,hy,Instr.storeAt,Instr.sureAddr,storeVar,hcs,eI h4,h3,storeCells,eV,run_store P w _ v .plain h1',hc,tI hh hf hlo]
theorem dA (i:Nat) {T:TypeId} {x y:Operand} {b off:Nat} {l:List Value} {T':TypeId} (v:Value) (hT:iV P T=true) (M:Mem w0 X S w) (hg:nA l0 ρ gd=true) (hx:ev ρ x=.pointer (some ⟨b,off,none⟩)) (hy:ev ρ y=v) (h1:one v=true)
  (hi:gD S i=some (some b,bc l T')) (hoff:(nth l off).isSome=true) (h:∀ w',Mem w0 X (S.set i (some b,bc (l.set off v) T')) w'→wl P n l0 rest Q ρ w'):wl P n l0 (⟨none,.store T x y,ty,pos,af,gd⟩::rest) Q ρ w :=
 bHz (fr:=(0,0)) i v hT M hg hx hy h1 hi (.inl rfl) hoff h
def nE (l:List Value) (off:Nat):List Value→List Value
 | []=>l
 | v::vs=>nE (l.set off v) (off+1) vs
theorem mC {i b:Nat} {T:TypeId} {fr:Nat × Nat}:∀ (vs:List Value) (off j:Nat) (l:List Value) (S:List eL) (w:World),Mem w0 X S w→gD S i=some (some b,bm l T fr)→bBk fr l.length→(∀ v∈vs,one v=true)→off+j+vs.length≤l.length →
  ∃ w',(storeCells ⟨b,off,none⟩ vs j).run P w=.ok () w'∧Mem w0 X (S.set i (some b,bm (nE l (off+j) vs) T fr)) w'
 | [],off,j,l,S,w,M,hi,_,_,_=>⟨w,rfl,by
   rw [jS] at hi
   have e:S.set i (some b,bm (nE l (off+j) []) T fr)=S:=by
    refine List.ext_getElem? fun k => ?_
    by_cases hk:i=k
    ·subst hk
     rw [List.getElem?_set_self (List.getElem?_eq_some_iff.1 hi).1,hi]
     rfl
    ·rw [List.getElem?_set_ne hk]
   rw [e]
   exact M⟩
 | v::vs,off,j,l,S,w,M,hi,hf,h1,hl=>by
  simp only [List.length_cons] at hl
  have hh:=M.at_ hi
  have hv:=h1 v (by simp)
  have h1':v.oneCell'=true:=by cases v <;> simp [Value.oneCell',one] at hv ⊢
  have hc:w.cell? ⟨b,off+j,none⟩=some (l[off+j]'(by omega)):=by rw [lD hh];exact List.getElem?_eq_getElem _
  have M':=M.setCellM (off:=off+j) hi v
  have hi':gD (S.set i (some b,bm (l.set (off+j) v) T fr)) i=some (some b,bm (l.set (off+j) v) T fr):=by
   rw [jS] at hi ⊢
   rw [List.getElem?_set_self (List.getElem?_eq_some_iff.1 hi).1]
  obtain ⟨w',hw',M''⟩:=mC vs off (j+1) _ _ _ M' hi' (by simpa using hf) (fun v hv=>h1 v (by simp [hv])) (by simp;omega)
  refine ⟨w', ?_, ?_⟩
  ·simp [storeCells,eV,run_store P w _ v .plain h1',hc,tI hh hf (show off+j < l.length by omega)]
   exact hw'
  ·rw [List.set_set] at M''
   exact M''
theorem aXp (i:Nat) {T m:Nat} {x y:Operand} {b off:Nat} {l:List Value} {T':TypeId} {fr:Nat × Nat} (v:List Value) (hT:jA P T=some m) (M:Mem w0 X S w) (hg:nA l0 ρ gd=true) (hx:ev ρ x=.pointer (some ⟨b,off,none⟩)) (hy:ev ρ y=.agg v.toArray)
  (hi:gD S i=some (some b,bm l T' fr)) (hf:bBk fr l.length) (hm:v.length=m) (h1:∀ u∈v,one u=true) (hoff:off+v.length≤l.length)
  (h:∀ w',Mem w0 X (S.set i (some b,bm (nE l off v) T' fr)) w'→wl P n l0 rest Q ρ w'):wl P n l0 (⟨none,.store T x y,ty,pos,af,gd⟩::rest) Q ρ w:=by
 obtain ⟨w',hw',M'⟩:=mC (P:=P) v off 0 l S w M hi hf h1 (by omega)
 refine rF hg ?_ (h w' (by simpa using M'))
 obtain ⟨h2,h3,h4⟩:=pR hT w
 simp [execOp,hx,hy,Instr.storeAt,Instr.sureAddr,storeVar,Value.cells,eI h4,h3,hm,hw']
theorem vB (i:Nat) {T m:Nat} {x y:Operand} {b off:Nat} {l:List Value} {T':TypeId} (v:List Value) (hT:jA P T=some m) (M:Mem w0 X S w) (hg:nA l0 ρ gd=true) (hx:ev ρ x=.pointer (some ⟨b,off,none⟩)) (hy:ev ρ y=.agg v.toArray)
  (hi:gD S i=some (some b,bc l T')) (hm:v.length=m) (h1:∀ u∈v,one u=true) (hoff:off+v.length≤l.length)
  (h:∀ w',Mem w0 X (S.set i (some b,bc (nE l off v) T')) w'→wl P n l0 rest Q ρ w'):wl P n l0 (⟨none,.store T x y,ty,pos,af,gd⟩::rest) Q ρ w :=
 aXp (fr:=(0,0)) i v hT M hg hx hy hi (.inl rfl) hm h1 hoff h
theorem aRa:∀ (l v:List Value),l.length=v.length→nE l 0 v=v:=by
 have gen:∀ (v p l:List Value),l.length=v.length→nE (p++l) p.length v=p++v:=by
  intro v
  induction v with
  | nil=>intro p l h;have:l=[]:=List.eq_nil_of_length_eq_zero h;subst this;rfl
  | cons x v ih =>
   intro p l h
   cases l with
   | nil=>simp at h
   | cons y l =>
    simp only [nE]
    have e:(p++y::l).set p.length x=(p++[x])++l:=by simp
    rw [e]
    have:=ih (p++[x]) l (by simpa using h)
    simp only [List.length_append,List.length_cons,List.length_nil] at this
    simpa using this
 intro l v h
 have:=gen v [] l h
 simpa using this
theorem bG (i:Nat) {T m:Nat} {x y:Operand} {b:Nat} {l:List Value} {T':TypeId} (v:List Value) (hT:jA P T=some m) (M:Mem w0 X S w) (hg:nA l0 ρ gd=true) (hx:ev ρ x=.pointer (some ⟨b,0,none⟩)) (hy:ev ρ y=.agg v.toArray)
  (hi:gD S i=some (some b,bc l T')) (hm:v.length=m) (h1:∀ u∈v,one u=true) (hl:l.length=m)
  (h:∀ w',Mem w0 X (S.set i (some b,bc v T')) w'→wl P n l0 rest Q ρ w'):wl P n l0 (⟨none,.store T x y,ty,pos,af,gd⟩::rest) Q ρ w :=
 vB i v hT M hg hx hy hi hm h1 (by omega) (fun w' M'=>h w' (by rw [aRa l v (by omega)] at M';exact M'))
end
def fQ (P:Program) (t e sz bytes:Nat):Bool :=
 match P.underlying t with
 | some (.slice e')=>e' == e && (P.info? e).isSome && P.cellsOf e == sz && P.bytesOf e == bytes && sz != 0 && bytes != 0 && (match nI P e with | some v=>v.cells.size == sz | none=>false)
 | _=>false
theorem gP {P:Program} {t e sz bytes:Nat} (h:fQ P t e sz bytes=true) :
  P.underlying t=some (.slice e)∧(P.info? e).isSome=true∧P.cellsOf e=sz∧P.bytesOf e=bytes∧sz≠0∧bytes≠0∧∃ v,nI P e=some v∧v.cells.size=sz:=by
 unfold fQ at h
 cases hu:P.underlying t with
 | none=>simp [hu] at h
 | some d =>
  cases d <;> simp [hu] at h
  obtain ⟨⟨⟨⟨⟨⟨rfl,h2⟩,h3⟩,h4⟩,h5⟩,h6⟩,h7⟩:=h
  refine ⟨Z,h2,h3,h4,h5,h6, ?_⟩
  split at h7
  ·rename_i v hv;exact ⟨v,hv,by simpa using h7⟩
  ·cases h7
structure Rd (w:World) (sz:Nat) (A:Option Addr) (n:Nat) (ls:List (List Value)):Prop where
 len:ls.length=n
 each:∀ l∈ls,l.length=sz
 bound:n≤281474976710656
 at_:0 < n→∃ b off,A=some ⟨b,off,none⟩∧b < w.heap.size∧∀ (i:Nat) l,ls[i]? = some l→dL w b (off+i*sz) l
theorem Rd.nil (w:World) (sz:Nat) (A:Option Addr):Rd w sz A 0 []:=⟨rfl,by simp,by omega,by omega⟩
theorem Rd.keep {w w':World} {sz n:Nat} {A:Option Addr} {ls:List (List Value)} (h:Rd w sz A n ls) (hs:w.heap.size≤w'.heap.size) (hb:∀ b off,A=some ⟨b,off,none⟩→b < w.heap.size→w'.heap[b]? = w.heap[b]?):Rd w' sz A n ls:=by
 refine ⟨h.len,h.each,h.bound,fun hn => ?_⟩
 obtain ⟨b,off,hA,hlt,hc⟩:=h.at_ hn
 refine ⟨b,off,hA,Nat.lt_of_lt_of_le hlt hs,fun i l hl j v hj => ?_⟩
 rw [← hc i l hl j v hj]
 simp [World.cell?,hb b off hA hlt]
theorem Rd.mem {w0 w:World} {S:List eL} {sz n:Nat} {A:Option Addr} {ls:List (List Value)} (h:Rd w0 sz A n ls) (M:Mem w0 [] S w):Rd w sz A n ls :=
 h.keep M.size fun b off _ hlt=>M.old b hlt (by simp)
theorem Rd.memX {w0 w:World} {X:List Nat} {S:List eL} {sz n:Nat} {A:Option Addr} {ls:List (List Value)} (h:Rd w0 sz A n ls) (M:Mem w0 X S w) (hX:∀ b off,A=some ⟨b,off,none⟩→b∉X):Rd w sz A n ls :=
 h.keep M.size fun b off hA hlt=>M.old b hlt (hX b off hA)
theorem Rd.below {w w':World} {sz n:Nat} {A:Option Addr} {ls:List (List Value)} (h:Rd w sz A n ls) (hb:Below w.heap.size w w'):Rd w' sz A n ls :=
 h.keep hb.size fun b off _ hlt=>hb.block b hlt
theorem Rd.part {w:World} {sz n b off:Nat} {ls:List (List Value)} (h:Rd w sz (some ⟨b,off,none⟩) n ls) (i k:Nat) (hik:i+k≤n):Rd w sz (some ⟨b,off+i*sz,none⟩) k ((ls.drop i).take k):=by
 refine ⟨by simp [h.len];omega,fun l hl=>h.each l (List.mem_of_mem_drop (List.mem_of_mem_take hl)),by have:=h.bound;omega,fun hk => ?_⟩
 obtain ⟨b',off',hA,hlt,hc⟩:=h.at_ (by omega)
 injection hA with hA
 injection hA with h1 h2
 subst h1 h2
 refine ⟨b,off+i*sz,Z,hlt,fun j l hl => ?_⟩
 simp only [List.getElem?_take,List.getElem?_drop] at hl
 split at hl
 ·have:=hc (i+j) l hl
  rwa [Nat.add_mul,← Nat.add_assoc] at this
 ·cases hl
section
variable {P:Program} {n:Nat} {Q:Exit→fG→World→Prop} {ρ:fG} {w:World} {l0 rest:List Oper}
variable {d:Nat} {ty:TypeId} {pos:String} {af:Array Edge} {gd:Option (Nat × Bool)}
variable {w0:World} {X:List Nat} {S:List eL}
def aZ (T sz:Nat) (A:Option Addr) (n c:Nat) (ls:List (List Value)) (e:eL):Prop :=
 ls.length=n∧(∀ l∈ls,l.length=sz)∧n≤281474976710656 ∧
  ((A=none∧n=0∧c=0∧e.1=none)∨∃ b L fr,A=some ⟨b,0,none⟩∧e=(some b,bm L T fr)∧(fr=(0,0)∨sz=1∧L.length≤fr.1)∧n≤c∧L.length=c*sz∧L.take (n*sz)=ls.flatten)
theorem bJn {fr:Nat × Nat} {sz k:Nat} (h:fr=(0,0)∨sz=1∧k≤fr.1):bBk fr k:=h.imp id (·.2)
theorem aZ.nil (T sz:Nat) (o:Obj):aZ T sz none 0 0 [] (none,o):=⟨rfl,by simp,by omega,.inl ⟨rfl,rfl,rfl,rfl⟩⟩
theorem aMh:∀ (ls:List (List Value)) (sz:Nat),(∀ l∈ls,l.length=sz)→∀ (i:Nat) l,ls[i]? = some l→(ls.flatten.drop (i*sz)).take sz=l
 | [],_,_,i,l,h=>by simp at h
 | x::ls,sz,he,0,l,h=>by
  simp only [List.getElem?_cons_zero,Option.some.injEq] at h
  subst h
  have:=he x (by simp)
  simp [this]
 | x::ls,sz,he,i+1,l,h=>by
  simp only [List.getElem?_cons_succ] at h
  have hx:=he x (by simp)
  have ih:=aMh ls sz (fun l hl=>he l (by simp [hl])) i l h
  simp only [List.flatten_cons]
  rw [show (i+1)*sz=x.length+i*sz by rw [hx,Nat.add_mul,Nat.one_mul,Nat.add_comm],← List.drop_drop,List.drop_left]
  exact ih
theorem iA:∀ (ls:List (List Value)) (sz:Nat),(∀ l∈ls,l.length=sz)→ls.flatten.length=ls.length*sz
 | [],_,_=>by simp
 | x::ls,sz,he=>by
  simp only [List.flatten_cons,List.length_append,List.length_cons,he x (by simp),iA ls sz (fun l hl=>he l (by simp [hl])),Nat.add_mul,Nat.one_mul]
  omega
theorem aZ.rd {T sz:Nat} {A:Option Addr} {m c:Nat} {ls:List (List Value)} {e:eL} (h:aZ T sz A m c ls e) (M:Mem w0 X S w) (he:e∈S):Rd w sz A m ls:=by
 obtain ⟨h1,h2,h3,h4⟩:=h
 refine ⟨h1,h2,h3,fun hm => ?_⟩
 rcases h4 with ⟨_,h5,_⟩ | ⟨b,L,fr,rfl,rfl,_,hn,hL,ht⟩
 ·omega
 ·have hh:=(M.own b _ he).1
  refine ⟨b,0,Z,M.lt he,fun i l hl => ?_⟩
  rw [Nat.zero_add]
  have hlen:=h2 l (List.mem_of_getElem? hl)
  have hi:i < m:=by rw [← h1];exact (List.getElem?_eq_some_iff.1 hl).1
  refine dL.of_heap (l:=L) (T:=T) (fr:=fr) hh ?_
  rw [hlen]
  have e1:=aMh ls sz h2 i l hl
  rw [← ht] at e1
  rw [← e1,List.drop_take,List.take_take]
  congr 1
  have:i*sz+sz≤m*sz:=by
   have:=Nat.mul_le_mul_right sz (show i+1≤m by omega)
   rwa [Nat.add_mul,Nat.one_mul] at this
  omega
theorem aZ.slice {T sz:Nat} {A:Option Addr} {m c:Nat} {ls:List (List Value)} {e:eL} (h:aZ T sz A m c ls e):m≤c:=by
 rcases h.2.2.2 with ⟨_,h1,h2,_⟩ | ⟨_,_,_,_,_,_,h1,_⟩ <;> omega
theorem Mem.replace {i:Nat} {e':eL} (M:Mem w0 X (S++[e']) w) (hi:i < S.length):Mem w0 X (S.set i e') w:=by
 have h1:(S.set i e').Perm (e'::S.eraseIdx i):=by
  rw [List.set_eq_take_append_cons_drop,if_pos hi,List.eraseIdx_eq_take_drop_succ]
  exact List.perm_middle
 have h2:(S++[e']).Perm (e'::S):=List.perm_append_singleton e' S
 exact ((M.perm h2).sub ((List.eraseIdx_sublist S i).cons_cons e')).perm h1.symm
theorem aHa {sz m b off:Nat} {c:Nat} {l:List Value} (hl:l.length=m*sz) (C:dL w b off l):(Builtin.firstCells sz m (.slice (some ⟨b,off,none⟩) m c)).run P w=.ok l.toArray w:=by
 simp only [Builtin.firstCells]
 rw [← hl]
 exact run_loadCells_list w _ l (fun j v hj=>by rw [eV];exact C j v hj)
theorem aUc {t e sz bytes i:Nat} {A:Option Addr} {m c:Nat} {ls ys:List (List Value)} {en:eL} {b2 off2 k c2:Nat}
  (ht:fQ P t e sz bytes=true) (hR:aZ e sz A m c ls en) (M:Mem w0 X S w) (hi:S[i]? = some en)
  (hk:ys.length=k) (hys:∀ y∈ys,y.length=sz∧∀ u∈y,one u=true) (C:dL w b2 off2 ys.flatten) (hb:(m+k)*bytes≤140737488355328) (ty':TypeId) :
  ∃ A' c' en' w',(Builtin.append_ #[t,t] ty' #[.slice A m c,.slice (some ⟨b2,off2,none⟩) k c2]).run P w=.ok (.slice A' (m+k) c') w'∧Mem w0 X (S.set i en') w'∧aZ e sz A' (m+k) c' (ls++ys) en':=by
 obtain ⟨h1,h2,h3,h4,h5,h6,zv,hzv,hzs⟩:=gP ht
 obtain ⟨r1,r2,r3,r4⟩:=hR
 have hflat:ys.flatten.length=k*sz:=by rw [iA ys sz (fun y hy=>(hys y hy).1),hk]
 have hx:=aHa (P:=P) (c:=c2) hflat C
 have hmb:m+k≤140737488355328:=Nat.le_trans (Nat.le_mul_of_pos_right _ (Nat.pos_of_ne_zero h6)) hb
 have hsl:i < S.length:=(List.getElem?_eq_some_iff.1 hi).1
 have hlsys:(ls++ys).length=m+k:=by simp [r1,hk]
 have hall:∀ l∈ls++ys,l.length=sz:=fun l hl=>by
  rcases List.mem_append.1 hl with h | h
  ·exact r2 l h
  ·exact (hys l h).1
 have e0:(#[t,t]:Array TypeId)[0]? = some t:=rfl
 by_cases hroom:m+k≤c
 ·
  rcases r4 with ⟨rfl,rfl,rfl,_⟩ | ⟨b,L,fr,rfl,rfl,hfr,hmc,hL,hT⟩
  ·have hk0:k=0:=by omega
   subst hk0
   have hy0:ys=[]:=List.eq_nil_of_length_eq_zero hk
   subst hy0
   refine ⟨none,0,en,w, ?_, ?_, ?_⟩
   ·have hx':(Builtin.firstCells sz 0 (.slice (some ⟨b2,off2,none⟩) 0 c2)).run P w=.ok #[] w:=by simpa using hx
    simp [Builtin.append_,bW h1,eI h2,h3,Builtin.lenOf,hx']
   ·have e:S.set i en=S:=by
     refine List.ext_getElem? fun q => ?_
     by_cases hq:i=q
     ·subst hq;rw [List.getElem?_set_self hsl,hi]
     ·rw [List.getElem?_set_ne hq]
    rw [e];exact M
   ·refine ⟨by simpa using r1,by simpa using r2,by omega,.inl ⟨rfl,rfl,rfl, ?_⟩⟩
    assumption
  ·have hLle:m*sz+k*sz≤L.length:=by
    rw [hL,← Nat.add_mul]
    exact Nat.mul_le_mul_right sz hroom
   have hi':gD S i=some (some b,bm L e fr):=by rw [jS];exact hi
   obtain ⟨w',hw',M'⟩:=mC (P:=P) ys.flatten (m*sz) 0 L S w M hi' (bJn hfr) (fun v hv=>by
    obtain ⟨y,hy,hv'⟩:=List.mem_flatten.1 hv
    exact (hys y hy).2 v hv') (by rw [hflat];omega)
   rw [Nat.add_zero] at M'
   refine ⟨some ⟨b,0,none⟩,c,_,w', ?_,M', ?_⟩
   ·have ha:(⟨b,0,none⟩:Addr).add (m*sz)=⟨b,m*sz,none⟩:=by rw [eV,Nat.zero_add]
    simp [Builtin.append_,bW h1,eI h2,h3,Builtin.lenOf,hx,hroom,ha,hw']
   ·have hset:∀ (vs l:List Value) (o:Nat),o+vs.length≤l.length→nE l o vs=l.take o++vs++l.drop (o+vs.length):=by
     intro vs
     induction vs with
     | nil=>intro l o h;simp [nE]
     | cons v vs ih =>
      intro l o h
      simp only [List.length_cons] at h
      simp only [nE]
      rw [ih _ _ (by simp;omega)]
      apply List.ext_getElem?
      intro q
      simp only [List.getElem?_append,List.length_append,List.length_take,List.length_set,List.getElem?_take,List.getElem?_set,List.getElem?_drop,List.length_cons]
      grind
    have hs:=hset ys.flatten L (m*sz) (by rw [hflat];omega)
    have hsl':(nE L (m*sz) ys.flatten).length=L.length:=by
     rw [hs]
     simp only [List.length_append,List.length_take,List.length_drop,hflat]
     omega
    refine ⟨hlsys,hall,by omega,.inr ⟨b,_,fr,Z,Z,by rw [hsl'];exact hfr,hroom, ?_, ?_⟩⟩
    ·rw [hs]
     simp only [List.length_append,List.length_take,List.length_drop,hflat,hL]
     rw [hL] at hLle
     omega
    ·rw [hs,List.flatten_append,← hT,Nat.add_mul]
     rw [List.take_append_of_le_length (by simp [hflat];omega)]
     rw [List.take_of_length_le (by simp [hflat];omega)]
 ·
  obtain ⟨zi,hzi⟩:∃ zi,P.info? e=some zi:=Option.isSome_iff_exists.1 h2
  have hz':zi.zero=some zv:=by simpa [nI,hzi] using hzv
  have hsize:zi.size=sz:=by simpa [Program.cellsOf,hzi] using h3
  have hbytes:zi.bytes=bytes:=by simpa [Program.bytesOf,hzi] using h4
  have hcap:m+k≤grownCap w (m+k) c e:=Nat.le_add_right _ _
  have M1:Mem w0 X S w.drew:=⟨M.os,M.tape,M.output,M.size,M.old,M.own,M.apart⟩
  have fin:∀ (L:Array Value),L=(ls.flatten++ys.flatten).toArray++Builtin.zeroCells zv.cells (grownCap w (m+k) c e - (m+k)) →
    ∃ en',Mem w0 X (S.set i en') (w.drew.alloc (.cells L e))∧aZ e sz (some ⟨w.heap.size,0,none⟩) (m+k) (grownCap w (m+k) c e) (ls++ys) en':=by
   intro L hL
   refine ⟨(some w.heap.size,bc L.toList e), ?_,hlsys,hall,by omega,.inr ⟨_,_,(0,0),Z,Z,.inl Z,hcap, ?_, ?_⟩⟩
   ·have:=M1.alloc (bc L.toList e)
    have e1:bc L.toList e=.cells L e (0,0):=by simp [bc]
    rw [e1] at this ⊢
    exact this.replace hsl
   ·rw [hL]
    simp only [Array.toList_append,List.length_append,iA ls sz r2,iA ys sz (fun y hy=>(hys y hy).1),r1,hk,Array.length_toList,size_zeroCells,hzs,← Nat.add_mul]
    congr 1
    omega
   ·rw [hL]
    simp only [Array.toList_append]
    rw [List.take_append_of_le_length (by simp [iA ls sz r2,iA ys sz (fun y hy=>(hys y hy).1),r1,hk,Nat.add_mul]),
     List.take_of_length_le (by simp [iA ls sz r2,iA ys sz (fun y hy=>(hys y hy).1),r1,hk,Nat.add_mul])]
    simp
  have h48:Builtin.nextslicecap (m+k) c*zi.bytes≤281474976710656:=by rw [hbytes];exact growslice_fits (by omega) hb
  have hnews:∀ j v,ys.flatten[j]? = some v→w.cell? ((⟨b2,off2,none⟩:Addr).add j)=some v:=fun j v hj=>by rw [eV];exact C j v hj
  rcases r4 with ⟨rfl,rfl,rfl,_⟩ | ⟨b,L,fr,rfl,rfl,hfr,hmc,hL,hT⟩
  ·have h0:ls=[]:=List.eq_nil_of_length_eq_zero r1
   subst h0
   have hr:=run_append_nil (P:=P) w t ty' e zi zv h1 hzi hz' ⟨b2,off2,none⟩ k c2 ys.flatten (by rw [hsize];exact hflat) hnews (by omega) (by omega) (by
    rw [Nat.zero_add] at h48
    rw [nextslicecap_zero (by omega)] at h48
    exact h48)
   obtain ⟨en',q1,q2⟩:=fin (ys.flatten.toArray++Builtin.zeroCells zv.cells (grownCap w k 0 e - k)) (by simp [Nat.zero_add])
   have e3:0+k=k:=Nat.zero_add k
   rw [e3] at q2 ⊢
   exact ⟨_,_,en',_,hr,q1,q2⟩
  ·have hh:=(M.own b _ (List.mem_of_getElem? hi)).1
   have holds:∀ j v,ls.flatten[j]? = some v→w.cell? ((⟨b,0,none⟩:Addr).add j)=some v:=fun j v hj=>by
    rw [eV]
    exact dL.of_heap (l:=L) (T:=e) (fr:=fr) hh (by rw [iA ls sz r2,r1,List.drop_zero,hT]) j v hj
   have hr:=run_append_grow (P:=P) w t ty' e zi zv h1 hzi hz' ⟨b,0,none⟩ m c ls.flatten (by rw [hsize,iA ls sz r2,r1]) holds ⟨b2,off2,none⟩ k c2 ys.flatten (by rw [hsize];exact hflat) hnews (by omega) (by omega) h48
   obtain ⟨en',q1,q2⟩:=fin (ls.flatten.toArray++ys.flatten.toArray++Builtin.zeroCells zv.cells (grownCap w (m+k) c e - (m+k))) (by simp)
   exact ⟨_,_,en',_,hr,q1,q2⟩
theorem cW (i:Nat) {t e sz bytes:Nat} {x y:Operand} {A:Option Addr} {m c:Nat} {ls:List (List Value)} {en:eL} {b2 off2 k c2:Nat} (ys:List (List Value))
  (ht:fQ P t e sz bytes=true) (M:Mem w0 X S w) (hg:nA l0 ρ gd=true) (hd:Nat.blt d n=true) (hx:ev ρ x=.slice A m c) (hy:ev ρ y=.slice (some ⟨b2,off2,none⟩) k c2) (hi:gD S i=some en) (hR:aZ e sz A m c ls en)
  (hk:ys.length=k) (hys:∀ y∈ys,y.length=sz∧∀ u∈y,one u=true) (C:dL w b2 off2 ys.flatten) (hb:(m+k)*bytes≤140737488355328)
  (h:∀ A' c' en' w',Mem w0 X (S.set i en') w'→aZ e sz A' (m+k) c' (ls++ys) en'→wl P n l0 rest Q (upd ρ d (.slice A' (m+k) c')) w') :
  wl P n l0 (⟨some d,.call ⟨.builtin .append,[x,y].toArray,[t,t].toArray⟩,ty,pos,af,gd⟩::rest) Q ρ w:=by
 rw [jS] at hi
 obtain ⟨A',c',en',w',h1,h2,h3⟩:=aUc (P:=P) (c2:=c2) ht hR M hi hk hys C hb ty
 exact nT hg hd (by simp [execOp,hx,hy,resolve,invoke,builtin,h1]) (h A' c' en' w' h2 h3)
end
def aBd:List Value→Nat
 | []=>0
 | _::l=>aBd l+1
theorem zH:∀ l:List Value,aBd l=l.length
 | []=>rfl
 | _::l=>by simp [aBd,zH l]
def aCd (place:Nat→Option (Nat × Nat)) (cs:List Value):List (Nat × Value)→Option (List Value)
 | []=>some cs
 | (i,v)::r =>
  match place i with
  | none=>none
  | some (off,size)=>bif Nat.beq (aBd (fN v)) size && Nat.ble (off+aBd (fN v)) (aBd cs) then aCd place (nE cs off (fN v)) r else none
theorem mT:∀ (vs l:List Value) (o:Nat),(nE l o vs).length=l.length
 | [],_,_=>rfl
 | v::vs,l,o=>by simp [nE,mT vs]
theorem aFp:∀ (vs l:List Value) (off k:Nat),(vs.zipIdx k).foldl (fun (cs:Array Value) (p:Value × Nat)=>cs.setIfInBounds (off+p.2) p.1) l.toArray=(nE l (off+k) vs).toArray
 | [],l,off,k=>rfl
 | v::vs,l,off,k=>by
  simp only [List.zipIdx_cons,List.foldl_cons,List.setIfInBounds_toArray,nE]
  exact aFp vs _ off (k+1)
theorem aDv (place:Nat→Option (Nat × Nat)):∀ (ps:List (Nat × Value)) (cs r:List Value),aCd place cs ps=some r→Instr.fill place cs.toArray ps=some r.toArray
 | [],cs,r,h=>by simp [aCd] at h;simp [Instr.fill,h]
 | (i,v)::ps,cs,r,h=>by
  unfold aCd at h
  unfold Instr.fill
  cases hp:place i with
  | none=>simp [hp] at h
  | some q =>
   obtain ⟨off,size⟩:=q
   simp only [hp] at h ⊢
   cases hc:(Nat.beq (aBd (fN v)) size && Nat.ble (off+aBd (fN v)) (aBd cs)) with
   | false=>simp [hc] at h
   | true =>
    simp only [hc,cond_true] at h
    simp only [Bool.and_eq_true,zH] at hc
    have h1:(fN v).length=size:=Nat.eq_of_beq_eq_true hc.1
    have h2:off+(fN v).length≤cs.length:=Nat.le_of_ble_eq_true hc.2
    have hcs:v.cells.size=size:=by rw [wH];simpa using h1
    rw [if_neg (by
     simp only [hcs,ne_eq,not_true_eq_false,decide_false,Bool.false_or,decide_eq_true_eq,List.size_toArray]
     omega)]
    have hf:=aFp (fN v) cs off 0
    rw [Nat.add_zero] at hf
    have he:(v.cells.zipIdx.foldl (fun (cs:Array Value) (p:Value × Nat)=>cs.setIfInBounds (off+p.2) p.1) cs.toArray)=(nE cs off (fN v)).toArray:=by
     rw [← hf,wH,← Array.foldl_toList,Array.toList_zipIdx]
    have ih:=aDv place ps _ r h
    rw [← he] at ih
    exact ih
def atP:List (Nat × Nat)→Nat→Option (Nat × Nat)
 | [],_=>none
 | p::_,0=>some p
 | _::l,k+1=>atP l k
theorem bBu:∀ (l:List (Nat × Nat)) (j:Nat),atP l j=l[j]?
 | [],j=>by simp [atP]
 | o::l,0=>by simp [atP]
 | o::l,k+1=>by simp [atP,bBu l k]
def gE (P:Program) (T:TypeId) (z:List Value) (pl:List (Nat × Nat)):Prop :=
 ∃ fs zi,P.underlying T=some (.struct fs)∧P.info? T=some zi∧zi.zero=some (.agg z.toArray)∧fs.toList.map (fun f=>(f.offset,P.cellsOf f.type))=pl∧(∀ f∈fs,(P.info? f.type).isSome=true)
section
variable {P:Program} {n:Nat} {Q:Exit→fG→World→Prop} {ρ:fG} {w:World} {l0 rest:List Oper}
variable {d:Nat} {ty:TypeId} {pos:String} {af:Array Edge} {gd:Option (Nat × Bool)}
variable {w0:World} {X:List Nat} {S:List eL}
def evP (ρ:fG):List (Nat × Operand)→List (Nat × Value)
 | []=>[]
 | (i,x)::r=>(i,ev ρ x)::evP ρ r
theorem yN (ρ:fG) (v:Value):ev ρ (.const v)=v:=rfl
theorem aFd (ρ:fG):∀ ps:List (Nat × Operand),ps.map (fun (i,x)=>(i,ev ρ x))=evP ρ ps
 | []=>rfl
 | (i,x)::r=>by simp [evP,aFd ρ r]
theorem cB {T:TypeId} {z:List Value} {pl:List (Nat × Nat)} {ps:List (Nat × Operand)} (vs:List (Nat × Value)) (cs:List Value) (hT:gE P T z pl)
  (hvs:evP ρ ps=vs) (hv:aCd (atP pl) z vs=some cs):kS P ρ w (.build T ps.toArray) (.agg cs.toArray):=by
 intro dst ty pos af gd
 obtain ⟨fs,zi,hu,hi,hz,hpl,hall⟩:=hT
 have hm:(fs.mapM fun f=>(do pure (f.offset,← sizeOf f.type):Sem (Nat × Nat))).run P w=.ok pl.toArray w:=by
  have key:∀ l:List Field,(∀ f∈l,(P.info? f.type).isSome=true)→(l.mapM fun f=>(do pure (f.offset,← sizeOf f.type):Sem (Nat × Nat))).run P w=.ok (l.map (fun f=>(f.offset,P.cellsOf f.type))) w:=by
   intro l
   induction l with
   | nil=>intro _;rfl
   | cons f l ih =>
    intro hl
    have h1:=eI (P:=P) (hl f (by simp)) w
    have h2:=ih (fun f hf=>hl f (by simp [hf]))
    simp only [List.mapM_cons,Sem.run_bind,h1,h2,Result.andThen_ok,Sem.run_pure,List.map_cons]
  have:=key fs.toList (fun f hf=>hall f (by simpa using hf))
  rw [← hpl]
  conv=>lhs;rw [← Array.toArray_toList (xs:=fs)]
  rw [List.mapM_toArray]
  simp only [Sem.run_map,this,Result.andThen_ok]
 have hpl':(fun i=>pl.toArray[i]?)=atP pl:=by funext i;simp [bBu]
 have hf:=aDv (atP pl) vs z cs hv
 subst hvs
 simp only [execOp,Instr.build,List.map_toArray,aFd,Sem.run_bind,zeroValue,typeInfo,run_program,Result.andThen_ok,hi,Sem.run_pure,hz,bW hu,hm,Value.cells,hpl',hf]
theorem aFe {size:Nat}:∀ (vs:List Value) (k:Nat) (pre post:List Value),pre.length=k*size→post.length=vs.length*size→(∀ v∈vs,(fN v).length=size) →
  aCd (fun i=>some (i*size,size)) (pre++post) ((vs.zipIdx k).map fun p=>(p.2,p.1))=some (pre++vs.flatMap fN)
 | [],k,pre,post,_,h2,_=>by
  have:post=[]:=List.eq_nil_of_length_eq_zero (by simpa using h2)
  simp [aCd,this]
 | v::vs,k,pre,post,h1,h2,h3=>by
  have hv:=h3 v (by simp)
  simp only [List.length_cons,Nat.add_mul,Nat.one_mul] at h2
  have hc:(Nat.beq (aBd (fN v)) size && Nat.ble (k*size+aBd (fN v)) (aBd (pre++post)))=true:=by
   have e1:k*size+(fN v).length≤(pre++post).length:=by rw [List.length_append,h1,h2,hv];omega
   rw [hv] at e1
   rw [zH,zH,hv,Nat.beq_refl,Bool.true_and,Nat.ble_eq]
   exact e1
  simp only [List.zipIdx_cons,List.map_cons,aCd,hc,cond_true]
  have hset:∀ (vs p q:List Value),vs.length≤q.length→nE (p++q) p.length vs=p++vs++q.drop vs.length:=by
   intro vs
   induction vs with
   | nil=>intro p q _;simp [nE]
   | cons x vs ih =>
    intro p q h
    cases q with
    | nil=>simp at h
    | cons y q =>
     simp only [nE]
     have e:(p++y::q).set p.length x=(p++[x])++q:=by simp
     rw [e]
     have:=ih (p++[x]) q (by simpa using h)
     simp only [List.length_append,List.length_cons,List.length_nil] at this
     simpa using this
  rw [← h1,hset (fN v) pre post (by omega)]
  have ih:=aFe vs (k+1) (pre++fN v) (post.drop (fN v).length) (by simp [h1,hv,Nat.add_mul]) (by simp;omega) (fun u hu=>h3 u (by simp [hu]))
  rw [ih]
  simp
def aNm (ρ:fG):Nat→List (Nat × Operand)→Option (List Value)
 | _,[]=>some []
 | k,(i,x)::r=>bif Nat.beq i k then (match aNm ρ (k+1) r with | some l=>some (ev ρ x::l) | none=>none) else none
theorem aBq (ρ:fG):∀ (ps:List (Nat × Operand)) (k:Nat) (vs:List Value),aNm ρ k ps=some vs→evP ρ ps=(vs.zipIdx k).map (fun p=>(p.2,p.1))
 | [],k,vs,h=>by simp [aNm] at h;subst h;rfl
 | (i,x)::r,k,vs,h=>by
  unfold aNm at h
  cases hi:Nat.beq i k with
  | false=>simp [hi] at h
  | true =>
   have:=Nat.eq_of_beq_eq_true hi
   subst this
   simp only [hi,cond_true] at h
   cases hr:aNm ρ (i+1) r with
   | none=>simp [hr] at h
   | some l =>
    simp only [hr,Option.some.injEq] at h
    subst h
    simp [evP,aBq ρ r (i+1) l hr]
theorem aHw {t e sz bytes len:Nat} {ps:List (Nat × Operand)} (vs:List Value) (ls:List (List Value)) (hls:vs.map fN=ls) (ht:fQ P t e sz bytes=true) (M:Mem w0 X S w) (hg:nA l0 ρ gd=true) (hd:Nat.blt d n=true)
  (hvs:aNm ρ 0 ps=some vs) (hlen:vs.length=len) (hsz:∀ v∈vs,(fN v).length=sz) (hbig:len*sz≤16777216)
  (h:Mem w0 X (S++[(some w.heap.size,bc ls.flatten e)]) { w with heap:=w.heap.push (bc ls.flatten e) }→wl P n l0 rest Q (upd ρ d (.slice (some ⟨w.heap.size,0,none⟩) len len)) { w with heap:=w.heap.push (bc ls.flatten e) }):wl P n l0 (⟨some d,.buildSlice t len ps.toArray,ty,pos,af,gd⟩::rest) Q ρ w:=by
 subst hls
 obtain ⟨h1,h2,h3,h4,h5,h6,zv,hzv,hzs⟩:=gP ht
 have hev:=aBq ρ ps 0 vs hvs
 refine nT hg hd ?_ (h (M.alloc _))
 obtain ⟨zi,hzi⟩:∃ zi,P.info? e=some zi:=Option.isSome_iff_exists.1 h2
 have hz':zi.zero=some zv:=by simpa [nI,hzi] using hzv
 have hbig':¬ (16777216 < len*sz):=by omega
 have hfm:(vs.map fN).flatten=vs.flatMap fN:=by simp [List.flatMap]
 by_cases h0:len*sz=0
 ·have hl0:len=0:=by rcases Nat.mul_eq_zero.1 h0 with h | h <;> omega
  subst hl0
  have hvs0:vs=[]:=List.eq_nil_of_length_eq_zero hlen
  subst hvs0
  simp only [execOp,Instr.buildSlice,Sem.run_bind,bW h1,Result.andThen_ok,eI h2,h3,List.map_toArray,aFd,hev]
  have e0:(Array.map (fun x:Nat=>(default:Value)) (Array.range 0))=#[]:=by simp
  simp [Instr.fill,newRow,bc,e0]
 ·obtain ⟨z,hzl,hzm⟩:∃ z:List Value,z.length=len*sz∧((Array.range (len*sz)).map (zv.cells[· % zv.cells.size]!))=z.toArray :=
   ⟨((Array.range (len*sz)).map (zv.cells[· % zv.cells.size]!)).toList,by simp,by rw [Array.toArray_toList]⟩
  have hf:=aDv _ _ _ _ (aFe (size:=sz) vs 0 [] z (by simp) (by rw [hzl,hlen]) hsz)
  simp only [List.nil_append] at hf
  have hzero:(zeroValue e).run P w=.ok zv w:=by simp [zeroValue,typeInfo,hzi,hz']
  simp only [execOp,Instr.buildSlice,Sem.run_bind,bW h1,Result.andThen_ok,eI h2,h3,List.map_toArray,aFd,hev]
  simp only [gt_iff_lt,show (2 ^ 24:Nat)=16777216 from rfl,hbig',if_false,h0,Sem.run_bind,hzero,Result.andThen_ok,Sem.run_pure,hzm,hf]
  simp [newRow,bc,hfm]
theorem cC {t e sz bytes len:Nat} {ps:List (Nat × Operand)} (vs:List Value) (ls:List (List Value)) (hls:vs.map fN=ls) (ht:fQ P t e sz bytes=true) (M:Mem w0 X S w) (hg:nA l0 ρ gd=true) (hd:Nat.blt d n=true)
  (hvs:aNm ρ 0 ps=some vs) (hlen:vs.length=len) (hsz:∀ v∈vs,(fN v).length=sz) (hbig:len*sz≤16777216)
  (h:∀ b w',Mem w0 X (S++[(some b,bc ls.flatten e)]) w'→wl P n l0 rest Q (upd ρ d (.slice (some ⟨b,0,none⟩) len len)) w'):wl P n l0 (⟨some d,.buildSlice t len ps.toArray,ty,pos,af,gd⟩::rest) Q ρ w :=
 aHw vs ls hls ht M hg hd hvs hlen hsz hbig (h _ _)
theorem dL.ofMem {b:Nat} {l:List Value} {T:TypeId} (i:Nat) (M:Mem w0 X S w) (hi:gD S i=some (some b,bc l T)):dL w b 0 l :=
 dL.of_heap (M.at_ hi) (by simp)
theorem aCz {t e:TypeId} {p:Option Addr} (ht:P.underlying t=some (.pointer e)) (w:World):(binOp .eql t (.pointer p) (.pointer none)).run P w=.ok (.bool p.isNone) w∧(binOp .neq t (.pointer p) (.pointer none)).run P w=.ok (.bool (!p.isNone)) w:=by
 have e':P.pointee t=e:=by simp [Program.pointee,ht]
 exact ⟨run_eql_pointer_nil w t p (by rw [e'];exact ht),run_neq_pointer_nil w t p (by rw [e'];exact ht)⟩
theorem gX {t t' e:TypeId} {x:Operand} {p:Option Addr} (b:Bool) (ht:P.underlying t=some (.pointer e)) (hx:ev ρ x=.pointer p) (hb:p.isNone=b):kS P ρ w (.binOp .eql t x (.const (.pointer none)) t') (.bool b):=fun dst ty pos af gd=>(by
  subst hb
  have hq:(eqGuard .eql t x (.const (.pointer none)) (.pointer p) (.pointer none)).run P w=.ok () w:=rfl
  have hb:=(aCz (P:=P) (p:=p) ht w).1
  simp only [execOp,hx,yN,Sem.run_bind,hq,hb,Result.andThen_ok,Sem.run_pure])
theorem aQy {t k e:TypeId} {p:Option Nat} (ht:P.underlying t=some (.map k e)) (w:World):(binOp .eql t (.map p) (.map none)).run P w=.ok (.bool p.isNone) w:=by
 have key:∀ d:Nat,(Op.equalIn (d+1) t (.map p) (.map none)).run P w=.ok p.isNone w:=fun d=>by cases p <;> simp [Op.equalIn,bW ht]
 have e:(Op.equal t (.map p) (.map none)).run P w=.ok p.isNone w:=key 9999
 simp only [binOp,Sem.run_bind,e,Result.andThen_ok,Sem.run_pure]
theorem aTo {t t' k e:TypeId} {x:Operand} {p:Option Nat} (b:Bool) (ht:P.underlying t=some (.map k e)) (hx:ev ρ x=.map p) (hb:p.isNone=b):kS P ρ w (.binOp .eql t x (.const (.map none)) t') (.bool b):=fun dst ty pos af gd=>(by
  subst hb
  have hq:(eqGuard .eql t x (.const (.map none)) (.map p) (.map none)).run P w=.ok () w:=rfl
  simp only [execOp,hx,yN,Sem.run_bind,hq,aQy ht w,Result.andThen_ok,Sem.run_pure])
theorem aJd {t e:TypeId} {A:Option Addr} {m c:Nat} (ht:P.underlying t=some (.slice e)) (w:World):(binOp .eql t (.slice A m c) (.slice none 0 0)).run P w=.ok (.bool A.isNone) w:=by
 have key:∀ d:Nat,(Op.equalIn (d+1) t (.slice A m c) (.slice none 0 0)).run P w=.ok A.isNone w:=fun d=>by cases A <;> simp [Op.equalIn,bW ht]
 have e:(Op.equal t (.slice A m c) (.slice none 0 0)).run P w=.ok A.isNone w:=key 9999
 simp only [binOp,Sem.run_bind,e,Result.andThen_ok,Sem.run_pure]
theorem zQ {t t' e:TypeId} {x:Operand} {A:Option Addr} {m c:Nat} (b:Bool) (ht:P.underlying t=some (.slice e)) (hx:ev ρ x=.slice A m c) (hb:A.isNone=b):kS P ρ w (.binOp .eql t x (.const (.slice none 0 0)) t') (.bool b):=fun dst ty pos af gd=>(by
  subst hb
  have hq:(eqGuard .eql t x (.const (.slice none 0 0)) (.slice A m c) (.slice none 0 0)).run P w=.ok () w:=rfl
  simp only [execOp,hx,yN,Sem.run_bind,hq,aJd ht w,Result.andThen_ok,Sem.run_pure])
def EqA (P:Program) (T:TypeId) (a b:List Value) (r:Bool):Prop:=P.eqGuardType P.depth T=false∧∀ w,(Op.equalIn 10000 T (.agg a.toArray) (.agg b.toArray)).run P w=.ok r w
theorem bVr {t t':TypeId} {x y:Operand} {a b:List Value} {r:Bool} (he:EqA P t a b r) (hx:ev ρ x=.agg a.toArray) (hy:ev ρ y=.agg b.toArray):kS P ρ w (.binOp .eql t x y t') (.bool r):=fun dst ty pos af gd=>(by simp [execOp,hx,hy,run_eqGuard_agg (P:=P) w .eql t x y a.toArray b.toArray he.1,run_eql_struct,he.2 w])
theorem bNt {t t':TypeId} {x y:Operand} {a b:List Value} {p:Prop} {dp:Decidable p} (he:EqA P t a b (@decide p dp)) (hx:ev ρ x=.agg a.toArray) (hy:ev ρ y=.agg b.toArray):kS P ρ w (.binOp .neq t x y t') (.bool (decide (¬ p))):=fun dst ty pos af gd=>(by simp [execOp,hx,hy,run_eqGuard_agg (P:=P) w .neq t x y a.toArray b.toArray he.1,run_neq_struct,he.2 w])
def wT (A:Option Addr) (c l sz:Nat):Option Addr:=if c=l then A else A.map (·.add (l*sz))
theorem Rd.sub {w:World} {sz m c:Nat} {A:Option Addr} {ls:List (List Value)} (R:Rd w sz A m ls) (l h:Nat) (hl:l≤h) (hh:h≤m) (hc:m≤c):Rd w sz (wT A c l sz) (h - l) ((ls.drop l).take (h - l)):=by
 by_cases h0:h - l=0
 ·rw [h0]
  exact Rd.nil w sz _
 ·obtain ⟨b,off,rfl,hlt,_⟩:=R.at_ (by omega)
  have e:wT (some ⟨b,off,none⟩) c l sz=some ⟨b,off+l*sz,none⟩:=by
   unfold wT
   rw [if_neg (by omega)]
   simp [eV]
  rw [e]
  exact R.part l (h - l) (by omega)
theorem qI {P:Program} {k:IntKind} {i:Int} {y:Nat} {code:BoundsCode} (h0:0≤i) (h1:i≤y) (w:World):(Instr.sliceBound (.int k i) y code).run P w=.ok i.toNat w:=by
 simp [Instr.sliceBound,asIntOf,h0,h1]
theorem eS {t e sz bytes:Nat} {x:Operand} {lo hi:Option Operand} {A:Option Addr} {m c:Nat} (l h':Int) (ht:fQ P t e sz bytes=true) (hx:ev ρ x=.slice A m c)
  (hlo:lo.elim (l=0) (fun o=>∃ k,ev ρ o=.int k l)) (hhi:hi.elim (h'=m) (fun o=>∃ k,ev ρ o=.int k h')) (h0:0≤l) (h1:l≤h') (h2:h'≤c):kS P ρ w (.slice t x lo hi none) (.slice (wT A c l.toNat sz) (h'.toNat - l.toNat) (c - l.toNat)):=by
 intro dst ty pos af gd
 obtain ⟨q1,q2,q3,q4,q5,q6,zv,hzv,hzs⟩:=gP ht
 have hb:(Instr.sliceBounds true m c (lo.map (ev ρ)) (hi.map (ev ρ)) none).run P w=.ok (l.toNat,h'.toNat,c) w:=by
  cases hi with
  | none =>
   simp only [Option.elim] at hhi
   subst hhi
   cases lo with
   | none=>simp only [Option.elim] at hlo;subst hlo;simp [Instr.sliceBounds]
   | some o=>obtain ⟨k,hk⟩:=hlo;simp [Instr.sliceBounds,hk,qI (P:=P) (k:=k) (y:=m) h0 (by omega)]
  | some o' =>
   obtain ⟨k',hk'⟩:=hhi
   have e1:=qI (P:=P) (k:=k') (i:=h') (y:=c) (code:=.sliceAcap) (by omega) h2
   cases lo with
   | none=>simp only [Option.elim] at hlo;subst hlo;simp [Instr.sliceBounds,hk',e1]
   | some o=>obtain ⟨k,hk⟩:=hlo;simp [Instr.sliceBounds,hk,hk',e1,qI (P:=P) (k:=k) (y:=h'.toNat) h0 (by omega)]
 have he:∀ w,(Instr.sliceAt t (.slice A m c) (lo.map (ev ρ)) (hi.map (ev ρ)) none).run P w=(Instr.slice t (.slice A m c) (lo.map (ev ρ)) (hi.map (ev ρ)) none).run P w:=fun w=>by
  simp only [Instr.sliceAt,Sem.run_bind,bW q1,Result.andThen_ok]
 simp only [execOp,hx,Option.map_none,Sem.run_bind,he]
 simp only [Instr.slice,Sem.run_bind,bW q1,Result.andThen_ok,hb,eI q2,q3,Sem.run_pure,wT]
end
section tree
variable {P:Program} {ops:Array Oper} {Qa:Act→World→Prop}
def dep (ops:Array Oper):Nat→Nat→Nat→Bool
 | 0,_,_=>false
 | f+1,j,i=>match ops[j]? with
  | some o=>o.after.toList.any fun e=>Region.binds .any e && (e.on == i || dep ops f e.on i)
  | none=>false
def aYr (ops:Array Oper) (j i:Nat):Bool:=dep ops ops.size j i
def rG (ops:Array Oper) (listed:Array Bool):Prop:=∀ j o,ops[j]? = some o→listed.getD j false=true→∀ e∈o.after,Region.binds .any e=true→listed.getD e.on false=true
abbrev jB:=List (Nat × (World→Prop))
def left (ops:Array Oper) (j:Nat) (pend:jB):jB:=pend.filter fun p => !aYr ops j p.1
def aCc (Qa:Act→World→Prop):Exit→Act→World→Prop
 | .normal,a,w=>Qa a w
 | _,_,_=>False
def Tr (P:Program) (ops:Array Oper) (Qa:Act→World→Prop):Nat→jB→Array Bool→Act→World→Prop
 | 0,_,listed,a,w=>Region.ready .any ops listed=[]∧Qa a w
 | f+1,pend,listed,a,w=>(Region.ready .any ops listed=[]→Qa a w) ∧
   ∀ j∈Region.ready .any ops listed,wpOp P ops (aCc Qa) j (fun a' w'=>(∀ p∈left ops j pend,p.2 w')∧Tr P ops Qa f (left ops j pend) (listed.setIfInBounds j true) a' w') a w
theorem aLj:∀ (f:Nat) (pend pend':jB) (listed:Array Bool) (a:Act) (w:World),(∀ p∈pend',p∈pend∨∀ w,p.2 w)→Tr P ops Qa f pend listed a w→Tr P ops Qa f pend' listed a w
 | 0,_,_,_,_,_,_,h=>h
 | f+1,pend,pend',listed,a,w,hs,h=>⟨h.1,fun j hj=>wpOp_mono (fun a' w' ⟨h1,h2⟩=>by
   have hl:∀ p∈left ops j pend',p∈left ops j pend∨∀ w,p.2 w:=fun p hp=>by
    have hp':=List.mem_filter.1 hp
    rcases hs p hp'.1 with h | h
    ·exact .inl (List.mem_filter.2 ⟨h,hp'.2⟩)
    ·exact .inr h
   exact ⟨fun p hp=>by rcases hl p hp with h | h;exact h1 p h;exact h w',aLj f _ _ _ _ _ hl h2⟩) (h.2 j hj)⟩
theorem aRl:∀ (f:Nat) (pend:jB) (listed:Array Bool) (a:Act) (w:World),Tr P ops Qa f pend listed a w→wpAny P .any ops (aCc Qa) f listed a w
 | 0,_,_,_,_,h=>h
 | f+1,pend,listed,a,w,h=>⟨h.1,fun j hj=>wpOp_mono (fun a' w' h'=>aRl f _ _ _ _ h'.2) (h.2 j hj)⟩
theorem aTh {listed:Array Bool} {i:Nat} (h:listed.getD i true=false):listed.getD i false=false:=by
 rcases Nat.lt_or_ge i listed.size with h' | h'
 ·simp [h'] at h ⊢;exact h
 ·simp [Array.getElem?_eq_none h'] at h
theorem aEz {listed:Array Bool} (hc:rG ops listed):∀ (f j i:Nat) (o:Oper),ops[j]? = some o→(∀ e∈o.after,Region.binds .any e=true→listed.getD e.on false=true)→dep ops f j i=true→listed.getD i false=true
 | 0,_,_,_,_,_,h=>by simp [dep] at h
 | f+1,j,i,o,ho,hd,h=>by
  simp only [dep,ho] at h
  obtain ⟨e,he,h1⟩:=List.any_eq_true.1 h
  simp only [Bool.and_eq_true,Bool.or_eq_true,beq_iff_eq] at h1
  have hl:=hd e (by simpa using he) h1.1
  rcases h1.2 with h2 | h2
  ·rw [← h2];exact hl
  ·cases ho':ops[e.on]? with
   | none=>cases f <;> simp [dep,ho'] at h2
   | some o'=>exact aEz hc f e.on i o' ho' (hc e.on o' ho' hl) h2
theorem rG.set {listed:Array Bool} (hc:rG ops listed) {j:Nat} (hj:j∈Region.ready .any ops listed):rG ops (listed.setIfInBounds j true):=by
 obtain ⟨_,oj,hoj,hall⟩:=mem_ready.1 hj
 intro k o ho hl e he hb
 by_cases hjk:j=k
 ·subst hjk
  have:o=oj:=Option.some.inj (ho.symm.trans hoj)
  subst this
  exact getD_set_true (hall e he hb)
 ·rw [getD_set_ne false hjk] at hl
  exact getD_set_true (hc k o ho hl e he hb)
def Yi (P:Program) (ops:Array Oper) (o:Oper) (v:Value) (a:Act) (w:World):Prop :=
 (Region.wanted o (yielded ops a.tmps)=true∧(execOp a.eval o).run P w=.ok (.value v) w)∨(Region.wanted o (yielded ops a.tmps)=false∧v=undef)
theorem Yi.wpOp {i:Nat} {o:Oper} {v:Value} {a:Act} {w:World} (hi:ops[i]? = some o) (hy:Yi P ops o v a w) {Q:Exit→Act→World→Prop} {K:Act→World→Prop} (h:K (a.put o.dst v) w):wpOp P ops Q i K a w:=by
 unfold Go.wpOp
 simp only [hi]
 rcases hy with ⟨hw,hv⟩ | ⟨hw,rfl⟩
 ·simp only [hw,if_true,Oper.wp,hv,Oper.upon];exact .inl h
 ·simp only [hw,Bool.false_eq_true,if_false];exact h
theorem aUt {j:Nat} {oi oj:Oper} {v:Value} (hj:ops[j]? = some oj) (hap:oi.apart ops oj=true) (hsi:∀ cs b,oi.op≠.select cs b) (hsj:∀ cs b,oj.op≠.select cs b)
  {K:Act→World→Prop} {a:Act} {w:World} (h:wpOp P ops (aCc Qa) j K (a.put oi.dst v) w) :
  wpOp P ops (aCc Qa) j (fun a' w'=>(execOp a'.eval oi=execOp a.eval oi∧Region.wanted oi (yielded ops a'.tmps)=Region.wanted oi (yielded ops a.tmps))∧K (a'.put oi.dst v) w') a w:=by
 obtain ⟨h1,h2,h3⟩:=Oper.apart_spec hap
 have keep:∀ u,execOp (a.put oj.dst u).eval oi=execOp a.eval oi∧Region.wanted oi (yielded ops (a.put oj.dst u).tmps)=Region.wanted oi (yielded ops a.tmps):=fun u =>
  ⟨execOp_put oi hsi a oj.dst u h3,wanted_put oi a oj.dst u h3⟩
 unfold wpOp at h ⊢
 simp only [hj] at h ⊢
 rw [wanted_put oj a oi.dst v h1] at h
 split
 ·rename_i hw
  simp only [hw,if_true] at h
  rcases h with h | ⟨_,_,_,hlets⟩
  ·refine .inl ?_
   unfold Oper.wp at h ⊢
   rw [execOp_put oj hsj a oi.dst v h1] at h
   generalize (execOp a.eval oj).run P w=r at h ⊢
   cases r with
   | ok nx w' =>
    cases nx <;> simp only [Oper.upon] at h ⊢
    case value u=>exact ⟨keep u,by rw [← Act.put_comm a v u h2];exact h⟩
    case skip=>exact ⟨keep _,by rw [← Act.put_comm a v undef h2];exact h⟩
    case defer d =>
     refine ⟨?_, ?_⟩
     ·have e1:({ a with defers:=d::a.defers }:Act).put oj.dst undef={ a.put oj.dst undef with defers:=d::a.defers }:=by cases oj.dst <;> rfl
      rw [e1]
      exact keep undef
     ·rw [← Act.put_comm _ v undef h2,← Act.put_defers]
      exact h
    case enter f args =>
     refine Calls.mono h fun e w'' he => ?_
     cases e with
     | returned u=>exact ⟨keep u,by rw [← Act.put_comm a v u h2];exact he⟩
     | panicked c=>exact he
     | outgrown=>exact he
    case row row args=>exact Rows.mono h fun u w'' he=>⟨keep u,by rw [← Act.put_comm a v u h2];exact he⟩
   | halt x w' =>
    cases x <;> simp only [Oper.upon] at h ⊢
    exact h
  ·exact hlets.elim
 ·rename_i hw
  simp only [hw] at h
  exact ⟨keep _,by rw [← Act.put_comm a v undef h2];exact h⟩
theorem aVf {i:Nat} {oi:Oper} {v:Value} {Y:World→Prop} (hi:ops[i]? = some oi) (hsel:Region.noSelect ops=true) :
  ∀ (f:Nat) (pend:jB) (listed:Array Bool) (a:Act) (w:World),
   (∀ j oj,ops[j]? = some oj→j≠i→listed.getD j true=false→(∀ e∈oj.after,Region.binds .any e=true→e.on≠i)→oi.apart ops oj=true) →
   i∈Region.ready .any ops listed→rG ops listed→(∀ p∈pend,p.2 w)→Y w→(∀ w',Y w'→Yi P ops oi v a w') →
   Tr P ops Qa f ((i,Y)::pend) (listed.setIfInBounds i true) (a.put oi.dst v) w→Tr P ops Qa (f+1) pend listed a w:=by
 intro f
 induction f with
 | zero =>
  intro pend listed a w _ hr hc hp hy hY H
  refine ⟨fun h=>(by rw [h] at hr;cases hr),fun j hj => ?_⟩
  by_cases hji:j=i
  ·subst hji
   exact (hY w hy).wpOp hi ⟨fun p hp'=>hp p (List.mem_filter.1 hp').1,H⟩
  ·have:=ready_mono hj hji
   rw [H.1] at this
   cases this
 | succ f ih =>
  intro pend listed a w hfree hr hc hp hy hY H
  refine ⟨fun h=>(by rw [h] at hr;cases hr),fun j hj => ?_⟩
  by_cases hji:j=i
  ·subst hji
   exact (hY w hy).wpOp hi ⟨fun p hp'=>hp p (List.mem_filter.1 hp').1,aLj _ _ _ _ _ _ (fun p hp'=>.inl (List.mem_cons_of_mem _ (List.mem_filter.1 hp').1)) H⟩
  ·have h1:=H.2 j (ready_mono hj hji)
   obtain ⟨hjun,oj,hoj,hall⟩:=mem_ready.1 hj
   have hiun:=aTh (mem_ready.1 hr).1
   have hnot:∀ e∈oj.after,Region.binds .any e=true→e.on≠i:=fun e he hb heq=>by
    have h1:=hall e he hb
    rw [heq,hiun] at h1
    cases h1
   have hdep:aYr ops j i=false:=by
    cases hd:aYr ops j i with
    | false=>rfl
    | true =>
     have:=aEz hc ops.size j i oj hoj hall hd
     rw [hiun] at this
     cases this
   have hleft:left ops j ((i,Y)::pend)=(i,Y)::left ops j pend:=by simp [left,hdep]
   have h2:=aUt hoj (hfree j oj hoj hji hjun hnot) (fun cs b=>Region.noSelect_spec hsel i oi cs b hi) (fun cs b=>Region.noSelect_spec hsel j oj cs b hoj) h1
   have hfree':∀ k ok,ops[k]? = some ok→k≠i→(listed.setIfInBounds j true).getD k true=false →
     (∀ e∈ok.after,Region.binds .any e=true→e.on≠i)→oi.apart ops ok=true:=fun k ok hk hki hun hno=>by
    refine hfree k ok hk hki ?_ hno
    by_cases hjk:j=k
    ·subst hjk;exact hjun
    ·rw [getD_set_ne true hjk] at hun;exact hun
   refine wpOp_mono (fun a' w' h3 => ?_) h2
   obtain ⟨⟨e1,e2⟩,h4,h5⟩:=h3
   rw [hleft] at h4 h5
   refine ⟨fun p hp'=>h4 p (List.mem_cons_of_mem _ hp'), ?_⟩
   refine ih (left ops j pend) (listed.setIfInBounds j true) a' w' hfree' (ready_mono hr (Ne.symm hji)) (hc.set hj) (fun p hp'=>h4 p (List.mem_cons_of_mem _ hp')) (h4 (i,Y) (by simp)) (fun w'' hy'' => ?_) ?_
   ·have:=hY w'' hy''
    unfold Yi at this ⊢
    rw [e1,e2]
    exact this
   ·rw [Array.setIfInBounds_comm _ _ hji]
    exact h5
theorem bNw {i:Nat} {f:Nat} {pend:jB} {listed:Array Bool} {a:Act} {w:World} (hr:Region.ready .any ops listed=[i])
  (h:wpOp P ops (aCc Qa) i (fun a' w'=>(∀ p∈left ops i pend,p.2 w')∧Tr P ops Qa f (left ops i pend) (listed.setIfInBounds i true) a' w') a w):Tr P ops Qa (f+1) pend listed a w :=
 ⟨fun h0=>(by rw [hr] at h0;cases h0),fun j hj=>by
  rw [hr] at hj
  have:j=i:=by simpa using hj
  subst this
  exact h⟩
end tree
def sD (ops:Array Oper):Array Bool→List (Nat × Nat)→Bool
 | listed,[]=>(Region.ready .any ops listed).isEmpty
 | listed,(i,2)::r=>decide (Region.ready .any ops listed=[i]) && sD ops (listed.setIfInBounds i true) r
 | listed,(i,_)::r=>(Region.ready .any ops listed).contains i && Region.free .any ops listed i && sD ops (listed.setIfInBounds i true) r
section walk
variable {P:Program} {n:Nat} {Q:Exit→fG→World→Prop} {ρ:fG} {w:World} {l0:List Oper}
def Yl (P:Program) (l0:List Oper) (o:Oper) (ρ:fG) (v:Value) (w:World):Prop :=
 (nA l0 ρ o.guard=true∧(execOp (ev ρ) o).run P w=.ok (.value v) w)∨(nA l0 ρ o.guard=false∧v=undef)
def wO:List (Nat × (World→Prop))→World→Prop
 | [],_=>True
 | p::l,w=>p.2 w∧wO l w
def qV (l0:List Oper) (j:Nat):jB→jB
 | []=>[]
 | p::l=>bif aYr l0.toArray j p.1 then qV l0 j l else p::qV l0 j l
theorem zG (j:Nat):∀ l:jB,qV l0 j l=left l0.toArray j l
 | []=>rfl
 | p::l=>by
  unfold qV left
  rw [List.filter_cons]
  cases h:aYr l0.toArray j p.1 with
  | true=>simp [zG j l,left]
  | false=>simp [zG j l,left]
theorem rP:∀ (l:jB) (w:World),wO l w↔∀ p∈l,p.2 w
 | [],w=>by simp [wO]
 | p::l,w=>by simp [wO,rP l w]
def D (P:Program) (n:Nat) (l0:List Oper) (Q:Exit→fG→World→Prop):List (Nat × Nat)→jB→fG→World→Prop
 | [],_,ρ,w=>Q .normal ρ w
 | (i,0)::r,pend,ρ,w=>∃ o d v,oN l0 i=some o∧o.dst=some d∧Nat.blt d n=true∧(∀ w',Yl P l0 o ρ v w')∧D P n l0 Q r pend (upd ρ d v) w
 | (i,2)::r,pend,ρ,w=>∃ o,oN l0 i=some o∧wl P n l0 [o] (pJ (fun ρ' w'=>wO (qV l0 i pend) w'∧D P n l0 Q r (qV l0 i pend) ρ' w') (fun _ _ _=>False)) ρ w
 | (i,_)::r,pend,ρ,w=>∃ o d v,oN l0 i=some o∧o.dst=some d∧Nat.blt d n=true∧Yl P l0 o ρ v w∧D P n l0 Q r ((i,fun w'=>Yl P l0 o ρ v w')::pend) (upd ρ d v) w
theorem bMh {a:Act} {o:Oper} {v:Value} (ha:Agree n a ρ) (h:Yl P l0 o ρ v w):Yi P l0.toArray o v a w:=by
 unfold Yl at h
 unfold Yi
 rw [kE ha,ha.eval]
 exact h
theorem bBi (hsel:Region.noSelect l0.toArray=true):∀ (pl:List (Nat × Nat)) (pend:jB) (listed:Array Bool) (ρ:fG) (w:World) (a:Act),Agree n a ρ→sD l0.toArray listed pl=true→rG l0.toArray listed→wO pend w→D P n l0 Q pl pend ρ w →
  Tr P l0.toArray (fun a w=>qO n Q .normal a w) pl.length pend listed a w:=by
 intro pl
 induction pl with
 | nil =>
  intro pend listed ρ w a ha hp hc hall h
  simp only [sD,List.isEmpty_iff] at hp
  exact ⟨hp,ρ,ha,h⟩
 | cons x pl ih =>
  intro pend listed ρ w a ha hp hc hall h
  obtain ⟨i,k⟩:=x
  have quiet:∀ (o:Oper) (d:Nat) (v:Value) (Y:World→Prop) (pend':jB),((Region.ready .any l0.toArray listed).contains i && Region.free .any l0.toArray listed i && sD l0.toArray (listed.setIfInBounds i true) pl)=true →
    oN l0 i=some o→o.dst=some d→Nat.blt d n=true→Y w→(∀ w',Y w'→Yl P l0 o ρ v w')→(pend'=(i,Y)::pend∨(pend'=pend∧∀ w,Y w))→D P n l0 Q pl pend' (upd ρ d v) w →
    Tr P l0.toArray (fun a w=>qO n Q .normal a w) (pl.length+1) pend listed a w:=by
   intro o d v Y pend' hpl ho hd hdn hy hY hpend hD
   simp only [Bool.and_eq_true] at hpl
   obtain ⟨⟨h1,h2⟩,h3⟩:=hpl
   have hr:i∈Region.ready .any l0.toArray listed:=by simpa using h1
   have hoi:l0.toArray[i]? = some o:=by rw [vX] at ho;simpa using ho
   have ha':Agree n (a.put o.dst v) (upd ρ d v):=by rw [hd];exact ha.upd d hdn v
   have hall':wO pend' w:=by
    rcases hpend with rfl | ⟨rfl,_⟩
    ·exact ⟨hy,hall⟩
    ·exact hall
   have H:=ih pend' (listed.setIfInBounds i true) (upd ρ d v) w (a.put o.dst v) ha' h3 (hc.set hr) hall' hD
   refine aVf hoi hsel pl.length pend listed a w (Region.free_spec hoi h2) hr hc ((rP _ _).1 hall) hy (fun w' hy'=>bMh ha (hY w' hy')) ?_
   refine aLj _ pend' _ _ _ _ (fun p hp' => ?_) H
   rcases hpend with rfl | ⟨rfl,hall2⟩
   ·exact .inl hp'
   ·rcases List.mem_cons.1 hp' with rfl | h
    ·exact .inr hall2
    ·exact .inl h
  match k,hp,h with
  | 0,hp,h =>
   obtain ⟨o,d,v,h1,h2,h3,h4,h5⟩:=h
   exact quiet o d v (fun w'=>Yl P l0 o ρ v w') pend hp h1 h2 h3 (h4 w) (fun _ h=>h) (.inr ⟨Z,h4⟩) h5
  | 1,hp,h =>
   obtain ⟨o,d,v,h1,h2,h3,h4,h5⟩:=h
   exact quiet o d v (fun w'=>Yl P l0 o ρ v w') _ hp h1 h2 h3 h4 (fun _ h=>h) (.inl Z) h5
  | k+3,hp,h =>
   obtain ⟨o,d,v,h1,h2,h3,h4,h5⟩:=h
   exact quiet o d v (fun w'=>Yl P l0 o ρ v w') _ hp h1 h2 h3 h4 (fun _ h=>h) (.inl Z) h5
  | 2,hp,h =>
   obtain ⟨o,ho,h1⟩:=h
   simp only [sD,Bool.and_eq_true,decide_eq_true_eq] at hp
   obtain ⟨hr,hp'⟩:=hp
   have hoi:l0.toArray[i]? = some o:=by rw [vX] at ho;simpa using ho
   refine bNw hr ?_
   have hir:i∈Region.ready .any l0.toArray listed:=by rw [hr];simp
   have hc':=hc.set hir
   unfold wl at h1
   have h2:=h1 a ha
   unfold wpList at h2
   unfold wpOp
   simp only [hoi]
   have fin:∀ a' w',qO n (pJ (fun ρ' w'=>wO (qV l0 i pend) w'∧D P n l0 Q pl (qV l0 i pend) ρ' w') (fun _ _ _=>False)) .normal a' w' →
     ((∀ p∈left l0.toArray i pend,p.2 w')∧Tr P l0.toArray (fun a w=>qO n Q .normal a w) pl.length (left l0.toArray i pend) (listed.setIfInBounds i true) a' w'):=by
    rintro a' w' ⟨ρ',ha',h3,h4⟩
    rw [zG] at h3 h4
    exact ⟨(rP _ _).1 h3,ih _ _ ρ' w' a' ha' hp' hc' h3 h4⟩
   split
   ·rename_i hw
    rw [if_pos hw] at h2
    rcases h2 with h2 | ⟨_,a0,w0,ρ0,_,h3⟩
    ·refine .inl ?_
     unfold Oper.wp at h2 ⊢
     generalize (execOp a.eval o).run P w=r at h2 ⊢
     cases r with
     | ok nx w' =>
      cases nx <;> simp only [Oper.upon,wpList] at h2 ⊢ <;> first
       | exact fin _ _ h2
       | exact Calls.mono h2 (fun e w'' he=>by
         cases e with
         | returned v=>exact fin _ _ he
         | panicked c=>obtain ⟨_,_,h3⟩:=he;exact h3.elim
         | outgrown=>obtain ⟨_,_,_,_,h3⟩:=he;exact h3.elim)
       | exact Rows.mono h2 (fun _ _ he=>fin _ _ he)
     | halt x w' =>
      cases x <;> simp only [Oper.upon] at h2 ⊢
      obtain ⟨_,_,h3⟩:=h2
      exact h3.elim
    ·exact h3.elim
   ·rename_i hw
    rw [if_neg hw] at h2
    exact fin _ _ h2
theorem aVg {id:Nat} (pl:List (Nat × Nat)) (hm:P.follows .mixedOrders=true) (hlen:pl.length=l0.length) (hB:(Region.noSelect l0.toArray && sD l0.toArray (Array.replicate l0.length false) pl)=true)
  (h:D P n l0 Q pl [] ρ { w with drawn:=w.drawn+1 }):W P n (.region id l0.toArray true) Q ρ w:=by
 unfold W
 intro a ha
 simp only [Bool.and_eq_true] at hB
 refine wp_region_any hm ?_
 have hc:rG l0.toArray (Array.replicate l0.length false):=fun j o _ hl=>by
  rcases Nat.lt_or_ge j l0.length with h | h
  ·simp [h] at hl
  ·simp [Array.getElem?_eq_none (show (Array.replicate l0.length false).size≤j by simpa using h)] at hl
 have:=aRl _ _ _ _ _ (bBi (Q:=Q) hB.1 pl [] (Array.replicate l0.length false) ρ { w with drawn:=w.drawn+1 } a ha hB.2 hc trivial h)
 rw [hlen] at this
 have e:l0.toArray.size=l0.length:=by simp
 rw [e]
 have gen:∀ (f:Nat) (listed:Array Bool) (a:Act) (w:World),wpAny P .any l0.toArray (aCc fun a w=>qO n Q .normal a w) f listed a w→wpAny P .any l0.toArray (qO n Q) f listed a w:=by
  intro f
  induction f with
  | zero=>intro listed a w h;exact h
  | succ f ih =>
   intro listed a w h
   refine ⟨h.1,fun i hi => ?_⟩
   have h2:=h.2 i hi
   unfold wpOp at h2 ⊢
   split
   ·rename_i ho;simp only [ho] at h2;exact ih _ _ _ h2
   ·rename_i o ho
    simp only [ho] at h2
    split
    ·rename_i hw
     rw [if_pos hw] at h2
     rcases h2 with h2 | ⟨_,_,_,h3⟩
     ·refine .inl ?_
      unfold Oper.wp at h2 ⊢
      generalize (execOp a.eval o).run P w=r at h2 ⊢
      cases r with
      | ok nx w' =>
       cases nx <;> simp only [Oper.upon] at h2 ⊢ <;> first
        | exact ih _ _ _ h2
        | exact Calls.mono h2 (fun e w'' he=>by
          cases e with
          | returned v=>exact ih _ _ _ he
          | panicked c=>exact he.elim
          | outgrown=>obtain ⟨_,_,h3⟩:=he;exact h3.elim)
        | exact Rows.mono h2 (fun _ _ he=>ih _ _ _ he)
      | halt x w' =>
       cases x <;> simp only [Oper.upon] at h2 ⊢
       exact h2.elim
     ·exact h3.elim
    ·rename_i hw
     rw [if_neg hw] at h2
     exact ih _ _ _ h2
 exact gen _ _ _ _ this
theorem mF {id:Nat} (pl:List (Nat × Nat)) (hm:P.follows .mixedOrders=true) (hlen:pl.length=l0.length) (hB:(Region.noSelect l0.toArray && sD l0.toArray (Array.replicate l0.length false) pl)=true)
  (h:∀ w',Below w.heap.size w w'→w'.heap=w.heap→D P n l0 Q pl [] ρ w'):W P n (.region id l0.toArray true) Q ρ w :=
 aVg pl hm hlen hB (h _ ⟨rfl,rfl,rfl,Nat.le_refl _,fun _ _=>rfl⟩ rfl)
end walk
section
variable {P:Program} {n:Nat} {Q:Exit→fG→World→Prop} {ρ:fG} {w:World} {l0 rest:List Oper}
variable {d:Nat} {op:Op} {ty:TypeId} {pos:String} {af:Array Edge} {gd:Option (Nat × Bool)}
variable {w0:World} {X:List Nat} {S:List eL}
theorem aV {i:Nat} {r:List (Nat × Nat)} {pend:jB} {v:Value} (ho:oN l0 i=some ⟨some d,op,ty,pos,af,gd⟩) (hg:nA l0 ρ gd=true) (hd:Nat.blt d n=true) (A:∀ w',kS P ρ w' op v)
  (h:D P n l0 Q r pend (upd ρ d v) w):D P n l0 Q ((i,0)::r) pend ρ w :=
 ⟨_,d,v,ho,rfl,hd,fun w'=>.inl ⟨hg,A w' _ _ _ _ _⟩,h⟩
theorem xI {i:Nat} {r:List (Nat × Nat)} {pend:jB} (ho:oN l0 i=some ⟨some d,op,ty,pos,af,gd⟩) (hg:nA l0 ρ gd=false) (hd:Nat.blt d n=true)
  (h:D P n l0 Q r pend (upd ρ d undef) w):D P n l0 Q ((i,0)::r) pend ρ w :=
 ⟨_,d,undef,ho,rfl,hd,fun w'=>.inr ⟨hg,rfl⟩,h⟩
theorem bP {i:Nat} {r:List (Nat × Nat)} {pend:jB} {v:Value} (ho:oN l0 i=some ⟨some d,op,ty,pos,af,gd⟩) (hg:nA l0 ρ gd=true) (hd:Nat.blt d n=true) (A:kS P ρ w op v)
  (h:D P n l0 Q r ((i,fun w'=>Yl P l0 ⟨some d,op,ty,pos,af,gd⟩ ρ v w')::pend) (upd ρ d v) w):D P n l0 Q ((i,1)::r) pend ρ w :=
 ⟨_,d,v,ho,rfl,hd,.inl ⟨hg,A _ _ _ _ _⟩,h⟩
theorem bI {v:Value} (hg:nA l0 ρ gd=true) (A:kS P ρ w op v):Yl P l0 ⟨some d,op,ty,pos,af,gd⟩ ρ v w:=.inl ⟨hg,A _ _ _ _ _⟩
def aWo (l0:List Oper) (j:Nat):List Nat→List Bool
 | []=>[]
 | i::l=>aYr l0.toArray j i::aWo l0 j l
def bJv:jB→List Nat
 | []=>[]
 | p::l=>p.1::bJv l
def aJu:jB→List Bool→jB
 | p::l,b::m=>bif b then aJu l m else p::aJu l m
 | _,_=>[]
theorem aGa (j:Nat):∀ pend:jB,qV l0 j pend=aJu pend (aWo l0 j (bJv pend))
 | []=>rfl
 | p::l=>by simp only [qV,bJv,aWo,aJu,aGa j l]
theorem dI {i:Nat} {r:List (Nat × Nat)} {pend:jB} {o:Oper} (ks:List Bool) (ho:oN l0 i=some o) (hk:aWo l0 i (bJv pend)=ks)
  (h:wl P n l0 [o] (pJ (fun ρ' w'=>wO (aJu pend ks) w'∧D P n l0 Q r (aJu pend ks) ρ' w') (fun _ _ _=>False)) ρ w):D P n l0 Q ((i,2)::r) pend ρ w:=by
 refine ⟨o,ho, ?_⟩
 rw [aGa,hk]
 exact h
theorem bS {pend:jB} (h:Q .normal ρ w):D P n l0 Q [] pend ρ w:=h
theorem aVd {pl:List (Nat × Nat)} {pend:jB} (t:Nat) (b:Bool) (ht:ρ t=.bool b) (h1:b=true→D P n l0 Q pl pend (upd ρ t (.bool true)) w) (h2:b=false→D P n l0 Q pl pend (upd ρ t (.bool false)) w):D P n l0 Q pl pend ρ w:=by
 cases b with
 | true=>have:=h1 rfl;rwa [oR ht] at this
 | false=>have:=h2 rfl;rwa [oR ht] at this
theorem tL {pl:List (Nat × Nat)} {pend:jB} (t:Nat) {p:Prop} {dp:Decidable p} (ht:ρ t=.bool (@decide p dp)) (h1:p→D P n l0 Q pl pend (upd ρ t (.bool true)) w) (h2:¬ p→D P n l0 Q pl pend (upd ρ t (.bool false)) w):D P n l0 Q pl pend ρ w :=
 aVd t _ ht (fun h=>h1 (of_decide_eq_true h)) (fun h=>h2 (of_decide_eq_false h))
theorem Mem.drew (M:Mem w0 X S w) {w':World} (hb:Below w.heap.size w w') (hh:w'.heap=w.heap):Mem w0 X S w' :=
 ⟨hb.os.trans M.os,hb.tape.trans M.tape,hb.output.trans M.output,by rw [hh];exact M.size,by rw [hh];exact M.old,by rw [hh];exact M.own,M.apart⟩
theorem dV {pl:List (Nat × Nat)} {pend:jB} (t:Nat) (v:Value) (ht:ρ t=v) (h:D P n l0 Q pl pend (upd ρ t v) w):D P n l0 Q pl pend ρ w:=by
 rwa [oR ht] at h
def elt (A:Option Addr) (k:Nat):Value:=.pointer (A.map (·.add k))
theorem aG {α β:Type} {xs:List α} {k:Nat} {x:α} (f:α→β) (h:xs[k]? = some x):(xs.map f)[k]? = some (f x):=by simp [h]
theorem Rd.below_len {sz m:Nat} {A:Option Addr} {ls:List (List Value)} (R:Rd w sz A m ls) {k:Nat} {l:List Value} (hl:ls[k]? = some l):k < m:=by rw [← R.len];exact (List.getElem?_eq_some_iff.1 hl).1
theorem bJ {t e sz bytes:Nat} {x y:Operand} {A:Option Addr} {m c:Nat} {kk:IntKind} {z:Int} (k:Nat) (ht:fQ P t e sz bytes=true) (hx:ev ρ x=.slice A m c) (hy:ev ρ y=.int kk z) (hz:z=(k:Int)) (hk:k < m) (hA:A.isSome=true) :
  kS P ρ w (.indexAddr t x y) (elt A (k*sz)):=fun dst ty pos af gd=>by
 obtain ⟨h1,h2,h3,h4,h5,h6,zv,hzv,hzs⟩:=gP ht
 obtain ⟨a,rfl⟩:=Option.isSome_iff_exists.1 hA
 have:0≤z∧z < (m:Int):=⟨by omega,by omega⟩
 subst hz
 simp [execOp,hx,hy,Instr.indexAt,asIntOf,bW h1,this,eI h2,h3,elt,hk]
theorem Rd.some {sz m:Nat} {A:Option Addr} {ls:List (List Value)} (R:Rd w sz A m ls) (hm:0 < m):A.isSome=true:=by
 obtain ⟨b,off,rfl,_⟩:=R.at_ hm
 rfl
theorem aT {s f:Nat} (off':Nat) {x:Operand} {A:Option Addr} {k sz m:Nat} {ls:List (List Value)} (hf:eT P s f off'=true) (R:Rd w sz A m ls) (hm:0 < m) (hx:ev ρ x=elt A k):kS P ρ w (.fieldAddr s x f) (elt A (k+off')):=by
 obtain ⟨b,off,rfl,_⟩:=R.at_ hm
 have hx':ev ρ x=.pointer (Option.some ⟨b,off+k,none⟩):=by rw [hx];simp [elt,eV]
 have h:=aD (P:=P) (w:=w) off' hf hx'
 intro dst ty pos af gd
 rw [h dst ty pos af gd]
 simp [elt,eV,Nat.add_assoc]
theorem aQi {x:Operand} {A:Option Addr} {k sz m:Nat} {ls:List (List Value)} (R:Rd w sz A m ls) (hm:0 < m) (hx:ev ρ x=elt A k):kS P ρ w (.nilCheck x) (elt A k):=by
 obtain ⟨b,off,rfl,_⟩:=R.at_ hm
 have hx':ev ρ x=.pointer (Option.some ⟨b,off+k,none⟩):=by rw [hx];simp [elt,eV]
 have h:=bL (P:=P) (w:=w) hx'
 intro dst ty pos af gd
 rw [h dst ty pos af gd]
 simp [elt,eV]
theorem Rd.cell {sz m:Nat} {A:Option Addr} {ls:List (List Value)} (R:Rd w sz A m ls) {k:Nat} {l:List Value} (hl:ls[k]? = Option.some l):∃ b off,A=Option.some ⟨b,off,none⟩∧b < w.heap.size∧dL w b (off+k*sz) l:=by
 obtain ⟨b,off,hA,hlt,hc⟩:=R.at_ (by have:=R.below_len hl;omega)
 exact ⟨b,off,hA,hlt,hc k l hl⟩
theorem dM {T:TypeId} {x:Operand} {A:Option Addr} {k o sz m:Nat} {ls:List (List Value)} {l:List Value} (v:Value) (hT:iV P T=true) (R:Rd w sz A m ls) (hl:ls[k]? = Option.some l) (hx:ev ρ x=elt A (k*sz+o)) (hv:nth l o=Option.some v):kS P ρ w (.load T x) v:=by
 obtain ⟨b,off,rfl,_,C⟩:=R.cell hl
 exact aWz v hT (b:=b) (off:=off+(k*sz+o)) (by rw [hx];simp [elt,eV]) (by rw [← Nat.add_assoc];exact C o v (by rw [← nQ];exact hv))
theorem fU {T:TypeId} {x:Operand} {A:Option Addr} {k sz m:Nat} {ls:List (List Value)} (v:Value) (hT:iV P T=true) (R:Rd w sz A m ls) (hl:ls[k]? = Option.some [v]) (hx:ev ρ x=elt A (k*sz)):kS P ρ w (.load T x) v :=
 dM (o:=0) v hT R hl (by simpa using hx) rfl
theorem dW {T N:TypeId} {x:Operand} {A:Option Addr} {k m:Nat} {ls:List (List Value)} (l:List Value) (hT:jA P T=Option.some N) (R:Rd w N A m ls) (hl:ls[k]? = Option.some l) (hx:ev ρ x=elt A (k*N)):kS P ρ w (.load T x) (.agg l.toArray):=by
 obtain ⟨b,off,rfl,_,C⟩:=R.cell hl
 exact aEa l hT (b:=b) (off:=off+k*N) (by rw [hx];simp [elt,eV]) (R.each l (List.mem_of_getElem? hl)) C
theorem kW {T N:TypeId} {x:Operand} {A:Option Addr} {k o sz m:Nat} {ls:List (List Value)} {l:List Value} (v:List Value) (hT:jA P T=Option.some N) (R:Rd w sz A m ls) (hl:ls[k]? = Option.some l) (hx:ev ρ x=elt A (k*sz+o)) (hv:(l.drop o).take N=v) (hN:v.length=N):kS P ρ w (.load T x) (.agg v.toArray):=by
 obtain ⟨b,off,rfl,_,C⟩:=R.cell hl
 subst hv
 exact aEa _ hT (b:=b) (off:=off+(k*sz+o)) (by rw [hx];simp [elt,eV]) hN (by rw [← Nat.add_assoc];exact C.part o N)
theorem aX (i:Nat) {T m:Nat} {x:Operand} {b:Nat} {l:List Value} {T':TypeId} (hT:jA P T=Option.some m) (M:Mem w0 X S w) (hx:ev ρ x=.pointer (Option.some ⟨b,0,none⟩))
  (hi:gD S i=Option.some (Option.some b,bc l T')) (hl:l.length=m):kS P ρ w (.load T x) (.agg l.toArray) :=
 aEa l hT hx hl (dL.ofMem i M hi)
theorem bM {x:Operand} {i:Nat} {l:List Value} (v:Value) (hx:ev ρ x=.tuple l.toArray) (hv:nth l i=Option.some v):kS P ρ w (.extract x i) v:=aZz v hx (by rw [← nQ];exact hv)
def aW (P:Program) (f:FuncId):Bool:=match P.funcs[f]? with | some fn=>fn.body.isSome && !(fn.name == "runtime.NumGoroutine") | none=>false
theorem vA {x:Operand} {args:List Operand} {ts:Array TypeId} {f:FuncId} {first cap:List Value} (hf:aW P f=true)
  (hg:nA l0 ρ gd=true) (hd:Nat.blt d n=true) (hx:ev ρ x=.func (.func f) first.toArray cap.toArray)
  (h:Calls P f (first++args.map (ev ρ)++cap).toArray w (fun e w'=>∃ v,e=.returned v∧wl P n l0 rest Q (upd ρ d v) w')) :
  wl P n l0 (⟨some d,.call ⟨.value x,args.toArray,ts⟩,ty,pos,af,gd⟩::rest) Q ρ w:=by
 unfold aW at hf
 cases hfn:P.funcs[f]? with
 | none=>simp [hfn] at hf
 | some fn =>
  simp only [hfn,Bool.and_eq_true,Bool.not_eq_true'] at hf
  exact bLs hfn (by cases h:fn.body <;> simp [h] at hf ⊢) hf.2 hg hd hx h
theorem bX {σ:Type} {K:List Nat} {ρ0:fG} {fr:σ→List (Nat × Value)} {I:σ→World→Prop} {μ:σ→Nat} {s:σ} (s':σ) (h1:oS ρ (fr s')) (h2:pY ρ0 ρ K) (h3:I s' w) (h4:μ s' < μ s):aNk K ρ0 fr I μ s Q .normal ρ w:=⟨s',h1,h2,h3,h4⟩
theorem dE {σ:Type} {K:List Nat} {ρ0:fG} {fr:σ→List (Nat × Value)} {I:σ→World→Prop} {μ:σ→Nat} {s:σ} {i:Nat} (h:Q (.exit i) ρ w):aNk K ρ0 fr I μ s Q (.exit i) ρ w:=h
theorem uQ {σ:Type} {K:List Nat} {ρ0:fG} {fr:σ→List (Nat × Value)} {I:σ→World→Prop} {μ:σ→Nat} {s:σ} (h:Q .ret ρ w):aNk K ρ0 fr I μ s Q .ret ρ w:=h
theorem dZ {ρ:fG}:oS ρ []:=trivial
theorem bE {ρ:fG} {t:Nat} {v:Value} {l:List (Nat × Value)} (h:ρ t=v) (hl:oS ρ l):oS ρ ((t,v)::l):=⟨h,hl⟩
theorem gK {ρ ρ':fG}:pY ρ ρ' []:=trivial
theorem bZ {ρ ρ':fG} {t:Nat} {l:List Nat} (h:ρ' t=ρ t) (hl:pY ρ ρ' l):pY ρ ρ' (t::l):=⟨h,hl⟩
theorem dJ {w:World}:wO [] w:=trivial
theorem dS {p:Nat × (World→Prop)} {l:jB} {w:World} (h:p.2 w) (hl:wO l w):wO (p::l) w:=⟨h,hl⟩
theorem iE {k:IntKind} {a b:Int} (h:a=b):Value.int k a=Value.int k b:=by rw [h]
theorem bD {p q:Prop} {_:Decidable p} {_:Decidable q} (h:p↔q):Value.bool (decide p)=Value.bool (decide q):=by rw [decide_eq_decide.2 h]
theorem bT {q:Prop} {_:Decidable q} (h:q):Value.bool true=Value.bool (decide q):=by rw [decide_eq_true h]
theorem bF {q:Prop} {_:Decidable q} (h:¬ q):Value.bool false=Value.bool (decide q):=by rw [decide_eq_false h]
theorem fJ (x:Int) (h1 : -9223372036854775808≤x) (h2:x≤9223372036854775807):IntKind.wrap .i64 x=x:=by simp only [IntKind.wrap,IntKind.bits,IntKind.signed,Bool.true_and,decide_eq_true_eq,ge_iff_le];split <;> omega
def bNp {σ:Type} (K:List Nat) (ρ0:fG) (fr:σ→List (Nat × Value)) (I:σ→World→Prop) (Q:Exit→fG→World→Prop):Exit→fG→World→Prop :=
 pJ (fun ρ w=>∃ s,oS ρ (fr s)∧pY ρ0 ρ K∧I s w) Q
theorem aKh {σ:Type} {K:List Nat} {ρ0:fG} {fr:σ→List (Nat × Value)} {I:σ→World→Prop} (s:σ) (h1:oS ρ (fr s)) (h2:pY ρ0 ρ K) (h3:I s w):bNp K ρ0 fr I Q .normal ρ w:=⟨s,h1,h2,h3⟩
theorem bBm {σ:Type} {x y:Code} (K:List Nat) (fr:σ→List (Nat × Value)) (I:σ→World→Prop) (hx:W P n x (bNp K ρ fr I Q) ρ w) (hy:∀ s ρ' w',I s w'→W P n y Q (aUp (keep K ρ ρ') (fr s)) w'):W P n (.seq x y) Q ρ w :=
 bNx _ hx fun ρ' w' ⟨s,h1,h2,h3⟩=>by
  have:=hy s ρ' w' h3
  rw [aBc h2,wG h1] at this
  exact this
theorem bC {t t':TypeId} {x y:Operand} {a b:Int} (hx:ev ρ x=.int .i64 a) (hy:ev ρ y=.int .i64 b) (h1 : -9223372036854775808≤a+b) (h2:a+b≤9223372036854775807):kS P ρ w (.binOp .add t x y t') (.int .i64 (a+b)) :=
 cA _ hx hy (by simp only [aIq,fJ _ h1 h2])
theorem gG {t t':TypeId} {x y:Operand} {a b:Int} (hx:ev ρ x=.int .i64 a) (hy:ev ρ y=.int .i64 b) (h1 : -9223372036854775808≤a - b) (h2:a - b≤9223372036854775807):kS P ρ w (.binOp .sub t x y t') (.int .i64 (a - b)) :=
 cA _ hx hy (by simp only [aIq,fJ _ h1 h2])
theorem fC {t t':TypeId} {x y:Operand} {a b:Int} (hx:ev ρ x=.int .i64 a) (hy:ev ρ y=.int .i64 b) (h1 : -9223372036854775808≤a*b) (h2:a*b≤9223372036854775807):kS P ρ w (.binOp .mul t x y t') (.int .i64 (a*b)) :=
 cA _ hx hy (by simp only [aIq,fJ _ h1 h2])
theorem bH {s t:TypeId} {x:Operand} {k k':IntKind} {a:Int} (hs:(P.underlying s).isSome=true) (ht:P.underlying t=Option.some (.int k')) (hx:ev ρ x=.int k a) (hk:k'.wrap a=a):kS P ρ w (.convert s t x) (.int k' a):=by
 have h:=dF (w:=w) hs ht hx
 rwa [hk] at h
theorem aMe {dd:Nat} {xs ys:Array Value} {w:World}:(Op.eqFields dd xs ys []).run P w=.ok true w:=by simp [Op.eqFields]
theorem kU {dd:Nat} {xs ys:Array Value} {f:Field} {fs:List Field} {a b:Value} {r s:Bool} {w:World} (hn:(f.name == "_")=false) (ha:(part f.type xs f.offset).run P w=.ok a w) (hb:(part f.type ys f.offset).run P w=.ok b w) (he:(Op.equalIn dd f.type a b).run P w=.ok r w)
  (hr:(Op.eqFields dd xs ys fs).run P w=.ok s w):(Op.eqFields dd xs ys (f::fs)).run P w=.ok (r && s) w:=by
 have hn':f.name ≠ "_" := by simpa using hn
 simp only [Op.eqFields,if_pos hn',Sem.run_bind,ha,hb,he,Result.andThen_ok]
 cases r
 ·simp
 ·simpa using hr
theorem nD {T off:Nat} {l:List Value} {v:Value} {w:World} (hT:iV P T=true) (hv:nth l off=Option.some v):(part T l.toArray off).run P w=.ok v w:=by
 rw [nQ] at hv
 simp [part,(aBl hT w).1,hv]
theorem aGr {T off m:Nat} {l:List Value} {v:List Value} {w:World} (hT:jA P T=Option.some m) (hv:(l.drop off).take m=v):(part T l.toArray off).run P w=.ok (.agg v.toArray) w:=by
 obtain ⟨h1,h2,h3⟩:=pR hT w
 subst hv
 simp only [part,Sem.run_bind,h1,Result.andThen_ok,if_true,eI h3,h2,Sem.run_pure]
 simp [List.extract_eq_take_drop,List.drop_take]
theorem aAv {T:TypeId} {fs:Array Field} {dd:Nat} {xs ys:List Value} {r:Bool} {w:World} (hu:P.underlying T=Option.some (.struct fs)) (hp:P.stoodInHeld T=false) (h:(Op.eqFields dd xs.toArray ys.toArray fs.toList).run P w=.ok r w):(Op.equalIn (dd+1) T (.agg xs.toArray) (.agg ys.toArray)).run P w=.ok r w:=by
 have hf:P.fieldsOf T=fs:=by simp [Program.fieldsOf,hu]
 rw [run_equalIn_struct (P:=P) w dd T _ _ (by rw [hf];exact hu) hp,hf]
 exact h
theorem tZ {T:TypeId} {dd:Nat} {k k':IntKind} {a b:Int} {w:World} (hu:P.underlying T=Option.some (.int k')):(Op.equalIn (dd+1) T (.int k a) (.int k b)).run P w=.ok (decide (a=b)) w:=by
 rw [run_equalIn_int w dd T k k' a b hu]
 congr 1
theorem bv {t:Nat} {b b':Bool} (h:ρ t=.bool b) (e:b=b'):ρ t=.bool b':=by rw [h,e]
theorem iv {t:Nat} {k:IntKind} {a b:Int} (h:ρ t=.int k a) (e:a=b):ρ t=.int k b:=by rw [h,e]
theorem bA {e:eL} {S:List eL} {i:Nat} (h:gD S i=Option.some e):e∈S:=by
 rw [jS] at h
 exact List.mem_of_getElem? h
theorem Rd.someK {sz m:Nat} {A:Option Addr} {ls:List (List Value)} (R:Rd w sz A m ls) {k:Nat} {l:List Value} (hl:ls[k]? = Option.some l):A.isSome=true:=R.some (Nat.lt_of_le_of_lt (Nat.zero_le k) (R.below_len hl))
theorem pZ {i:Nat} {r:List (Nat × Nat)} {pend:jB} (ho:oN l0 i=Option.some ⟨Option.some d,op,ty,pos,af,gd⟩) (hg:nA l0 ρ gd=false) (hd:Nat.blt d n=true)
  (h:D P n l0 Q r ((i,fun w'=>Yl P l0 ⟨Option.some d,op,ty,pos,af,gd⟩ ρ undef w')::pend) (upd ρ d undef) w):D P n l0 Q ((i,1)::r) pend ρ w :=
 ⟨_,d,undef,ho,rfl,hd,.inr ⟨hg,rfl⟩,h⟩
theorem aQh {t t' e:TypeId} {x:Operand} {A:Option Addr} {k sz m:Nat} {ls:List (List Value)} {l:List Value} (ht:P.underlying t=Option.some (.pointer e)) (R:Rd w sz A m ls) {kk:Nat} (hl:ls[kk]? = Option.some l) (hx:ev ρ x=elt A k) :
  kS P ρ w (.binOp .eql t x (.const (.pointer none)) t') (.bool false):=by
 obtain ⟨b,off,rfl,_⟩:=R.cell hl
 exact gX false ht (p:=Option.some ((⟨b,off,none⟩:Addr).add k)) (by rw [hx];rfl) Z
theorem eN {T:TypeId} {z:List Value} {pl:List (Nat × Nat)} {fs:Array Field} (hu:P.underlying T=some (.struct fs)) (hz:nI P T=some (.agg z.toArray)) (hpl:fs.toList.map (fun f=>(f.offset,P.cellsOf f.type))=pl) (ha:(fs.toList.all fun f=>(P.info? f.type).isSome)=true):gE P T z pl:=by
 obtain ⟨zi,hzi⟩:=Option.isSome_iff_exists.1 (mH hu)
 refine ⟨fs,zi,hu,hzi,by simpa [nI,hzi] using hz,hpl,fun f hf => ?_⟩
 exact List.all_eq_true.1 ha f (by simpa using hf)
end
end Go.Bil

namespace Go.Bil
structure Body where
 key:Int
 radius:Int
 ax:Int
 ay:Int
 mass:Int
 bounce:Int
 px:Int
 py:Int
 vx:Int
 vy:Int
 deriving DecidableEq
instance:Inhabited Body:=⟨⟨0,0,0,0,0,0,0,0,0,0⟩⟩
def aF (b:Body):List Value:=[.int .u32 b.key,.int .i32 b.radius,.int .i32 b.ax,.int .i32 b.ay,.int .i32 b.mass,.int .i32 b.bounce,.int .i32 b.px,.int .i32 b.py,.int .i32 b.vx,.int .i32 b.vy]
theorem bBz {a b:Body}:a=b↔(a.key=b.key∧a.radius=b.radius∧a.ax=b.ax∧a.ay=b.ay∧a.mass=b.mass∧a.bounce=b.bounce∧a.px=b.px∧a.py=b.py∧a.vx=b.vx∧a.vy=b.vy):=by
 cases a;cases b;simp
theorem iP (b:Body):(aF b).length=10:=rfl
theorem iQ (b:Body):∀ u∈aF b,one u=true:=by simp [aF,one]
def xS (n limit:Int):Prop := -limit≤n∧n≤limit
instance (n limit:Int):Decidable (xS n limit):=by unfold xS;infer_instance
def check (b:Body):Int :=
 if b.radius < 4096∨b.radius > 4194304 then 4
 else if ¬ (xS b.ax 4194304∧xS b.ay 4194304) then 5
 else if b.mass < 0∨b.mass > 1048576 then 6
 else if b.bounce < 0∨b.bounce > 65536 then 7
 else if ¬ (xS b.px 1073741824∧xS b.py 1073741824) then 8
 else if ¬ (xS b.vx 16777216∧xS b.vy 16777216) then 9
 else 0
theorem aVr (b:Body) (h:¬ (4096≤b.radius∧b.radius≤4194304)):check b=4:=by unfold check;rw [if_pos (by omega)]
theorem aVs (b:Body) (h:4096≤b.radius∧b.radius≤4194304) (h2:¬ (-4194304≤b.ax∧b.ax≤4194304 ∧ -4194304≤b.ay∧b.ay≤4194304)):check b=5:=by
 unfold check xS;rw [if_neg (by omega),if_pos (by omega)]
theorem aVt (b:Body) (h:4096≤b.radius∧b.radius≤4194304) (h2 : -4194304≤b.ax∧b.ax≤4194304 ∧ -4194304≤b.ay∧b.ay≤4194304) (h3:¬ (0≤b.mass∧b.mass≤1048576)):check b=6:=by
 unfold check xS;rw [if_neg (by omega),if_neg (by omega),if_pos (by omega)]
theorem aVu (b:Body) (h:4096≤b.radius∧b.radius≤4194304) (h2 : -4194304≤b.ax∧b.ax≤4194304 ∧ -4194304≤b.ay∧b.ay≤4194304) (h3:0≤b.mass∧b.mass≤1048576) (h4:¬ (0≤b.bounce∧b.bounce≤65536)):check b=7:=by
 unfold check xS;rw [if_neg (by omega),if_neg (by omega),if_neg (by omega),if_pos (by omega)]
theorem aVv (b:Body) (h:4096≤b.radius∧b.radius≤4194304) (h2 : -4194304≤b.ax∧b.ax≤4194304 ∧ -4194304≤b.ay∧b.ay≤4194304) (h3:0≤b.mass∧b.mass≤1048576) (h4:0≤b.bounce∧b.bounce≤65536)
  (h5:¬ (-1073741824≤b.px∧b.px≤1073741824 ∧ -1073741824≤b.py∧b.py≤1073741824)):check b=8:=by
 unfold check xS;rw [if_neg (by omega),if_neg (by omega),if_neg (by omega),if_neg (by omega),if_pos (by omega)]
theorem aVw (b:Body) (h:4096≤b.radius∧b.radius≤4194304) (h2 : -4194304≤b.ax∧b.ax≤4194304 ∧ -4194304≤b.ay∧b.ay≤4194304) (h3:0≤b.mass∧b.mass≤1048576) (h4:0≤b.bounce∧b.bounce≤65536)
  (h5 : -1073741824≤b.px∧b.px≤1073741824 ∧ -1073741824≤b.py∧b.py≤1073741824) (h6:¬ (-16777216≤b.vx∧b.vx≤16777216 ∧ -16777216≤b.vy∧b.vy≤16777216)):check b=9:=by
 unfold check xS;rw [if_neg (by omega),if_neg (by omega),if_neg (by omega),if_neg (by omega),if_neg (by omega),if_pos (by omega)]
theorem bIr (b:Body) (h:4096≤b.radius∧b.radius≤4194304) (h2 : -4194304≤b.ax∧b.ax≤4194304 ∧ -4194304≤b.ay∧b.ay≤4194304) (h3:0≤b.mass∧b.mass≤1048576) (h4:0≤b.bounce∧b.bounce≤65536)
  (h5 : -1073741824≤b.px∧b.px≤1073741824 ∧ -1073741824≤b.py∧b.py≤1073741824) (h6 : -16777216≤b.vx∧b.vx≤16777216 ∧ -16777216≤b.vy∧b.vy≤16777216):check b=0:=by
 unfold check xS;rw [if_neg (by omega),if_neg (by omega),if_neg (by omega),if_neg (by omega),if_neg (by omega),if_neg (by omega)]
theorem jQ (x:Int) (h1 : -2147483648≤x) (h2:x≤2147483647):IntKind.wrap .i32 x=x:=by simp only [IntKind.wrap,IntKind.bits,IntKind.signed,Bool.true_and,decide_eq_true_eq,ge_iff_le];split <;> omega
theorem aIb (x:Int) (h1:0≤x) (h2:x≤4294967295):IntKind.wrap .u32 x=x:=by simp only [IntKind.wrap,IntKind.bits,IntKind.signed,Bool.false_and,Bool.false_eq_true,if_false];omega
theorem lO (x:Int) (h1:0≤x) (h2:x≤18446744073709551615):IntKind.wrap .u64 x=x:=by simp only [IntKind.wrap,IntKind.bits,IntKind.signed,Bool.false_and,Bool.false_eq_true,if_false];omega
theorem sK {α:Type} {p:Nat→α→Prop} {xs:List α} {k:Nat} {x:α} (h:∀ (j:Nat) (c:α),j < k→xs[j]? = some c→p j c) (hx:xs[k]? = some x) (hp:p k x):∀ (j:Nat) (c:α),j < k+1→xs[j]? = some c→p j c:=by
 intro j c hj hc
 by_cases e:j=k
 ·subst e
  rw [hx] at hc
  injection hc with hc
  subst hc
  exact hp
 ·exact h j c (by omega) hc
theorem cF {α:Type} {xs:List α} {k n:Nat} (hn:xs.length=n) (h:k < n):∃ x,xs[k]? = some x:=⟨xs[k]'(by omega),List.getElem?_eq_getElem _⟩
def dO (key:Int):List Body→Int
 | [] => -1
 | b::l=>if b.key=key then 0 else (let r:=dO key l;if r < 0 then -1 else r+1)
theorem aJz {key:Int}:∀ {l:List Body},(∀ (j:Nat) (b:Body),l[j]? = some b→b.key≠key)→dO key l = -1
 | [],_=>rfl
 | b::l,h=>by
  unfold dO
  rw [if_neg (h 0 b (by simp)),aJz (l:=l) (fun j c hj=>h (j+1) c (by simpa using hj))]
  rfl
theorem yO {key:Int}:∀ {l:List Body} {k:Nat} {b:Body},l[k]? = some b→b.key=key→(∀ (j:Nat) (c:Body),j < k→l[j]? = some c→c.key≠key)→dO key l=(k:Int)
 | [],_,_,h,_,_=>by simp at h
 | b::l,0,c,h,hk,_=>by
  simp only [List.getElem?_cons_zero,Option.some.injEq] at h
  subst h
  unfold dO
  rw [if_pos hk];rfl
 | b::l,k+1,c,h,hk,hn=>by
  simp only [List.getElem?_cons_succ] at h
  unfold dO
  rw [if_neg (hn 0 b (by omega) (by simp)),yO h hk (fun j c hj hc=>hn (j+1) c (by omega) (by simpa using hc))]
  simp only []
  rw [if_neg (by omega)]
  omega
end Go.Bil

namespace Go.Bil
structure Row where
 A:Option Addr
 n:Nat
 c:Nat
 e:eL
def fY (b:Body) (s:List Body × Bool) (x:Body):List Body × Bool :=
 let s:=if s.2=false∧b.key≤x.key then (s.1++[b],true) else s
 if x.key≠b.key then (s.1++[x],s.2) else s
def kF (b:Body) (gone:Bool) (xs:List Body):List Body × Bool:=xs.foldl (fY b) ([],gone)
def xW (xs:List Body) (b:Body) (gone:Bool):List Body :=
 let s:=kF b gone xs
 if s.2 then s.1 else s.1++[b]
def bAi (s:List Body × Bool):Nat:=s.1.length+(if s.2 then 0 else 1)
theorem aNa (b:Body) (s:List Body × Bool) (x:Body):bAi (fY b s x)≤bAi s+1:=by
 obtain ⟨l,d⟩:=s
 unfold fY bAi
 cases d <;> by_cases h:b.key≤x.key <;> by_cases h2:x.key=b.key <;> simp [h,h2] <;> omega
theorem aCs (b:Body):∀ (xs:List Body) (s:List Body × Bool),bAi (xs.foldl (fY b) s)≤bAi s+xs.length
 | [],s=>by simp
 | x::xs,s=>by
  have h1:=aCs b xs (fY b s x)
  have h2:=aNa b s x
  simp only [List.foldl_cons,List.length_cons]
  omega
theorem cH {α:Type} {xs:List α} {k:Nat} {x:α} (h:xs[k]? = some x):xs.take (k+1)=xs.take k++[x]:=by
 rw [List.take_add_one,h]
 rfl
theorem gO (b:Body) (gone:Bool) {xs:List Body} {k:Nat} {x:Body} (h:xs[k]? = some x):kF b gone (xs.take (k+1))=fY b (kF b gone (xs.take k)) x:=by
 unfold kF
 rw [cH h,List.foldl_append]
 rfl
theorem aTn (b:Body) (gone:Bool) (xs:List Body) (k:Nat):(kF b gone (xs.take k)).1.length≤k+1:=by
 have h:=aCs b (xs.take k) ([],gone)
 have h2:(xs.take k).length≤k:=List.length_take_le _ _
 unfold bAi at h
 unfold kF
 have h3:(if gone=true then 0 else 1)≤1:=by split <;> omega
 simp only [List.length_nil] at h
 omega
end Go.Bil
