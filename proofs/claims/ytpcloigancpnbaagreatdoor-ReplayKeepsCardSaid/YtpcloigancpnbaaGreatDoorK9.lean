/- Part of the proof of a law of this seat (1 texts). No conditions. -/
import Derived.Test.YtpcloigancpnbaaGreatDoorK2
import Derived.RangeFuncLeaves
import Derived.RangeFuncRecord
import Derived.RangeFuncIn
import Derived.TacticsIn
set_option linter.unusedVariables false
set_option linter.unusedSimpArgs false
set_option linter.unnecessarySimpa false
set_option maxHeartbeats 100000000
namespace Go.Bil
def aGk:List Oper→Bool
 | []=>true
 | o::l=>(match o.op with | .defer _=>false | _=>true) && aGk l
abbrev FR (l:Option Nat):Fence:={ Fence.wide with round:=l }
theorem aVe (l:Option Nat) (f:FuncId):(FR l).fn f:=trivial
theorem bBj {l:Option Nat} {n:Nat} {P:Program} {f:FuncId} {args:Array Value} {w:World} {R:Ending→World→Prop} (h:Calls P f args w R):CallsIn (FR l) n P f args w R :=
 (callsIn_wide (n:=n)).2 h
theorem bIh {l:Option Nat} {n:Nat} {P:Program} {row:String} {args:Array Value} {w:World} {R:Value→World→Prop} (h:Rows P row args w R):RowsIn (FR l) n P row args w R:=fun c cs _=>by
 obtain ⟨v,w',r,s⟩:=h c cs
 exact ⟨v,w',r,stepsIn_wide.2 s⟩
theorem aTg {o:Oper} {l:List Oper} (h:aGk (o::l)=true):(∀ c,o.op≠.defer c)∧aGk l=true:=by
 unfold aGk at h
 simp only [Bool.and_eq_true] at h
 refine ⟨fun c e => ?_,h.2⟩
 rw [e] at h
 cases h.1
theorem mN {P:Program} {ops:Array Oper} {Q:Exit→Act→World→Prop} (lp:Option Nat) (hQ:∀ a w,¬ Q .outgrown a w):∀ (l:List Oper) (a:Act) (w:World),aGk l=true→wpList P ops Q l a w→wpListIn (FR lp) 0 P ops Q l a w
 | [],a,w,_,h=>h
 | o::l,a,w,hd,h=>by
  obtain ⟨h1,h2⟩:=aTg hd
  unfold wpListIn
  unfold wpList at h
  split
  ·rename_i hw
   rw [if_pos hw] at h
   rcases h with h | ⟨_,a0,w0,h⟩
   ·refine ⟨fun f _=>aVe _ f, ?_⟩
    rw [Oper.semAt_eq _ _ _ h1]
    unfold Oper.wp at h
    generalize (execOp a.eval o).run P w=r at h ⊢
    cases r with
    | ok nx w' =>
     cases nx with
     | value v=>exact mN lp hQ l _ _ h2 h
     | skip=>exact mN lp hQ l _ _ h2 h
     | defer d=>exact mN lp hQ l _ _ h2 h
     | enter f args =>
      refine ⟨fun he=>by simp [Fence.wide] at he,bBj (fun cs => ?_)⟩
      obtain ⟨e,w1,fr,hR,hx⟩:=h cs
      refine ⟨e,w1,fr, ?_,hx⟩
      cases e with
      | returned v=>exact mN lp hQ l _ _ h2 hR
      | panicked c=>exact hR
      | outgrown=>exact hR
     | row row args =>
      refine ⟨fun he=>by simp [Fence.wide] at he,bIh fun c cs => ?_⟩
      obtain ⟨v,w1,hR,hx⟩:=h c cs
      exact ⟨v,w1,mN lp hQ l _ _ h2 hR,hx⟩
     | round _ _ _ _ _=>exact h.elim
     | _=>exact h.elim
    | halt x w' =>
     cases x with
     | panic v=>exact h
     | _=>exact h.elim
   ·exact absurd h (hQ _ _)
  ·rename_i hw
   rw [if_neg hw] at h
   exact ⟨fun f _=>aVe _ f,mN lp hQ l _ _ h2 h⟩
section
variable {P:Program} {n lp:Nat} {Q:Exit→fG→World→Prop} {ρ:fG} {w w0:World} {X:List Nat} {S:List eL}
@[irreducible] def WR (P:Program) (lp n:Nat) (c:Code) (Q:Exit→fG→World→Prop) (ρ:fG) (w:World):Prop :=
 ∀ a,Agree n a ρ→c.wpIn (FR (some lp)) 0 P (qO n Q) a w
theorem vE {id:Nat} {l:List Oper} (hd:aGk l=true) (hQ:∀ ρ w,¬ Q .outgrown ρ w) (h:wl P n l l Q ρ w):WR P lp n (.region id l.toArray false) Q ρ w:=by
 unfold WR
 unfold wl at h
 exact fun a ha=>wpIn_region_lit (mN (some lp) (fun a w ⟨ρ,_,h⟩=>hQ ρ w h) l a w hd (h a ha))
theorem aNy {id:Nat} {c:Code} (h:WR P lp n c (aIj id Q) ρ w):WR P lp n (.block id c) Q ρ w:=by
 unfold WR at *
 intro a ha
 refine wpIn_block (wpIn_mono (h a ha) ?_)
 rintro e a w ⟨ρ,h1,h2⟩
 cases e with
 | exit i =>
  simp only [aIj] at h2
  simp only [Exit.inBlock]
  split <;> rename_i hi
  ·rw [if_pos hi] at h2;exact ⟨ρ,h1,h2⟩
  ·rw [if_neg hi] at h2;exact ⟨ρ,h1,h2⟩
 | _=>exact ⟨ρ,h1,h2⟩
theorem Mem.putObj {i l:Nat} {o:Obj} (o':Obj) (M:Mem w0 X S w) (hi:gD S i=some (some l,o)):Mem w0 X (S.set i (some l,o')) (w.putObj l o'):=by
 have hat:=M.at_ hi
 exact M.write (by rw [← jS];exact hi) o' ⟨rfl,rfl,rfl,by simp⟩ (World.putObj_heap_same (Array.getElem?_eq_some_iff.1 hat).1) fun c hc=>World.putObj_heap_other hc
theorem bHc {tmps:Array Value} {ρ:fG} {v:Value} {p:Nat} (hn:tmps.size=n) (hρ:∀ t,tmps.getD t undef=ρ t) (hp:p < n):Agree n { tmps:=tmps.setIfInBounds p v,defers:=[] } (upd ρ p v):=by
 have h0:Agree n { tmps:=tmps,defers:=[] } ρ:=⟨hn,rfl,hρ⟩
 exact h0.upd p (by simpa using hp) v
theorem aQt {l p:Nat} {r:Loop} {v:Value} {R:World→Prop} {T:List eL} (hOw:Own ((some l,.loop r)::T) w) (h1:r.state=.ready) (h2:r.pending=none) (hp:r.params=#[p]) (hn:r.tmps.size=n) (hlt:p < n)
  (hρ:∀ t,r.tmps.getD t undef=ρ t)
  (h:WR P l n r.assign (fun e ρ1 w1=>e=.normal∧∃ S1,Mem w (bY ((some l,.loop r)::T)) S1 w1∧gD S1 0=some (some l,.loop r)∧∀ w2,Mem w (bY ((some l,.loop r)::T)) (S1.set 0 (some l,.loop { r with state:=.busy })) w2 →
   WR P l n r.body (fun e ρ2 w3=>e=.normal∧∃ S3,Mem w (bY ((some l,.loop r)::T)) S3 w3∧gD S3 0=some (some l,.loop { r with state:=.busy })∧∀ w4,Mem w (bY ((some l,.loop r)::T)) (S3.set 0 (some l,.loop r)) w4→R w4) ρ1 w2) (upd ρ p v) w) :
  (Instr.yield l #[v]).run P w=.ok (.round l r.fn (r.tmps.setIfInBounds p v) r.assign r.body) w ∧
  RoundIn (FR none) 0 P l r.fn (r.tmps.setIfInBounds p v) r.assign r.body w (fun e w'=>e=.returned (.bool true)∧R w'):=by
 have hO:w.heap[l]? = some (.loop r):=hOw.own _ _ List.mem_cons_self
 constructor
 ·have:=run_yield (P:=P) (args:=#[v]) hO (by rw [hp];rfl)
  rw [this,hp]
  simp
 ·refine roundIn_of_wpIn trivial ?_
  unfold WR at h
  refine wpIn_mono (h _ (bHc hn hρ hlt)) ?_
  rintro e a1 w1 ⟨ρ1,ha1,rfl,S1,M1,hS1,hb⟩
  have hL1:=M1.at_ hS1
  refine ⟨_,run_beginRound hL1 h1, ?_⟩
  have hbody:=hb _ (M1.putObj (.loop { r with state:=.busy }) hS1)
  unfold WR at hbody
  refine wpIn_mono (hbody a1 ha1) ?_
  rintro e a2 w3 ⟨ρ2,ha2,rfl,S3,M3,hS3,hR⟩
  have hL3:=M3.at_ hS3
  refine ⟨_,_,run_endRound none hL3,Z, ?_⟩
  have he:(Loop.mk .ready none r.fn r.tmps r.params r.assign r.body r.defers)=r:=by
   cases r
   simp only at h1 h2
   subst h1
   subst h2
   rfl
  have M4:=M3.putObj (.loop { { r with state:=.busy } with state:=if (none:Option Code).isNone then .ready else .done,pending:=none }) hS3
  simp only [Option.isNone_none,if_true] at M4 ⊢
  rw [he] at M4 ⊢
  exact hR _ M4
end
section
variable {P:Program} {n:Nat} {l0 rest:List Oper} {Q:Exit→fG→World→Prop} {ρ:fG} {w:World} {d:Nat} {ty:TypeId} {pos:String} {af:Array Edge} {gd:Option (Nat × Bool)}
@[irreducible] def wlY (P:Program) (n:Nat) (l0 l:List Oper) (Q:Exit→fG→World→Prop) (ρ:fG) (w:World):Prop :=
 ∀ a,Agree n a ρ→wpListIn (FR none) 0 P l0.toArray (qO n Q) l a w
theorem aJl {id:Nat} {l:List Oper} (h:wlY P n l l Q ρ w):W P n (.region id l.toArray false) Q ρ w:=by
 unfold W
 unfold wlY at h
 exact fun a ha=>(wpIn_wide (n:=0)).1 (wpIn_region_lit (h a ha))
theorem bHw {l:List Oper} (hd:aGk l=true) (hQ:∀ ρ w,¬ Q .outgrown ρ w) (h:wl P n l0 l Q ρ w):wlY P n l0 l Q ρ w:=by
 unfold wlY
 unfold wl at h
 exact fun a ha=>mN none (fun a w ⟨ρ,_,h⟩=>hQ ρ w h) l a w hd (h a ha)
theorem aLg {op:Op} {v:Value} (A:kS P ρ w op v) (hg:nA l0 ρ gd=true) (hd:Nat.blt d n=true) (h:wlY P n l0 rest Q (upd ρ d v) w):wlY P n l0 (⟨some d,op,ty,pos,af,gd⟩::rest) Q ρ w:=by
 unfold wlY at *
 intro a ha
 unfold wpListIn
 rw [kE ha]
 rw [if_pos hg]
 refine ⟨fun f _=>aVe _ f, ?_⟩
 have e:(Oper.semAt (FR none).round a.eval ⟨some d,op,ty,pos,af,gd⟩).run P w=.ok (.value v) w:=by
  show (execOp a.eval ⟨some d,op,ty,pos,af,gd⟩).run P w=_
  rw [ha.eval]
  exact A _ _ _ _ _
 rw [e]
 exact h _ (ha.upd d hd v)
theorem aLh {x y:Operand} {ts:Array TypeId} {l:Nat} {v:Value} {fn:FuncId} {tmps:Array Value} {as bo:Code} (hg:nA l0 ρ gd=true) (hd:Nat.blt d n=true) (hx:ev ρ x=.func (.yield l) #[] #[]) (hy:ev ρ y=v)
  (hr:(Instr.yield l #[v]).run P w=.ok (.round l fn tmps as bo) w)
  (h:RoundIn (FR none) 0 P l fn tmps as bo w (fun e w'=>∃ v',e=.returned v'∧wlY P n l0 rest Q (upd ρ d v') w')):wlY P n l0 (⟨some d,.call ⟨.value x,[y].toArray,ts⟩,ty,pos,af,gd⟩::rest) Q ρ w:=by
 unfold wlY at *
 intro a ha
 unfold wpListIn
 rw [kE ha]
 rw [if_pos hg]
 refine ⟨fun f _=>aVe _ f, ?_⟩
 have e:(Oper.semAt (FR none).round a.eval ⟨some d,.call ⟨.value x,[y].toArray,ts⟩,ty,pos,af,gd⟩).run P w=.ok (.round l fn tmps as bo) w:=by
  show (execOp a.eval ⟨some d,.call ⟨.value x,[y].toArray,ts⟩,ty,pos,af,gd⟩).run P w=_
  rw [ha.eval]
  simp [execOp,hx,hy,resolve,Deferred.ofValue,invoke,hr]
 rw [e]
 refine ⟨fun he=>by simp [Fence.wide] at he,RoundIn.mono h ?_⟩
 rintro e w' ⟨v',rfl,hv⟩
 exact hv _ (ha.upd d hd v')
end
def bFf (n:Nat) (Q:List Deferred→Exit→fG→World→Prop):Exit→Act→World→Prop:=fun e a w=>∃ a0 ρ D,Agree n a0 ρ∧a={ a0 with defers:=D }∧Q D e ρ w
def bHn (K:List Deferred→fG→World→Prop) (Q:List Deferred→Exit→fG→World→Prop):List Deferred→Exit→fG→World→Prop
 | D,.normal,ρ,w=>K D ρ w
 | D,e,ρ,w=>Q D e ρ w
def bBw (id:Nat) (Q:List Deferred→Exit→fG→World→Prop):List Deferred→Exit→fG→World→Prop
 | D,.exit i,ρ,w=>if i=id then Q D .normal ρ w else Q D (.exit i) ρ w
 | D,e,ρ,w=>Q D e ρ w
section
variable {P:Program} {n:Nat} {Q:List Deferred→Exit→fG→World→Prop} {ρ:fG} {w w0:World} {D:List Deferred} {X:List Nat} {S:List eL}
theorem tB {K:List Deferred→fG→World→Prop} (h:K D ρ w):bHn K Q D .normal ρ w:=h
theorem bMk {id:Nat} (h:Q D .normal ρ w):bBw id Q D .normal ρ w:=h
@[irreducible] def W2 (P:Program) (n:Nat) (D:List Deferred) (c:Code) (Q:List Deferred→Exit→fG→World→Prop) (ρ:fG) (w:World):Prop :=
 ∀ a,Agree n a ρ→c.wp P (bFf n Q) { a with defers:=D } w
theorem sJ {x y:Code} (h:W2 P n D x (bHn (fun D' ρ w=>W2 P n D' y Q ρ w) Q) ρ w):W2 P n D (.seq x y) Q ρ w:=by
 unfold W2 at *
 intro a ha
 refine wp_seq (Code.wp_mono ?_ (h a ha))
 rintro e a' w' ⟨a0,ρ',D',h1,rfl,h2⟩
 cases e with
 | normal=>exact (h2:∀ a,Agree n a ρ'→y.wp P (bFf n Q) { a with defers:=D' } w') a0 h1
 | _=>exact ⟨a0,ρ',D',h1,rfl,h2⟩
theorem aNw {id:Nat} {c:Code} (h:W2 P n D c (bBw id Q) ρ w):W2 P n D (.block id c) Q ρ w:=by
 unfold W2 at *
 intro a ha
 refine wp_block (Code.wp_mono ?_ (h a ha))
 rintro e a' w' ⟨a0,ρ',D',h1,rfl,h2⟩
 cases e with
 | exit i =>
  simp only [bBw] at h2
  simp only [Exit.inBlock]
  split <;> rename_i hi
  ·rw [if_pos hi] at h2;exact ⟨a0,ρ',D',h1,rfl,h2⟩
  ·rw [if_neg hi] at h2;exact ⟨a0,ρ',D',h1,rfl,h2⟩
 | _=>exact ⟨a0,ρ',D',h1,rfl,h2⟩
theorem bBl (h:Q D .ret ρ w):W2 P n D .ret Q ρ w:=by unfold W2;exact fun a ha=>wp_ret ⟨a,ρ,D,ha,rfl,h⟩
theorem put_defers (a:Act) (D:List Deferred) (d:Option Nat) (v:Value):({ a with defers:=D }:Act).put d v={ a.put d v with defers:=D }:=by
 cases d <;> rfl
theorem aPb (a:Act) (D:List Deferred):({ a with defers:=D }:Act).eval=a.eval:=by funext x;cases x <;> rfl
theorem qB {id:Nat} {l:List Oper} (h:wl P n l l (Q []) ρ w):W2 P n [] (.region id l.toArray false) Q ρ w:=by
 unfold W2
 unfold wl at h
 intro a ha
 have ea:({ a with defers:=[] }:Act)=a:=by obtain ⟨t,d⟩:=a;have:=ha.defers;simp only at this;rw [this]
 rw [ea]
 refine Code.wp_mono ?_ (wp_region_lit (h a ha))
 rintro e a' w' ⟨ρ',h1,h2⟩
 have ea':({ a' with defers:=[] }:Act)=a':=by obtain ⟨t,d⟩:=a';have:=h1.defers;simp only at this;rw [this]
 exact ⟨a',ρ',[],h1,ea'.symm,h2⟩
@[irreducible] def wl2 (P:Program) (n:Nat) (D:List Deferred) (l0 l:List Oper) (Q:List Deferred→Exit→fG→World→Prop) (ρ:fG) (w:World):Prop :=
 ∀ a,Agree n a ρ→wpList P l0.toArray (bFf n Q) l { a with defers:=D } w
theorem aJk {id:Nat} {l:List Oper} (h:wl2 P n D l l Q ρ w):W2 P n D (.region id l.toArray false) Q ρ w:=by
 unfold W2
 unfold wl2 at h
 exact fun a ha=>wp_region_lit (h a ha)
theorem aXm {l0:List Oper} (h:Q D .normal ρ w):wl2 P n D l0 [] Q ρ w:=by unfold wl2;exact fun a ha=>⟨a,ρ,D,ha,rfl,h⟩
theorem aXn {l0 rest:List Oper} {d:Nat} {op:Op} {ty:TypeId} {pos:String} {af:Array Edge} {gd:Option (Nat × Bool)} {v:Value} (A:kS P ρ w op v) (hg:nA l0 ρ gd=true) (hd:Nat.blt d n=true)
  (h:wl2 P n D l0 rest Q (upd ρ d v) w):wl2 P n D l0 (⟨some d,op,ty,pos,af,gd⟩::rest) Q ρ w:=by
 unfold wl2 at *
 intro a ha
 unfold wpList
 have hw:=kE (l0:=l0) ha ⟨some d,op,ty,pos,af,gd⟩
 rw [hw]
 rw [if_pos hg]
 refine .inl ?_
 unfold Oper.wp
 rw [aPb,ha.eval,A _ _ _ _ _]
 simp only [Oper.upon,put_defers]
 exact h _ (ha.upd d hd v)
theorem aNx {g p:Nat} {as bo:Code} {f:FuncId} {cap:List Value} (hf:aW P f=true) (M:Mem w0 X S w) (hg:ρ g=.func (.func f) #[] cap.toArray)
  (h:∀ (fn B l:Nat) (tmps:Array Value) (w1:World),(∀ t,tmps.getD t undef=ρ t)→tmps.size=n→Mem w0 X ((some l,.loop ⟨.ready,none,fn,tmps,#[p],as,bo,B⟩)::S++[(some B,.deferred (some []))]) w1 →
   Calls P f (.func (.yield l) #[] #[]::cap).toArray w1 (fun e w2=>∃ v,e=.returned v∧∃ S',Mem w0 X ((some l,.loop ⟨.ready,none,fn,tmps,#[p],as,bo,B⟩)::S') w2 ∧
    ∀ w3,Mem w0 X ((some l,.loop ⟨.exhausted,none,fn,tmps,#[p],as,bo,B⟩)::S') w3→Q [⟨.collected B,#[]⟩] .normal ρ w3)) :
  W2 P n [] (.rangeFunc (.tmp g) #[p] as bo) Q ρ w:=by
 unfold W2
 intro a ha
 have ea:({ a with defers:=[] }:Act)=a:=by obtain ⟨t,d⟩:=a;have:=ha.defers;simp only at this;rw [this]
 rw [ea]
 unfold aW at hf
 cases hfn:P.funcs[f]? with
 | none=>simp [hfn] at hf
 | some fnc =>
  simp only [hfn,Bool.and_eq_true,Bool.not_eq_true'] at hf
  have hb':¬ fnc.body=Option.none:=by intro e;rw [e] at hf;simp at hf
  have hnm':¬ fnc.name = "runtime.NumGoroutine" := by simpa using hf.2
  refine (wpIn_wide (n:=0)).1 (wpIn_rangeFunc ?_)
  intro fn _
  obtain ⟨w2,hw2⟩:∃ w2,(w.alloc (.deferred (some []))).alloc (.loop ⟨.ready,none,fn,a.tmps,#[p],as,bo,w.heap.size⟩)=w2:=⟨_,rfl⟩
  have he:(Instr.enterLoop fn a.tmps #[p] as bo none).run P w=.ok (w.heap.size+1,[⟨.collected w.heap.size,#[]⟩]) w2:=by rw [← hw2];exact run_enterLoop_outer _ _ _ _ _
  have M3:Mem w0 X ((some (w.heap.size+1),.loop ⟨.ready,none,fn,a.tmps,#[p],as,bo,w.heap.size⟩)::S++[(some w.heap.size,.deferred (some []))]) w2:=by
   rw [← hw2]
   have M2:=(M.alloc (.deferred (some []))).alloc (.loop ⟨.ready,none,fn,a.tmps,#[p],as,bo,w.heap.size⟩)
   have hl:({ w with heap:=w.heap.push (.deferred (some [])) }:World).heap.size=w.heap.size+1:=by simp
   rw [hl] at M2
   exact M2.perm (by simpa using List.perm_append_comm (l₁:=S++[(some w.heap.size,Obj.deferred (some []))]) (l₂:=[(some (w.heap.size+1),Obj.loop ⟨.ready,none,fn,a.tmps,#[p],as,bo,w.heap.size⟩)]))
  have hc:=h fn w.heap.size (w.heap.size+1) a.tmps w2 ha.at_ ha.size M3
  refine ⟨w.heap.size+1,[⟨.collected w.heap.size,#[]⟩],w2,{ target:=.fn (.func f) cap.toArray,args:=#[.func (.yield (w.heap.size+1)) #[] #[]] },w2,f,(.func (.yield (w.heap.size+1)) #[] #[]::cap).toArray,w2,he, ?_,fun _ _=>trivial, ?_,fun he=>by simp [Fence.wide] at he,(callsIn_wide (n:=0 - 1)).2 (Calls.mono hc ?_)⟩
  ·have hx:a.eval (.tmp g)=.func (.func f) #[] cap.toArray:=by rw [ha.eval];exact hg
   have hx':a.eval (.const (.func (.yield (w.heap.size+1)) #[] #[]))=.func (.yield (w.heap.size+1)) #[] #[]:=rfl
   simp [resolve,rangeCall,hx,hx',Deferred.ofValue]
  ·simp [invoke,callFunc,hfn,hnm',hb']
  ·rintro e w4 ⟨v,rfl,S',M4,hq⟩
   have hL:=M4.at_ (i:=0) rfl
   refine ⟨none,_,run_endLoop hL (by simp), ?_⟩
   refine ⟨a,ρ,[⟨.collected w.heap.size,#[]⟩],ha, ?_,hq _ (M4.putObj (i:=0) (.loop ⟨.exhausted,none,fn,a.tmps,#[p],as,bo,w.heap.size⟩) Z)⟩
   rw [ha.defers]
   rfl
def bNk (P:Program) (rs:Array ResultVar) (R:Value→World→Prop):List Deferred→Exit→fG→World→Prop:=fun D e ρ w =>
 (e=.ret∨e=.normal)∧∃ B w',D=[⟨.collected B,#[]⟩]∧(Instr.takeDeferred B).run P w=.ok [] w'∧∃ v,(uP rs ρ).run P w'=.ok v w'∧R v w'
theorem bNj {R:Value→World→Prop} {t B i:Nat} (v:Value) (hv:ρ t=v) (M:Mem w0 X S w) (hi:gD S i=some (some B,.deferred (some []))) (h:∀ w',Mem w0 X (S.set i (some B,.deferred none)) w'→R v w'):bNk P #[.tmp t] R [⟨.collected B,#[]⟩] .ret ρ w :=
 ⟨.inl rfl,B,_,rfl,run_takeDeferred (M.at_ hi),v,by simp [uP,hv],h _ (M.putObj (.deferred none) hi)⟩
theorem bOd {fn:Func} {args:List Value} (hn:fn.ntmps=n) (hle:Nat.ble args.length n=true):Agree n { tmps:=args.toArray++Array.replicate (fn.ntmps - args.toArray.size) undef,defers:=[] } (fr0 0 args):=by
 have hle':args.length≤n:=by simpa using hle
 refine ⟨by simp;omega,rfl,fun t => ?_⟩
 rw [bEk]
 simp only [Nat.zero_le,if_true,Nat.sub_zero]
 by_cases h1:t < args.length
 ·simp only [Array.getD_eq_getD_getElem?,List.getD_eq_getElem?_getD]
  rw [Array.getElem?_append_left (by simpa using h1)]
  simp
 ·simp only [Array.getD_eq_getD_getElem?,List.getD_eq_getElem?_getD]
  rw [Array.getElem?_append_right (by simpa using Nat.le_of_not_lt h1)]
  simp only [Array.getElem?_replicate]
  split <;> simp [List.getElem?_eq_none (Nat.le_of_not_lt h1)]
theorem aBz {f:FuncId} {fn:Func} {c:Code} {args:List Value} {R:Value→World→Prop} (rs:Array ResultVar) (n:Nat)
  (hf:P.funcs[f]? = some fn) (hb:fn.body=some c) (hr:fn.results=rs) (hn:fn.ntmps=n) (hle:Nat.ble args.length n=true)
  (h:W2 P n [] c (bNk P rs R) (fr0 0 args) w):Calls P f args.toArray w (fun e w'=>∃ v,e=.returned v∧R v w'):=by
 subst hr
 refine (callsIn_wide (n:=0)).1 (callsIn_of_wp_marks hf hb trivial ?_)
 have ha:Agree n { tmps:=args.toArray++Array.replicate (fn.ntmps - args.toArray.size) undef,defers:=[] } (fr0 0 args):=bOd hn hle
 unfold W2 at h
 refine wpIn_wide.2 (Code.wp_mono ?_ (h _ ha))
 rintro e a' w' ⟨a0,ρ',D,h1,rfl,he,B,w'',rfl,htake,v,hv,hR⟩
 have hres:(results fn a0.tmps).run P w''=.ok v w'':=by rw [xZ fn h1];exact hv
 rcases he with rfl | rfl
 ·exact ⟨by simp,.inl ⟨B,w'',rfl,htake,v,hres,v,rfl,hR⟩⟩
 ·exact ⟨by simp,.inl ⟨B,w'',rfl,htake,v,hres,v,rfl,hR⟩⟩
end
end Go.Bil
