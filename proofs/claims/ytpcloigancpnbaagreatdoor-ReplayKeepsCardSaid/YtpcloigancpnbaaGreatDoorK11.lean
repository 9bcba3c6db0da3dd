/- Part of the proof of a law of this seat (5 texts). No conditions. -/
import Derived.Test.YtpcloigancpnbaaGreatDoorK10
import Derived.Test.YtpcloigancpnbaaGreatDoorK4
set_option linter.unusedVariables false
set_option linter.unusedSimpArgs false
set_option linter.unnecessarySimpa false
set_option maxHeartbeats 100000000
namespace Go.Bil
section
variable {P:Program} {n:Nat} {l0 rest:List Oper} {Q:Exit→fG→World→Prop} {ρ:fG} {w w0:World} {X:List Nat} {S:List eL} {d:Nat} {ty:TypeId} {pos:String} {af:Array Edge} {gd:Option (Nat × Bool)}
theorem jN {t t':TypeId} {x y:Operand} {k:IntKind} {a b:Int} (hx:ev ρ x=.int k a) (hy:ev ρ y=.int k b) (h:k.wrap (a+b)=a+b):kS P ρ w (.binOp .add t x y t') (.int k (a+b)) :=
 cA _ hx hy (by simp only [aIq,h])
theorem nR {t t':TypeId} {x y:Operand} {k:IntKind} {a b:Int} (hx:ev ρ x=.int k a) (hy:ev ρ y=.int k b) (h:k.wrap (a - b)=a - b):kS P ρ w (.binOp .sub t x y t') (.int k (a - b)) :=
 cA _ hx hy (by simp only [aIq,h])
theorem aTq {t t':TypeId} {x y:Operand} {k:IntKind} {a b:Int} (hx:ev ρ x=.int k a) (hy:ev ρ y=.int k b) (h:k.wrap (a*b)=a*b):kS P ρ w (.binOp .mul t x y t') (.int k (a*b)) :=
 cA _ hx hy (by simp only [aIq,h])
theorem rK {t:TypeId} {x:Operand} {k:IntKind} {a:Int} (hx:ev ρ x=.int k a) (h:k.wrap (-a) = -a):kS P ρ w (.unOp .neg t x) (.int k (-a)):=fun dst ty pos af gd=>by
 have:=sE (P:=P) (w:=w) (t:=t) hx dst ty pos af gd
 rwa [h] at this
theorem cD (j:Nat) {t len e sz b off:Nat} {x y:Operand} {k:IntKind} {z:Int} (ht:aAk P t len e sz=true) (hx:ev ρ x=.pointer (some ⟨b,off,none⟩)) (hy:ev ρ y=.int k z) (hz:z=(j:Int)) (hlt:j < len) :
  kS P ρ w (.indexAddr t x y) (.pointer (some ⟨b,off+j*sz,none⟩)):=fun dst ty pos af gd=>by
 obtain ⟨h1,h2,h3⟩:=vG ht
 subst hz
 have hc:(0:Int)≤(j:Int)∧(j:Int) < (len:Int):=⟨by omega,by omega⟩
 simp only [execOp,hx,hy,Instr.indexAt,asIntOf,Instr.sureAddr,Sem.run_bind,Sem.run_pure,bW h1,eI h2,h3,Result.andThen_ok,eV]
 split
 ·rename_i h4
  simp [eI h2,h3]
 ·rename_i h4
  exact absurd (by omega) h4
theorem Mem.front {L B C:List eL} (M:Mem w0 X ((L++B)++C) w):Mem w0 X ((L++C)++B) w :=
 M.perm (by rw [List.append_assoc,List.append_assoc];exact List.Perm.append_left _ List.perm_append_comm)
theorem Mem.tail {L A A':List eL} {w':World} (M:Mem w0 X (L++A) w) (C:Mem w (bY A) A' w'):Mem w0 X (L++A') w' :=
 ((M.perm List.perm_append_comm).call C).perm List.perm_append_comm
theorem Mem.ownTail {L A:List eL} (M:Mem w0 X (L++A) w):Own A w:=(M.sub (List.sublist_append_right L A)).toOwn
theorem bHx (i:Nat) {t e T sz bytes m c:Nat} {x:Operand} {A:Option Addr} {ls:List (List Value)} {en:eL} (l:Nat) (ht:fQ P t e sz bytes=true) (hz1:∀ zv,nI P e=some zv→∀ v∈zv.cells.toList,one v=true) (M:Mem w0 X S w) (hg:nA l0 ρ gd=true)
  (hi:gD S i=some en) (hR:aZ T sz A m c ls en) (hl:l≤m) (hx:ev ρ x=.slice (wT A c l sz) (m - l) (c - l))
  (h:∀ e' w',aZ T sz (wT A c 0 sz) (l - 0) (c - 0) (ls.take l) e'→Mem w0 X (S.set i e') w'→wl P n l0 rest Q ρ w'):wl P n l0 (⟨none,.call ⟨.builtin .clear,[x].toArray,[t].toArray⟩,ty,pos,af,gd⟩::rest) Q ρ w:=by
 obtain ⟨h1,h2,h3,h4,h5,h6,zv,hzv,hzs⟩:=gP ht
 by_cases h0:m - l=0
 ·have hs:S.set i en=S:=by
   have hi':S[i]? = some en:=by rw [← jS];exact hi
   apply List.ext_getElem?
   intro q
   rw [List.getElem?_set]
   by_cases hq:i=q
   ·subst hq
    rw [if_pos rfl,if_pos (List.getElem?_eq_some_iff.1 hi').1,hi']
   ·rw [if_neg hq]
  refine aEg (v:=.tuple #[]) (w':=w) hg ?_ (h en w (hR.pre l hl) (by rw [hs];exact M))
  rw [h0] at hx
  cases hA:wT A c l sz with
  | none=>rw [hA] at hx;simp [execOp,hx,resolve,invoke,builtin,Builtin.clear_,bW h1]
  | some a=>rw [hA] at hx;simp [execOp,hx,resolve,invoke,builtin,Builtin.clear_,bW h1]
 ·obtain ⟨b,L,fr,rfl,rfl,hL,hmc,hfr⟩:=hR.block (by omega)
  have hA:wT (some ⟨b,0,none⟩) c l sz=some ⟨b,l*sz,none⟩:=by
   unfold wT
   rw [if_neg (by omega)]
   simp [eV]
  rw [hA] at hx
  have hlen:(Builtin.zeroCells zv.cells (m - l)).toList.length=(m - l)*sz:=by simp [Builtin.zeroCells,hzs]
  have hone:∀ v∈(Builtin.zeroCells zv.cells (m - l)).toList,one v=true:=by
   intro v hv
   simp only [Builtin.zeroCells,Array.toList_map,List.mem_map] at hv
   obtain ⟨q,hq,rfl⟩:=hv
   have hlt:q % zv.cells.size < zv.cells.size:=Nat.mod_lt _ (by omega)
   have he:zv.cells[q % zv.cells.size]! = zv.cells[q % zv.cells.size]:=getElem!_pos zv.cells _ hlt
   rw [he]
   exact hz1 zv hzv _ (by simp)
  have hle:l*sz+(m - l)*sz≤L.length:=by
   rw [hL,← Nat.add_mul,show l+(m - l)=m by omega]
   exact Nat.mul_le_mul_right sz hmc
  obtain ⟨w',hw',M'⟩:=mC (P:=P) _ (l*sz) 0 L S w M hi (bJn hfr) hone (by rw [hlen];omega)
  have hzero:∀ w,(zeroValue e).run P w=.ok zv w:=by
   intro w
   obtain ⟨zi,hzi⟩:∃ zi,P.info? e=some zi:=Option.isSome_iff_exists.1 h2
   have hz':zi.zero=some zv:=by simpa [nI,hzi] using hzv
   simp [zeroValue,typeInfo,hzi,hz']
  refine aEg (v:=.tuple #[]) (w':=w') hg ?_ (h _ w' ?_ M')
  ·obtain ⟨k,hk⟩:∃ k,m - l=k+1:=⟨m - l - 1,by omega⟩
   rw [hk] at hx hw'
   simp [execOp,hx,resolve,invoke,builtin,Builtin.clear_,bW h1,hzero,hw']
  ·have hp:=hR.pre l hl
   obtain ⟨r1,r2,r3,r4⟩:=hp
   refine ⟨r1,r2,r3, ?_⟩
   rcases r4 with ⟨q1,q2,q3,q4⟩ | ⟨b',L',fr',q1,q2,qf,q3,q4,q5⟩
   ·cases q4
   ·injection q2 with q6 q7
    injection q6 with q6
    subst q6
    have hLL:L=L':=by simp only [bm,Obj.cells.injEq] at q7;simpa using q7.1
    subst hLL
    refine .inr ⟨b,_,fr,q1,Z,by rw [mT];exact hfr,q3,by rw [mT,q4], ?_⟩
    rw [← q5,Nat.add_zero,tA _ _ _ (by rw [hlen];omega),Nat.sub_zero,List.append_assoc,List.take_append_of_le_length (by simp;omega),List.take_take,Nat.min_self]
end
end Go.Bil
namespace Go.Bil
section
variable {P:Program} {n:Nat} {Q:Exit→fG→World→Prop} {ρ:fG} {w w0:World} {X:List Nat} {S:List eL}
theorem bNl {R:Value→World→Prop} {a b t:Nat} {T m:Nat} {l l':List Value} {p q:Nat} {T':TypeId} {v3:Value} (i j:Nat) (hT:jA P T=some m) (M:Mem w0 X S w) (hx:ρ a=.pointer (some ⟨p,0,none⟩)) (hy:ρ b=.pointer (some ⟨q,0,none⟩)) (hi:gD S i=some (some p,bc l T')) (hj:gD S j=some (some q,bc l' T')) (hl:l.length=m) (hl':l'.length=m) (h3:ρ t=v3)
  (h:R (.tuple #[.agg l.toArray,.agg l'.toArray,v3]) w):aDi P #[.cell a T,.cell b T,.tmp t] R .ret ρ w:=by
 have hv:=fZ (P:=P) (w:=w) hT hl (dL.ofMem i M hi)
 have hv':=fZ (P:=P) (w:=w) hT hl' (dL.ofMem j M hj)
 exact ⟨_,by simp [uP,hx,hy,asAddr,hv,hv',h3],h⟩
def yE (P:Program) (lp ob:Nat) (rec:Loop) (Tsl Te sz N:Nat) (ok:List Value→Prop):Prop :=
 ∀ (w:World) (r:Row) (ls:List (List Value)) (x:List Value),ok x→r.n < N→aZ Te sz r.A r.n r.c ls r.e→Own [(some lp,.loop rec),(some ob,bc [.slice r.A r.n r.c] Tsl),r.e] w →
  ∃ fn tmps as bo,(Instr.yield lp #[.agg x.toArray]).run P w=.ok (.round lp fn tmps as bo) w ∧
   RoundIn (FR none) 0 P lp fn tmps as bo w (fun e w'=>e=.returned (.bool true)∧∃ r':Row,r'.n=r.n+1∧aZ Te sz r'.A r'.n r'.c (ls++[x]) r'.e ∧
    Mem w (bY [(some lp,.loop rec),(some ob,bc [.slice r.A r.n r.c] Tsl),r.e]) [(some lp,.loop rec),(some ob,bc [.slice r'.A r'.n r'.c] Tsl),r'.e] w')
theorem aHv {lp ob:Nat} {rec:Loop} {Tsl Te sz N:Nat} {ok:List Value→Prop} {G:Prop} (M:Mem w0 X ((some lp,.loop rec)::S) w) (hy:yE P lp ob rec Tsl Te sz N ok) (h:yE P lp ob rec Tsl Te sz N ok→G):G:=h hy
end
end Go.Bil
namespace Go.Bil
theorem aIk {S:List eL} {k i b:Nat} {o:Obj} (h:(bY S).Nodup) (hi:gD S i=some (some b,o)) (hk:k≤i):b∉bY (S.take k):=by
 intro hm
 obtain ⟨o',ho'⟩:=gV.1 hm
 have hd:(some b,o)∈S.drop k:=by
  rw [jS] at hi
  refine List.mem_of_getElem? (i:=i - k) ?_
  rw [List.getElem?_drop,show k+(i - k)=i by omega]
  exact hi
 have hb2:b∈bY (S.drop k):=gV.2 ⟨o,hd⟩
 rw [← List.take_append_drop k S,kB,List.nodup_append] at h
 exact h.2.2 b hm b hb2 Z
theorem Mem.apartTake {w0 w:World} {X:List Nat} {S:List eL} {b:Nat} {o:Obj} (k i:Nat) (M:Mem w0 X S w) (hi:gD S i=some (some b,o)) (hk:Nat.ble k i=true) {nn:Nat}:0 < nn→∀ q off,(some ⟨b,0,none⟩:Option Addr)=some ⟨q,off,none⟩→q∉bY (S.take k):=by
 intro _ q off e
 injection e with e
 injection e with e
 subst e
 exact aIk M.apart hi (Nat.le_of_ble_eq_true hk)
end Go.Bil

namespace Go.Bil
section
variable {P:Program} {n:Nat} {Q:Exit→fG→World→Prop} {ρ:fG} {w w0:World} {X:List Nat} {S:List eL}
theorem bEh {R:Value→World→Prop} {t u s:Nat} (v1 v2 v3:Value) (h1:ρ t=v1) (h2:ρ u=v2) (h3:ρ s=v3) (h:R (.tuple #[v1,v2,v3]) w):aDi P #[.tmp t,.tmp u,.tmp s] R .ret ρ w:=⟨_,by simp [uP,h1,h2,h3],h⟩
theorem aWc {R:Value→World→Prop} {a b:Nat} {T m:Nat} {l l':List Value} {p q:Nat} {T':TypeId} (i j:Nat) (hT:jA P T=some m) (M:Mem w0 X S w) (hx:ρ a=.pointer (some ⟨p,0,none⟩)) (hy:ρ b=.pointer (some ⟨q,0,none⟩)) (hi:gD S i=some (some p,bc l T')) (hj:gD S j=some (some q,bc l' T')) (hl:l.length=m) (hl':l'.length=m)
  (h:R (.tuple #[.agg l.toArray,.agg l'.toArray]) w):aDi P #[.cell a T,.cell b T] R .ret ρ w:=by
 have hv:=fZ (P:=P) (w:=w) hT hl (dL.ofMem i M hi)
 have hv':=fZ (P:=P) (w:=w) hT hl' (dL.ofMem j M hj)
 exact ⟨_,by simp [uP,hx,hy,asAddr,hv,hv'],h⟩
theorem bRk {R:Value→World→Prop} {a b c:Nat} {T T1 m:Nat} {l l':List Value} {p q r:Nat} {T' T2:TypeId} {v:Value} (i j k:Nat) (hT:jA P T=some m) (h1:iV P T1=true) (M:Mem w0 X S w) (hx:ρ a=.pointer (some ⟨p,0,none⟩)) (hy:ρ b=.pointer (some ⟨q,0,none⟩)) (hz:ρ c=.pointer (some ⟨r,0,none⟩)) (hi:gD S i=some (some p,bc l T')) (hj:gD S j=some (some q,bc l' T')) (hk:gD S k=some (some r,bc [v] T2)) (hl:l.length=m) (hl':l'.length=m)
  (h:R (.tuple #[.agg l.toArray,.agg l'.toArray,v]) w):aDi P #[.cell a T,.cell b T,.cell c T1] R .ret ρ w:=by
 have hv:=fZ (P:=P) (w:=w) hT hl (dL.ofMem i M hi)
 have hv':=fZ (P:=P) (w:=w) hT hl' (dL.ofMem j M hj)
 have hw:=zZ (P:=P) (w:=w) (b:=r) (off:=0) (v:=v) h1 (by rw [lD (M.at_ hk)];simp)
 exact ⟨_,by simp [uP,hx,hy,hz,asAddr,hv,hv',hw],h⟩
end
end Go.Bil

namespace Go.Bil
open Go.RowKit (Below)
section
variable {P:Program} {n:Nat} {Q:Exit→fG→World→Prop} {ρ:fG} {w:World} {l0 rest:List Oper} {K:jB→fG→World→Prop}
variable {d:Nat} {op:Op} {ty:TypeId} {pos:String} {af:Array Edge} {gd:Option (Nat × Bool)}
def DK (P:Program) (n:Nat) (l0:List Oper) (K:jB→fG→World→Prop):List (Nat × Nat)→jB→fG→World→Prop
 | [],pend,ρ,w=>K pend ρ w
 | (i,0)::r,pend,ρ,w=>∃ o d v,oN l0 i=some o∧o.dst=some d∧Nat.blt d n=true∧(∀ w',Yl P l0 o ρ v w')∧DK P n l0 K r pend (upd ρ d v) w
 | (i,_)::r,pend,ρ,w=>∃ o d v,oN l0 i=some o∧o.dst=some d∧Nat.blt d n=true∧Yl P l0 o ρ v w∧DK P n l0 K r ((i,fun w'=>Yl P l0 o ρ v w')::pend) (upd ρ d v) w
theorem sI {i:Nat} {r:List (Nat × Nat)} {pend:jB} {v:Value} (ho:oN l0 i=some ⟨some d,op,ty,pos,af,gd⟩) (hg:nA l0 ρ gd=true) (hd:Nat.blt d n=true) (A:∀ w',kS P ρ w' op v)
  (h:DK P n l0 K r pend (upd ρ d v) w):DK P n l0 K ((i,0)::r) pend ρ w :=
 ⟨_,d,v,ho,rfl,hd,fun w'=>.inl ⟨hg,A w' _ _ _ _ _⟩,h⟩
theorem aAi {i:Nat} {r:List (Nat × Nat)} {pend:jB} {v:Value} (ho:oN l0 i=some ⟨some d,op,ty,pos,af,gd⟩) (hg:nA l0 ρ gd=true) (hd:Nat.blt d n=true) (A:kS P ρ w op v)
  (h:DK P n l0 K r ((i,fun w'=>Yl P l0 ⟨some d,op,ty,pos,af,gd⟩ ρ v w')::pend) (upd ρ d v) w):DK P n l0 K ((i,1)::r) pend ρ w :=
 ⟨_,d,v,ho,rfl,hd,.inl ⟨hg,A _ _ _ _ _⟩,h⟩
theorem bMf {pl:List (Nat × Nat)} {pend:jB} (t:Nat) (v:Value) (ht:ρ t=v) (h:DK P n l0 K pl pend (upd ρ t v) w):DK P n l0 K pl pend ρ w:=by
 rwa [oR ht] at h
def fork (P:Program) (n:Nat) (l0:List Oper) (Q:Exit→fG→World→Prop) (i j:Nat) (pi pj:List (Nat × Nat)):jB→fG→World→Prop :=
 fun pend ρ w=>D P n l0 Q ((i,2)::pi) pend ρ w∧D P n l0 Q ((j,2)::pj) pend ρ w
theorem aDp {i j:Nat} {pi pj:List (Nat × Nat)} {pend:jB} (h1:D P n l0 Q ((i,2)::pi) pend ρ w) (h2:D P n l0 Q ((j,2)::pj) pend ρ w):DK P n l0 (fork P n l0 Q i j pi pj) [] pend ρ w:=⟨h1,h2⟩
def aQf (ops:Array Oper) (i j:Nat) (pi pj:List (Nat × Nat)):Array Bool→List (Nat × Nat)→Bool
 | listed,[]=>decide (Region.ready .any ops listed=[i,j]) && sD ops (listed.setIfInBounds i true) pi && sD ops (listed.setIfInBounds j true) pj && Nat.beq pi.length pj.length
 | listed,(q,_)::r=>(Region.ready .any ops listed).contains q && Region.free .any ops listed q && aQf ops i j pi pj (listed.setIfInBounds q true) r
theorem bMg (hsel:Region.noSelect l0.toArray=true) {i:Nat} {pl:List (Nat × Nat)} {pend:jB} {listed:Array Bool} {a:Act} (ha:Agree n a ρ) (hir:i∈Region.ready .any l0.toArray listed) (hp':sD l0.toArray (listed.setIfInBounds i true) pl=true) (hc:rG l0.toArray listed)
  (h:D P n l0 Q ((i,2)::pl) pend ρ w) :
  wpOp P l0.toArray (aCc fun a w=>qO n Q .normal a w) i (fun a' w'=>(∀ p∈left l0.toArray i pend,p.2 w')∧Tr P l0.toArray (fun a w=>qO n Q .normal a w) pl.length (left l0.toArray i pend) (listed.setIfInBounds i true) a' w') a w:=by
 obtain ⟨o,ho,h1⟩:=h
 have hoi:l0.toArray[i]? = some o:=by rw [vX] at ho;simpa using ho
 have hc':=hc.set hir
 unfold wl at h1
 have h2:=h1 a ha
 unfold wpList at h2
 unfold wpOp
 simp only [hoi]
 have fin:∀ a' w',qO n (pJ (fun ρ' w'=>wO (qV l0 i pend) w'∧D P n l0 Q pl (qV l0 i pend) ρ' w') (fun _ _ _=>False)) .normal a' w' →
   ((∀ p∈left l0.toArray i pend,p.2 w')∧Tr P l0.toArray (fun a w=>qO n Q .normal a w) pl.length (left l0.toArray i pend) (listed.setIfInBounds i true) a' w'):=by
  rintro a' w' ⟨ρ',ha',h3,h4⟩
  rw [zG] at h3 h4
  exact ⟨(rP _ _).1 h3,bBi hsel _ _ _ ρ' w' a' ha' hp' hc' h3 h4⟩
 split
 ·rename_i hw
  rw [if_pos hw] at h2
  rcases h2 with h2 | ⟨_,a0,w0,ρ0,_,h3⟩
  ·refine .inl ?_
   unfold Oper.wp at h2 ⊢
   generalize (execOp a.eval o).run P w=r at h2 ⊢
   cases r with
   | ok nx w' =>
    cases nx <;> simp only [Oper.upon,wpList] at h2 ⊢ <;> first
     | exact fin _ _ h2
     | exact Calls.mono h2 (fun e w'' he=>by
       cases e with
       | returned v=>exact fin _ _ he
       | panicked c=>obtain ⟨_,_,h3⟩:=he;exact h3.elim
       | outgrown=>obtain ⟨_,_,_,_,h3⟩:=he;exact h3.elim)
     | exact Rows.mono h2 (fun _ _ he=>fin _ _ he)
   | halt x w' =>
    cases x <;> simp only [Oper.upon] at h2 ⊢
    obtain ⟨_,_,h3⟩:=h2
    exact h3.elim
  ·exact h3.elim
 ·rename_i hw
  rw [if_neg hw] at h2
  exact fin _ _ h2
theorem bIg (hsel:Region.noSelect l0.toArray=true) {i j:Nat} {pi pj:List (Nat × Nat)}:∀ (pl:List (Nat × Nat)) (pend:jB) (listed:Array Bool) (ρ:fG) (w:World) (a:Act),Agree n a ρ→aQf l0.toArray i j pi pj listed pl=true→rG l0.toArray listed→wO pend w→DK P n l0 (fork P n l0 Q i j pi pj) pl pend ρ w →
  Tr P l0.toArray (fun a w=>qO n Q .normal a w) (pl.length+(pi.length+1)) pend listed a w:=by
 intro pl
 induction pl with
 | nil =>
  intro pend listed ρ w a ha hp hc hall h
  simp only [aQf,Bool.and_eq_true,decide_eq_true_eq] at hp
  obtain ⟨⟨⟨hr,h1⟩,h2⟩,h3⟩:=hp
  have hl:pi.length=pj.length:=Nat.eq_of_beq_eq_true h3
  rw [List.length_nil,Nat.zero_add]
  refine ⟨fun h0=>(by rw [h0] at hr;cases hr),fun q hq => ?_⟩
  have hq':=hq
  rw [hr] at hq'
  rcases List.mem_cons.1 hq' with e | e
  ·subst e;exact bMg hsel ha hq h1 hc h.1
  ·have e':q=j:=by simpa using e
   subst e';rw [hl];exact bMg hsel ha hq h2 hc h.2
 | cons x pl ih =>
  intro pend listed ρ w a ha hp hc hall h
  obtain ⟨q,k⟩:=x
  have quiet:∀ (o:Oper) (d:Nat) (v:Value) (Y:World→Prop) (pend':jB),oN l0 q=some o→o.dst=some d→Nat.blt d n=true→Y w→(∀ w',Y w'→Yl P l0 o ρ v w')→(pend'=(q,Y)::pend∨(pend'=pend∧∀ w,Y w))→DK P n l0 (fork P n l0 Q i j pi pj) pl pend' (upd ρ d v) w →
    Tr P l0.toArray (fun a w=>qO n Q .normal a w) (pl.length+(pi.length+1)+1) pend listed a w:=by
   intro o d v Y pend' ho hd hdn hy hY hpend hD
   simp only [aQf,Bool.and_eq_true] at hp
   obtain ⟨⟨h1,h2⟩,h3⟩:=hp
   have hr:q∈Region.ready .any l0.toArray listed:=by simpa using h1
   have hoi:l0.toArray[q]? = some o:=by rw [vX] at ho;simpa using ho
   have ha':Agree n (a.put o.dst v) (upd ρ d v):=by rw [hd];exact ha.upd d hdn v
   have hall':wO pend' w:=by
    rcases hpend with rfl | ⟨rfl,_⟩
    ·exact ⟨hy,hall⟩
    ·exact hall
   have H:=ih pend' (listed.setIfInBounds q true) (upd ρ d v) w (a.put o.dst v) ha' h3 (hc.set hr) hall' hD
   refine aVf hoi hsel (pl.length+(pi.length+1)) pend listed a w (Region.free_spec hoi h2) hr hc ((rP _ _).1 hall) hy (fun w' hy'=>bMh ha (hY w' hy')) ?_
   refine aLj _ pend' _ _ _ _ (fun p hp' => ?_) H
   rcases hpend with rfl | ⟨rfl,hall2⟩
   ·exact .inl hp'
   ·rcases List.mem_cons.1 hp' with rfl | h
    ·exact .inr hall2
    ·exact .inl h
  have e:(((q,k)::pl).length+(pi.length+1))=pl.length+(pi.length+1)+1:=by rw [List.length_cons];omega
  rw [e]
  match k,h with
  | 0,h =>
   obtain ⟨o,d,v,h1,h2,h3,h4,h5⟩:=h
   exact quiet o d v (fun w'=>Yl P l0 o ρ v w') pend h1 h2 h3 (h4 w) (fun _ h=>h) (.inr ⟨Z,h4⟩) h5
  | k+1,h =>
   obtain ⟨o,d,v,h1,h2,h3,h4,h5⟩:=h
   exact quiet o d v (fun w'=>Yl P l0 o ρ v w') _ h1 h2 h3 h4 (fun _ h=>h) (.inl Z) h5
theorem aLk {id:Nat} (pl:List (Nat × Nat)) (i j:Nat) (pi pj:List (Nat × Nat)) (hm:P.follows .mixedOrders=true) (hlen:pl.length+(pi.length+1)=l0.length) (hB:(Region.noSelect l0.toArray && aQf l0.toArray i j pi pj (Array.replicate l0.length false) pl)=true)
  (h:∀ w',Below w.heap.size w w'→w'.heap=w.heap→DK P n l0 (fork P n l0 Q i j pi pj) pl [] ρ w'):W P n (.region id l0.toArray true) Q ρ w:=by
 unfold W
 intro a ha
 simp only [Bool.and_eq_true] at hB
 refine wp_region_any hm ?_
 have hc:rG l0.toArray (Array.replicate l0.length false):=fun j o _ hl=>by
  rcases Nat.lt_or_ge j l0.length with h | h
  ·simp [h] at hl
  ·simp [Array.getElem?_eq_none (show (Array.replicate l0.length false).size≤j by simpa using h)] at hl
 have:=aRl _ _ _ _ _ (bIg (Q:=Q) hB.1 pl [] (Array.replicate l0.length false) ρ { w with drawn:=w.drawn+1 } a ha hB.2 hc trivial (h _ ⟨rfl,rfl,rfl,Nat.le_refl _,fun _ _=>rfl⟩ rfl))
 rw [hlen] at this
 have e:l0.toArray.size=l0.length:=by simp
 rw [e]
 have gen:∀ (f:Nat) (listed:Array Bool) (a:Act) (w:World),wpAny P .any l0.toArray (aCc fun a w=>qO n Q .normal a w) f listed a w→wpAny P .any l0.toArray (qO n Q) f listed a w:=by
  intro f
  induction f with
  | zero=>intro listed a w h;exact h
  | succ f ih =>
   intro listed a w h
   refine ⟨h.1,fun i hi => ?_⟩
   have h2:=h.2 i hi
   unfold wpOp at h2 ⊢
   split
   ·rename_i ho;simp only [ho] at h2;exact ih _ _ _ h2
   ·rename_i o ho
    simp only [ho] at h2
    split
    ·rename_i hw
     rw [if_pos hw] at h2
     rcases h2 with h2 | ⟨_,_,_,h3⟩
     ·refine .inl ?_
      unfold Oper.wp at h2 ⊢
      generalize (execOp a.eval o).run P w=r at h2 ⊢
      cases r with
      | ok nx w' =>
       cases nx <;> simp only [Oper.upon] at h2 ⊢ <;> first
        | exact ih _ _ _ h2
        | exact Calls.mono h2 (fun e w'' he=>by
          cases e with
          | returned v=>exact ih _ _ _ he
          | panicked c=>exact he.elim
          | outgrown=>obtain ⟨_,_,h3⟩:=he;exact h3.elim)
        | exact Rows.mono h2 (fun _ _ he=>ih _ _ _ he)
      | halt x w' =>
       cases x <;> simp only [Oper.upon] at h2 ⊢
       exact h2.elim
     ·exact h3.elim
    ·rename_i hw
     rw [if_neg hw] at h2
     exact ih _ _ _ h2
 exact gen _ _ _ _ this
end
end Go.Bil

namespace Go.Bil
theorem eF {P:Program} {n:Nat} {c:Code} {Q:Exit→fG→World→Prop} {ρ:fG} {w:World} {fr:List (Nat × Value)} (h0:oS ρ fr) (h:∀ ρ',W P n c Q (aUp ρ' fr) w):W P n c Q ρ w:=by
 have:=h ρ
 rwa [wG h0] at this
end Go.Bil

namespace Go.Bil
open Go Go.RowKit
variable {P:Program} {ρ:fG} {w w0:World} {X:List Nat} {S:List eL}
theorem bNm {R:Value→World→Prop} {a b:Nat} {T U m n:Nat} {l l':List Value} {p q:Nat} {T' U':TypeId} (i j:Nat) (hT:jA P T=some m) (hU:jA P U=some n) (M:Mem w0 X S w) (hx:ρ a=.pointer (some ⟨p,0,none⟩)) (hy:ρ b=.pointer (some ⟨q,0,none⟩)) (hi:gD S i=some (some p,bc l T')) (hj:gD S j=some (some q,bc l' U')) (hl:l.length=m) (hl':l'.length=n)
  (h:R (.tuple #[.agg l.toArray,.agg l'.toArray]) w):aDi P #[.cell a T,.cell b U] R .ret ρ w:=by
 have hv:=fZ (P:=P) (w:=w) hT hl (dL.ofMem i M hi)
 have hv':=fZ (P:=P) (w:=w) hU hl' (dL.ofMem j M hj)
 exact ⟨_,by simp [uP,hx,hy,asAddr,hv,hv'],h⟩
end Go.Bil
