/- Part of the proof of a law of this seat (3 texts). No conditions. -/
import Derived.Test.YtpcloigancpnbaaGreatDoorK1
import Derived.MapKept
import Derived.Laws.Externs
set_option linter.unusedVariables false
set_option linter.unusedSimpArgs false
set_option linter.unnecessarySimpa false
set_option maxHeartbeats 100000000
namespace Go.Bil
open Go.RowKit (Below)
def aAk (P:Program) (t len e n:Nat):Bool :=
 match P.underlying t with
 | some (.array l' e')=>l' == len && e' == e && (P.info? e).isSome && P.cellsOf e == n
 | _=>false
theorem vG {P:Program} {t len e n:Nat} (h:aAk P t len e n=true):P.underlying t=some (.array len e)∧(P.info? e).isSome=true∧P.cellsOf e=n:=by
 unfold aAk at h
 cases hu:P.underlying t with
 | none=>simp [hu] at h
 | some d =>
  cases d <;> simp [hu] at h
  obtain ⟨⟨⟨rfl,rfl⟩,h3⟩,h4⟩:=h
  exact ⟨Z,h3,h4⟩
def aBf (P:Program) (t kt et:Nat) (kk:IntKind):Bool :=
 match P.underlying t with
 | some (.map k e)=>k == kt && e == et && (match P.underlying k with | some (.int q)=>q == kk | _=>false)
 | _=>false
theorem vU {P:Program} {t kt et:Nat} {kk:IntKind} (h:aBf P t kt et kk=true):P.underlying t=some (.map kt et)∧P.underlying kt=some (.int kk):=by
 unfold aBf at h
 cases hu:P.underlying t with
 | none=>simp [hu] at h
 | some d =>
  cases d <;> simp [hu] at h
  obtain ⟨⟨rfl,rfl⟩,h3⟩:=h
  refine ⟨Z, ?_⟩
  split at h3
  ·rename_i q hq;rw [hq,eq_of_beq h3]
  ·cases h3
section
variable {P:Program} {n:Nat} {Q:Exit→fG→World→Prop} {ρ:fG} {w:World} {l0 rest:List Oper}
variable {d:Nat} {ty:TypeId} {pos:String} {af:Array Edge} {gd:Option (Nat × Bool)}
variable {w0:World} {X:List Nat} {S:List eL}
def aRq:List Value→Bool
 | []=>true
 | v::l=>one v && aRq l
theorem aS:∀ {l:List Value},aRq l=true→∀ u∈l,one u=true
 | [],_,u,h=>by simp at h
 | v::l,h,u,hu=>by
  simp only [aRq,Bool.and_eq_true] at h
  rcases List.mem_cons.1 hu with rfl | hu
  ·exact h.1
  ·exact aS h.2 u hu
def aRp (m:Nat):List Value→Bool
 | []=>true
 | v::l=>Nat.beq (aBd (fN v)) m && aRp m l
theorem cU {m:Nat}:∀ {l:List Value},aRp m l=true→∀ u∈l,(fN u).length=m
 | [],_,u,h=>by simp at h
 | v::l,h,u,hu=>by
  simp only [aRp,Bool.and_eq_true] at h
  rcases List.mem_cons.1 hu with rfl | hu
  ·rw [← zH];exact Nat.eq_of_beq_eq_true h.1
  ·exact cU h.2 u hu
theorem aBn (j:Nat) {t len e:Nat} {x y:Operand} {l:List Value} {k:IntKind} {z:Int} (v:Value) (ht:aAk P t len e 1=true) (hT:iV P e=true) (hx:ev ρ x=.agg l.toArray) (hy:ev ρ y=.int k z) (h0:0≤z) (hlt:z < len) (hz:z=(j:Int)) (hv:nth l j=some v) :
  kS P ρ w (.index t x y) v:=fun dst ty pos af gd=>by
 obtain ⟨h1,h2,h3⟩:=vG ht
 subst hz
 have hp:=nD (w:=w) hT hv
 have hc:0≤(j:Int)∧(j:Int) < (len:Int):=⟨h0,hlt⟩
 simp only [execOp,hx,hy,Instr.index,asIntOf,Sem.run_bind,Sem.run_pure,Result.andThen_ok,bW h1,if_pos hc,eI h2,h3,Int.toNat_natCast,Nat.mul_one,hp]
theorem rJ (j:Nat) {t len e m:Nat} {x y:Operand} {l:List Value} {k:IntKind} {z:Int} (v:List Value) (ht:aAk P t len e m=true) (hT:jA P e=some m) (hx:ev ρ x=.agg l.toArray) (hy:ev ρ y=.int k z) (h0:0≤z) (hlt:z < len) (hz:z=(j:Int)) (hv:(l.drop (j*m)).take m=v) :
  kS P ρ w (.index t x y) (.agg v.toArray):=fun dst ty pos af gd=>by
 obtain ⟨h1,h2,h3⟩:=vG ht
 subst hz
 have hp:=aGr (w:=w) hT hv
 have hc:0≤(j:Int)∧(j:Int) < (len:Int):=⟨h0,hlt⟩
 simp only [execOp,hx,hy,Instr.index,asIntOf,Sem.run_bind,Sem.run_pure,Result.andThen_ok,bW h1,if_pos hc,eI h2,h3,Int.toNat_natCast,hp]
theorem uL {t len e m:Nat} {ps:List (Nat × Operand)} {z:List Value} (vs:List Value) (ht:aAk P t len e m=true) (hz:gQ P t=some z) (hvs:aNm ρ 0 ps=some vs) (hzl:z.length=vs.length*m) (hsz:∀ v∈vs,(fN v).length=m) :
  kS P ρ w (.build t ps.toArray) (.agg (vs.flatMap fN).toArray):=fun dst ty pos af gd=>by
 obtain ⟨h1,h2,h3⟩:=vG ht
 have hev:=aBq ρ ps 0 vs hvs
 have hf:=aDv _ _ _ _ (aFe (size:=m) vs 0 [] z (by simp) hzl hsz)
 simp only [List.nil_append] at hf
 obtain ⟨zi,hzi⟩:∃ zi,P.info? t=some zi:=Option.isSome_iff_exists.1 (mH h1)
 obtain ⟨zv,hzv,hzc⟩:∃ zv,zi.zero=some zv∧zv.cells.toList=z:=by
  simp only [gQ,hzi,Option.bind_some,Option.map_eq_some_iff] at hz
  exact hz
 have hzc':zv.cells=z.toArray:=by rw [← hzc,Array.toArray_toList]
 simp only [execOp,Instr.build,List.map_toArray,aFd,hev,Sem.run_bind,zeroValue,typeInfo,run_program,Result.andThen_ok,hzi,Sem.run_pure,hzv,bW h1,eI h2,h3,hzc',hf]
theorem qP (i:Nat) {b:Nat} {l:List Value} {T sz:Nat} (M:Mem w0 X S w) (hi:gD S i=some (some b,bc l T)) (hl:l.length=sz):Rd w sz (some ⟨b,0,none⟩) 1 [l]:=by
 have hlt:b < w.heap.size:=(Array.getElem?_eq_some_iff.1 (M.at_ hi)).1
 refine ⟨rfl,by simpa using hl,by omega,fun _=>⟨b,0,rfl,hlt,fun j v hj => ?_⟩⟩
 cases j with
 | zero =>
  simp only [List.getElem?_cons_zero,Option.some.injEq] at hj
  subst hj
  simpa using dL.ofMem i M hi
 | succ j=>simp at hj
theorem dU {fn:Fn} {first cap:List Operand} (fs cs:List Value) (h1:first.map (ev ρ)=fs) (h2:cap.map (ev ρ)=cs):kS P ρ w (.makeFunc fn first.toArray cap.toArray) (.func fn fs.toArray cs.toArray):=by
 subst h1
 subst h2
 exact aTp
theorem hJ (b:Nat):elt (some ⟨b,0,none⟩) 0=.pointer (some ⟨b,0,none⟩):=by simp [elt,eV]
theorem aGt {x y:Operand} {ts:Array TypeId} {k k':IntKind} {a b:Int} (hx:ev ρ x=.int k a) (hy:ev ρ y=.int k' b):kS P ρ w (.call ⟨.builtin .min,[x,y].toArray,ts⟩) (.int k (min a b)):=fun dst ty pos af gd=>by
 have:(if b < a then b else a)=min a b:=by simp only [Int.min_def];split <;> split <;> omega
 simp [execOp,hx,hy,resolve,invoke,builtin,Builtin.min_,Builtin.min2,this]
theorem pB {x y:Operand} {ts:Array TypeId} {k k':IntKind} {a b:Int} (hx:ev ρ x=.int k a) (hy:ev ρ y=.int k' b):kS P ρ w (.call ⟨.builtin .max,[x,y].toArray,ts⟩) (.int k (max a b)):=fun dst ty pos af gd=>by
 have:(if b > a then b else a)=max a b:=by simp only [Int.max_def];split <;> split <;> omega
 simp [execOp,hx,hy,resolve,invoke,builtin,Builtin.max_,Builtin.max2,this]
theorem uK {op:BinOp} {t t':TypeId} {x y:Operand} {a b:Bool} (v:Bool) (ht:P.underlying t=some .bool) (hx:ev ρ x=.bool a) (hy:ev ρ y=.bool b) (hv:(match op with | .eql=>some (a == b) | .neq=>some (!(a == b)) | _=>none)=some v):kS P ρ w (.binOp op t x y t') (.bool v):=fun dst ty pos af gd=>by
 have key:∀ d:Nat,(Op.equalIn (d+1) t (.bool a) (.bool b)).run P w=.ok (a == b) w:=fun d=>by simp [Op.equalIn,bW ht]
 have e:(Op.equal t (.bool a) (.bool b)).run P w=.ok (a == b) w:=key 9999
 have hq:(eqGuard op t x y (.bool a) (.bool b)).run P w=.ok () w:=by cases op <;> rfl
 cases op <;> simp only [Option.some.injEq,reduceCtorEq] at hv <;> subst hv <;> simp only [execOp,hx,hy,Sem.run_bind,hq,binOp,e,Result.andThen_ok,Sem.run_pure]
section
variable {β:Type}
def pO (kk:IntKind) (enc:β→Value) (p:Int × β × Nat):MapEntry:=⟨.int kk p.1,enc p.2.1,p.2.2⟩
def lk (k:Int):List (Int × β × Nat)→Option β
 | []=>none
 | p::l=>if p.1=k then some p.2.1 else lk k l
def lki (k:Int):List (Int × β × Nat)→Nat→Option (Nat × β)
 | [],_=>none
 | p::l,i=>if p.1=k then some (i,p.2.1) else lki k l (i+1)
theorem bFh (k:Int):∀ (l:List (Int × β × Nat)) (i:Nat),(lki k l i).map (·.2)=lk k l
 | [],_=>rfl
 | p::l,i=>by
  unfold lki lk
  split
  ·rfl
  ·exact bFh k l (i+1)
theorem oI (kk:IntKind) (enc:β→Value) (k:Int):∀ (l:List (Int × β × Nat)) (i:Nat),Instr.findNow (.int kk) (.int kk k) (l.map (pO kk enc)) i=some ((lki k l i).map fun p=>(p.1,enc p.2))
 | [],_=>rfl
 | p::l,i=>by
  simp only [List.map_cons,Instr.findNow,pO,Instr.sameNow,if_true]
  unfold lki
  by_cases h:p.1=k
  ·have:(k == p.1)=true:=by simp [h]
   simp [this,h]
  ·have:(k == p.1)=false:=by simp;exact fun e=>h e.symm
   simp only [this,h,if_false]
   exact oI kk enc k l (i+1)
def bIi (kk:IntKind) (enc:β→Value) (f:Int→Option β) (o:Obj):Prop :=
 ∃ (l:List (Int × β × Nat)) (clock:Nat),o=.map (l.map (pO kk enc)).toArray clock∧(l.map (·.1)).Nodup∧∀ k,f k=lk k l
def kT (kk:IntKind) (enc:β→Value) (f:Int→Option β) (p:Option Nat) (e:eL):Prop :=
 (p=none∧e.1=none∧∀ k,f k=none)∨∃ b o,p=some b∧e=(some b,o)∧bIi kk enc f o
theorem kT.nil (kk:IntKind) (enc:β→Value) (o:Obj):kT kk enc (fun _=>none) none (none,o):=.inl ⟨rfl,rfl,fun _=>rfl⟩
theorem bIi.empty (kk:IntKind) (enc:β→Value):bIi kk enc (fun _=>none) (.map #[] 0):=⟨[],0,rfl,by simp,fun _=>rfl⟩
theorem kT.empty (kk:IntKind) (enc:β→Value) (b:Nat):kT kk enc (fun _=>none) (some b) (some b,.map #[] 0):=.inr ⟨b,_,rfl,rfl,bIi.empty kk enc⟩
theorem kT.congr {kk:IntKind} {enc:β→Value} {f g:Int→Option β} {p:Option Nat} {e:eL} (h:kT kk enc f p e) (hfg:∀ k,g k=f k):kT kk enc g p e:=by
 have:g=f:=funext hfg
 rw [this];exact h
theorem zK {k:Int}:∀ {l:List (Int × β × Nat)} {i j:Nat} {v:β},lki k l i=some (j,v)→i≤j∧∃ p,l[j - i]? = some p∧p.1=k∧p.2.1=v
 | [],_,_,_,h=>by simp [lki] at h
 | p::l,i,j,v,h=>by
  unfold lki at h
  split at h
  ·rename_i hp
   simp only [Option.some.injEq,Prod.mk.injEq] at h
   obtain ⟨rfl,rfl⟩:=h
   exact ⟨Nat.le_refl _,p,by simp,hp,rfl⟩
  ·obtain ⟨h1,q,h2,h3⟩:=zK h
   refine ⟨by omega,q, ?_,h3⟩
   have:j - i=(j - (i+1))+1:=by omega
   rw [this]
   simpa using h2
theorem zJ {k:Int}:∀ {l:List (Int × β × Nat)} {i:Nat},lki k l i=none→∀ p∈l,p.1≠k
 | [],_,_,p,hp=>by simp at hp
 | q::l,i,h,p,hp=>by
  unfold lki at h
  split at h
  ·cases h
  ·rename_i hq
   rcases List.mem_cons.1 hp with rfl | hp
   ·exact hq
   ·exact zJ h p hp
theorem aBe (k:Int):∀ (l m:List (Int × β × Nat)),lk k (l++m)=(lk k l).or (lk k m)
 | [],m=>by simp [lk]
 | p::l,m=>by
  simp only [List.cons_append]
  have e:∀ (q:Int × β × Nat) l,lk k (q::l)=if q.1=k then some q.2.1 else lk k l:=fun _ _=>rfl
  rw [e,e]
  split
  ·simp
  ·exact aBe k l m
theorem xU {k:Int}:∀ {l:List (Int × β × Nat)},(∀ p∈l,p.1≠k)→lk k l=none
 | [],_=>rfl
 | p::l,h=>by
  unfold lk
  rw [if_neg (h p (by simp))]
  exact xU fun q hq=>h q (by simp [hq])
theorem aTd {k:Int} {v:β}:∀ {l:List (Int × β × Nat)} {j:Nat} {p:Int × β × Nat},l[j]? = some p→p.1=k→(l.map (·.1)).Nodup→∀ x,lk x (l.set j (k,v,p.2.2))=if x=k then some v else lk x l
 | [],j,p,h,_,_,x=>by simp at h
 | q::l,0,p,h,hp,_,x=>by
  simp only [List.getElem?_cons_zero,Option.some.injEq] at h
  subst h
  simp only [List.set_cons_zero]
  unfold lk
  simp only [hp]
  by_cases hx:x=k
  ·simp [hx]
  ·rw [if_neg (fun e=>hx (Eq.symm e)),if_neg (fun e=>hx (Eq.symm e)),if_neg hx]
 | q::l,j+1,p,h,hp,hn,x=>by
  simp only [List.getElem?_cons_succ] at h
  simp only [List.map_cons,List.nodup_cons] at hn
  have hq:q.1≠k:=fun e=>hn.1 (by rw [e,← hp];exact List.mem_map.2 ⟨p,List.mem_of_getElem? h,rfl⟩)
  simp only [List.set_cons_succ]
  unfold lk
  have ih:=aTd (v:=v) h hp hn.2 x
  by_cases hx:q.1=x
  ·have hxk:x≠k:=hx ▸ hq
   simp [hx,hxk]
  ·simp only [if_neg hx];exact ih
theorem aPw {k:Int}:∀ {l:List (Int × β × Nat)} {j:Nat} {p:Int × β × Nat},l[j]? = some p→p.1=k→(l.map (·.1)).Nodup→∀ x,lk x (l.eraseIdx j)=if x=k then none else lk x l
 | [],j,p,h,_,_,x=>by simp at h
 | q::l,0,p,h,hp,hn,x=>by
  simp only [List.getElem?_cons_zero,Option.some.injEq] at h
  subst h
  simp only [List.map_cons,List.nodup_cons] at hn
  simp only [List.eraseIdx_cons_zero]
  by_cases hx:x=k
  ·rw [if_pos hx,hx]
   refine xU fun r hr => ?_
   intro e
   exact hn.1 (by rw [hp,← e];exact List.mem_map.2 ⟨r,hr,Z⟩)
  ·rw [if_neg hx]
   conv=>rhs;unfold lk
   rw [if_neg (by rw [hp];exact fun e=>hx e.symm)]
 | q::l,j+1,p,h,hp,hn,x=>by
  simp only [List.getElem?_cons_succ] at h
  simp only [List.map_cons,List.nodup_cons] at hn
  have hq:q.1≠k:=fun e=>hn.1 (by rw [e,← hp];exact List.mem_map.2 ⟨p,List.mem_of_getElem? h,rfl⟩)
  simp only [List.eraseIdx_cons_succ]
  unfold lk
  have ih:=aPw h hp hn.2 x
  by_cases hx:q.1=x
  ·have hxk:x≠k:=hx ▸ hq
   simp [hx,hxk]
  ·simp only [if_neg hx];exact ih
theorem aQx {t kt et:Nat} {kk:IntKind} {enc:β→Value} {z:β} {f:Int→Option β} {p:Option Nat} {e:eL} {k:Int} (ht:aBf P t kt et kk=true) (hz:nI P et=some (enc z)) (M:Mem w0 X S w) (he:e∈S) (hm:kT kk enc f p e) (c:Bool) :
  (Instr.lookup t (.map p) (.int kk k) c).run P w=.ok (if c then .tuple #[enc ((f k).getD z),.bool (f k).isSome] else enc ((f k).getD z)) w:=by
 obtain ⟨h1,h2⟩:=vU ht
 have hzero:(zeroValue et).run P w=.ok (enc z) w:=by
  obtain ⟨zi,hzi,hz'⟩:∃ zi,P.info? et=some zi∧zi.zero=some (enc z):=by
   unfold nI at hz
   cases hi:P.info? et with
   | none=>simp [hi] at hz
   | some zi=>exact ⟨zi,rfl,by simpa [hi] using hz⟩
  simp [zeroValue,typeInfo,hzi,hz']
 have hck:∀ (em:Bool),(Instr.checkKey em 10000 kt (.int kk k)).run P w=.ok () w:=fun em=>MapKept.run_checkKey (d:=.int kk) h2 (by simp [MapKept.IsKey]) em 9999
 rcases hm with ⟨rfl,_,hf⟩ | ⟨b,o,rfl,rfl,l,clock,rfl,hn,hf⟩
 ·have hfk:=MapKept.run_findKey (P:=P) (w:=w) (k:=.int kk k) (l:=[]) (a:=none) h2 rfl
  simp [Instr.lookup,bW h1,hck,hfk,hf k,hzero]
 ·have hb:=(M.own b _ he).1
  have hfk:=MapKept.run_findKey (P:=P) (w:=w) h2 (oI kk enc k l 0)
  have hlk:=bFh k l 0
  simp only [Instr.lookup,Sem.run_bind,bW h1,Result.andThen_ok,MapKept.run_getObj_map hb,Sem.run_pure,hck,List.toList_toArray,hfk]
  rw [hf k,← hlk]
  cases hq:lki k l 0 with
  | none=>cases c <;> simp [hzero]
  | some q=>cases c <;> simp
theorem kX {t kt et:Nat} {kk:IntKind} {enc:β→Value} (z:β) {x y:Operand} {f:Int→Option β} {p:Option Nat} {e:eL} {k:Int} (i:Nat) (ht:aBf P t kt et kk=true) (hz:nI P et=some (enc z)) (M:Mem w0 X S w) (hi:gD S i=some e) (hm:kT kk enc f p e)
  (hx:ev ρ x=.map p) (hy:ev ρ y=.int kk k):kS P ρ w (.lookup t x y true) (.tuple [enc ((f k).getD z),.bool (f k).isSome].toArray):=fun dst ty pos af gd=>by
 simp [execOp,hx,hy,aQx (k:=k) ht hz M (bA hi) hm true]
theorem mR {t kt et:Nat} {kk:IntKind} {enc:β→Value} (z:β) {x y:Operand} {f:Int→Option β} {p:Option Nat} {e:eL} {k:Int} (i:Nat) (ht:aBf P t kt et kk=true) (hz:nI P et=some (enc z)) (M:Mem w0 X S w) (hi:gD S i=some e) (hm:kT kk enc f p e)
  (hx:ev ρ x=.map p) (hy:ev ρ y=.int kk k):kS P ρ w (.lookup t x y false) (enc ((f k).getD z)):=fun dst ty pos af gd=>by
 simp [execOp,hx,hy,aQx (k:=k) ht hz M (bA hi) hm false]
theorem lA {i b:Nat} {o o':Obj} (M:Mem w0 X S w) (hi:gD S i=some (some b,o)) (hm:∃ es c,o=.map es c):∃ w',(setObj b o').run P w=.ok () w'∧Mem w0 X (S.set i (some b,o')) w':=by
 obtain ⟨es,c,rfl⟩:=hm
 have hb:=M.at_ hi
 refine ⟨_,MapKept.run_setObj_map o' hb,M.write (by rw [← jS];exact hi) o' ⟨rfl,rfl,rfl,by simp⟩ (MapKept.heap_set hb).1 (fun c hc=>(MapKept.heap_set hb).2 c hc)⟩
theorem aBy {kk:IntKind} {enc:β→Value} {l:List (Int × β × Nat)} {j:Nat} {p:Int × β × Nat} {k:Int} {v:β} (h:l[j]? = some p) :
  (l.map (pO kk enc)).toArray.modify j (fun e=>{ e with key:=.int kk k,val:=enc v })=((l.set j (k,v,p.2.2)).map (pO kk enc)).toArray:=by
 apply Array.ext_getElem?
 intro q
 simp only [Array.getElem?_modify,List.getElem?_toArray,List.getElem?_map,List.getElem?_set]
 by_cases hq:j=q
 ·subst hq
  have hlt:j < l.length:=(List.getElem?_eq_some_iff.1 h).1
  rw [h]
  simp [hlt,pO]
 ·simp [hq]
theorem aPu {l:List (Int × β × Nat)} {j:Nat} {p:Int × β × Nat} {k:Int} {v:β} (h:l[j]? = some p) (hp:p.1=k):(l.set j (k,v,p.2.2)).map (·.1)=l.map (·.1):=by
 apply List.ext_getElem?
 intro q
 simp only [List.getElem?_map,List.getElem?_set]
 by_cases hq:j=q
 ·subst hq
  have hlt:j < l.length:=(List.getElem?_eq_some_iff.1 h).1
  rw [h]
  simp [hlt,hp]
 ·simp [hq]
theorem aBg {α γ:Type} (g:α→γ):∀ (l:List α) (j:Nat),(l.eraseIdx j).map g=(l.map g).eraseIdx j
 | [],_=>rfl
 | _::_,0=>rfl
 | x::l,j+1=>by simp [aBg g l j]
theorem lK (i:Nat) {t kt et:Nat} {kk:IntKind} {enc:β→Value} {x y u:Operand} {f:Int→Option β} {p:Option Nat} {e:eL} {k:Int} {v:β} (ht:aBf P t kt et kk=true) (M:Mem w0 X S w) (hg:nA l0 ρ gd=true) (hi:gD S i=some e) (hm:kT kk enc f p e) (hp:p.isSome=true)
  (hx:ev ρ x=.map p) (hy:ev ρ y=.int kk k) (hu:ev ρ u=enc v)
  (h:∀ e' w',kT kk enc (fun a=>if a=k then some v else f a) p e'→Mem w0 X (S.set i e') w'→wl P n l0 rest Q ρ w'):wl P n l0 (⟨none,.mapUpdate t x y u,ty,pos,af,gd⟩::rest) Q ρ w:=by
 obtain ⟨h1,h2⟩:=vU ht
 rcases hm with ⟨rfl,_⟩ | ⟨b,o,rfl,rfl,l,clock,rfl,hn,hf⟩
 ·simp at hp
 ·have hck:(Instr.checkKey false 10000 kt (.int kk k)).run P w=.ok () w:=MapKept.run_checkKey (d:=.int kk) h2 (by simp [MapKept.IsKey]) false 9999
  have hfk:=MapKept.run_findKey (P:=P) (w:=w) h2 (oI kk enc k l 0)
  have hb:=M.at_ hi
  cases hq:lki k l 0 with
  | none =>
   have hnot:=zJ hq
   obtain ⟨w',hw',M'⟩:=lA (P:=P) (o':=.map ((l++[(k,v,clock)]).map (pO kk enc)).toArray (clock+1)) M hi ⟨_,_,rfl⟩
   refine rF hg ?_ (h _ w' (.inr ⟨b,_,Z,Z,l++[(k,v,clock)],clock+1,Z, ?_, ?_⟩) M')
   ·have e1:(l.map (pO kk enc)).toArray.push { key:=.int kk k,val:=enc v,born:=clock }=((l++[(k,v,clock)]).map (pO kk enc)).toArray:=by simp [pO]
    simp only [execOp,hx,hy,hu,Instr.mapUpdate,Sem.run_bind,bW h1,Result.andThen_ok,MapKept.run_getObj_map hb,hck,List.toList_toArray,hfk,hq,Option.map_none,e1,hw',Sem.run_pure]
   ·rw [List.map_append,List.nodup_append]
    refine ⟨hn,by simp, ?_⟩
    intro a ha c hc hac
    simp only [List.map_cons,List.map_nil,List.mem_singleton] at hc
    obtain ⟨q,hq1,hq2⟩:=List.mem_map.1 ha
    exact hnot q hq1 (by rw [hq2,hac,hc])
   ·intro a
    show (if a=k then some v else f a)=_
    rw [aBe,← hf a]
    by_cases ha:a=k
    ·rw [if_pos ha,ha,hf k,xU hnot]
     simp [lk]
    ·rw [if_neg ha]
     have:lk a [(k,v,clock)]=none:=xU (by simpa using fun e=>ha e.symm)
     rw [this];simp
  | some q =>
   obtain ⟨j,v0⟩:=q
   obtain ⟨_,p0,hj,hp0,_⟩:=zK hq
   rw [Nat.sub_zero] at hj
   obtain ⟨w',hw',M'⟩:=lA (P:=P) (o':=.map ((l.set j (k,v,p0.2.2)).map (pO kk enc)).toArray clock) M hi ⟨_,_,rfl⟩
   refine rF hg ?_ (h _ w' (.inr ⟨b,_,Z,Z,l.set j (k,v,p0.2.2),clock,Z,by rw [aPu hj hp0];exact hn,fun a=>by rw [aTd hj hp0 hn a,← hf a]⟩) M')
   have hold:((((l.map (pO kk enc)).toArray[j]?).map (·.key)).getD (.int kk k))=.int kk k:=by simp [hj,pO,hp0]
   have hkey:(Instr.keyThatStays (.int kk k) (.int kk k)).run P w=.ok (.int kk k) w:=MapKept.run_keyThatStays (d:=.int kk) (by simp [MapKept.IsKey])
   simp only [execOp,hx,hy,hu,Instr.mapUpdate,Sem.run_bind,bW h1,Result.andThen_ok,MapKept.run_getObj_map hb,hck,List.toList_toArray,hfk,hq,Option.map_some,hold,hkey,aBy hj,hw',Sem.run_pure]
theorem bBc (i:Nat) {t kt et:Nat} {kk:IntKind} {enc:β→Value} {x y:Operand} {f:Int→Option β} {p:Option Nat} {e:eL} {k:Int} {kt':TypeId} (ht:aBf P t kt et kk=true) (M:Mem w0 X S w) (hg:nA l0 ρ gd=true) (hi:gD S i=some e) (hm:kT kk enc f p e) (hp:p.isSome=true)
  (hx:ev ρ x=.map p) (hy:ev ρ y=.int kk k)
  (h:∀ e' w',kT kk enc (fun a=>if a=k then none else f a) p e'→Mem w0 X (S.set i e') w'→wl P n l0 rest Q ρ w'):wl P n l0 (⟨none,.call ⟨.builtin .delete,[x,y].toArray,[t,kt'].toArray⟩,ty,pos,af,gd⟩::rest) Q ρ w:=by
 obtain ⟨h1,h2⟩:=vU ht
 rcases hm with ⟨rfl,_⟩ | ⟨b,o,rfl,rfl,l,clock,rfl,hn,hf⟩
 ·simp at hp
 ·have hck:∀ em,(Instr.checkKey em 10000 kt (.int kk k)).run P w=.ok () w:=fun em=>MapKept.run_checkKey (d:=.int kk) h2 (by simp [MapKept.IsKey]) em 9999
  have hfk:=MapKept.run_findKey (P:=P) (w:=w) h2 (oI kk enc k l 0)
  have hb:=M.at_ hi
  have e0:(#[t,kt']:Array TypeId)[0]? = some t:=rfl
  cases hq:lki k l 0 with
  | none =>
   have hnot:=zJ hq
   obtain ⟨w',hw',M'⟩:=lA (P:=P) (o':=.map (l.map (pO kk enc)).toArray clock) M hi ⟨_,_,rfl⟩
   refine aEg (v:=.tuple #[]) hg ?_ (h _ w' (.inr ⟨b,_,Z,Z,l,clock,Z,hn,fun a => ?_⟩) M')
   ·simp [execOp,hx,hy,resolve,invoke,builtin,Builtin.delete_,bW h1,MapKept.run_getObj_map hb,hck,hfk,hq,hw']
   ·show (if a=k then none else f a)=_
    by_cases ha:a=k
    ·rw [if_pos ha,ha,xU hnot]
    ·rw [if_neg ha,hf a]
  | some q =>
   obtain ⟨j,v0⟩:=q
   obtain ⟨_,p0,hj,hp0,_⟩:=zK hq
   rw [Nat.sub_zero] at hj
   obtain ⟨w',hw',M'⟩:=lA (P:=P) (o':=.map ((l.eraseIdx j).map (pO kk enc)).toArray clock) M hi ⟨_,_,rfl⟩
   refine aEg (v:=.tuple #[]) hg ?_ (h _ w' (.inr ⟨b,_,Z,Z,l.eraseIdx j,clock,Z, ?_,fun a=>by rw [aPw hj hp0 hn a,← hf a]⟩) M')
   ·have e1:(l.map (pO kk enc)).toArray.eraseIdxIfInBounds j=((l.eraseIdx j).map (pO kk enc)).toArray:=by
     simp [aBg]
    simp [execOp,hx,hy,resolve,invoke,builtin,Builtin.delete_,bW h1,MapKept.run_getObj_map hb,hck,hfk,hq, -List.eraseIdxIfInBounds_toArray,e1,hw']
   ·rw [aBg]
    exact (List.eraseIdx_sublist _ _).nodup hn
end
theorem nS {t:Nat} (M:Mem w0 X S w) (hg:nA l0 ρ gd=true) (hd:Nat.blt d n=true)
  (h:∀ b w',Mem w0 X (S++[(some b,.map #[] 0)]) w'→wl P n l0 rest Q (upd ρ d (.map (some b))) w'):wl P n l0 (⟨some d,.makeMap t none,ty,pos,af,gd⟩::rest) Q ρ w:=by
 refine nT hg hd ?_ (h w.heap.size _ (M.alloc (.map #[] 0)))
 simp [execOp,Instr.makeMap]
end
theorem tA:∀ (vs l:List Value) (o:Nat),o+vs.length≤l.length→nE l o vs=l.take o++vs++l.drop (o+vs.length):=by
 intro vs
 induction vs with
 | nil=>intro l o h;simp [nE]
 | cons v vs ih =>
  intro l o h
  simp only [List.length_cons] at h
  simp only [nE]
  rw [ih _ _ (by simp;omega)]
  apply List.ext_getElem?
  intro q
  simp only [List.getElem?_append,List.length_append,List.length_take,List.length_set,List.getElem?_take,List.getElem?_set,List.getElem?_drop,List.length_cons]
  grind
theorem aPh {sz:Nat}:∀ (ls:List (List Value)) (k o:Nat) (l v:List Value),(∀ l∈ls,l.length=sz)→ls[k]? = some l→o+v.length≤sz→nE ls.flatten (k*sz+o) v=(ls.set k (nE l o v)).flatten
 | [],k,o,l,v,_,h,_=>by simp at h
 | x::ls,0,o,l,v,he,h,hv=>by
  simp only [List.getElem?_cons_zero,Option.some.injEq] at h
  subst h
  have hx:=he x (by simp)
  simp only [Nat.zero_mul,Nat.zero_add,List.flatten_cons,List.set_cons_zero]
  rw [tA _ _ _ (by simp;omega),tA _ _ _ (by omega)]
  rw [List.take_append_of_le_length (by omega),List.drop_append_of_le_length (by omega)]
  simp
 | x::ls,k+1,o,l,v,he,h,hv=>by
  simp only [List.getElem?_cons_succ] at h
  have hx:=he x (by simp)
  have ih:=aPh ls k o l v (fun l hl=>he l (by simp [hl])) h hv
  simp only [List.flatten_cons,List.set_cons_succ]
  rw [← ih]
  have hl:l.length=sz:=he l (by simp [List.mem_of_getElem? h])
  have hk:k < ls.length:=(List.getElem?_eq_some_iff.1 h).1
  have hfl:=iA ls sz (fun l hl=>he l (by simp [hl]))
  have hle:k*sz+sz≤ls.length*sz:=by
   have:=Nat.mul_le_mul_right sz (show k+1≤ls.length by omega)
   rwa [Nat.add_mul,Nat.one_mul] at this
  rw [tA _ _ _ (by rw [List.length_append,hfl,Nat.add_mul,Nat.one_mul,hx];omega),tA _ _ _ (by omega)]
  rw [show (k+1)*sz+o=x.length+(k*sz+o) by rw [Nat.add_mul,Nat.one_mul,hx];omega]
  rw [List.take_length_add_append,show x.length+(k*sz+o)+v.length=x.length+(k*sz+o+v.length) by omega,List.drop_length_add_append]
  simp
section
variable {P:Program} {n:Nat} {Q:Exit→fG→World→Prop} {ρ:fG} {w:World} {l0 rest:List Oper}
variable {d:Nat} {ty:TypeId} {pos:String} {af:Array Edge} {gd:Option (Nat × Bool)}
variable {w0:World} {X:List Nat} {S:List eL}
theorem aZ.put {T sz:Nat} {A:Option Addr} {m c:Nat} {ls:List (List Value)} {b:Nat} {L:List Value} {fr:Nat × Nat} {k o:Nat} {l v:List Value} (hR:aZ T sz A m c ls (some b,bm L T fr)) (hl:ls[k]? = some l) (hv:o+v.length≤sz) :
  aZ T sz A m c (ls.set k (nE l o v)) (some b,bm (nE L (k*sz+o) v) T fr):=by
 obtain ⟨r1,r2,r3,r4⟩:=hR
 have hlen:=r2 l (List.mem_of_getElem? hl)
 have hk:k < m:=by rw [← r1];exact (List.getElem?_eq_some_iff.1 hl).1
 refine ⟨by simpa using r1,fun x hx => ?_,r3, ?_⟩
 ·rcases List.mem_or_eq_of_mem_set hx with h | h
  ·exact r2 x h
  ·rw [h,mT];exact hlen
 ·rcases r4 with ⟨_,h,_⟩ | ⟨b',L',fr',rfl,hb,hfr,hmc,hL,hT⟩
  ·omega
  ·injection hb with hb1 hb2
   injection hb1 with hb1
   subst hb1
   have hLL:L=L':=by
    simp only [bm,Obj.cells.injEq] at hb2
    simpa using hb2.1
   have hff:fr=fr':=by
    simp only [bm,Obj.cells.injEq] at hb2
    exact hb2.2.2
   subst hLL
   subst hff
   refine .inr ⟨b,_,fr,Z,Z,by rw [mT];exact hfr,hmc,by rw [mT,hL], ?_⟩
   have hle:k*sz+sz≤m*sz:=by
    have:=Nat.mul_le_mul_right sz (show k+1≤m by omega)
    rwa [Nat.add_mul,Nat.one_mul] at this
   have hmL:m*sz≤L.length:=by rw [hL];exact Nat.mul_le_mul_right sz hmc
   rw [← aPh ls k o l v r2 hl hv,← hT]
   rw [tA _ _ _ (by omega),tA _ _ _ (by simp;omega)]
   apply List.ext_getElem?
   intro q
   simp only [List.getElem?_append,List.length_append,List.length_take,List.getElem?_take,List.getElem?_drop,List.length_drop]
   grind
theorem aZ.block {T sz:Nat} {A:Option Addr} {m c:Nat} {ls:List (List Value)} {e:eL} (hR:aZ T sz A m c ls e) (hm:0 < m):∃ b L fr,A=some ⟨b,0,none⟩∧e=(some b,bm L T fr)∧L.length=c*sz∧m≤c∧(fr=(0,0)∨sz=1∧L.length≤fr.1):=by
 rcases hR.2.2.2 with ⟨_,h,_⟩ | ⟨b,L,fr,h1,h2,hf,h3,h4,_⟩
 ·omega
 ·exact ⟨b,L,fr,h1,h2,h4,h3,hf⟩
theorem aZ.block1 {T sz:Nat} {A:Option Addr} {m c:Nat} {ls:List (List Value)} {e:eL} (hR:aZ T sz A m c ls e) (h1:sz≠1) (hm:0 < m):∃ b L,A=some ⟨b,0,none⟩∧e=(some b,bc L T)∧L.length=c*sz∧m≤c:=by
 obtain ⟨b,L,fr,q1,q2,q3,q4,q5⟩:=hR.block hm
 obtain rfl:fr=(0,0):=q5.resolve_right (fun h=>h1 h.1)
 exact ⟨b,L,q1,q2,q3,q4⟩
theorem bLu (i:Nat) {T T' N:TypeId} {x y:Operand} {A:Option Addr} {k o sz m c:Nat} {ls:List (List Value)} {l:List Value} {e:eL} (v:List Value) (hT:jA P T=some N) (M:Mem w0 X S w) (hi:gD S i=some e) (hR:aZ T' sz A m c ls e) (hl:ls[k]? = some l) (hg:nA l0 ρ gd=true)
  (hx:ev ρ x=elt A (k*sz+o)) (hy:ev ρ y=.agg v.toArray) (hN:v.length=N) (h1:∀ u∈v,one u=true) (hv:Nat.ble (o+N) sz=true)
  (h:∀ e' w',aZ T' sz A m c (ls.set k (nE l o v)) e'→Mem w0 X (S.set i e') w'→wl P n l0 rest Q ρ w'):wl P n l0 (⟨none,.store T x y,ty,pos,af,gd⟩::rest) Q ρ w:=by
 have hk:k < m:=by rw [← hR.1];exact (List.getElem?_eq_some_iff.1 hl).1
 obtain ⟨b,L,fr,rfl,rfl,hL,hmc,hfr⟩:=hR.block (by omega)
 have hv':o+v.length≤sz:=by rw [hN];exact Nat.le_of_ble_eq_true hv
 have hle:k*sz+sz≤c*sz:=by
  have:=Nat.mul_le_mul_right sz (show k+1≤c by omega)
  rwa [Nat.add_mul,Nat.one_mul] at this
 refine aXp i v hT M hg (b:=b) (off:=k*sz+o) (by rw [hx];simp [elt,eV]) hy hi (bJn hfr) hN h1 (by rw [hL];omega) (fun w' M'=>h _ w' (hR.put hl hv') M')
theorem aNo (i:Nat) {T T' N:TypeId} {x y:Operand} {A:Option Addr} {k m c:Nat} {ls:List (List Value)} {l:List Value} {e:eL} (v:List Value) (hT:jA P T=some N) (M:Mem w0 X S w) (hi:gD S i=some e) (hR:aZ T' N A m c ls e) (hl:ls[k]? = some l) (hg:nA l0 ρ gd=true)
  (hx:ev ρ x=elt A (k*N)) (hy:ev ρ y=.agg v.toArray) (hN:v.length=N) (h1:∀ u∈v,one u=true)
  (h:∀ e' w',aZ T' N A m c (ls.set k v) e'→Mem w0 X (S.set i e') w'→wl P n l0 rest Q ρ w'):wl P n l0 (⟨none,.store T x y,ty,pos,af,gd⟩::rest) Q ρ w :=
 bLu (o:=0) i v hT M hi hR hl hg (by simpa using hx) hy hN h1 (by simp) (fun e' w' hR' M'=>h e' w' (by
  have hlen:=hR.2.1 l (List.mem_of_getElem? hl)
  rwa [aRa l v (by rw [hlen,hN])] at hR') M')
theorem aEf (i:Nat) {T T':TypeId} {x y:Operand} {A:Option Addr} {k o sz m c:Nat} {ls:List (List Value)} {l:List Value} {e:eL} (v:Value) (hT:iV P T=true) (M:Mem w0 X S w) (hi:gD S i=some e) (hR:aZ T' sz A m c ls e) (hl:ls[k]? = some l) (hg:nA l0 ρ gd=true)
  (hx:ev ρ x=elt A (k*sz+o)) (hy:ev ρ y=v) (h1:one v=true) (hv:Nat.ble (o+1) sz=true)
  (h:∀ e' w',aZ T' sz A m c (ls.set k (l.set o v)) e'→Mem w0 X (S.set i e') w'→wl P n l0 rest Q ρ w'):wl P n l0 (⟨none,.store T x y,ty,pos,af,gd⟩::rest) Q ρ w:=by
 have hk:k < m:=by rw [← hR.1];exact (List.getElem?_eq_some_iff.1 hl).1
 obtain ⟨b,L,fr,rfl,rfl,hL,hmc,hfr⟩:=hR.block (by omega)
 have hv':o+1≤sz:=Nat.le_of_ble_eq_true hv
 have hle:k*sz+sz≤c*sz:=by
  have:=Nat.mul_le_mul_right sz (show k+1≤c by omega)
  rwa [Nat.add_mul,Nat.one_mul] at this
 obtain ⟨v0,hv0⟩:∃ v0,nth L (k*sz+o)=some v0:=by
  rw [nQ]
  exact ⟨L[k*sz+o]'(by rw [hL];omega),List.getElem?_eq_getElem _⟩
 have hp:=hR.put (v:=[v]) (o:=o) hl (by simpa using hv')
 refine bHz i v hT M hg (b:=b) (off:=k*sz+o) (by rw [hx];simp [elt,eV]) hy h1 hi (bJn hfr) (by rw [hv0];rfl) (fun w' M'=>h _ w' hp M')
theorem tE (i:Nat) {T T':TypeId} {x y:Operand} {A:Option Addr} {k m c:Nat} {ls:List (List Value)} {l:List Value} {e:eL} (v:Value) (hT:iV P T=true) (M:Mem w0 X S w) (hi:gD S i=some e) (hR:aZ T' 1 A m c ls e) (hl:ls[k]? = some l) (hg:nA l0 ρ gd=true)
  (hx:ev ρ x=elt A (k*1)) (hy:ev ρ y=v) (h1:one v=true)
  (h:∀ e' w',aZ T' 1 A m c (ls.set k [v]) e'→Mem w0 X (S.set i e') w'→wl P n l0 rest Q ρ w'):wl P n l0 (⟨none,.store T x y,ty,pos,af,gd⟩::rest) Q ρ w :=
 aEf (o:=0) i v hT M hi hR hl hg (by simpa using hx) hy h1 rfl (fun e' w' hR' M'=>h e' w' (by
  have hlen:=hR.2.1 l (List.mem_of_getElem? hl)
  obtain ⟨u,rfl⟩:∃ u,l=[u]:=by
   match l,hlen with
   | [u],_=>exact ⟨u,rfl⟩
  simpa using hR') M')
theorem aZ.mapSet {α:Type} {f:α→List Value} {T sz:Nat} {A:Option Addr} {m c i:Nat} {ls:List α} {l:List Value} {x:α} {e:eL} (hR:aZ T sz A m c ((ls.map f).set i l) e) (hl:l=f x):aZ T sz A m c ((ls.set i x).map f) e:=by
 subst hl
 rwa [List.map_set]
theorem aZ.pre {T sz:Nat} {A:Option Addr} {m c:Nat} {ls:List (List Value)} {e:eL} (hR:aZ T sz A m c ls e) (h:Nat) (hh:h≤m):aZ T sz (wT A c 0 sz) (h - 0) (c - 0) (ls.take h) e:=by
 obtain ⟨r1,r2,r3,r4⟩:=hR
 refine ⟨by simp [r1,hh],fun l hl=>r2 l (List.mem_of_mem_take hl),by omega, ?_⟩
 rcases r4 with ⟨rfl,h1,h2,h3⟩ | ⟨b,L,fr,rfl,rfl,hfr,hmc,hL,hT⟩
 ·exact .inl ⟨by simp [wT],by omega,by omega,h3⟩
 ·refine .inr ⟨b,L,fr, ?_,rfl,hfr,by omega,by simpa using hL, ?_⟩
  ·unfold wT;split <;> simp [eV]
  ·have hle:h*sz≤m*sz:=Nat.mul_le_mul_right sz hh
   have hf:(ls.take h).flatten=ls.flatten.take (h*sz):=by
    have e1:ls.flatten=(ls.take h).flatten++(ls.drop h).flatten:=by rw [← List.flatten_append,List.take_append_drop]
    have e2:(ls.take h).flatten.length=h*sz:=by
     rw [iA _ sz (fun l hl=>r2 l (List.mem_of_mem_take hl)),List.length_take,r1,Nat.min_eq_left hh]
    rw [e1,← e2,List.take_left]
   rw [hf,← hT,List.take_take,Nat.sub_zero,Nat.min_eq_left hle]
theorem aEu {b sz:Nat}:∀ (ls:List (List Value)) (off:Nat),(∀ l∈ls,l.length=sz)→(∀ (i:Nat) l,ls[i]? = some l→dL w b (off+i*sz) l)→dL w b off ls.flatten
 | [],off,_,_=>fun j v hj=>by simp at hj
 | x::ls,off,he,h=>by
  have hx:=he x (by simp)
  have h0:=h 0 x (by simp)
  have ih:=aEu ls (off+sz) (fun l hl=>he l (by simp [hl])) (fun i l hl=>by
   have:=h (i+1) l (by simpa using hl)
   rwa [Nat.add_mul,Nat.one_mul,Nat.add_comm (i*sz),← Nat.add_assoc] at this)
  intro j v hj
  simp only [List.flatten_cons,List.getElem?_append] at hj
  split at hj
  ·simpa using h0 j v hj
  ·rename_i hlt
   have:=ih (j - x.length) v hj
   rwa [show off+sz+(j - x.length)=off+j by omega] at this
theorem aCk (a:Addr) (w:World):(loadCells a 0).run P w=.ok #[] w:=by simp [loadCells,loadCellsFrom]
theorem gJ (i:Nat) {t e sz bytes:Nat} {x y:Operand} {A A2:Option Addr} {m c:Nat} {ls:List (List Value)} {en:eL} {k c2:Nat} (ys:List (List Value))
  (ht:fQ P t e sz bytes=true) (M:Mem w0 X S w) (hg:nA l0 ρ gd=true) (hd:Nat.blt d n=true) (hx:ev ρ x=.slice A m c) (hy:ev ρ y=.slice A2 k c2) (hi:gD S i=some en) (hR:aZ e sz A m c ls en)
  (R2:Rd w sz A2 k ys) (hys:∀ y∈ys,∀ u∈y,one u=true) (hb:(m+k)*bytes≤140737488355328)
  (h:∀ A' c' en' w',Mem w0 X (S.set i en') w'→aZ e sz A' (m+k) c' (ls++ys) en'→(A.isSome=true→A'.isSome=true)→wl P n l0 rest Q (upd ρ d (.slice A' (m+k) c')) w') :
  wl P n l0 (⟨some d,.call ⟨.builtin .append,[x,y].toArray,[t,t].toArray⟩,ty,pos,af,gd⟩::rest) Q ρ w:=by
 by_cases hk:k=0
 ·subst hk
  have hy0:ys=[]:=List.eq_nil_of_length_eq_zero R2.len
  subst hy0
  obtain ⟨h1,h2,h3,h4,h5,h6,zv,hzv,hzs⟩:=gP ht
  have hmc:=hR.slice
  have hf:(Builtin.firstCells sz 0 (.slice A2 0 c2)).run P w=.ok #[] w:=by
   cases A2 with
   | none=>simp [Builtin.firstCells]
   | some a=>simp [Builtin.firstCells,aCk]
  have hrun:(Builtin.append_ #[t,t] ty #[.slice A m c,.slice A2 0 c2]).run P w=.ok (.slice A m c) w:=by
   cases A with
   | none=>simp [Builtin.append_,bW h1,eI h2,h3,Builtin.lenOf,hf,hmc]
   | some a=>simp [Builtin.append_,bW h1,eI h2,h3,Builtin.lenOf,hf,hmc,storeCells]
  refine nT hg hd (v:=.slice A (m+0) c) (by simp [execOp,hx,hy,resolve,invoke,builtin,hrun]) (h A c en w ?_ (by simpa using hR) id)
  have hi':=hi
  rw [jS] at hi'
  have e:S.set i en=S:=by
   refine List.ext_getElem? fun q => ?_
   by_cases hq:i=q
   ·subst hq;rw [List.getElem?_set_self (List.getElem?_eq_some_iff.1 hi').1,hi']
   ·rw [List.getElem?_set_ne hq]
  rw [e];exact M
 ·obtain ⟨b2,off2,rfl,_,hc⟩:=R2.at_ (by omega)
  exact cW i ys ht M hg hd hx hy hi hR R2.len (fun y hy=>⟨R2.each y hy,hys y hy⟩) (aEu ys off2 R2.each hc) hb (fun A' c' en' w' M' hR'=>h A' c' en' w' M' hR' (fun _=>by
   obtain ⟨b,L,_,hA,_⟩:=hR'.block (by omega)
   rw [hA];rfl))
theorem aZ.empty {T sz:Nat} (b:Nat):aZ T sz (some ⟨b,0,none⟩) 0 0 [] (some b,bc [] T):=⟨rfl,by simp,by omega,.inr ⟨b,[],(0,0),rfl,rfl,.inl rfl,by omega,by simp,by simp⟩⟩
theorem eQ {R:Value→World→Prop} {a:Nat} {T m:Nat} {l:List Value} {b:Nat} {T':TypeId} (i:Nat) (hT:jA P T=some m) (M:Mem w0 X S w) (hx:ρ a=.pointer (some ⟨b,0,none⟩)) (hi:gD S i=some (some b,bc l T')) (hl:l.length=m) (h:R (.agg l.toArray) w) :
  aDi P #[.cell a T] R .ret ρ w:=by
 have hv:=fZ (P:=P) (w:=w) hT hl (dL.ofMem i M hi)
 exact ⟨_,by simp [uP,hx,asAddr,hv],h⟩
theorem tH {R:Value→World→Prop} {a t:Nat} {T m:Nat} {l:List Value} {b:Nat} {T':TypeId} {v2:Value} (i:Nat) (hT:jA P T=some m) (M:Mem w0 X S w) (hx:ρ a=.pointer (some ⟨b,0,none⟩)) (hi:gD S i=some (some b,bc l T')) (hl:l.length=m) (h2:ρ t=v2) (h:R (.tuple #[.agg l.toArray,v2]) w) :
  aDi P #[.cell a T,.tmp t] R .ret ρ w:=by
 have hv:=fZ (P:=P) (w:=w) hT hl (dL.ofMem i M hi)
 exact ⟨_,by simp [uP,hx,asAddr,hv,h2],h⟩
theorem Mem.ownAt {i:Nat} {e:eL} (M:Mem w0 X S w) (hi:gD S i=some e):Own [e] w:=by
 refine ⟨fun b o hb => ?_, ?_⟩
 ·simp only [List.mem_singleton] at hb
  subst hb
  exact M.at_ hi
 ·obtain ⟨b,o⟩:=e
  cases b <;> simp [bY]
theorem Rd.memY {sz nn:Nat} {A:Option Addr} {ls:List (List Value)} (h:Rd w0 sz A nn ls) (M:Mem w0 X S w) (hX:0 < nn→∀ q off,A=Option.some ⟨q,off,none⟩→q∉X):Rd w sz A nn ls:=by
 by_cases hn:0 < nn
 ·exact h.memX M (hX hn)
 ·exact ⟨h.len,h.each,h.bound,fun h'=>absurd h' hn⟩
theorem Mem.away {sz nn:Nat} {A:Option Addr} {ls:List (List Value)} (i k:Nat) (M:Mem w0 X S w) (R:Rd w0 sz A nn ls) (hd:0 < nn→∀ q off,A=some ⟨q,off,none⟩→q∉X):0 < nn→∀ q off,A=some ⟨q,off,none⟩→q∉bY ((S.drop i).take k):=by
 intro hn q off hA hq
 obtain ⟨o,ho⟩:=gV.1 hq
 have ho':(some q,o)∈S:=(List.drop_sublist i S).subset ((List.take_sublist k _).subset ho)
 obtain ⟨b,off',hA',hlt,_⟩:=R.at_ hn
 rw [hA] at hA'
 injection hA' with hA'
 injection hA' with hA'
 subst hA'
 rcases (M.own q o ho').2 with h | h
 ·omega
 ·exact hd hn q off hA h
theorem Mem.ownSeg (i k:Nat) (M:Mem w0 X S w):Own ((S.drop i).take k) w :=
 (M.sub ((List.take_sublist k _).trans (List.drop_sublist i S))).toOwn
theorem kZ {T sz:Nat} {b nn:Nat} (ls:List (List Value)) (h:∀ l∈ls,l.length=sz) (hn:ls.length=nn) (hb:nn≤281474976710656):aZ T sz (some ⟨b,0,none⟩) nn nn ls (some b,bc ls.flatten T) :=
 ⟨hn,h,hb,.inr ⟨b,_,(0,0),rfl,rfl,.inl rfl,Nat.le_refl _,by rw [iA ls sz h,hn],List.take_of_length_le (by rw [iA ls sz h,hn];exact Nat.le_refl _)⟩⟩
theorem aEe {T:TypeId} {x:Operand} (v:Value) (M:Mem w0 X S w) (hg:nA l0 ρ gd=true) (hd:Nat.blt d n=true) (hx:ev ρ x=v)
  (h:Mem w0 X (S++[(some w.heap.size,bc (fN v) T)]) { w with heap:=w.heap.push (bc (fN v) T) }→wl P n l0 rest Q (upd ρ d (.pointer (some ⟨w.heap.size,0,none⟩))) { w with heap:=w.heap.push (bc (fN v) T) }):wl P n l0 (⟨some d,.box T x,ty,pos,af,gd⟩::rest) Q ρ w:=by
 refine nT hg hd ?_ (h (M.alloc _))
 simp [execOp,hx,Instr.box,newVar,newRow,bc,wH]
end
end Go.Bil

namespace Go.Bil
section
variable {P:Program} {n:Nat} {Q:Exit→fG→World→Prop} {ρ:fG} {w:World} {l0 rest:List Oper}
variable {d:Nat} {ty:TypeId} {pos:String} {af:Array Edge} {gd:Option (Nat × Bool)}
theorem wq {op:Op} {v:Value} (A:kS P ρ w op v) (g:(nA l0 ρ gd && Nat.blt d n)=true) (h:wl P n l0 rest Q (upd ρ d v) w):wl P n l0 (⟨some d,op,ty,pos,af,gd⟩::rest) Q ρ w :=
 bWl A (Bool.and_eq_true_iff.1 g).1 (Bool.and_eq_true_iff.1 g).2 h
theorem aQ {x:Operand} {k:IntKind} {a:Int} (hx:ev ρ x=.int k a) (g:(nA l0 ρ gd && Nat.blt d n)=true) (h:wl P n l0 rest Q (upd ρ d (.int k a)) w):wl P n l0 (⟨some d,.move x,ty,pos,af,gd⟩::rest) Q ρ w:=wq (aH _ hx) g h
theorem dK {x:Operand} {A:Option Addr} {m c:Nat} (hx:ev ρ x=.slice A m c) (g:(nA l0 ρ gd && Nat.blt d n)=true) (h:wl P n l0 rest Q (upd ρ d (.slice A m c)) w):wl P n l0 (⟨some d,.move x,ty,pos,af,gd⟩::rest) Q ρ w:=wq (aH _ hx) g h
theorem bK {x:Operand} {k:IntKind} {a:Int} (hx:ev ρ x=.int k a) (g:(nA l0 ρ gd && Nat.blt d n)=true) (h:wl P n l0 rest Q (upd ρ d (.int k a)) w):wl P n l0 (⟨some d,.assign x,ty,pos,af,gd⟩::rest) Q ρ w:=wq (aJ _ hx) g h
theorem eH {x:Operand} {A:Option Addr} {m c:Nat} (hx:ev ρ x=.slice A m c) (g:(nA l0 ρ gd && Nat.blt d n)=true) (h:wl P n l0 rest Q (upd ρ d (.slice A m c)) w):wl P n l0 (⟨some d,.assign x,ty,pos,af,gd⟩::rest) Q ρ w:=wq (aJ _ hx) g h
theorem cX {op:BinOp} {t t':TypeId} {x y:Operand} {k:IntKind} {a b:Int} {p:Prop} {dp:Decidable p} (hx:ev ρ x=.int k a) (hy:ev ρ y=.int k b) (hv:aIq op k a b=some (.bool (@decide p dp))) (g:(nA l0 ρ gd && Nat.blt d n)=true) (h:wl P n l0 rest Q (upd ρ d (.bool (@decide p dp))) w):wl P n l0 (⟨some d,.binOp op t x y t',ty,pos,af,gd⟩::rest) Q ρ w:=wq (cA _ hx hy hv) g h
theorem eD {i:Nat} {r:List (Nat × Nat)} {pend:jB} {x:Operand} {k:IntKind} {a:Int} (ho:oN l0 i=some ⟨some d,.move x,ty,pos,af,gd⟩) (g:(nA l0 ρ gd && Nat.blt d n)=true) (hx:ev ρ x=.int k a) (h:D P n l0 Q r pend (upd ρ d (.int k a)) w):D P n l0 Q ((i,0)::r) pend ρ w:=aV ho (Bool.and_eq_true_iff.1 g).1 (Bool.and_eq_true_iff.1 g).2 (fun _=>aH _ hx) h
theorem kA {i:Nat} {r:List (Nat × Nat)} {pend:jB} {x:Operand} {A:Option Addr} {m c:Nat} (ho:oN l0 i=some ⟨some d,.move x,ty,pos,af,gd⟩) (g:(nA l0 ρ gd && Nat.blt d n)=true) (hx:ev ρ x=.slice A m c) (h:D P n l0 Q r pend (upd ρ d (.slice A m c)) w):D P n l0 Q ((i,0)::r) pend ρ w:=aV ho (Bool.and_eq_true_iff.1 g).1 (Bool.and_eq_true_iff.1 g).2 (fun _=>aH _ hx) h
theorem mW {i:Nat} {r:List (Nat × Nat)} {pend:jB} {x:Operand} {k:IntKind} {a:Int} (ho:oN l0 i=some ⟨some d,.assign x,ty,pos,af,gd⟩) (g:(nA l0 ρ gd && Nat.blt d n)=true) (hx:ev ρ x=.int k a) (h:D P n l0 Q r pend (upd ρ d (.int k a)) w):D P n l0 Q ((i,0)::r) pend ρ w:=aV ho (Bool.and_eq_true_iff.1 g).1 (Bool.and_eq_true_iff.1 g).2 (fun _=>aJ _ hx) h
theorem eP {x:Operand} {args:List Operand} {ts:Array TypeId} {f:FuncId} {first cap:List Value} {R:Value→World→Prop} (hf:aW P f=true) (g:(nA l0 ρ gd && Nat.blt d n)=true) (hx:ev ρ x=.func (.func f) first.toArray cap.toArray)
  (hC:Calls P f (first++args.map (ev ρ)++cap).toArray w (fun e w'=>∃ v,e=.returned v∧R v w')) (h:∀ v w',R v w'→wl P n l0 rest Q (upd ρ d v) w'):wl P n l0 (⟨some d,.call ⟨.value x,args.toArray,ts⟩,ty,pos,af,gd⟩::rest) Q ρ w :=
 vA hf (Bool.and_eq_true_iff.1 g).1 (Bool.and_eq_true_iff.1 g).2 hx (hC.mono (fun e w' hh=>by obtain ⟨v,hv,hr⟩:=hh;exact ⟨v,hv,h v w' hr⟩))
abbrev gH (R:Value→World→Prop):Ending→World→Prop:=fun ex w'=>∃ v,ex=.returned v∧R v w'
abbrev Rb (w:World) (x:Value):Ending→World→Prop:=gH fun v w'=>v=x∧Go.RowKit.Below w.heap.size w w'
theorem iR {a b:Nat} (h:a < b):0 < b:=Nat.lt_of_le_of_lt (Nat.zero_le _) h
theorem dN {w0:World} {X:List Nat} {S:List eL} {x:Operand} {args:List Operand} {ts:Array TypeId} {f:FuncId} {first cap:List Value} {v:Value} (hf:aW P f=true) (g:(nA l0 ρ gd && Nat.blt d n)=true) (hx:ev ρ x=.func (.func f) first.toArray cap.toArray) (M:Mem w0 X S w)
  (hC:Calls P f (first++args.map (ev ρ)++cap).toArray w (fun e w'=>∃ v',e=.returned v'∧(v'=v∧Go.RowKit.Below w.heap.size w w'))) (h:∀ w',Mem w0 X S w'→wl P n l0 rest Q (upd ρ d v) w'):wl P n l0 (⟨some d,.call ⟨.value x,args.toArray,ts⟩,ty,pos,af,gd⟩::rest) Q ρ w :=
 eP hf g hx hC (fun v' w' hr=>by obtain ⟨rfl,hb⟩:=hr;exact h w' (M.callB hb))
theorem fW {w0:World} {X:List Nat} {S:List eL} {id:Nat} (pl:List (Nat × Nat)) (hm:P.follows .mixedOrders=true) (M:Mem w0 X S w) (hlen:pl.length=l0.length) (hB:(Region.noSelect l0.toArray && sD l0.toArray (Array.replicate l0.length false) pl)=true)
  (h:∀ w',Mem w0 X S w'→D P n l0 Q pl [] ρ w'):W P n (.region id l0.toArray true) Q ρ w:=mF pl hm hlen hB (fun w' hb hh=>h w' (M.drew hb hh))
theorem kR {l:List Oper} (t:Nat) {p:Prop} {dp:Decidable p} (ht:ρ t=.bool (@decide p dp)) (hp:p) (h:wl P n l0 l Q (upd ρ t (.bool true)) w):wl P n l0 l Q ρ w:=aL t _ (by rw [ht,decide_eq_true hp]) h
theorem pD {l:List Oper} (t:Nat) {p:Prop} {dp:Decidable p} (ht:ρ t=.bool (@decide p dp)) (hp:¬ p) (h:wl P n l0 l Q (upd ρ t (.bool false)) w):wl P n l0 l Q ρ w:=aL t _ (by rw [ht,decide_eq_false hp]) h
end
end Go.Bil
