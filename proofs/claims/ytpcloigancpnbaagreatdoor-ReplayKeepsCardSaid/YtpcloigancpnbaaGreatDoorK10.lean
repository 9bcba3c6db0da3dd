/- Part of the proof of a law of this seat (1 texts). No conditions. -/
import Derived.Test.YtpcloigancpnbaaGreatDoorK9
import Derived.Maps.RangeRun
set_option linter.unusedVariables false
set_option linter.unusedSimpArgs false
set_option linter.unnecessarySimpa false
set_option maxHeartbeats 100000000
namespace Go.Bil
section
variable {P:Program} {n:Nat} {l0 rest:List Oper} {Q:Exit→fG→World→Prop} {ρ:fG} {w w0:World} {X:List Nat} {S:List eL} {d:Nat} {ty:TypeId} {pos:String} {af:Array Edge} {gd:Option (Nat × Bool)}
theorem bIj {id:Nat} (pl:List (Nat × Nat)) (hm:P.follows .mixedOrders=true) (hlen:pl.length=l0.length) (hB:(Region.noSelect l0.toArray && sD l0.toArray (Array.replicate l0.length false) pl)=true)
  (h:D P n l0 Q pl [] ρ { w with drawn:=w.drawn+1 }):W P n (.region id l0.toArray true) Q ρ w:=aVg pl hm hlen hB h
theorem aUr {t e sz bytes len:Nat} {ps:List (Nat × Operand)} (vs:List Value) (ls:List (List Value)) (hls:vs.map fN=ls) (ht:fQ P t e sz bytes=true) (M:Mem w0 X S w) (hg:nA l0 ρ gd=true) (hd:Nat.blt d n=true)
  (hvs:aNm ρ 0 ps=some vs) (hlen:vs.length=len) (hsz:∀ v∈vs,(fN v).length=sz) (hbig:len*sz≤16777216)
  (h:Mem w0 X (S++[(some w.heap.size,bc ls.flatten e)]) { w with heap:=w.heap.push (bc ls.flatten e) }→wl P n l0 rest Q (upd ρ d (.slice (some ⟨w.heap.size,0,none⟩) len len)) { w with heap:=w.heap.push (bc ls.flatten e) }) :
  wl P n l0 (⟨some d,.buildSlice t len ps.toArray,ty,pos,af,gd⟩::rest) Q ρ w:=aHw vs ls hls ht M hg hd hvs hlen hsz hbig h
theorem rZ {β γ:Type} {f:β→γ}:∀ {l:List β},(l.map f).Nodup→∀ {a b:β},a∈l→b∈l→f a=f b→a=b
 | [],_,_,_,ha,_,_=>by cases ha
 | x::l,h,a,b,ha,hb,e=>by
  simp only [List.map_cons,List.nodup_cons] at h
  rcases List.mem_cons.1 ha with h1 | h1 <;> rcases List.mem_cons.1 hb with h2 | h2
  ·rw [h1,h2]
  ·exact absurd (List.mem_map.2 ⟨b,h2,by rw [← e,h1]⟩) h.1
  ·exact absurd (List.mem_map.2 ⟨a,h1,by rw [e,h2]⟩) h.1
  ·exact rZ h.2 h1 h2 e
variable {α:Type} {enc:α→List Value}
def nP (enc:α→List Value) (p:α × Nat):MapEntry:=⟨.agg (enc p.1).toArray,.agg #[],p.2⟩
def lI (enc:α→List Value) (L:List (α × Nat)) (clock:Nat):Obj:=.map (L.map (nP enc)).toArray clock
structure SetOk (L:List (α × Nat)) (clock:Nat):Prop where
 lt:∀ p∈L,p.2 < clock
 nd:(L.map (·.2)).Nodup
 keys:(L.map (·.1)).Nodup
theorem SetOk.nil:SetOk ([]:List (α × Nat)) 0:=⟨by simp,by simp,by simp⟩
theorem SetOk.push {L:List (α × Nat)} {clock:Nat} (h:SetOk L clock) {a:α} (ha:a∉L.map (·.1)):SetOk (L++[(a,clock)]) (clock+1):=by
 refine ⟨fun p hp => ?_, ?_, ?_⟩
 ·rcases List.mem_append.1 hp with hp | hp
  ·have:=h.lt p hp;omega
  ·simp only [List.mem_singleton] at hp;subst hp;exact Nat.lt_succ_self _
 ·simp only [List.map_append,List.map_cons,List.map_nil,List.nodup_append,List.nodup_cons,List.not_mem_nil,not_false_eq_true,List.nodup_nil,and_self,List.mem_singleton,true_and]
  refine ⟨h.nd,fun x hx y hy => ?_⟩
  subst hy
  obtain ⟨p,hp,rfl⟩:=List.mem_map.1 hx
  have:=h.lt p hp
  omega
 ·simp only [List.map_append,List.map_cons,List.map_nil,List.nodup_append,List.nodup_cons,List.not_mem_nil,not_false_eq_true,List.nodup_nil,and_self,List.mem_singleton,true_and]
  refine ⟨h.keys,fun x hx y hy e => ?_⟩
  subst hy
  subst e
  exact ha hx
variable [DecidableEq α]
structure KeyT (P:Program) (t kt et:TypeId) (enc:α→List Value):Prop where
 map:P.underlying t=some (.map kt et)
 str:∃ fs,P.underlying kt=some (.struct fs)
 check:∀ a w,(Instr.checkKey false 10000 kt (.agg (enc a).toArray)).run P w=.ok () w
 eq:∀ a b w,(Op.equalIn 10000 kt (.agg (enc a).toArray) (.agg (enc b).toArray)).run P w=.ok (decide (a=b)) w
 bits:∀ a,Instr.sameBits 10000 (.agg (enc a).toArray) (.agg (enc a).toArray)=true
theorem uR {t kt et:TypeId} (K:KeyT P t kt et enc) (a:α):∀ (L:List (α × Nat)) (i:Nat),(∃ j p,L[j]? = some p∧p.1=a∧(Instr.findAsking kt (.agg (enc a).toArray) (L.map (nP enc)) i).run P w=.ok (some (i+j,.agg #[])) w)∨(a∉L.map (·.1)∧(Instr.findAsking kt (.agg (enc a).toArray) (L.map (nP enc)) i).run P w=.ok none w)
 | [],i=>.inr ⟨by simp,rfl⟩
 | p::L,i=>by
  have he:(Op.equal kt (.agg (enc a).toArray) (.agg (enc p.1).toArray)).run P w=.ok (decide (a=p.1)) w:=K.eq a p.1 w
  simp only [List.map_cons,Instr.findAsking,nP,Sem.run_bind,he,Result.andThen_ok]
  by_cases h:a=p.1
  ·rw [decide_eq_true h]
   exact .inl ⟨0,p,Z,h.symm,Z⟩
  ·rw [decide_eq_false h]
   simp only [Bool.false_eq_true,if_false]
   rcases uR K a L (i+1) with ⟨j,q,h1,h2,h3⟩ | ⟨h1,h2⟩
   ·refine .inl ⟨j+1,q,by simpa using h1,h2, ?_⟩
    have:(Instr.findAsking kt (.agg (enc a).toArray) (L.map (nP enc)) (i+1)).run P w=.ok (some (i+(j+1),.agg #[])) w:=by rw [h3];congr 3;omega
    exact this
   ·exact .inr ⟨by simp only [List.map_cons,List.mem_cons,not_or];exact ⟨h,h1⟩,h2⟩
theorem aNl {t kt et:TypeId} (K:KeyT P t kt et enc) (a:α) (L:List (α × Nat)):(∃ j p,L[j]? = some p∧p.1=a∧(Instr.findKey kt (.agg (enc a).toArray) (L.map (nP enc))).run P w=.ok (some (j,.agg #[])) w)∨(a∉L.map (·.1)∧(Instr.findKey kt (.agg (enc a).toArray) (L.map (nP enc))).run P w=.ok none w):=by
 obtain ⟨fs,hfs⟩:=K.str
 unfold Instr.findKey
 simp only [Sem.run_bind,bW hfs,Result.andThen_ok]
 cases L with
 | nil=>exact .inr ⟨by simp,rfl⟩
 | cons p L =>
  have hn:Instr.findNow (.struct fs) (.agg (enc a).toArray) ((p::L).map (nP enc)) 0=none:=rfl
  rw [hn]
  have:=uR (w:=w) K a (p::L) 0
  simpa using this
theorem bBd (i:Nat) {t kt et:TypeId} {x y u:Operand} {mb clock:Nat} {L:List (α × Nat)} (a:α) (K:KeyT P t kt et enc) (M:Mem w0 X S w) (hg:nA l0 ρ gd=true) (hi:gD S i=some (some mb,lI enc L clock)) (hL:SetOk L clock)
  (hx:ev ρ x=.map (some mb)) (hy:ev ρ y=.agg (enc a).toArray) (hu:ev ρ u=.agg #[])
  (h:∀ L' clock' w',SetOk L' clock'→(∀ z,z∈L'.map (·.1)↔z=a∨z∈L.map (·.1))→L'.length≤L.length+1→Mem w0 X (S.set i (some mb,lI enc L' clock')) w'→wl P n l0 rest Q ρ w') :
  wl P n l0 (⟨none,.mapUpdate t x y u,ty,pos,af,gd⟩::rest) Q ρ w:=by
 have hb:=M.at_ hi
 rcases aNl (w:=w) K a L with ⟨j,p,hj,hp,hf⟩ | ⟨hn,hf⟩
 ·obtain ⟨w',hw',M'⟩:=lA (P:=P) (o':=lI enc L clock) M hi ⟨_,_,rfl⟩
  have hjl:j < L.length:=(List.getElem?_eq_some_iff.1 hj).1
  have e1:(L.map (nP enc)).toArray.modify j (fun e=>{ e with key:=.agg (enc a).toArray,val:=.agg #[] })=(L.map (nP enc)).toArray:=by
   apply Array.ext_getElem?
   intro q
   simp only [Array.getElem?_modify,List.getElem?_toArray,List.getElem?_map]
   by_cases hq:j=q
   ·subst hq
    rw [hj]
    subst hp
    simp [nP]
   ·simp [hq]
  have e2:((L.map (nP enc)).toArray[j]?.map (·.key)).getD (.agg (enc a).toArray)=.agg (enc a).toArray:=by
   rw [List.getElem?_toArray,List.getElem?_map,hj]
   subst hp
   rfl
  have hks:(Instr.keyThatStays (.agg (enc a).toArray) (.agg (enc a).toArray)).run P w=.ok (.agg (enc a).toArray) w:=by
   unfold Instr.keyThatStays
   rw [K.bits a]
   rfl
  refine rF hg ?_ (h L clock w' hL (fun z=>⟨.inr,fun hz=>hz.elim (fun e=>by subst e;exact List.mem_map.2 ⟨p,List.mem_of_getElem? hj,hp⟩) id⟩) (by omega) M')
  simp only [execOp,hx,hy,hu,Instr.mapUpdate,Sem.run_bind,bW K.map,Result.andThen_ok,MapKept.run_getObj_map hb,K.check,hf,e2,hks,e1]
  exact congrArg (fun r=>Result.andThen r _) hw'
 ·obtain ⟨w',hw',M'⟩:=lA (P:=P) (o':=lI enc (L++[(a,clock)]) (clock+1)) M hi ⟨_,_,rfl⟩
  refine rF hg ?_ (h (L++[(a,clock)]) (clock+1) w' (hL.push hn) (fun z=>by simp [or_comm,eq_comm]) (by simp) M')
  have e1:(L.map (nP enc)).toArray.push { key:=.agg (enc a).toArray,val:=.agg #[],born:=clock }=((L++[(a,clock)]).map (nP enc)).toArray:=by simp [nP]
  simp only [execOp,hx,hy,hu,Instr.mapUpdate,Sem.run_bind,bW K.map,Result.andThen_ok,MapKept.run_getObj_map hb,K.check,hf,e1]
  exact congrArg (fun r=>Result.andThen r _) hw'
def zF (mb clock:Nat) (T:List (α × Nat)):Obj:=.mapIter (some mb) clock (T.map (·.2)).toArray clock
omit [DecidableEq α] in
theorem bHy {t kt et:TypeId} {x:Operand} {mb clock:Nat} {es:Array MapEntry} (ht:P.underlying t=some (.map kt et)) (M:Mem w0 X S w) (hg:nA l0 ρ gd=true) (hd:Nat.blt d n=true) (hx:ev ρ x=.map (some mb)) (hb:w.heap[mb]? = some (.map es clock))
  (h:∀ b w',Mem w0 X (S++[(some b,zF mb clock ([]:List (α × Nat)))]) w'→wl P n l0 rest Q (upd ρ d (.pointer (some ⟨b,0,none⟩))) w'):wl P n l0 (⟨some d,.range t x,ty,pos,af,gd⟩::rest) Q ρ w:=by
 refine nT hg hd ?_ (h w.heap.size _ (M.alloc _))
 simp [execOp,hx,Instr.range,Sem.run_bind,bW ht,MapKept.run_getObj_map hb,zF,newObj,Sem.run]
omit [DecidableEq α] in
theorem Mem.setB {i l:Nat} {o:Obj} (o':Obj) (M:Mem w0 X S w) (hi:gD S i=some (some l,o)) {w1:World} (hw:w1=w∨w1=w.drew):Mem w0 X (S.set i (some l,o')) (Go.ChangeMaps.setBlock w1 l o'):=by
 have M1:Mem w0 X S w1:=by
  rcases hw with rfl | rfl
  ·exact M
  ·exact M.drew ⟨Z,Z,Z,Nat.le_refl _,fun _ _=>Z⟩ Z
 exact M1.putObj o' hi
omit [DecidableEq α] in
theorem bLt (i:Nat) {x:Operand} {it mb clock:Nat} {L T:List (α × Nat)} (M:Mem w0 X S w) (hg:nA l0 ρ gd=true) (hd:Nat.blt d n=true) (hi:gD S i=some (some it,zF mb clock T)) (hx:ev ρ x=.pointer (some ⟨it,0,none⟩)) (hb:w.heap[mb]? = some (lI enc L clock)) (hL:∀ p∈L,p.2 < clock)
  (h1:(∀ p∈L,p.2∈T.map (·.2))→wl P n l0 rest Q (upd ρ d (.tuple [.bool false].toArray)) w)
  (h2:∀ (p:α × Nat) w',p∈L→p.2∉T.map (·.2)→Mem w0 X (S.set i (some it,zF mb clock (T++[p]))) w'→wl P n l0 rest Q (upd ρ d (.tuple [.bool true,.agg (enc p.1).toArray,.agg #[]].toArray)) w') :
  wl P n l0 (⟨some d,.next x false,ty,pos,af,gd⟩::rest) Q ρ w:=by
 have hr:=M.at_ hi
 have hold:∀ y∈(L.map (nP enc)).toArray.toList,y.born < clock:=by
  intro y hy
  simp only [List.toList_toArray,List.mem_map] at hy
  obtain ⟨p,hp,rfl⟩:=hy
  exact hL p hp
 rcases run_next_at (P:=P) w ty it mb clock clock (T.map (fun p:α × Nat=>p.2)).toArray (L.map (nP enc)).toArray clock hr hb hold (Nat.le_refl _) with ⟨hz,hrun⟩ | ⟨e,he,w1,hw1,hrun⟩
 ·refine nT hg hd ?_ (h1 fun p hp => ?_)
  ·simp only [execOp,hx,Sem.run_bind,hrun,Result.andThen_ok]
   rfl
  ·have h0:leftOf (L.map (nP enc)).toArray (T.map (·.2)).toArray=#[]:=Array.eq_empty_of_size_eq_zero hz
   unfold leftOf at h0
   rw [Array.filter_eq_empty_iff] at h0
   have:=h0 (nP enc p) (by simpa using ⟨p.1,p.2,hp,rfl⟩)
   simpa [nP] using this
 ·unfold leftOf at he
  simp only [List.filter_toArray,List.mem_filter,List.mem_map] at he
  obtain ⟨⟨p,hp,rfl⟩,hnot⟩:=he
  refine nT hg hd ?_ (h2 p (Go.ChangeMaps.setBlock w1 it (zF mb clock (T++[p]))) hp ?_ ?_)
  ·simp only [execOp,hx,Sem.run_bind,hrun,Result.andThen_ok]
   simp [zF,nP]
  ·simpa [nP] using hnot
  ·exact M.setB _ hi hw1
omit [DecidableEq α] in
theorem bKw (i:Nat) {x:Operand} {it mb clock:Nat} {L T:List (α × Nat)} (p:α × Nat) (M:Mem w0 X S w) (hi:gD S i=some (some it,zF mb clock (T++[p]))) (hx:ev ρ x=.pointer (some ⟨it,0,none⟩)) (hb:w.heap[mb]? = some (lI enc L clock)) (hp:p∈L) (hn:(L.map (·.2)).Nodup) :
  kS P ρ w (.entry x) (.tuple [.agg (enc p.1).toArray,.agg #[]].toArray):=fun dst ty pos af gd=>by
 have hr:=M.at_ hi
 have hr':w.heap[it]? = some (.mapIter (some mb) clock ((T.map (fun p:α × Nat=>p.2)).toArray.push (nP enc p).born) clock):=by rw [hr];simp [zF,nP]
 have:=run_entry_at (P:=P) w it mb clock (T.map (fun p:α × Nat=>p.2)).toArray (L.map (nP enc)).toArray clock (nP enc p) hr' hb (by simpa using ⟨p.1,p.2,hp,rfl⟩) (by simpa [Function.comp_def,nP] using hn)
 simp only [execOp,hx,Sem.run_bind,this,Result.andThen_ok]
 rfl
omit [DecidableEq α] in
theorem bDo {L T:List (α × Nat)} (hL:(L.map (·.2)).Nodup) (hT:(T.map (·.2)).Nodup) (hs:∀ p∈T,p∈L) (ha:∀ p∈L,p.2∈T.map (·.2)):T.Perm L:=by
 have hTn:T.Nodup:=List.Pairwise.of_map (S:=(· ≠ ·)) (fun p:α × Nat=>p.2) (fun a b h e=>h (congrArg _ e)) hT
 have hLn:L.Nodup:=List.Pairwise.of_map (S:=(· ≠ ·)) (fun p:α × Nat=>p.2) (fun a b h e=>h (congrArg _ e)) hL
 refine (List.perm_ext_iff_of_nodup hTn hLn).2 fun p=>⟨hs p,fun hp => ?_⟩
 obtain ⟨q,hq,hqp⟩:=List.mem_map.1 (ha p hp)
 have:q=p:=rZ hL (hs q hq) hp hqp
 exact this ▸ hq
end
end Go.Bil
