import Derived.Test.YtmhojfpidedjeaaGreatDoorTp27
namespace Go.Proofs.YtmhojfpidedjeaaGreatDoor
open Go.RowKit Go.Lib
set_option linter.unusedVariables false
set_option maxHeartbeats 4000000
set_option maxRecDepth 100000
theorem Y3 {α:Type} (f:α→List Value) (sz:Nat) (hf:∀ x,(f x).length=sz) (t:Nat) (y:Value) (x x':α) (ht:t<sz) (hx:f x'=(f x).set t y):∀ (l:List α) (i:Nat),l[i]? = some x→(l.flatMap f).set (i*sz+t) y=(l.set i x').flatMap f
 | [],_,h=>by cases h
 | z::r,0,h=>by
  obtain rfl:z=x:=by simpa using h
  rw[List.set_cons_zero,List.flatMap_cons,List.flatMap_cons,Nat.zero_mul,Nat.zero_add,List.set_append_left _ _ (by rw[hf];exact ht),hx]
 | z::r,i+1,h=>by
  have ih:=Y3 f sz hf t y x x' ht hx r i (by simpa using h)
  rw[List.set_cons_succ,List.flatMap_cons,List.flatMap_cons,List.set_append_right _ _ (by rw[hf,Nat.add_mul];omega),hf,show (i+1)*sz+t-sz=i*sz+t from by rw[Nat.add_mul];omega,ih]
theorem ZF {α:Type} {l : List α} {b j:Nat} {k c:α} (h:(l.set b k)[j]? = some c):(j=b∧c=k)∨(j≠b∧l[j]? = some c):=by
 rw[List.getElem?_set]at h;by_cases e:b=j
 ·rw[if_pos e]at h;split at h
  ·exact .inl ⟨e.symm,by simpa using h.symm⟩
  ·cases h
 ·rw[if_neg e]at h;exact .inr ⟨fun h2=>e h2.symm,h⟩
theorem Yc {α:Type} {l : List α} {b : Nat} {k c:α} (h:c∈l.set b k):c=k∨∃ j,j≠b∧l[j]? = some c:=by
 obtain⟨j,hj⟩:=List.getElem?_of_mem h;rcases ZF hj with h|h
 ·exact .inl h.2
 ·exact .inr ⟨j,h⟩
section
variable {C : Nat→Prop} {mb:Nat} {bv sv:Value} {l : List Int} {m : Zj} {w w':World} {b bb:Nat} {k k':FBlk}
theorem VD (hb:m.bks[b]? = some k) (n1:ZP w k.inv k'.inv) (n2:ZP w k.phv k'.phv):∀ q,Own mb bv { m with bks:=m.bks.set b k' } q→Own mb bv m q∨w.heap.size≤q:=by
 have hk:=List.mem_of_getElem? hb;rintro q (hq|hq|hq|⟨c,hc,hq⟩)
 ·exact .inl (.inl hq)
 ·exact .inl (.inr (.inl hq))
 ·exact .inl (.inr (.inr (.inl hq)))
 ·rcases Yc hc with rfl|⟨j,_,hj⟩
  ·rcases hq with hq|hq
   ·rcases n1 q hq with h|h
    ·exact .inl (.inr (.inr (.inr ⟨k,hk,.inl h⟩)))
    ·exact .inr h
   ·rcases n2 q hq with h|h
    ·exact .inl (.inr (.inr (.inr ⟨k,hk,.inr h⟩)))
    ·exact .inr h
  ·exact .inl (.inr (.inr (.inr ⟨c,List.mem_of_getElem? hj,hq⟩)))
def Bt (bb:Nat) (k:FBlk) (q:Nat):Prop:=q=bb∨k.inv.ownBlock=some q∨k.phv.ownBlock=some q
theorem MkOk.bbAt (h:MkOk C mb bv sv l m w) (ha:bv.ownBlock=some bb):HeapIs w bb (m.bks.flatMap fbcells).toArray 57:=by
 rcases h.bks with ⟨h1,_⟩|⟨bb2,h1,h2⟩
 ·rw[h1]at ha;cases ha
 ·rw[h1]at ha;obtain rfl:bb2=bb:=Option.some.inj ha;exact h2
theorem MkOk.upd (h:MkOk C mb bv sv l m w) (hb:m.bks[b]? = some k) (ha:bv.ownBlock=some bb) (t:Turn (Bt bb k) w w') (hA:HeapIs w' bb ((m.bks.set b k').flatMap fbcells).toArray 57)
  (hk:VT (Zx C mb bv { m with bks:=m.bks.set b k' }) w' k') (n1:ZP w k.inv k'.inv) (n2:ZP w k.phv k'.phv) (hg:∀ x∈k'.ins,Yq m.next x):MkOk C mb bv sv l { m with bks:=m.bks.set b k' } w':=by
 have hz:=t.size;have he:=List.mem_of_getElem? hb;have hS:=VD (mb:=mb) (bv:=bv) hb n1 n2;have hB:=h.bbAt ha;have hT:∀ q,Bt bb k q→Own mb bv m q:=by
  rintro q (rfl|hq|hq)
  ·exact .inr (.inl ha)
  ·exact .inr (.inr (.inr ⟨k,he,.inl hq⟩))
  ·exact .inr (.inr (.inr ⟨k,he,.inr hq⟩))
 have hl:=h.each k he;have hu:¬ Bt bb k mb:=by
  rintro (e|e|e)
  ·exact h.mb_bv (e ▸ ha)
  ·exact h.mb_ins he e
  ·exact h.mb_phis he e
 have hv:∀ q,m.livev.ownBlock=some q→¬ Bt bb k q:=by
  rintro q hq (rfl|e|e)
  ·exact Zk h.live hB (by decide) hq
  ·exact Z9 h.live hl.ins (by decide) q hq e
  ·exact Z9 h.live hl.phis (by decide) q hq e
 have ht:∀ (j:Nat) (c:FBlk),j≠b→m.bks[j]? = some c→∀ q,c.phv.ownBlock=some q→¬ Bt bb k q:=by
  rintro j c hj hc q hq (rfl|e|e)
  ·exact Zk (h.each c (List.mem_of_getElem? hc)).phis hB (by decide) hq
  ·exact Z9 (h.each c (List.mem_of_getElem? hc)).phis hl.ins (by decide) q hq e
  ·exact (h.apart j b c k hc hb hj).2 q hq e
 have hy:∀ (j:Nat) (c:FBlk),j≠b→m.bks[j]? = some c→∀ q,c.inv.ownBlock=some q→¬ Bt bb k q:=by
  rintro j c hj hc q hq (rfl|e|e)
  ·exact Zk (h.each c (List.mem_of_getElem? hc)).ins hB (by decide) hq
  ·exact (h.apart j b c k hc hb hj).1 q hq e
  ·exact Z9 (h.each c (List.mem_of_getElem? hc)).ins hl.phis (by decide) q hq e
 have ho:(m.bks.set b k').length=m.bks.length:=by simp
 refine⟨HeapIs.turn (show HeapIs w mb _ _ from h.made) t hu,⟨h.src.1.turn t fun q hq e=>(h.src.2 q hq).1 (.inl (hT q e)),h.src.2.mono (Yl hS) hz⟩,Zi h.live t hv,?_,fun c hc=>?_,fun i j c d hc hd hm=>?_,by show (m.bks.set b k').length≤512;rw[ho];exact h.few,?_,fun q hq=>⟨Nat.lt_of_lt_of_le (h.aside q hq).1 hz,fun e=>?_⟩⟩
 rotate_right
 ·rcases hS q e with h1|h1
  ·exact (h.aside q hq).2 h1
  ·have:=(h.aside q hq).1;omega
 ·rcases h.bks with ⟨h1,_⟩|⟨bb2,h1,_⟩
  ·rw[h1]at ha;cases ha
  ·rw[h1]at ha;obtain rfl:bb2=bb:=Option.some.inj ha;exact .inr ⟨bb2,by rw[ho];exact h1,hA⟩
 ·rcases Yc hc with rfl|⟨j,hj,hf⟩
  ·exact hk
  ·exact (h.each c (List.mem_of_getElem? hf)).turn t (fun q e=>.inl (hT q e)) (Yl hS) (ht j c hj hf) (hy j c hj hf)
 ·rcases ZF hc with ⟨rfl,rfl⟩|⟨hi,hp⟩
  ·rcases ZF hd with ⟨rfl,_⟩|⟨hj,hn⟩
   ·exact absurd rfl hm
   ·have hh:=h.apart i j k d hb hn hm;have hr:=h.each d (List.mem_of_getElem? hn);refine⟨fun q hq e=>?_,fun q hq e=>?_⟩
    ·rcases n1 q hq with h2|h2
     ·exact hh.1 q h2 e
     ·have:=Z5 hr.ins e;omega
    ·rcases n2 q hq with h2|h2
     ·exact hh.2 q h2 e
     ·have:=Z5 hr.phis e;omega
  ·rcases ZF hd with ⟨rfl,rfl⟩|⟨hj,hn⟩
   ·have hh:=h.apart i j c k hp hb hm;have hs:=h.each c (List.mem_of_getElem? hp);refine⟨fun q hq e=>?_,fun q hq e=>?_⟩
    ·rcases n1 q e with h2|h2
     ·exact hh.1 q hq h2
     ·have:=Z5 hs.ins hq;omega
    ·rcases n2 q e with h2|h2
     ·exact hh.2 q hq h2
     ·have:=Z5 hs.phis hq;omega
   ·exact h.apart i j c d hp hn hm
 ·refine⟨h.good.params,h.good.live,fun c hc x hx=>?_⟩;rcases Yc hc with rfl|⟨j,_,hf⟩
  ·exact hg x hx
  ·exact h.good.ins c (List.mem_of_getElem? hf) x hx
theorem MkOk.addIns (h:MkOk C mb bv sv l m w) {x : FIns} {v : Value} (hb:m.bks[b]? = some k) (hh:bv.ownBlock=some bb) (he:OwnRow ZA 5 51 0 w' v (k.ins++[x])) (t:Turn (fun q=>k.inv.ownBlock=some q) w w') (hf:ZP w k.inv v) (hx:Zm w x.av x.args∧Stays (Zx C mb bv m) w x.av) (hg:Yq m.next x) :
  MkOk C mb bv sv l { m with bks:=m.bks.set b { k with ins:=k.ins++[x],inv:=v } } (w'.setCell ⟨bb,b*6+1,none⟩ v)∧Mv mb bv w m (w'.setCell ⟨bb,b*6+1,none⟩ v) { m with bks:=m.bks.set b { k with ins:=k.ins++[x],inv:=v } } 0 0 1:=by
 have hd:=List.mem_of_getElem? hb;have ha:=h.each k hd;have hB:=h.bbAt hh;have n2:ZP w k.phv k.phv:=fun q hq=>.inl hq
 have hS:=VD (mb:=mb) (bv:=bv) (k':={ k with ins:=k.ins++[x],inv:=v }) hb hf n2;have hm:¬ k.inv.ownBlock=some bb:=Zk ha.ins hB (by decide);have hk:HeapIs w' bb (m.bks.flatMap fbcells).toArray 57:=hB.turn t hm;have tc:Turn (fun q=>q=bb) w' (w'.setCell ⟨bb,b*6+1,none⟩ v):=(Turn.refl (fun q=>q=bb) w').setCell (p:=⟨bb,b*6+1,none⟩) rfl _;have tt:Turn (Bt bb k) w (w'.setCell ⟨bb,b*6+1,none⟩ v):=(t.mono fun q _ e=>.inr (.inl e)).trans (tc.mono fun q _ e=>.inl e)
 have hT:∀ q,Bt bb k q→Own mb bv m q:=by
  rintro q (rfl|hq|hq)
  ·exact .inr (.inl hh)
  ·exact .inr (.inr (.inr ⟨k,hd,.inl hq⟩))
  ·exact .inr (.inr (.inr ⟨k,hd,.inr hq⟩))
 have t1:Turn (fun q=>q=bb∨k.inv.ownBlock=some q) w (w'.setCell ⟨bb,b*6+1,none⟩ v):=(t.mono fun q _ e=>.inr e).trans (tc.mono fun q _ e=>.inl e);have hz:=tt.size;have hc:∀ y:Value,Stays (Zx C mb bv m) w y→Stays (Zx C mb bv { m with bks:=m.bks.set b { k with ins:=k.ins++[x],inv:=v } }) (w'.setCell ⟨bb,b*6+1,none⟩ v) y:=fun y hy=>hy.mono (Yl hS) hz
 refine⟨h.upd hb hh tt ?_ ⟨?_,?_,fun y hy=>?_,fun y hy=>?_,?_⟩ hf n2 fun y hy=>?_,⟨tt.mono fun q _ e=>hT q e,hS,by show m.at_≤_;omega,by show m.next≤m.next∧m.next≤_;omega,?_,by show m.live.length≤_;omega,rfl,?_⟩⟩
 ·have h1:=hk.set (b*6+1) v;rw[List.setIfInBounds_toArray,Y3 fbcells 6 Zs 1 v k { k with ins:=k.ins++[x],inv:=v } (by decide) rfl _ _ hb]at h1;exact h1
 ·refine Zi ha.phis t1 ?_;rintro q hq (rfl|e)
  ·exact Zk ha.phis hB (by decide) hq
  ·exact Z9 ha.phis ha.ins (by decide) q hq e
 ·exact Zi he tc fun q hq e=>Zk he hk (by decide) (e ▸ hq)
 ·obtain⟨h3,h4⟩:=ha.phi y hy;exact⟨RowIn.turn h3 tt (fun q hq e=>(h4 q hq).1 (.inl (hT q e))) fun _ _ h=>h,hc _ h4⟩
 ·rcases List.mem_append.1 hy with hy|hy
  ·obtain⟨h3,h4⟩:=ha.arg y hy;exact⟨h3.turn tt fun q hq e=>(h4 q hq).1 (.inl (hT q e)),hc _ h4⟩
  ·obtain rfl:=List.mem_singleton.1 hy;exact⟨hx.1.turn tt fun q hq e=>(hx.2 q hq).1 (.inl (hT q e)),hc _ hx.2⟩
 ·exact⟨⟨ha.term.1.1.turn tt fun q hq e=>(ha.term.2.1 q hq).1 (.inl (hT q e)),ha.term.1.2.turn tt fun q hq e=>(ha.term.2.2 q hq).1 (.inl (hT q e))⟩,hc _ ha.term.2.1,hc _ ha.term.2.2⟩
 ·rcases List.mem_append.1 hy with hy|hy
  ·exact h.good.ins k hd y hy
  ·obtain rfl:=List.mem_singleton.1 hy;exact hg
 ·have:∀ (L:List FBlk) (i:Nat),L[i]? = some k→((L.set i { k with ins:=k.ins++[x],inv:=v }).map fun c=>c.ins.length).sum=(L.map fun c=>c.ins.length).sum+1:=by
   intro L;induction L with
   | nil=>intro i h;cases h
   | cons c r ih =>
    intro i hi
    cases i with
    | zero =>
     obtain rfl:c=k:=by simpa using hi
     simp;omega
    | succ i =>
     have:=ih i (by simpa using hi);simp only[List.set_cons_succ,List.map_cons,List.sum_cons];omega
  show Zj.total _≤_
  unfold Zj.total;dsimp only;rw[this _ _ hb];exact Nat.le_refl _
 ·show (m.bks.set b _).map _=_
  rw[List.map_set];apply List.ext_getElem?
  intro j;rw[List.getElem?_set];by_cases hj:b=j
  ·subst hj;rw[if_pos rfl];have hl:b<m.bks.length:=(List.getElem?_eq_some_iff.1 hb).1;rw[if_pos (by simpa using hl),List.getElem?_map,hb];rfl
  ·rw[if_neg hj]
theorem MkOk.setLive (h:MkOk C mb bv sv l m w) {more:List Int} {v : Value} (ha:w'.ownsRow 0 3 1 v (m.live++more).length ((m.live++more).map (Value.int .i64))) (t:Turn (fun q=>m.livev.ownBlock=some q) w w') (hd:ZP w m.livev v) (hg:∀ y∈more,0≤y∧y<m.next) :
  MkOk C mb bv sv l { m with live:=m.live++more,livev:=v } (w'.setCell ⟨mb,5,none⟩ v)∧(∀ q,Own mb bv { m with live:=m.live++more,livev:=v } q→Own mb bv m q∨w.heap.size≤q)∧Turn (Own mb bv m) w (w'.setCell ⟨mb,5,none⟩ v):=by
 have hS:∀ q,Own mb bv { m with live:=m.live++more,livev:=v } q→Own mb bv m q∨w.heap.size≤q:=by
  rintro q (hq|hq|hq|hq)
  ·exact .inl (.inl hq)
  ·exact .inl (.inr (.inl hq))
  ·rcases hd q hq with h2|h2
   ·exact .inl (.inr (.inr (.inl h2)))
   ·exact .inr h2
  ·exact .inl (.inr (.inr (.inr hq)))
 have tc:Turn (fun q=>q=mb) w' (w'.setCell ⟨mb,5,none⟩ v):=(Turn.refl (fun q=>q=mb) w').setCell (p:=⟨mb,5,none⟩) rfl _;have tt:Turn (fun q=>q=mb∨m.livev.ownBlock=some q) w (w'.setCell ⟨mb,5,none⟩ v):=(t.mono fun q _ e=>.inr e).trans (tc.mono fun q _ e=>.inl e);have hT:∀ q,(q=mb∨m.livev.ownBlock=some q)→Own mb bv m q:=by
  rintro q (hq|hq)
  ·exact .inl hq
  ·exact .inr (.inr (.inl hq))
 have hz:=tt.size;have hb:HeapIs w' mb _ _:=HeapIs.turn (show HeapIs w mb _ _ from h.made) t h.mb_live;refine⟨⟨?_,⟨h.src.1.turn tt fun q hq e=>(h.src.2 q hq).1 (.inl (hT q e)),h.src.2.mono (Yl hS) hz⟩,Zi ha tc fun q hq e=>Zk ha hb (by decide) (e ▸ hq),?_,fun c hc=>(h.each c hc).turn tt (fun q e=>.inl (hT q e)) (Yl hS) ?_ ?_,h.apart,h.few,⟨h.good.params,?_,h.good.ins⟩,fun q hq=>⟨Nat.lt_of_lt_of_le (h.aside q hq).1 hz,fun e=>?_⟩⟩,hS,tt.mono fun q _ e=>hT q e⟩
 ·have h1:=hb.set 5 v;simpa [MkAt]using h1
 ·rcases h.bks with h1|⟨bb,h1,h2⟩
  ·exact .inl h1
  ·refine .inr ⟨bb,h1,h2.turn tt ?_⟩;rintro (e|e)
   ·exact h.mb_bv (by rw[h1,←e];rfl)
   ·exact Zk h.live h2 (by decide) e
 ·rintro q hq (e|e)
  ·exact h.mb_phis hc (e ▸ hq)
  ·exact Z9 (h.each c hc).phis h.live (by decide) q hq e
 ·rintro q hq (e|e)
  ·exact h.mb_ins hc (e ▸ hq)
  ·exact Z9 (h.each c hc).ins h.live (by decide) q hq e
 ·intro y hy;rcases List.mem_append.1 hy with hy|hy
  ·exact h.good.live y hy
  ·exact hg y hy
 ·rcases hS q e with h1|h1
  ·exact (h.aside q hq).2 h1
  ·have:=(h.aside q hq).1;omega
theorem MkOk.besides {T : Nat→Prop} (h:MkOk C mb bv sv l m w) (t:Turn T w w') (hT:∀ q,q<w.heap.size→T q→C q):MkOk C mb bv sv l m w':=by
 have t:Turn C w w':=t.mono hT;have hz:=t.size;have hd:∀ q,Own mb bv m q→¬ C q:=fun q hq hc=>(h.aside q hc).2 hq
 have hb:∀ {y : Value},Stays (Zx C mb bv m) w y→Stays (Zx C mb bv m) w' y:=fun hy=>hy.mono (fun _ h=>.inl h) hz
 refine⟨HeapIs.turn (show HeapIs w mb _ _ from h.made) t (hd _ (.inl rfl)),⟨h.src.1.turn t fun q hq e=>(h.src.2 q hq).1 (.inr e),hb h.src.2⟩,Zi h.live t fun q hq=>hd q (.inr (.inr (.inl hq))),?_,fun c hc=>?_,h.apart,h.few,h.good,fun q hq=>⟨Nat.lt_of_lt_of_le (h.aside q hq).1 hz,(h.aside q hq).2⟩⟩
 ·rcases h.bks with h1|⟨bb,h1,h2⟩
  ·exact .inl h1
  ·exact .inr ⟨bb,h1,h2.turn t (hd _ (.inr (.inl (by rw[h1];rfl))))⟩
 ·have ha:=h.each c hc;refine⟨Zi ha.phis t fun q hq=>hd q (.inr (.inr (.inr ⟨c,hc,.inr hq⟩))),Zi ha.ins t fun q hq=>hd q (.inr (.inr (.inr ⟨c,hc,.inl hq⟩))),fun x hx=>?_,fun x hx=>?_,⟨ha.term.1.1.turn t fun q hq e=>(ha.term.2.1 q hq).1 (.inr e),ha.term.1.2.turn t fun q hq e=>(ha.term.2.2 q hq).1 (.inr e)⟩,hb ha.term.2.1,hb ha.term.2.2⟩
  ·obtain⟨h3,h4⟩:=ha.phi x hx;exact⟨RowIn.turn h3 t (fun q hq e=>(h4 q hq).1 (.inr e)) fun _ _ h=>h,hb h4⟩
  ·obtain⟨h3,h4⟩:=ha.arg x hx;exact⟨h3.turn t fun q hq e=>(h4 q hq).1 (.inr e),hb h4⟩
theorem MkOk.swapC {T C':Nat→Prop} (h:MkOk C mb bv sv l m w) (t:Turn T w w') (hT:∀ q,q<w.heap.size→T q→C q) (hC:∀ q,C' q→(C q∨w.heap.size≤q)∧q<w'.heap.size):MkOk C' mb bv sv l m w':=by
 have ha:∀ {y : Value},Stays (Zx C mb bv m) w y→Stays (Zx C' mb bv m) w' y:=fun hy=>hy.mono (by
  rintro q (hq|hq)
  ·exact .inl (.inl hq)
  ·rcases (hC q hq).1 with h1|h1
   ·exact .inl (.inr h1)
   ·exact .inr h1) t.size
 have k:=h.besides t hT;refine⟨k.made,⟨k.src.1,ha h.src.2⟩,k.live,k.bks,fun c hc=>?_,k.apart,k.few,k.good,fun q hq=>⟨(hC q hq).2,fun e=>?_⟩⟩
 ·have hb:=h.each c hc;have kc:=k.each c hc;exact⟨kc.phis,kc.ins,fun x hx=>⟨(kc.phi x hx).1,ha (hb.phi x hx).2⟩,fun x hx=>⟨(kc.arg x hx).1,ha (hb.arg x hx).2⟩,kc.term.1,ha hb.term.2.1,ha hb.term.2.2⟩
 ·rcases (hC q hq).1 with h1|h1
  ·exact (h.aside q h1).2 e
  ·have:=h.ltOwn e;omega
end
def fmakes (x:FIns):List Int:=if x.op=16 then [] else if x.op=18 then [x.dst,x.two] else [x.dst]
theorem JD (x:FIns):(fmakes x).length≤2:=by
 unfold fmakes;split
 ·simp
 ·split<;>simp
theorem J6 {N : Int} {x : FIns} (h:Yq N x):∀ y∈fmakes x,0≤y∧y<N:=by
 intro y hy;unfold fmakes at hy;split at hy
 ·cases hy
 ·split at hy
  ·rcases List.mem_cons.1 hy with rfl|hy
   ·exact h.2.2.1
   ·obtain rfl:=List.mem_singleton.1 hy;exact h.2.2.2.1
  ·obtain rfl:=List.mem_singleton.1 hy;exact h.2.2.1
theorem QG (x:FIns) (w:World):Calls Tryz.prog 61 #[fiv x] w (ZdK w (fmakes x)):=by
 obtain⟨op,dst,two,args,av,imm⟩:=x;unfold fiv fmakes;dsimp only;by_cases h1:op=16
 ·subst h1;rw[if_pos rfl];go_enter Tryz.func61,Tryz.ntmps61
  go_wp2
  go_ret
  exact Zdt ((Since.refl _).alloc _)
 ·rw[if_neg h1];have hb:(op==16)=false:=by simpa using h1
  by_cases h2:op=18
  ·subst h2;rw[if_pos rfl];clear h1;go_enter Tryz.func61,Tryz.ntmps61
   go_wp2
   go_ret
   exact QD ((Since.refl _).alloc _) [dst,two] _ (by simp) rfl (by show 2≤maxLen;decide) rfl
  ·rw[if_neg h2];have ha:(op==18)=false:=by simpa using h2
   clear h1 h2;go_enter Tryz.func61,Tryz.ntmps61
   go_wp2
   go_ret
   exact QD ((Since.refl _).alloc _) [dst] _ (by simp) rfl (by show 1≤maxLen;decide) rfl
theorem Jy:∀ {l : List Nat} {n : Nat},n∈l→n≤l.sum
 | [],_,h=>by cases h
 | x::r,n,h=>by
  rw[List.sum_cons]
  rcases List.mem_cons.1 h with rfl|h
  ·omega
  ·have:=Jy h;omega
def Vi (S:Nat→Prop) (x:FIns) (v:Value) (w:World):Prop:=∃ b,v=.slice (some ⟨b,0,none⟩) 1 1∧HeapIs w b (ZA x).toArray 51∧¬ S b
theorem Vi.stable (S:Nat→Prop) (x:FIns):Z7 (Vi S x):=fun v w w' ⟨b,h1,h2,h3⟩ s=>⟨b,h1,h2.keep s,h3⟩
theorem Vi.stableT (S:Nat→Prop) (x:FIns):Yd S (Vi S x):=fun v w w' ⟨b,h1,h2,h3⟩ t=>⟨b,h1,h2.turn t h3,h3⟩
def WY (w0:World) (v0:Value) (xs:List FIns) (v:Value) (w:World):Prop:=∃ wa,Since w0 wa∧Turn (fun q=>v0.ownBlock=some q) wa w∧ZP wa v0 v∧OwnRow ZA 5 51 0 w v xs
theorem WY.stable (w0:World) (v0:Value) (xs:List FIns):Z7 (WY w0 v0 xs):=fun v w w' ⟨wa,h1,h2,h3,h4⟩ s=>⟨wa,h1,h2.trans (Turn.since s),h3,h4.keep s⟩
structure JL (w0 w:World) (mb bb n:Nat) (x:FIns) (m:Zj) (sv:Value) (w1:World):Prop where
 made:MkAt w1 mb sv m.at_ [.int .i64 m.params,.slice (some ⟨bb,0,none⟩) n n,.int .i64 m.next,m.livev]
 blocks:HeapIs w1 bb (m.bks.flatMap fbcells).toArray 57
 box:HeapIs w1 w.heap.size #[.int .i64 x.op,.int .i64 x.dst,.int .i64 x.two,x.av,.int .i32 x.imm] 51
def ZfB (w0 w:World) (mb bb n:Nat) (x:FIns) (m:Zj) (sv:Value) (p:Nat) (w1:World):Prop:=JL w0 w mb bb n x m sv w1∧(p=0→Since w0 w1)
theorem JL.keep {w0 w w1 w2:World} {mb bb n:Nat} {x : FIns} {m : Zj} {sv:Value} (h:JL w0 w mb bb n x m sv w1) (s:Since w1 w2):JL w0 w mb bb n x m sv w2:=⟨h.made.keep s,h.blocks.keep s,h.box.keep s⟩
theorem JL.turn {S : Nat→Prop} {w0 w w1 w2:World} {mb bb n:Nat} {x : FIns} {m : Zj} {sv:Value} (h:JL w0 w mb bb n x m sv w1) (t:Turn S w1 w2) (hn:¬ S mb∧¬ S bb∧¬ S w.heap.size):JL w0 w mb bb n x m sv w2:=⟨HeapIs.turn (show HeapIs w1 mb _ _ from h.made) t hn.1,h.blocks.turn t hn.2.1,h.box.turn t hn.2.2⟩
section
variable {C : Nat→Prop} {mb:Nat} {bv sv:Value} {l : List Int} {m : Zj} {w : World}
theorem Mv.keep {w' w'':World} {m':Zj} {a n i:Nat} (h:Mv mb bv w m w' m' a n i) (s:Since w' w''):Mv mb bv w m w'' m' a n i:=
 ⟨h.turn.trans (Turn.since s),h.new,h.at_,h.next,h.total,h.live,h.same⟩
theorem Mv.setLive {w' w'':World} {m':Zj} {a n i:Nat} {more:List Int} {v : Value} (h:Mv mb bv w m w' m' a n i) (hS:∀ q,Own mb bv { m' with live:=m'.live++more,livev:=v } q→Own mb bv m' q∨w'.heap.size≤q) (t:Turn (Own mb bv m') w' w'') (hl:(m'.live++more).length≤m.live.length+2*i):Mv mb bv w m w'' { m' with live:=m'.live++more,livev:=v } a n i:=by
 have hz:=h.turn.size;have h1:Turn (fun q=>Own mb bv m q∨w.heap.size≤q) w w':=h.turn.mono fun _ _ h=>.inl h
 have h2:Turn (fun q=>Own mb bv m q∨w.heap.size≤q) w' w'':=t.mono fun q _ hq=>h.new q hq
 refine⟨(h1.trans h2).mono fun q hq hs=>?_,fun q hq=>?_,h.at_,h.next,h.total,hl,h.same⟩
 ·rcases hs with hs|hs
  ·exact hs
  ·omega
 ·rcases hS q hq with h3|h3
  ·exact h.new q h3
  ·exact .inr (by omega)
theorem Yr (h:MkOk C mb bv sv l m w) (hs:Sm 70 m) (b:Nat) (hb:b<m.bks.length) (x:FIns) (hx:Zm w x.av x.args∧Stays (Zx C mb bv m) w x.av) (hg:Yq m.next x) :
  Calls Tryz.prog 97 #[.pointer (some ⟨mb,0,none⟩),.int .i64 b,fiv x] w (MkQ C mb bv sv l w m 0 0 1 fun m' e=>e=.returned (.tuple #[])∧m'.next=m.next):=by
 obtain⟨k,hk⟩:∃ k,m.bks[b]? = some k:=⟨_,List.getElem?_eq_getElem hb⟩
 have hN:=List.mem_of_getElem? hk;have hy:=h.each k hN;obtain⟨bb,Ho⟩:∃ bb,bv=.slice (some ⟨bb,0,none⟩) m.bks.length m.bks.length:=by
  rcases h.bks with ⟨_,h2⟩|⟨bb,h1,_⟩
  ·rw[h2]at hb;simp at hb
  ·exact⟨bb,h1⟩
 subst Ho;have hB:=h.bbAt (bb:=bb) rfl;obtain⟨ia,ic,hj⟩:=Ze (show w.ownsRow _ _ _ _ _ _ from hy.ins);obtain⟨HH,hI,Hl,HF⟩:=hs;have Hh:=h.few;have Hn:k.ins.length≤70000:=by
  refine Nat.le_trans ?_ Hl;unfold Zj.total;exact Jy (List.mem_map.2 ⟨k,hN,rfl⟩)
 obtain⟨il,hp⟩:∃ n,k.ins.length=n:=⟨_,rfl⟩
 obtain⟨n,hn⟩:∃ n,m.bks.length=n:=⟨_,rfl⟩
 rw[hp]at hj;have Ha:(m.bks.flatMap fbcells).toArray[b*6+1]? = some (.slice ia il ic):=by
  rw[←hj,List.getElem?_toArray,YP fbcells 6 Zs m.bks b 1 k hk (by decide)];rfl
 obtain⟨w0,hu⟩:∃ w0,w0=w.alloc (.cells #[.int .i64 x.op,.int .i64 x.dst,.int .i64 x.two,x.av,.int .i32 x.imm] 51):=⟨_,rfl⟩
 have hd:Since w w0:=by rw[hu];exact (Since.refl w).alloc _
 have hz:HeapIs w0 w.heap.size #[.int .i64 x.op,.int .i64 x.dst,.int .i64 x.two,x.av,.int .i32 x.imm] 51:=by rw[hu];exact HeapIs.new _ _ _
 have hZ:=hid (h.keep hd);have hW:=zH (OwnRow ZA 5 51 0 w0 (.slice ia il ic) k.ins) (by rw[←hj];exact hy.ins.keep hd);have Hi:=zH (ZfB w0 w mb bb n x m sv 0 w0.drew) ⟨⟨by rw[←hn];exact h.made.keep hd.drew,hB.keep hd.drew,hz.keep (Since.refl _).drew⟩,fun _=>(Since.refl _).drew⟩
 have HB:=zH (∀ q,(Value.slice ia il ic).ownBlock=some q→q<w0.heap.size) (fun q hq=>Z5 hW.out hq)
 have Hz:=hid (show ¬ (Value.slice ia il ic).ownBlock=some mb∧¬ (Value.slice ia il ic).ownBlock=some bb∧¬ (Value.slice ia il ic).ownBlock=some w.heap.size from by
  rw[←hj];exact⟨h.mb_ins hN,Zk hy.ins hB (by decide),fun e=>by have:=Z5 hy.ins e;omega⟩)
 have Hg:=hid Ha;have HC:=zH (x.av.oneCell'=true) (by obtain⟨a,c,e⟩:=Zp hx.1;rw[e];rfl);have HX:=hid hx;have HG:=hid hg;have HK:=hid hk;have HN:=hid hn;have Hf:=hid hj;have hG:=hid hp;have hA:=hid hd;have HR:=hid hz;rw[hp]at Hn;rw[hn]at hb Hh;clear h hy hB hj Ha hd hz hx hg hk hN hn hp;go_enter Tryz.func97,Tryz.ntmps97
 unfold fiv;go_wp2_with fail
 rw[←hu];have HO:=hid hu;clear hu;refine Z4 18 17 [17] [0,0,0,0,0,0,0,0,0,0,0,0,0,0,0,0,0,0] [1,1,1,1,1,1,0,0,0,0,0,0,0,0,0,0,0,0] [0,0,0,0,0,0,0,0,0,0,0,0,0,0,0,0,0,1] (fun q=>(Value.slice ia il ic).ownBlock=some q) (ZfB w0 w mb bb n x m sv) rfl (by decide +kernel) (by decide +kernel) (by decide +kernel) (by decide) (by decide +kernel)
  [Is (.pointer (some ⟨mb,0,none⟩)),Is (.pointer (some ⟨mb,0,none⟩)),Is (.pointer (some ⟨mb,2,none⟩)),Is (.pointer (some ⟨mb,3,none⟩)),Is (.slice (some ⟨bb,0,none⟩) n n),Is (.int .i64 b),Is (.pointer (some ⟨mb,0,none⟩)),Is (.pointer (some ⟨mb,0,none⟩)),Is (.pointer (some ⟨mb,2,none⟩)),Is (.pointer (some ⟨mb,3,none⟩)),Is (.slice (some ⟨bb,0,none⟩) n n),Is (.int .i64 b),Is (.pointer (some ⟨bb,b*6,none⟩)),Is (.pointer (some ⟨bb,b*6+1,none⟩)),Is (.slice ia il ic),Is (fiv x),Vi (fun q=>(Value.slice ia il ic).ownBlock=some q) x,WY w0 (.slice ia il ic) (k.ins++[x])]
  (by repeat (first | exact trivial | refine⟨fun h=>absurd rfl h,?_⟩ | refine⟨fun _=>Is.stableT _ _,?_⟩ | refine⟨fun _=>Any.stableT _,?_⟩ | refine⟨fun _=>Vi.stableT _ _,?_⟩)) (by repeat (first | exact trivial | refine⟨Is.stable _,?_⟩ | refine⟨Any.stable,?_⟩ | refine⟨Vi.stable _ _,?_⟩ | refine⟨WY.stable _ _ _,?_⟩)) Hi.out ⟨?_,?_,?_,?_,?_,?_,?_,?_,?_,?_,?_,?_,?_,?_,?_,?_,?_,?_,trivial⟩ ?_
 rotate_right
 ·intro vs w2 ht ha hk;simp only[List.take,List.drop,putAll,Act.put,Zc,Zd,Is,List.setIfInBounds_toArray,List.set_cons_zero,List.set_cons_succ,Nat.reduceAdd]at hk ⊢;try simp only[hk]
  obtain⟨wa,h8,h7,hi,hh⟩:WY w0 (.slice ia il ic) (k.ins++[x]) (vs 17) w2:=by exact hk.2.2.2.2.2.2.2.2.2.2.2.2.2.2.2.2.2.1
  generalize vs 17=nv at *;have Hr:w2.cell? ⟨bb,b*6+1,none⟩=some (.slice ia il ic):=(ha.1.blocks.cell (b*6+1)).trans Hg.out;have Hq:=ha.1.blocks.frozen;have Hp:=ha.1.blocks.lt;have hC:=hid ha.1;have hP:=hid h8;have Ht:=hid h7;have Hj:=hid hi;have hX:=hid hh;clear hk ha ht h8 h7 hi hh;obtain⟨na,nc,h9⟩:=Ze (show w2.ownsRow _ _ _ _ _ _ from hX.out);rw[show (k.ins++[x]).length=il+1 from by rw[List.length_append,hG.out];rfl]at h9
  subst h9;go_upto_region 2 with (fail)
  have hF:=(hZ.out.keep hP.out).addIns (w':=w2) (v:=.slice na (il+1) nc) HK.out rfl hX.out (by rw[Hf.out];exact Ht.out) (by rw[Hf.out];exact Hj.out) ⟨HX.out.1.keep (hA.out.trans hP.out),HX.out.2.keep (hA.out.trans hP.out)⟩ HG.out;have hV:HeapIs (w2.setCell ⟨bb,b*6+1,none⟩ (.slice na (il+1) nc)) w.heap.size #[.int .i64 x.op,.int .i64 x.dst,.int .i64 x.two,x.av,.int .i32 x.imm] 51:=hC.out.box.turn ((Turn.refl (fun q=>q=bb) w2).setCell (p:=⟨bb,b*6+1,none⟩) rfl _) (Y4 hC.out.box hC.out.blocks (by decide));have hv:=Mv.since (hA.out.trans hP.out) hF.2;have hY:=hid hF.1;have h0:=hid hv;have Hk:=hid hV;clear hF hV hv Hr Hq Hp;generalize (w2.setCell ⟨bb,b*6+1,none⟩ (.slice na (il+1) nc))=w4 at *;go_wp2_with (refine wpList_load_row rfl _ _ rfl w.heap.size rfl 51 _ (0,0) _ Hk.out Tryz.underlying51 rfl (by kernel_rfl) ?_)
  refine (QG x w4).mono ?_;rintro e w5 ⟨mv,rfl,hU,hR⟩;obtain⟨ma,mc,hv⟩:=Zp hU;have Hy:=hid hU;obtain⟨mm,hT⟩:∃ mm,mm={ m with bks:=m.bks.set b { k with ins:=k.ins++[x],inv:=.slice na (il+1) nc } }:=⟨_,rfl⟩
  rw[←hT]at hY h0;have ho:mm.livev=m.livev∧mm.live=m.live∧mm.next=m.next:=by rw[hT];exact⟨rfl,rfl,rfl⟩
  have hr:=hid ho;have he:=hid (hY.out.keep hR);have Hw:=hid hR;obtain⟨la,lc,hL⟩:=Ze he.out.live;obtain⟨ln,hM⟩:∃ ln,mm.live.length=ln:=⟨_,rfl⟩
  have HE:ln≤140000:=by rw[←hM,ho.2.1];omega
  rw[hM]at hL;have He:=hid hM;have hD:=hid hL;have hf:HeapIs w5 mb _ _:=he.out.made;have c5:w5.cell? ⟨mb,5,none⟩=some (.slice la ln lc):=by rw[←hL];exact hf.cell 5
  have HJ:=hf.lt;have HM:=hf.frozen;obtain⟨mn,hK⟩:∃ mn,(fmakes x).length=mn:=⟨_,rfl⟩
  rw[hK]at hv;subst hv;have HD:mn≤2:=by rw[←hK];exact JD x
  have h3:=hid hK;clear hU hR hT hM hL hf hK ho;go_wp2_with (refine Zl (base:=0) .i64 rfl _ _ 32 rfl 3 (.int .i64 0) 8 Tryz.underlying32 Tryz.info3 rfl (by decide) (.slice la ln lc) _ mm.live (fmakes x) rfl rfl (by have:=he.out.live;rwa [hD.out]at this) Hy.out (by rw[He.out,h3.out];omega) (Nat.zero_le _) ?_;intro v6 w6 hm hQ hJ;obtain⟨a6,c6,h6⟩:=Ze hm;rw[show (mm.live++fmakes x).length=ln+mn from by rw[List.length_append,He.out,h3.out]]at h6;subst h6;have hO:HeapIs w6 mb _ _:=HeapIs.turn (show HeapIs w5 mb _ _ from he.out.made) hQ (by rw[←hD.out];exact he.out.mb_live);have k5:w6.cell? ⟨mb,5,none⟩=some (.slice la ln lc):=(by rw[←hD.out];exact hO.cell 5);have kl:=hO.lt;have kf:=hO.frozen;have h4:=hid hm;have Hu:=hid hQ;have h5:=hid hJ;clear hO hm hQ hJ)
  go_end0
  have hE:=he.out.setLive (more:=fmakes x) h4.out (by rw[hD.out];exact Hu.out) (by rw[hD.out];exact h5.out) (by rw[hr.out.2.2];exact J6 HG.out);refine⟨{ mm with live:=mm.live++fmakes x,livev:=.slice a6 (ln+mn) c6 },⟨rfl,hr.out.2.2⟩,hE.1,?_⟩;exact (Mv.keep h0.out Hw.out).setLive hE.2.1 hE.2.2 (by rw[List.length_append,hr.out.2.1,h3.out];omega)
 all_goals
  intro p vs w2 HI HL ht ha hk;simp only[List.take,putAll,Act.put,Zh,Zd,Is,List.setIfInBounds_toArray,List.set_cons_zero,List.set_cons_succ,Nat.reduceAdd]at hk ⊢;try simp only[hk]
 iterate 2
  iterate 4
   ·go_wp2
    exact⟨_,rfl,rfl,Since.refl _,ha⟩
  ·have hc:w2.cell? ⟨mb,3,none⟩=some (.slice (some ⟨bb,0,none⟩) n n):=HeapIs.cell (show HeapIs w2 mb _ _ from ha.1.made) 3;have hl:=HeapIs.lt (show HeapIs w2 mb _ _ from ha.1.made);go_wp2
   exact⟨_,rfl,rfl,Since.refl _,ha⟩
  ·go_wp2
   exact⟨_,rfl,rfl,Since.refl _,ha⟩
 iterate 2
  ·go_wp2
   exact⟨_,rfl,rfl,Since.refl _,ha⟩
 ·have hc:w2.cell? ⟨bb,b*6+1,none⟩=some (.slice ia il ic):=(ha.1.blocks.cell (b*6+1)).trans Hg.out;have hl:=ha.1.blocks.lt;go_wp2
  exact⟨_,rfl,rfl,Since.refl _,ha⟩
 ·have hz:=ha.1.box;clear hk;refine wpList_load_row rfl _ _ rfl w.heap.size rfl 51 _ (0,0) _ hz Tryz.underlying51 rfl (by kernel_rfl) ?_;go_wp2
  exact⟨_,rfl,rfl,Since.refl _,ha⟩
 ·have Hm:¬ (Value.slice ia il ic).ownBlock=some w2.heap.size:=fun e=>by have:=HB.out _ e;have:=ht.size;omega
  have hI:=(Since.refl w2).alloc (.cells (ZA x).toArray 51);have HP:=zH (ZfB w0 w mb bb n x m sv p _) (And.intro (ha.1.keep hI) (fun (e:p=0)=>(ha.2 e).trans hI))
  clear hk ha;unfold fiv;go_wp2
  exact⟨_,rfl,⟨_,rfl,HeapIs.new _ _ _,Hm⟩,hI,HP.out⟩
 ·obtain rfl:p=0:=by omega
  have hd:=ha.2 rfl;obtain⟨b1,Hc,Hb,Hs⟩:Vi (fun q=>(Value.slice ia il ic).ownBlock=some q) x (vs 16) w2:=hk.2.1
  simp only[Hc];have HQ:=hid (hZ.out.keep hd);have hS:=hW.out.keep hd;have hC:=hid ha.1;have hA:=hid hd;clear hk ha hd Hc;refine Zf ZA 5 Xk (by decide) rfl _ _ 52 rfl 51 (.agg #[.int .i64 0,.int .i64 0,.int .i64 0,.slice none 0 0,.int .i32 0]) 56 Tryz.underlying52 (by kernel_rfl) rfl (.slice ia il ic) k.ins x b1 1 _ rfl rfl hS Hb (by unfold ZA;simp[Value.oneCell'];exact HC.out) (by rw[hG.out];unfold maxLen;omega) (by rw[hG.out];omega) (Nat.zero_le _) ?_;intro v' w3 hh hH hi;have HA:=zH (WY w0 (.slice ia il ic) (k.ins++[x]) v' w3) ⟨w2,hA.out,hH,hi,hh⟩;have Hx:=hid (hC.out.turn hH Hz.out);have Hv:=hid hH;clear hh hH hi hS Hb Hs;go_wp2
  exact⟨_,rfl,HA.out,Hv.out,Hx.out,fun e=>absurd e (by decide)⟩
end
section
variable {C : Nat→Prop} {mb:Nat} {bv sv:Value} {l : List Int} {m m':Zj} {w w':World}
theorem Sm.mono {k k':Nat} (h:Sm k m) (hk:k≤k'):Sm k' m:=by
 obtain⟨h1,h2,h3,h4⟩:=h;exact⟨by omega,by omega,by omega,by omega⟩
theorem Sm.mv {k a n i:Nat} (h:Sm k m) (v:Mv mb bv w m w' m' a n i) (ha:a≤1000:=by decide) (hn:n≤1000:=by decide) (hi:i≤1000:=by decide):Sm (k+1) m':=by
 obtain⟨h1,h2,h3,h4⟩:=h;have:=v.at_;have:=v.next;have:=v.total;have:=v.live;exact⟨by omega,by omega,by omega,by omega⟩
theorem MkOk.next0 (h:MkOk C mb bv sv l m w):0≤m.next:=by have:=h.good.params;omega
def ZgZ (m':Zj) (e:Ending):Prop:=∃ v:Int,e=.returned (.int .i64 v)∧0≤v∧v<m'.next
def QP (m':Zj) (e:Ending):Prop:=e=.returned (.tuple #[])
theorem MkOk.newInts (h:MkOk C mb bv sv l m w) (xs:List Int) (cs:Array Value) (hc:cs=(xs.map (Value.int .i64)).toArray) (n:Nat) (hn:n=xs.length) (hm:xs.length≤maxLen) (T:TypeId):Zm (w.alloc (.cells cs T)) (.slice (some ⟨w.heap.size,0,none⟩) n n) xs∧Stays (Zx C mb bv m) (w.alloc (.cells cs T)) (.slice (some ⟨w.heap.size,0,none⟩) n n):=by
 subst hc;subst hn;refine⟨XT xs T _ (Nat.le_refl _) hm (Z2 _ _) fun j n hj=>?_,h.newStays _ _ _⟩;simp[hj]
theorem Calls.since_mk {f : FuncId} {args:Array Value} {a n i:Nat} {R : Zj→Ending→Prop} (s:Since w w') (h:Calls Tryz.prog f args w' (MkQ C mb bv sv l w' m a n i R)):Calls Tryz.prog f args w' (MkQ C mb bv sv l w m a n i R):=
 h.mono fun e w2 ⟨m',h1,h2,h3⟩=>⟨m',h1,h2,Mv.since s h3⟩
theorem Zds {N n d:Int} {av:Value} (hn:In32 n) (hd:0≤d∧d<N):Yq N ⟨1,d,0,[],av,n⟩:=
 ⟨hn,fun a ha=>(by cases ha),hd,⟨Int.le_refl _,by show 0<N;omega⟩,.inl ⟨rfl,rfl⟩⟩
theorem ZbO {N a b:Int} (ha:0≤a∧a<N) (hb:0≤b∧b<N):∀ x∈[a,b],0≤x∧x<N:=by
 intro x hx;rcases List.mem_cons.1 hx with rfl|hx
 ·exact ha
 ·obtain rfl:=List.mem_singleton.1 hx;exact hb
theorem Y5 {N op d a b:Int} {av:Value} (ho:2≤op∧op≤14) (ha:0≤a∧a<N) (hb:0≤b∧b<N) (hd:0≤d∧d<N):Yq N ⟨op,d,0,[a,b],av,0⟩:=
 ⟨(by show (-2147483648:Int)≤0∧(0:Int)≤2147483647;decide),ZbO ha hb,hd,⟨Int.le_refl _,by show 0<N;omega⟩,.inr (.inl ⟨ho,rfl⟩)⟩
theorem VZ {N d a n:Int} {av:Value} (hn:In32 n) (ha:0≤a∧a<N) (hd:0≤d∧d<N):Yq N ⟨15,d,0,[a],av,n⟩:=
 ⟨hn,fun x hx=>by obtain rfl:=List.mem_singleton.1 hx;exact ha,hd,⟨Int.le_refl _,by show 0<N;omega⟩,.inr (.inr (.inl ⟨rfl,rfl⟩))⟩
theorem Vv {N a b n:Int} {av:Value} (hn:In32 n) (ha:0≤a∧a<N) (hb:0≤b∧b<N):Yq N ⟨16,0,0,[a,b],av,n⟩:=
 ⟨hn,ZbO ha hb,⟨Int.le_refl _,by show 0<N;omega⟩,⟨Int.le_refl _,by show 0<N;omega⟩,.inr (.inr (.inr (.inl ⟨rfl,rfl⟩)))⟩
theorem Zeq {N d n:Int} {av:Value} {l : List Int} (hn:In32 n) (hl:∀ a∈l,0≤a∧a<N) (hd:0≤d∧d<N) (h4:l.length≤4):Yq N ⟨17,d,0,l,av,n⟩:=
 ⟨hn,hl,hd,⟨Int.le_refl _,by show 0<N;omega⟩,.inr (.inr (.inr (.inr (.inl ⟨rfl,h4⟩))))⟩
theorem Zep {N d t a b:Int} {av:Value} (ha:0≤a∧a<N) (hb:0≤b∧b<N) (hd:0≤d∧d<N) (ht:0≤t∧t<N) (hc:d≠t):Yq N ⟨18,d,t,[a,b],av,0⟩:=
 ⟨(by show (-2147483648:Int)≤0∧(0:Int)≤2147483647;decide),ZbO ha hb,hd,ht,.inr (.inr (.inr (.inr (.inr ⟨rfl,rfl,hc⟩))))⟩
theorem Yn (h:MkOk C mb bv sv l m w) (hs:Sm 60 m) (b:Nat) (hb:b<m.bks.length) (n:Int) (hn:In32 n) :
  Calls Tryz.prog 65 #[.pointer (some ⟨mb,0,none⟩),.int .i64 b,.int .i32 n] w (MkQ C mb bv sv l w m 0 1 1 ZgZ):=by
 obtain⟨m0,hd⟩:∃ x,x=m:=⟨_,rfl⟩
 subst hd;have H0:=hid h;have MV0:=hid (Mv.refl mb bv w m0);have SM0:=hid hs;have HB:=hid hb;have nx0:=h.next0;clear h hs;go_enter Tryz.func65,Tryz.ntmps65
 go_wp2_with fail
 refine (Ym H0.out ⟨by omega,by have:=SM0.out.2.1;omega⟩).mono ?_;rintro e w1 ⟨m1,⟨rfl,hc⟩,h1,mv1⟩;have H1:=hid h1;have MV1:=hid (MV0.out.trans mv1);have SM1:=hid (SM0.out.mv mv1);have nx1:m0.next+1≤m1.next:=by rw[hc];exact Int.le_refl _
 clear hc;clear h1 mv1;go_wp2_with fail
 refine (Yr H1.out (SM1.out.mono (by decide)) b (by rw[MV1.out.len];exact HB.out) ⟨1,m0.next,0,[],.slice none 0 0,n⟩ ⟨.nil _ _,.nil _ _⟩ (Zds hn ⟨by omega,by omega⟩)).mono ?_;rintro e w2 ⟨m2,⟨rfl,ha⟩,h2,mv2⟩;have H2:=hid h2;have MV2:=hid (MV1.out.trans mv2);have SM2:=hid (SM1.out.mv mv2);have nx2:m1.next≤m2.next:=by rw[ha];exact Int.le_refl _
 clear ha;clear h2 mv2;go_wp2_with fail
 go_ret
 refine⟨_,?_,H2.out,MV2.out.more⟩;exact⟨_,rfl,by omega,by omega⟩
theorem Yt (h:MkOk C mb bv sv l m w) (hs:Sm 50 m) (b:Nat) (hb:b<m.bks.length) :
  Calls Tryz.prog 96 #[.pointer (some ⟨mb,0,none⟩),.int .i64 b] w (MkQ C mb bv sv l w m 5 1 1 ZgZ):=by
 obtain⟨m0,hj⟩:∃ x,x=m:=⟨_,rfl⟩
 subst hj;have H0:=hid h;have MV0:=hid (Mv.refl mb bv w m0);have SM0:=hid hs;have HB:=hid hb;have nx0:=h.next0;clear h hs;go_enter Tryz.func96,Tryz.ntmps96
 go_wp2_with fail
 refine (Zfh H0.out (SM0.out.mono (by decide))).mono ?_;rintro e w1 ⟨m1,⟨v,ok,a0,rfl,hv,hn,hh⟩,h1,mv1⟩;have H1:=hid h1;have MV1:=hid (MV0.out.trans mv1);have SM1:=hid (SM0.out.mv mv1);have nx1:m0.next≤m1.next:=by rw[hh];exact Int.le_refl _
 clear hh;clear h1 mv1
 cases ok
 ·go_wp2_with fail
  refine (Wo H1.out (by have:=SM1.out.1;omega)).mono ?_;rintro e w2 ⟨m2,⟨c,rfl,hc,ha⟩,h2,mv2⟩;have H2:=hid h2;have MV2:=hid (MV1.out.trans mv2);have SM2:=hid (SM1.out.mv mv2);have nx2:m1.next≤m2.next:=by rw[ha];exact Int.le_refl _
  clear ha;clear h2 mv2;go_wp2_with fail
  refine (Yn H2.out (SM2.out.mono (by decide)) b (by rw[MV2.out.len];exact HB.out) (c) hc).mono ?_;rintro e w3 ⟨m3,⟨r,rfl,he,hd⟩,h3,mv3⟩;have H3:=hid h3;have MV3:=hid (MV2.out.trans mv3);have SM3:=hid (SM2.out.mv mv3);have nx3:=mv3.next.1;clear h3 mv3;go_wp2_with fail
  go_ret
  refine⟨_,?_,H3.out,MV3.out.more⟩;exact⟨r,rfl,he,hd⟩
 ·have hi:=hv rfl;clear hv;go_wp2_with fail
  refine (Zz H1.out 9 (by decide) (by have:=SM1.out.1;omega)).mono ?_;rintro e w2 ⟨m2,⟨y,rfl,⟨hl,hk⟩,ha⟩,h2,mv2⟩;have H2:=hid h2;have MV2:=hid (MV1.out.trans mv2);have SM2:=hid (SM1.out.mv mv2);have nx2:m1.next≤m2.next:=by rw[ha];exact Int.le_refl _
  clear ha;clear h2 mv2;by_cases hf:y=0
  ·subst hf;go_wp2_with fail
   refine (Wo H2.out (by have:=SM2.out.1;omega)).mono ?_;rintro e w3 ⟨m3,⟨c,rfl,hc,hg⟩,h3,mv3⟩;have H3:=hid h3;have MV3:=hid (MV2.out.trans mv3);have SM3:=hid (SM2.out.mv mv3);have nx3:m2.next≤m3.next:=by rw[hg];exact Int.le_refl _
   clear hg;clear h3 mv3;go_wp2_with fail
   refine (Yn H3.out (SM3.out.mono (by decide)) b (by rw[MV3.out.len];exact HB.out) (c) hc).mono ?_;rintro e w4 ⟨m4,⟨r,rfl,he,hd⟩,h4,mv4⟩;have H4:=hid h4;have MV4:=hid (MV3.out.trans mv4);have SM4:=hid (SM3.out.mv mv4);have nx4:=mv4.next.1;clear h4 mv4;go_wp2_with fail
   go_ret
   refine⟨_,?_,H4.out,MV4.out.more⟩;exact⟨r,rfl,he,hd⟩
  ·have hm:(y==0)=false:=by simpa using hf
   clear hf;go_wp2_with fail
   go_ret
   refine⟨_,?_,H2.out,MV2.out.more⟩;exact⟨v,rfl,hi.1,by omega⟩
end
end Go.Proofs.YtmhojfpidedjeaaGreatDoor
