/- MkSet MkAdd MkSteps -/
import Derived.Test.YtmhojfpidedjeaaGreatDoorTq27
import Derived.Laws.Rows
import Derived.Deep.CutBlock
namespace Go.Proofs.YtmhojfpidedjeaaGreatDoor
open Go.RowKit
set_option linter.unusedVariables false
theorem flat_setM {α:Type} (f:α→List Value) (sz:Nat) (hf:∀ x,(f x).length=sz) (t:Nat) (y:Value) (x x':α) (ht:t<sz) (hx:f x'=(f x).set t y):∀ (l:List α) (i:Nat),l[i]? = some x→(l.flatMap f).set (i*sz+t) y=(l.set i x').flatMap f
 | [],_,h=>by cases h
 | z::r,0,h=>by
  obtain rfl:z=x:=by simpa using h
  rw[List.set_cons_zero,List.flatMap_cons,List.flatMap_cons,Nat.zero_mul,Nat.zero_add,List.set_append_left _ _ (by rw[hf];exact ht),hx]
 | z::r,i+1,h=>by
  have ih:=flat_setM f sz hf t y x x' ht hx r i (by simpa using h)
  rw[List.set_cons_succ,List.flatMap_cons,List.flatMap_cons,List.set_append_right _ _ (by rw[hf,Nat.add_mul];omega),hf,show (i+1)*sz+t-sz=i*sz+t from by rw[Nat.add_mul];omega,ih]
theorem getElem?_set_cases {α:Type} {l : List α} {b j:Nat} {k c:α} (h:(l.set b k)[j]? = some c):(j=b∧c=k)∨(j≠b∧l[j]? = some c):=by
 rw[List.getElem?_set]at h
 by_cases e:b=j
 ·rw[if_pos e]at h
  split at h
  ·exact .inl ⟨e.symm,by simpa using h.symm⟩
  ·cases h
 ·rw[if_neg e]at h
  exact .inr ⟨fun h2=>e h2.symm,h⟩
theorem mem_set_idx {α:Type} {l : List α} {b : Nat} {k c:α} (h:c∈l.set b k):c=k∨∃ j,j≠b∧l[j]? = some c:=by
 obtain⟨j,hj⟩:=List.getElem?_of_mem h
 rcases getElem?_set_cases hj with h|h
 ·exact .inl h.2
 ·exact .inr ⟨j,h⟩
section
variable {C : Nat→Prop} {mb:Nat} {bv sv:Value} {l : List Int} {m : MkSt} {w w':World} {b bb:Nat} {k k':FBlk}
theorem own_upd (hb:m.bks[b]? = some k) (n1:NewOr w k.inv k'.inv) (n2:NewOr w k.phv k'.phv):∀ q,Own mb bv { m with bks:=m.bks.set b k' } q→Own mb bv m q∨w.heap.size≤q:=by
 have hk:=List.mem_of_getElem? hb
 rintro q (hq|hq|hq|⟨c,hc,hq⟩)
 ·exact .inl (.inl hq)
 ·exact .inl (.inr (.inl hq))
 ·exact .inl (.inr (.inr (.inl hq)))
 ·rcases mem_set_idx hc with rfl|⟨j,_,hj⟩
  ·rcases hq with hq|hq
   ·rcases n1 q hq with h|h
    ·exact .inl (.inr (.inr (.inr ⟨k,hk,.inl h⟩)))
    ·exact .inr h
   ·rcases n2 q hq with h|h
    ·exact .inl (.inr (.inr (.inr ⟨k,hk,.inr h⟩)))
    ·exact .inr h
  ·exact .inl (.inr (.inr (.inr ⟨c,List.mem_of_getElem? hj,hq⟩)))
def Bt (bb:Nat) (k:FBlk) (q:Nat):Prop:=q=bb∨k.inv.ownBlock=some q∨k.phv.ownBlock=some q
theorem MkOk.bbAt (h:MkOk C mb bv sv l m w) (hbv:bv.ownBlock=some bb):HeapIs w bb (m.bks.flatMap fbcells).toArray 57:=by
 rcases h.bks with ⟨h1,_⟩|⟨bb2,h1,h2⟩
 ·rw[h1]at hbv;cases hbv
 ·rw[h1]at hbv
  obtain rfl:bb2=bb:=Option.some.inj hbv
  exact h2
theorem MkOk.upd (h:MkOk C mb bv sv l m w) (hb:m.bks[b]? = some k) (hbv:bv.ownBlock=some bb) (t:Turn (Bt bb k) w w') (hbb:HeapIs w' bb ((m.bks.set b k').flatMap fbcells).toArray 57)
  (hk:BkOk (OwnC C mb bv { m with bks:=m.bks.set b k' }) w' k') (n1:NewOr w k.inv k'.inv) (n2:NewOr w k.phv k'.phv) (hg:∀ x∈k'.ins,InsGood m.next x):MkOk C mb bv sv l { m with bks:=m.bks.set b k' } w':=by
 have hz:=t.size
 have hkm:=List.mem_of_getElem? hb
 have hS:=own_upd (mb:=mb) (bv:=bv) hb n1 n2
 have hB:=h.bbAt hbv
 have hT:∀ q,Bt bb k q→Own mb bv m q:=by
  rintro q (rfl|hq|hq)
  ·exact .inr (.inl hbv)
  ·exact .inr (.inr (.inr ⟨k,hkm,.inl hq⟩))
  ·exact .inr (.inr (.inr ⟨k,hkm,.inr hq⟩))
 have hko:=h.each k hkm
 have hmb:¬ Bt bb k mb:=by
  rintro (e|e|e)
  ·exact h.mb_bv (e ▸ hbv)
  ·exact h.mb_ins hkm e
  ·exact h.mb_phis hkm e
 have hlv:∀ q,m.livev.ownBlock=some q→¬ Bt bb k q:=by
  rintro q hq (rfl|e|e)
  ·exact own_not h.live hB (by decide) hq
  ·exact own_ne h.live hko.ins (by decide) q hq e
  ·exact own_ne h.live hko.phis (by decide) q hq e
 have hph:∀ (j:Nat) (c:FBlk),j≠b→m.bks[j]? = some c→∀ q,c.phv.ownBlock=some q→¬ Bt bb k q:=by
  rintro j c hj hc q hq (rfl|e|e)
  ·exact own_not (h.each c (List.mem_of_getElem? hc)).phis hB (by decide) hq
  ·exact own_ne (h.each c (List.mem_of_getElem? hc)).phis hko.ins (by decide) q hq e
  ·exact (h.apart j b c k hc hb hj).2 q hq e
 have hin:∀ (j:Nat) (c:FBlk),j≠b→m.bks[j]? = some c→∀ q,c.inv.ownBlock=some q→¬ Bt bb k q:=by
  rintro j c hj hc q hq (rfl|e|e)
  ·exact own_not (h.each c (List.mem_of_getElem? hc)).ins hB (by decide) hq
  ·exact (h.apart j b c k hc hb hj).1 q hq e
  ·exact own_ne (h.each c (List.mem_of_getElem? hc)).ins hko.phis (by decide) q hq e
 have hlen:(m.bks.set b k').length=m.bks.length:=by simp
 refine⟨HeapIs.turn (show HeapIs w mb _ _ from h.made) t hmb,⟨h.src.1.turn t fun q hq e=>(h.src.2 q hq).1 (.inl (hT q e)),h.src.2.mono (ownC_sub hS) hz⟩,own_turn h.live t hlv,?_,fun c hc=>?_,fun i j c d hc hd hij=>?_,by show (m.bks.set b k').length≤512;rw[hlen];exact h.few,?_,fun q hq=>⟨Nat.lt_of_lt_of_le (h.aside q hq).1 hz,fun e=>?_⟩⟩
 rotate_right
 ·rcases hS q e with h1|h1
  ·exact (h.aside q hq).2 h1
  ·have:=(h.aside q hq).1;omega
 ·rcases h.bks with ⟨h1,_⟩|⟨bb2,h1,_⟩
  ·rw[h1]at hbv;cases hbv
  ·rw[h1]at hbv
   obtain rfl:bb2=bb:=Option.some.inj hbv
   exact .inr ⟨bb2,by rw[hlen];exact h1,hbb⟩
 ·rcases mem_set_idx hc with rfl|⟨j,hj,hcj⟩
  ·exact hk
  ·exact (h.each c (List.mem_of_getElem? hcj)).turn t (fun q e=>.inl (hT q e)) (ownC_sub hS) (hph j c hj hcj) (hin j c hj hcj)
 ·rcases getElem?_set_cases hc with ⟨rfl,rfl⟩|⟨hi,hc2⟩
  ·rcases getElem?_set_cases hd with ⟨rfl,_⟩|⟨hj,hd2⟩
   ·exact absurd rfl hij
   ·have hap:=h.apart i j k d hb hd2 hij
    have hdk:=h.each d (List.mem_of_getElem? hd2)
    refine⟨fun q hq e=>?_,fun q hq e=>?_⟩
    ·rcases n1 q hq with h2|h2
     ·exact hap.1 q h2 e
     ·have:=own_some_lt hdk.ins e;omega
    ·rcases n2 q hq with h2|h2
     ·exact hap.2 q h2 e
     ·have:=own_some_lt hdk.phis e;omega
  ·rcases getElem?_set_cases hd with ⟨rfl,rfl⟩|⟨hj,hd2⟩
   ·have hap:=h.apart i j c k hc2 hb hij
    have hck:=h.each c (List.mem_of_getElem? hc2)
    refine⟨fun q hq e=>?_,fun q hq e=>?_⟩
    ·rcases n1 q e with h2|h2
     ·exact hap.1 q hq h2
     ·have:=own_some_lt hck.ins hq;omega
    ·rcases n2 q e with h2|h2
     ·exact hap.2 q hq h2
     ·have:=own_some_lt hck.phis hq;omega
   ·exact h.apart i j c d hc2 hd2 hij
 ·refine⟨h.good.params,h.good.live,fun c hc x hx=>?_⟩
  rcases mem_set_idx hc with rfl|⟨j,_,hcj⟩
  ·exact hg x hx
  ·exact h.good.ins c (List.mem_of_getElem? hcj) x hx
theorem MkOk.addIns (h:MkOk C mb bv sv l m w) {x : FIns} {v : Value} (hb:m.bks[b]? = some k) (hbv:bv.ownBlock=some bb) (hown:OwnRow ficells 5 51 0 w' v (k.ins++[x])) (t:Turn (fun q=>k.inv.ownBlock=some q) w w') (hnew:NewOr w k.inv v) (hx:Ints w x.av x.args∧Stays (OwnC C mb bv m) w x.av) (hg:InsGood m.next x) :
  MkOk C mb bv sv l { m with bks:=m.bks.set b { k with ins:=k.ins++[x],inv:=v } } (w'.setCell ⟨bb,b*6+1,none⟩ v)∧Mv mb bv w m (w'.setCell ⟨bb,b*6+1,none⟩ v) { m with bks:=m.bks.set b { k with ins:=k.ins++[x],inv:=v } } 0 0 1:=by
 have hkm:=List.mem_of_getElem? hb
 have hko:=h.each k hkm
 have hB:=h.bbAt hbv
 have n2:NewOr w k.phv k.phv:=fun q hq=>.inl hq
 have hS:=own_upd (mb:=mb) (bv:=bv) (k':={ k with ins:=k.ins++[x],inv:=v }) hb hnew n2
 have hBi:¬ k.inv.ownBlock=some bb:=own_not hko.ins hB (by decide)
 have hB':HeapIs w' bb (m.bks.flatMap fbcells).toArray 57:=hB.turn t hBi
 have tc:Turn (fun q=>q=bb) w' (w'.setCell ⟨bb,b*6+1,none⟩ v):=(Turn.refl (fun q=>q=bb) w').setCell (p:=⟨bb,b*6+1,none⟩) rfl _
 have tt:Turn (Bt bb k) w (w'.setCell ⟨bb,b*6+1,none⟩ v):=(t.mono fun q _ e=>.inr (.inl e)).trans (tc.mono fun q _ e=>.inl e)
 have hT:∀ q,Bt bb k q→Own mb bv m q:=by
  rintro q (rfl|hq|hq)
  ·exact .inr (.inl hbv)
  ·exact .inr (.inr (.inr ⟨k,hkm,.inl hq⟩))
  ·exact .inr (.inr (.inr ⟨k,hkm,.inr hq⟩))
 have t1:Turn (fun q=>q=bb∨k.inv.ownBlock=some q) w (w'.setCell ⟨bb,b*6+1,none⟩ v):=(t.mono fun q _ e=>.inr e).trans (tc.mono fun q _ e=>.inl e)
 have hz:=tt.size
 have hstay:∀ y:Value,Stays (OwnC C mb bv m) w y→Stays (OwnC C mb bv { m with bks:=m.bks.set b { k with ins:=k.ins++[x],inv:=v } }) (w'.setCell ⟨bb,b*6+1,none⟩ v) y:=fun y hy=>hy.mono (ownC_sub hS) hz
 refine⟨h.upd hb hbv tt ?_ ⟨?_,?_,fun y hy=>?_,fun y hy=>?_,?_⟩ hnew n2 fun y hy=>?_,⟨tt.mono fun q _ e=>hT q e,hS,by show m.at_≤_;omega,by show m.next≤m.next∧m.next≤_;omega,?_,by show m.live.length≤_;omega,rfl,?_⟩⟩
 ·have h1:=hB'.set (b*6+1) v
  rw[List.setIfInBounds_toArray,flat_setM fbcells 6 fbcells_len 1 v k { k with ins:=k.ins++[x],inv:=v } (by decide) rfl _ _ hb]at h1
  exact h1
 ·refine own_turn hko.phis t1 ?_
  rintro q hq (rfl|e)
  ·exact own_not hko.phis hB (by decide) hq
  ·exact own_ne hko.phis hko.ins (by decide) q hq e
 ·exact own_turn hown tc fun q hq e=>own_not hown hB' (by decide) (e ▸ hq)
 ·obtain⟨h3,h4⟩:=hko.phi y hy
  exact⟨RowIn.turn h3 tt (fun q hq e=>(h4 q hq).1 (.inl (hT q e))) fun _ _ h=>h,hstay _ h4⟩
 ·rcases List.mem_append.1 hy with hy|hy
  ·obtain⟨h3,h4⟩:=hko.arg y hy
   exact⟨h3.turn tt fun q hq e=>(h4 q hq).1 (.inl (hT q e)),hstay _ h4⟩
  ·obtain rfl:=List.mem_singleton.1 hy
   exact⟨hx.1.turn tt fun q hq e=>(hx.2 q hq).1 (.inl (hT q e)),hstay _ hx.2⟩
 ·exact⟨⟨hko.term.1.1.turn tt fun q hq e=>(hko.term.2.1 q hq).1 (.inl (hT q e)),hko.term.1.2.turn tt fun q hq e=>(hko.term.2.2 q hq).1 (.inl (hT q e))⟩,hstay _ hko.term.2.1,hstay _ hko.term.2.2⟩
 ·rcases List.mem_append.1 hy with hy|hy
  ·exact h.good.ins k hkm y hy
  ·obtain rfl:=List.mem_singleton.1 hy
   exact hg
 ·have:∀ (L:List FBlk) (i:Nat),L[i]? = some k→((L.set i { k with ins:=k.ins++[x],inv:=v }).map fun c=>c.ins.length).sum=(L.map fun c=>c.ins.length).sum+1:=by
   intro L
   induction L with
   | nil=>intro i h;cases h
   | cons c r ih =>
    intro i hi
    cases i with
    | zero =>
     obtain rfl:c=k:=by simpa using hi
     simp;omega
    | succ i =>
     have:=ih i (by simpa using hi)
     simp only[List.set_cons_succ,List.map_cons,List.sum_cons]
     omega
  show MkSt.total _≤_
  unfold MkSt.total
  dsimp only
  rw[this _ _ hb]
  exact Nat.le_refl _
 ·show (m.bks.set b _).map _=_
  rw[List.map_set]
  apply List.ext_getElem?
  intro j
  rw[List.getElem?_set]
  by_cases hj:b=j
  ·subst hj
   rw[if_pos rfl]
   have hlt:b<m.bks.length:=(List.getElem?_eq_some_iff.1 hb).1
   rw[if_pos (by simpa using hlt),List.getElem?_map,hb];rfl
  ·rw[if_neg hj]
theorem MkOk.setLive (h:MkOk C mb bv sv l m w) {more:List Int} {v : Value} (hown:w'.ownsRow 0 3 1 v (m.live++more).length ((m.live++more).map (Value.int .i64))) (t:Turn (fun q=>m.livev.ownBlock=some q) w w') (hnew:NewOr w m.livev v) (hg:∀ y∈more,0≤y∧y<m.next) :
  MkOk C mb bv sv l { m with live:=m.live++more,livev:=v } (w'.setCell ⟨mb,5,none⟩ v)∧(∀ q,Own mb bv { m with live:=m.live++more,livev:=v } q→Own mb bv m q∨w.heap.size≤q)∧Turn (Own mb bv m) w (w'.setCell ⟨mb,5,none⟩ v):=by
 have hS:∀ q,Own mb bv { m with live:=m.live++more,livev:=v } q→Own mb bv m q∨w.heap.size≤q:=by
  rintro q (hq|hq|hq|hq)
  ·exact .inl (.inl hq)
  ·exact .inl (.inr (.inl hq))
  ·rcases hnew q hq with h2|h2
   ·exact .inl (.inr (.inr (.inl h2)))
   ·exact .inr h2
  ·exact .inl (.inr (.inr (.inr hq)))
 have tc:Turn (fun q=>q=mb) w' (w'.setCell ⟨mb,5,none⟩ v):=(Turn.refl (fun q=>q=mb) w').setCell (p:=⟨mb,5,none⟩) rfl _
 have tt:Turn (fun q=>q=mb∨m.livev.ownBlock=some q) w (w'.setCell ⟨mb,5,none⟩ v):=(t.mono fun q _ e=>.inr e).trans (tc.mono fun q _ e=>.inl e)
 have hT:∀ q,(q=mb∨m.livev.ownBlock=some q)→Own mb bv m q:=by
  rintro q (hq|hq)
  ·exact .inl hq
  ·exact .inr (.inr (.inl hq))
 have hz:=tt.size
 have hM':HeapIs w' mb _ _:=HeapIs.turn (show HeapIs w mb _ _ from h.made) t h.mb_live
 refine⟨⟨?_,⟨h.src.1.turn tt fun q hq e=>(h.src.2 q hq).1 (.inl (hT q e)),h.src.2.mono (ownC_sub hS) hz⟩,own_turn hown tc fun q hq e=>own_not hown hM' (by decide) (e ▸ hq),?_,fun c hc=>(h.each c hc).turn tt (fun q e=>.inl (hT q e)) (ownC_sub hS) ?_ ?_,h.apart,h.few,⟨h.good.params,?_,h.good.ins⟩,fun q hq=>⟨Nat.lt_of_lt_of_le (h.aside q hq).1 hz,fun e=>?_⟩⟩,hS,tt.mono fun q _ e=>hT q e⟩
 ·have h1:=hM'.set 5 v
  simpa [MkAt]using h1
 ·rcases h.bks with h1|⟨bb,h1,h2⟩
  ·exact .inl h1
  ·refine .inr ⟨bb,h1,h2.turn tt ?_⟩
   rintro (e|e)
   ·exact h.mb_bv (by rw[h1,←e];rfl)
   ·exact own_not h.live h2 (by decide) e
 ·rintro q hq (e|e)
  ·exact h.mb_phis hc (e ▸ hq)
  ·exact own_ne (h.each c hc).phis h.live (by decide) q hq e
 ·rintro q hq (e|e)
  ·exact h.mb_ins hc (e ▸ hq)
  ·exact own_ne (h.each c hc).ins h.live (by decide) q hq e
 ·intro y hy
  rcases List.mem_append.1 hy with hy|hy
  ·exact h.good.live y hy
  ·exact hg y hy
 ·rcases hS q e with h1|h1
  ·exact (h.aside q hq).2 h1
  ·have:=(h.aside q hq).1;omega
theorem MkOk.besides {T : Nat→Prop} (h:MkOk C mb bv sv l m w) (t:Turn T w w') (hT:∀ q,q<w.heap.size→T q→C q):MkOk C mb bv sv l m w':=by
 have t:Turn C w w':=t.mono hT
 have hz:=t.size
 have hno:∀ q,Own mb bv m q→¬ C q:=fun q hq hc=>(h.aside q hc).2 hq
 have hst:∀ {y : Value},Stays (OwnC C mb bv m) w y→Stays (OwnC C mb bv m) w' y:=fun hy=>hy.mono (fun _ h=>.inl h) hz
 refine⟨HeapIs.turn (show HeapIs w mb _ _ from h.made) t (hno _ (.inl rfl)),⟨h.src.1.turn t fun q hq e=>(h.src.2 q hq).1 (.inr e),hst h.src.2⟩,own_turn h.live t fun q hq=>hno q (.inr (.inr (.inl hq))),?_,fun c hc=>?_,h.apart,h.few,h.good,fun q hq=>⟨Nat.lt_of_lt_of_le (h.aside q hq).1 hz,(h.aside q hq).2⟩⟩
 ·rcases h.bks with h1|⟨bb,h1,h2⟩
  ·exact .inl h1
  ·exact .inr ⟨bb,h1,h2.turn t (hno _ (.inr (.inl (by rw[h1];rfl))))⟩
 ·have hc2:=h.each c hc
  refine⟨own_turn hc2.phis t fun q hq=>hno q (.inr (.inr (.inr ⟨c,hc,.inr hq⟩))),own_turn hc2.ins t fun q hq=>hno q (.inr (.inr (.inr ⟨c,hc,.inl hq⟩))),fun x hx=>?_,fun x hx=>?_,⟨hc2.term.1.1.turn t fun q hq e=>(hc2.term.2.1 q hq).1 (.inr e),hc2.term.1.2.turn t fun q hq e=>(hc2.term.2.2 q hq).1 (.inr e)⟩,hst hc2.term.2.1,hst hc2.term.2.2⟩
  ·obtain⟨h3,h4⟩:=hc2.phi x hx
   exact⟨RowIn.turn h3 t (fun q hq e=>(h4 q hq).1 (.inr e)) fun _ _ h=>h,hst h4⟩
  ·obtain⟨h3,h4⟩:=hc2.arg x hx
   exact⟨h3.turn t fun q hq e=>(h4 q hq).1 (.inr e),hst h4⟩
theorem MkOk.swapC {T C':Nat→Prop} (h:MkOk C mb bv sv l m w) (t:Turn T w w') (hT:∀ q,q<w.heap.size→T q→C q) (hC:∀ q,C' q→(C q∨w.heap.size≤q)∧q<w'.heap.size):MkOk C' mb bv sv l m w':=by
 have hst:∀ {y : Value},Stays (OwnC C mb bv m) w y→Stays (OwnC C' mb bv m) w' y:=fun hy=>hy.mono (by
  rintro q (hq|hq)
  ·exact .inl (.inl hq)
  ·rcases (hC q hq).1 with h1|h1
   ·exact .inl (.inr h1)
   ·exact .inr h1) t.size
 have k:=h.besides t hT
 refine⟨k.made,⟨k.src.1,hst h.src.2⟩,k.live,k.bks,fun c hc=>?_,k.apart,k.few,k.good,fun q hq=>⟨(hC q hq).2,fun e=>?_⟩⟩
 ·have hc2:=h.each c hc
  have kc:=k.each c hc
  exact⟨kc.phis,kc.ins,fun x hx=>⟨(kc.phi x hx).1,hst (hc2.phi x hx).2⟩,fun x hx=>⟨(kc.arg x hx).1,hst (hc2.arg x hx).2⟩,kc.term.1,hst hc2.term.2.1,hst hc2.term.2.2⟩
 ·rcases (hC q hq).1 with h1|h1
  ·exact (h.aside q h1).2 e
  ·have:=h.ltOwn e;omega
end
def fmakes (x:FIns):List Int:=if x.op=16 then [] else if x.op=18 then [x.dst,x.two] else [x.dst]
theorem fmakes_len (x:FIns):(fmakes x).length≤2:=by
 unfold fmakes
 split
 ·simp
 ·split<;>simp
theorem fmakes_in {N : Int} {x : FIns} (h:InsGood N x):∀ y∈fmakes x,0≤y∧y<N:=by
 intro y hy
 unfold fmakes at hy
 split at hy
 ·cases hy
 ·split at hy
  ·rcases List.mem_cons.1 hy with rfl|hy
   ·exact h.2.2.1
   ·obtain rfl:=List.mem_singleton.1 hy
    exact h.2.2.2.1
  ·obtain rfl:=List.mem_singleton.1 hy
   exact h.2.2.1
set_option maxHeartbeats 1000000 in
set_option maxRecDepth 100000 in
theorem fmakes_any (x:FIns) (w:World):Calls Tryz.prog 61 #[fiv x] w (Gives w (fmakes x)):=by
 obtain⟨op,dst,two,args,av,imm⟩:=x
 unfold fiv fmakes
 dsimp only
 by_cases h1:op=16
 ·subst h1
  rw[if_pos rfl]
  go_enter Tryz.func61,Tryz.ntmps61
  go_wp2
  go_ret
  exact gives_none ((Since.refl _).alloc _)
 ·rw[if_neg h1]
  have h1q:(op==16)=false:=by simpa using h1
  by_cases h2:op=18
  ·subst h2
   rw[if_pos rfl]
   clear h1
   go_enter Tryz.func61,Tryz.ntmps61
   go_wp2
   go_ret
   exact gives_last ((Since.refl _).alloc _) [dst,two] _ (by simp) rfl (by show 2≤maxLen;decide) rfl
  ·rw[if_neg h2]
   have h2q:(op==18)=false:=by simpa using h2
   clear h1 h2
   go_enter Tryz.func61,Tryz.ntmps61
   go_wp2
   go_ret
   exact gives_last ((Since.refl _).alloc _) [dst] _ (by simp) rfl (by show 1≤maxLen;decide) rfl
theorem mem_le_sum:∀ {l : List Nat} {n : Nat},n∈l→n≤l.sum
 | [],_,h=>by cases h
 | x::r,n,h=>by
  rw[List.sum_cons]
  rcases List.mem_cons.1 h with rfl|h
  ·omega
  ·have:=mem_le_sum h;omega
def OneIns (S:Nat→Prop) (x:FIns) (v:Value) (w:World):Prop:=∃ b,v=.slice (some ⟨b,0,none⟩) 1 1∧HeapIs w b (ficells x).toArray 51∧¬ S b
theorem OneIns.stable (S:Nat→Prop) (x:FIns):Stable (OneIns S x):=fun v w w' ⟨b,h1,h2,h3⟩ s=>⟨b,h1,h2.keep s,h3⟩
theorem OneIns.stableT (S:Nat→Prop) (x:FIns):StableT S (OneIns S x):=fun v w w' ⟨b,h1,h2,h3⟩ t=>⟨b,h1,h2.turn t h3,h3⟩
def Appended (w0:World) (v0:Value) (xs:List FIns) (v:Value) (w:World):Prop:=∃ wa,Since w0 wa∧Turn (fun q=>v0.ownBlock=some q) wa w∧NewOr wa v0 v∧OwnRow ficells 5 51 0 w v xs
theorem Appended.stable (w0:World) (v0:Value) (xs:List FIns):Stable (Appended w0 v0 xs):=fun v w w' ⟨wa,h1,h2,h3,h4⟩ s=>⟨wa,h1,h2.trans (Turn.since s),h3,h4.keep s⟩
structure AddPh (w0 w:World) (mb bb n:Nat) (x:FIns) (m:MkSt) (sv:Value) (w1:World):Prop where
 made:MkAt w1 mb sv m.at_ [.int .i64 m.params,.slice (some ⟨bb,0,none⟩) n n,.int .i64 m.next,m.livev]
 blocks:HeapIs w1 bb (m.bks.flatMap fbcells).toArray 57
 box:HeapIs w1 w.heap.size #[.int .i64 x.op,.int .i64 x.dst,.int .i64 x.two,x.av,.int .i32 x.imm] 51
def AddP (w0 w:World) (mb bb n:Nat) (x:FIns) (m:MkSt) (sv:Value) (p:Nat) (w1:World):Prop:=AddPh w0 w mb bb n x m sv w1∧(p=0→Since w0 w1)
theorem AddPh.keep {w0 w w1 w2:World} {mb bb n:Nat} {x : FIns} {m : MkSt} {sv:Value} (h:AddPh w0 w mb bb n x m sv w1) (s:Since w1 w2):AddPh w0 w mb bb n x m sv w2:=⟨h.made.keep s,h.blocks.keep s,h.box.keep s⟩
theorem AddPh.turn {S : Nat→Prop} {w0 w w1 w2:World} {mb bb n:Nat} {x : FIns} {m : MkSt} {sv:Value} (h:AddPh w0 w mb bb n x m sv w1) (t:Turn S w1 w2) (hn:¬ S mb∧¬ S bb∧¬ S w.heap.size):AddPh w0 w mb bb n x m sv w2:=⟨HeapIs.turn (show HeapIs w1 mb _ _ from h.made) t hn.1,h.blocks.turn t hn.2.1,h.box.turn t hn.2.2⟩
section
variable {C : Nat→Prop} {mb:Nat} {bv sv:Value} {l : List Int} {m : MkSt} {w : World}
theorem Mv.keep {w' w'':World} {m':MkSt} {a n i:Nat} (h:Mv mb bv w m w' m' a n i) (s:Since w' w''):Mv mb bv w m w'' m' a n i:=
 ⟨h.turn.trans (Turn.since s),h.new,h.at_,h.next,h.total,h.live,h.same⟩
theorem Mv.setLive {w' w'':World} {m':MkSt} {a n i:Nat} {more:List Int} {v : Value} (h:Mv mb bv w m w' m' a n i) (hS:∀ q,Own mb bv { m' with live:=m'.live++more,livev:=v } q→Own mb bv m' q∨w'.heap.size≤q) (t:Turn (Own mb bv m') w' w'') (hl:(m'.live++more).length≤m.live.length+2*i):Mv mb bv w m w'' { m' with live:=m'.live++more,livev:=v } a n i:=by
 have hz:=h.turn.size
 have h1:Turn (fun q=>Own mb bv m q∨w.heap.size≤q) w w':=h.turn.mono fun _ _ h=>.inl h
 have h2:Turn (fun q=>Own mb bv m q∨w.heap.size≤q) w' w'':=t.mono fun q _ hq=>h.new q hq
 refine⟨(h1.trans h2).mono fun q hq hs=>?_,fun q hq=>?_,h.at_,h.next,h.total,hl,h.same⟩
 ·rcases hs with hs|hs
  ·exact hs
  ·omega
 ·rcases hS q hq with h3|h3
  ·exact h.new q h3
  ·exact .inr (by omega)
set_option maxHeartbeats 4000000 in
set_option maxRecDepth 100000 in
theorem mk_add (h:MkOk C mb bv sv l m w) (hs:Sm 70 m) (b:Nat) (hb:b<m.bks.length) (x:FIns) (hx:Ints w x.av x.args∧Stays (OwnC C mb bv m) w x.av) (hg:InsGood m.next x) :
  Calls Tryz.prog 97 #[.pointer (some ⟨mb,0,none⟩),.int .i64 b,fiv x] w (MkQ C mb bv sv l w m 0 0 1 fun m' e=>e=.returned (.tuple #[])∧m'.next=m.next):=by
 obtain⟨k,hk⟩:∃ k,m.bks[b]? = some k:=⟨_,List.getElem?_eq_getElem hb⟩
 have hkm:=List.mem_of_getElem? hk
 have hko:=h.each k hkm
 obtain⟨bb,hbv⟩:∃ bb,bv=.slice (some ⟨bb,0,none⟩) m.bks.length m.bks.length:=by
  rcases h.bks with ⟨_,h2⟩|⟨bb,h1,_⟩
  ·rw[h2]at hb;simp at hb
  ·exact⟨bb,h1⟩
 subst hbv
 have hB:=h.bbAt (bb:=bb) rfl
 obtain⟨ia,ic,hiv⟩:=own_shape (show w.ownsRow _ _ _ _ _ _ from hko.ins)
 obtain⟨hs1,hs2,hs3,hs4⟩:=hs
 have hfew:=h.few
 have hil:k.ins.length≤70000:=by
  refine Nat.le_trans ?_ hs3
  unfold MkSt.total
  exact mem_le_sum (List.mem_map.2 ⟨k,hkm,rfl⟩)
 obtain⟨il,hill⟩:∃ n,k.ins.length=n:=⟨_,rfl⟩
 obtain⟨n,hn⟩:∃ n,m.bks.length=n:=⟨_,rfl⟩
 rw[hill]at hiv
 have hci:(m.bks.flatMap fbcells).toArray[b*6+1]? = some (.slice ia il ic):=by
  rw[←hiv,List.getElem?_toArray,flat_at fbcells 6 fbcells_len m.bks b 1 k hk (by decide)];rfl
 obtain⟨w0,hw0⟩:∃ w0,w0=w.alloc (.cells #[.int .i64 x.op,.int .i64 x.dst,.int .i64 x.two,x.av,.int .i32 x.imm] 51):=⟨_,rfl⟩
 have hs0:Since w w0:=by rw[hw0];exact (Since.refl w).alloc _
 have hbx:HeapIs w0 w.heap.size #[.int .i64 x.op,.int .i64 x.dst,.int .i64 x.two,x.av,.int .i32 x.imm] 51:=by rw[hw0];exact HeapIs.new _ _ _
 have HOK0:=Lib.hid (h.keep hs0)
 have HROW:=Lib.hid (show OwnRow ficells 5 51 0 w0 (.slice ia il ic) k.ins from by rw[←hiv];exact hko.ins.keep hs0)
 have HPH0:=Lib.hid (show AddP w0 w mb bb n x m sv 0 w0.drew from⟨⟨by rw[←hn];exact h.made.keep hs0.drew,hB.keep hs0.drew,hbx.keep (Since.refl _).drew⟩,fun _=>(Since.refl _).drew⟩)
 have HIL:=Lib.hid (show ∀ q,(Value.slice ia il ic).ownBlock=some q→q<w0.heap.size from fun q hq=>own_some_lt HROW.out hq)
 have HIO:=Lib.hid (show ¬ (Value.slice ia il ic).ownBlock=some mb∧¬ (Value.slice ia il ic).ownBlock=some bb∧¬ (Value.slice ia il ic).ownBlock=some w.heap.size from by
  rw[←hiv]
  exact⟨h.mb_ins hkm,own_not hko.ins hB (by decide),fun e=>by have:=own_some_lt hko.ins e;omega⟩)
 have HCI:=Lib.hid hci
 have HAV:=Lib.hid (show x.av.oneCell'=true from by obtain⟨a,c,e⟩:=nums_lenI hx.1;rw[e];rfl)
 have HX:=Lib.hid hx
 have HG:=Lib.hid hg
 have HK:=Lib.hid hk
 have HN:=Lib.hid hn
 have HIV:=Lib.hid hiv
 have HILL:=Lib.hid hill
 have HS0:=Lib.hid hs0
 have HBX:=Lib.hid hbx
 rw[hill]at hil
 rw[hn]at hb hfew
 clear h hko hB hiv hci hs0 hbx hx hg hk hkm hn hill
 go_enter Tryz.func97,Tryz.ntmps97
 unfold fiv
 go_wp2_with fail
 rw[←hw0]
 have HW0:=Lib.hid hw0
 clear hw0
 refine wp_region_one 18 17 [17] [0,0,0,0,0,0,0,0,0,0,0,0,0,0,0,0,0,0] [1,1,1,1,1,1,0,0,0,0,0,0,0,0,0,0,0,0] [0,0,0,0,0,0,0,0,0,0,0,0,0,0,0,0,0,1] (fun q=>(Value.slice ia il ic).ownBlock=some q) (AddP w0 w mb bb n x m sv) rfl (by decide +kernel) (by decide +kernel) (by decide +kernel) (by decide) (by decide +kernel)
  [Is (.pointer (some ⟨mb,0,none⟩)),Is (.pointer (some ⟨mb,0,none⟩)),Is (.pointer (some ⟨mb,2,none⟩)),Is (.pointer (some ⟨mb,3,none⟩)),Is (.slice (some ⟨bb,0,none⟩) n n),Is (.int .i64 b),Is (.pointer (some ⟨mb,0,none⟩)),Is (.pointer (some ⟨mb,0,none⟩)),Is (.pointer (some ⟨mb,2,none⟩)),Is (.pointer (some ⟨mb,3,none⟩)),Is (.slice (some ⟨bb,0,none⟩) n n),Is (.int .i64 b),Is (.pointer (some ⟨bb,b*6,none⟩)),Is (.pointer (some ⟨bb,b*6+1,none⟩)),Is (.slice ia il ic),Is (fiv x),OneIns (fun q=>(Value.slice ia il ic).ownBlock=some q) x,Appended w0 (.slice ia il ic) (k.ins++[x])]
  (by repeat (first | exact trivial | refine⟨fun h=>absurd rfl h,?_⟩ | refine⟨fun _=>Is.stableT _ _,?_⟩ | refine⟨fun _=>Any.stableT _,?_⟩ | refine⟨fun _=>OneIns.stableT _ _,?_⟩)) (by repeat (first | exact trivial | refine⟨Is.stable _,?_⟩ | refine⟨Any.stable,?_⟩ | refine⟨OneIns.stable _ _,?_⟩ | refine⟨Appended.stable _ _ _,?_⟩)) HPH0.out ⟨?_,?_,?_,?_,?_,?_,?_,?_,?_,?_,?_,?_,?_,?_,?_,?_,?_,?_,trivial⟩ ?_
 rotate_right
 ·intro vs w2 ht hph hk
  simp only[List.take,List.drop,putAll,Act.put,KnowsAll,nthF,Is,List.setIfInBounds_toArray,List.set_cons_zero,List.set_cons_succ,Nat.reduceAdd]at hk ⊢
  try simp only[hk]
  obtain⟨wa,hsa,hta,hnew,hown⟩:Appended w0 (.slice ia il ic) (k.ins++[x]) (vs 17) w2:=by exact hk.2.2.2.2.2.2.2.2.2.2.2.2.2.2.2.2.2.1
  generalize vs 17=nv at *
  have hbc:w2.cell? ⟨bb,b*6+1,none⟩=some (.slice ia il ic):=(hph.1.blocks.cell (b*6+1)).trans HCI.out
  have hbf:=hph.1.blocks.frozen
  have hbl:=hph.1.blocks.lt
  have HPH:=Lib.hid hph.1
  have HSA:=Lib.hid hsa
  have HTA:=Lib.hid hta
  have HNEW:=Lib.hid hnew
  have HOWN:=Lib.hid hown
  clear hk hph ht hsa hta hnew hown
  obtain⟨na,nc,hnv⟩:=own_shape (show w2.ownsRow _ _ _ _ _ _ from HOWN.out)
  rw[show (k.ins++[x]).length=il+1 from by rw[List.length_append,HILL.out];rfl]at hnv
  subst hnv
  go_upto_region 2 with (fail)
  have hadd:=(HOK0.out.keep HSA.out).addIns (w':=w2) (v:=.slice na (il+1) nc) HK.out rfl HOWN.out (by rw[HIV.out];exact HTA.out) (by rw[HIV.out];exact HNEW.out) ⟨HX.out.1.keep (HS0.out.trans HSA.out),HX.out.2.keep (HS0.out.trans HSA.out)⟩ HG.out
  have hbx4:HeapIs (w2.setCell ⟨bb,b*6+1,none⟩ (.slice na (il+1) nc)) w.heap.size #[.int .i64 x.op,.int .i64 x.dst,.int .i64 x.two,x.av,.int .i32 x.imm] 51:=HPH.out.box.turn ((Turn.refl (fun q=>q=bb) w2).setCell (p:=⟨bb,b*6+1,none⟩) rfl _) (heap_ne HPH.out.box HPH.out.blocks (by decide))
  have hmv:=Mv.since (HS0.out.trans HSA.out) hadd.2
  have HOK4:=Lib.hid hadd.1
  have HMV4:=Lib.hid hmv
  have HBX4:=Lib.hid hbx4
  clear hadd hbx4 hmv hbc hbf hbl
  generalize (w2.setCell ⟨bb,b*6+1,none⟩ (.slice na (il+1) nc))=w4 at *
  go_wp2_with (refine wpList_load_row rfl _ _ rfl w.heap.size rfl 51 _ (0,0) _ HBX4.out Tryz.underlying51 rfl (by kernel_rfl) ?_)
  refine (fmakes_any x w4).mono ?_
  rintro e w5 ⟨mv,rfl,hmk,hs5⟩
  obtain⟨ma,mc,hmv⟩:=nums_lenI hmk
  have HMK:=Lib.hid hmk
  obtain⟨mm,hmm⟩:∃ mm,mm={ m with bks:=m.bks.set b { k with ins:=k.ins++[x],inv:=.slice na (il+1) nc } }:=⟨_,rfl⟩
  rw[←hmm]at HOK4 HMV4
  have hlive:mm.livev=m.livev∧mm.live=m.live∧mm.next=m.next:=by rw[hmm];exact⟨rfl,rfl,rfl⟩
  have HLIVE:=Lib.hid hlive
  have HOK5:=Lib.hid (HOK4.out.keep hs5)
  have HS5:=Lib.hid hs5
  obtain⟨la,lc,hlv⟩:=own_shape HOK5.out.live
  obtain⟨ln,hln⟩:∃ ln,mm.live.length=ln:=⟨_,rfl⟩
  have hln2:ln≤140000:=by rw[←hln,hlive.2.1];omega
  rw[hln]at hlv
  have HLN:=Lib.hid hln
  have HLV:=Lib.hid hlv
  have hmade:HeapIs w5 mb _ _:=HOK5.out.made
  have c5:w5.cell? ⟨mb,5,none⟩=some (.slice la ln lc):=by rw[←hlv];exact hmade.cell 5
  have hl5:=hmade.lt
  have hf5:=hmade.frozen
  obtain⟨mn,hmn⟩:∃ mn,(fmakes x).length=mn:=⟨_,rfl⟩
  rw[hmn]at hmv
  subst hmv
  have hmn2:mn≤2:=by rw[←hmn];exact fmakes_len x
  have HMN:=Lib.hid hmn
  clear hmk hs5 hmm hln hlv hmade hmn hlive
  go_wp2_with (refine wpList_append_nums2 (base:=0) .i64 rfl _ _ 32 rfl 3 (.int .i64 0) 8 Tryz.underlying32 Tryz.info3 rfl (by decide) (.slice la ln lc) _ mm.live (fmakes x) rfl rfl (by have:=HOK5.out.live;rwa [HLV.out]at this) HMK.out (by rw[HLN.out,HMN.out];omega) (Nat.zero_le _) ?_;intro v6 w6 hown6 ht6 hnew6;obtain⟨a6,c6,hv6⟩:=own_shape hown6;rw[show (mm.live++fmakes x).length=ln+mn from by rw[List.length_append,HLN.out,HMN.out]]at hv6;subst hv6;have hM6:HeapIs w6 mb _ _:=HeapIs.turn (show HeapIs w5 mb _ _ from HOK5.out.made) ht6 (by rw[←HLV.out];exact HOK5.out.mb_live);have k5:w6.cell? ⟨mb,5,none⟩=some (.slice la ln lc):=(by rw[←HLV.out];exact hM6.cell 5);have kl:=hM6.lt;have kf:=hM6.frozen;have HOWN6:=Lib.hid hown6;have HT6:=Lib.hid ht6;have HNEW6:=Lib.hid hnew6;clear hM6 hown6 ht6 hnew6)
  go_end0
  have hfin:=HOK5.out.setLive (more:=fmakes x) HOWN6.out (by rw[HLV.out];exact HT6.out) (by rw[HLV.out];exact HNEW6.out) (by rw[HLIVE.out.2.2];exact fmakes_in HG.out)
  refine⟨{ mm with live:=mm.live++fmakes x,livev:=.slice a6 (ln+mn) c6 },⟨rfl,HLIVE.out.2.2⟩,hfin.1,?_⟩
  exact (Mv.keep HMV4.out HS5.out).setLive hfin.2.1 hfin.2.2 (by rw[List.length_append,HLIVE.out.2.1,HMN.out];omega)
 all_goals
  intro p vs w2 hlo hhi ht hph hk
  simp only[List.take,putAll,Act.put,Knows,nthF,Is,List.setIfInBounds_toArray,List.set_cons_zero,List.set_cons_succ,Nat.reduceAdd]at hk ⊢
  try simp only[hk]
 ·go_wp2
  exact⟨_,rfl,rfl,Since.refl _,hph⟩
 ·go_wp2
  exact⟨_,rfl,rfl,Since.refl _,hph⟩
 ·go_wp2
  exact⟨_,rfl,rfl,Since.refl _,hph⟩
 ·go_wp2
  exact⟨_,rfl,rfl,Since.refl _,hph⟩
 ·have hc:w2.cell? ⟨mb,3,none⟩=some (.slice (some ⟨bb,0,none⟩) n n):=HeapIs.cell (show HeapIs w2 mb _ _ from hph.1.made) 3
  have hl:=HeapIs.lt (show HeapIs w2 mb _ _ from hph.1.made)
  go_wp2
  exact⟨_,rfl,rfl,Since.refl _,hph⟩
 ·go_wp2
  exact⟨_,rfl,rfl,Since.refl _,hph⟩
 ·go_wp2
  exact⟨_,rfl,rfl,Since.refl _,hph⟩
 ·go_wp2
  exact⟨_,rfl,rfl,Since.refl _,hph⟩
 ·go_wp2
  exact⟨_,rfl,rfl,Since.refl _,hph⟩
 ·go_wp2
  exact⟨_,rfl,rfl,Since.refl _,hph⟩
 ·have hc:w2.cell? ⟨mb,3,none⟩=some (.slice (some ⟨bb,0,none⟩) n n):=HeapIs.cell (show HeapIs w2 mb _ _ from hph.1.made) 3
  have hl:=HeapIs.lt (show HeapIs w2 mb _ _ from hph.1.made)
  go_wp2
  exact⟨_,rfl,rfl,Since.refl _,hph⟩
 ·go_wp2
  exact⟨_,rfl,rfl,Since.refl _,hph⟩
 ·go_wp2
  exact⟨_,rfl,rfl,Since.refl _,hph⟩
 ·go_wp2
  exact⟨_,rfl,rfl,Since.refl _,hph⟩
 ·have hc:w2.cell? ⟨bb,b*6+1,none⟩=some (.slice ia il ic):=(hph.1.blocks.cell (b*6+1)).trans HCI.out
  have hl:=hph.1.blocks.lt
  go_wp2
  exact⟨_,rfl,rfl,Since.refl _,hph⟩
 ·have hbx:=hph.1.box
  clear hk
  refine wpList_load_row rfl _ _ rfl w.heap.size rfl 51 _ (0,0) _ hbx Tryz.underlying51 rfl (by kernel_rfl) ?_
  go_wp2
  exact⟨_,rfl,rfl,Since.refl _,hph⟩
 ·have hne:¬ (Value.slice ia il ic).ownBlock=some w2.heap.size:=fun e=>by have:=HIL.out _ e;have:=ht.size;omega
  have hs2:=(Since.refl w2).alloc (.cells (ficells x).toArray 51)
  have HP:=Lib.hid (show AddP w0 w mb bb n x m sv p _ from And.intro (hph.1.keep hs2) (fun (e:p=0)=>(hph.2 e).trans hs2))
  clear hk hph
  unfold fiv
  go_wp2
  exact⟨_,rfl,⟨_,rfl,HeapIs.new _ _ _,hne⟩,hs2,HP.out⟩
 ·obtain rfl:p=0:=by omega
  have hs0:=hph.2 rfl
  obtain⟨b1,hb1,hb2,hb3⟩:OneIns (fun q=>(Value.slice ia il ic).ownBlock=some q) x (vs 16) w2:=hk.2.1
  simp only[hb1]
  have HOK:=Lib.hid (HOK0.out.keep hs0)
  have hrow:=HROW.out.keep hs0
  have HPH:=Lib.hid hph.1
  have HS0:=Lib.hid hs0
  clear hk hph hs0 hb1
  refine wpList_append_one2 ficells 5 ficells_len (by decide) rfl _ _ 52 rfl 51 (.agg #[.int .i64 0,.int .i64 0,.int .i64 0,.slice none 0 0,.int .i32 0]) 56 Tryz.underlying52 (by kernel_rfl) rfl (.slice ia il ic) k.ins x b1 1 _ rfl rfl hrow hb2 (by unfold ficells;simp[Value.oneCell'];exact HAV.out) (by rw[HILL.out];unfold maxLen;omega) (by rw[HILL.out];omega) (Nat.zero_le _) ?_
  intro v' w3 hown ht3 hnew
  have HA:=Lib.hid (show Appended w0 (.slice ia il ic) (k.ins++[x]) v' w3 from⟨w2,HS0.out,ht3,hnew,hown⟩)
  have HP3:=Lib.hid (HPH.out.turn ht3 HIO.out)
  have HT3:=Lib.hid ht3
  clear hown ht3 hnew hrow hb2 hb3
  go_wp2
  exact⟨_,rfl,HA.out,HT3.out,HP3.out,fun e=>absurd e (by decide)⟩
end
section
variable {C : Nat→Prop} {mb:Nat} {bv sv:Value} {l : List Int} {m m':MkSt} {w w':World}
theorem Sm.mono {k k':Nat} (h:Sm k m) (hk:k≤k'):Sm k' m:=by
 obtain⟨h1,h2,h3,h4⟩:=h
 exact⟨by omega,by omega,by omega,by omega⟩
theorem Sm.mv {k a n i:Nat} (h:Sm k m) (v:Mv mb bv w m w' m' a n i) (ha:a≤1000) (hn:n≤1000) (hi:i≤1000):Sm (k+1) m':=by
 obtain⟨h1,h2,h3,h4⟩:=h
 have:=v.at_
 have:=v.next
 have:=v.total
 have:=v.live
 exact⟨by omega,by omega,by omega,by omega⟩
theorem MkOk.next0 (h:MkOk C mb bv sv l m w):0≤m.next:=by have:=h.good.params;omega
def ValQ (m':MkSt) (e:Ending):Prop:=∃ v:Int,e=.returned (.int .i64 v)∧0≤v∧v<m'.next
def UnitQ (m':MkSt) (e:Ending):Prop:=e=.returned (.tuple #[])
theorem MkOk.newInts (h:MkOk C mb bv sv l m w) (xs:List Int) (cs:Array Value) (hc:cs=(xs.map (Value.int .i64)).toArray) (n:Nat) (hn:n=xs.length) (hm:xs.length≤maxLen) (T:TypeId):Ints (w.alloc (.cells cs T)) (.slice (some ⟨w.heap.size,0,none⟩) n n) xs∧Stays (OwnC C mb bv m) (w.alloc (.cells cs T)) (.slice (some ⟨w.heap.size,0,none⟩) n n):=by
 subst hc;subst hn
 refine⟨nums_new xs T _ (Nat.le_refl _) hm (heap_last _ _) fun j n hj=>?_,h.newStays _ _ _⟩
 simp[hj]
theorem Calls.since_mk {f : FuncId} {args:Array Value} {a n i:Nat} {R : MkSt→Ending→Prop} (s:Since w w') (h:Calls Tryz.prog f args w' (MkQ C mb bv sv l w' m a n i R)):Calls Tryz.prog f args w' (MkQ C mb bv sv l w m a n i R):=
 h.mono fun e w2 ⟨m',h1,h2,h3⟩=>⟨m',h1,h2,Mv.since s h3⟩
theorem good_const {N n d:Int} {av:Value} (hn:In32 n) (hd:0≤d∧d<N):InsGood N ⟨1,d,0,[],av,n⟩:=
 ⟨hn,fun a ha=>(by cases ha),hd,⟨Int.le_refl _,by show 0<N;omega⟩,.inl ⟨rfl,rfl⟩⟩
theorem in_two {N a b:Int} (ha:0≤a∧a<N) (hb:0≤b∧b<N):∀ x∈[a,b],0≤x∧x<N:=by
 intro x hx
 rcases List.mem_cons.1 hx with rfl|hx
 ·exact ha
 ·obtain rfl:=List.mem_singleton.1 hx
  exact hb
theorem good_two {N op d a b:Int} {av:Value} (ho:2≤op∧op≤14) (ha:0≤a∧a<N) (hb:0≤b∧b<N) (hd:0≤d∧d<N):InsGood N ⟨op,d,0,[a,b],av,0⟩:=
 ⟨(by show (-2147483648:Int)≤0∧(0:Int)≤2147483647;decide),in_two ha hb,hd,⟨Int.le_refl _,by show 0<N;omega⟩,.inr (.inl ⟨ho,rfl⟩)⟩
theorem good_load {N d a n:Int} {av:Value} (hn:In32 n) (ha:0≤a∧a<N) (hd:0≤d∧d<N):InsGood N ⟨15,d,0,[a],av,n⟩:=
 ⟨hn,fun x hx=>by obtain rfl:=List.mem_singleton.1 hx;exact ha,hd,⟨Int.le_refl _,by show 0<N;omega⟩,.inr (.inr (.inl ⟨rfl,rfl⟩))⟩
theorem good_store {N a b n:Int} {av:Value} (hn:In32 n) (ha:0≤a∧a<N) (hb:0≤b∧b<N):InsGood N ⟨16,0,0,[a,b],av,n⟩:=
 ⟨hn,in_two ha hb,⟨Int.le_refl _,by show 0<N;omega⟩,⟨Int.le_refl _,by show 0<N;omega⟩,.inr (.inr (.inr (.inl ⟨rfl,rfl⟩)))⟩
theorem good_call {N d n:Int} {av:Value} {l : List Int} (hn:In32 n) (hl:∀ a∈l,0≤a∧a<N) (hd:0≤d∧d<N) (h4:l.length≤4):InsGood N ⟨17,d,0,l,av,n⟩:=
 ⟨hn,hl,hd,⟨Int.le_refl _,by show 0<N;omega⟩,.inr (.inr (.inr (.inr (.inl ⟨rfl,h4⟩))))⟩
theorem good_mulw {N d t a b:Int} {av:Value} (ha:0≤a∧a<N) (hb:0≤b∧b<N) (hd:0≤d∧d<N) (ht:0≤t∧t<N) (hne:d≠t):InsGood N ⟨18,d,t,[a,b],av,0⟩:=
 ⟨(by show (-2147483648:Int)≤0∧(0:Int)≤2147483647;decide),in_two ha hb,hd,ht,.inr (.inr (.inr (.inr (.inr ⟨rfl,rfl,hne⟩))))⟩
set_option maxHeartbeats 4000000 in
set_option maxRecDepth 100000 in
theorem mk_constant (h:MkOk C mb bv sv l m w) (hs:Sm 60 m) (b:Nat) (hb:b<m.bks.length) (n:Int) (hn:In32 n) :
  Calls Tryz.prog 65 #[.pointer (some ⟨mb,0,none⟩),.int .i64 b,.int .i32 n] w (MkQ C mb bv sv l w m 0 1 1 ValQ):=by
 obtain⟨m0,hm0⟩:∃ x,x=m:=⟨_,rfl⟩
 subst hm0
 have H0:=Lib.hid h
 have MV0:=Lib.hid (Mv.refl mb bv w m0)
 have SM0:=Lib.hid hs
 have HB:=Lib.hid hb
 have nx0:=h.next0
 clear h hs
 go_enter Tryz.func65,Tryz.ntmps65
 go_wp2_with fail
 refine (mk_fresh H0.out ⟨by omega,by have:=SM0.out.2.1;omega⟩).mono ?_
 rintro e w1 ⟨m1,⟨rfl,hm1⟩,h1,mv1⟩
 have H1:=Lib.hid h1
 have MV1:=Lib.hid (MV0.out.trans mv1)
 have SM1:=Lib.hid (SM0.out.mv mv1 (by decide) (by decide) (by decide))
 have nx1:m0.next+1≤m1.next:=by rw[hm1];exact Int.le_refl _
 clear hm1
 clear h1 mv1
 go_wp2_with fail
 refine (mk_add H1.out (SM1.out.mono (by decide)) b (by rw[MV1.out.len];exact HB.out) ⟨1,m0.next,0,[],.slice none 0 0,n⟩ ⟨.nil _ _,.nil _ _⟩ (good_const hn ⟨by omega,by omega⟩)).mono ?_
 rintro e w2 ⟨m2,⟨rfl,hm2⟩,h2,mv2⟩
 have H2:=Lib.hid h2
 have MV2:=Lib.hid (MV1.out.trans mv2)
 have SM2:=Lib.hid (SM1.out.mv mv2 (by decide) (by decide) (by decide))
 have nx2:m1.next≤m2.next:=by rw[hm2];exact Int.le_refl _
 clear hm2
 clear h2 mv2
 go_wp2_with fail
 go_ret
 refine⟨_,?_,H2.out,MV2.out.more (by decide) (by decide) (by decide)⟩
 exact⟨_,rfl,by omega,by omega⟩
set_option maxHeartbeats 4000000 in
set_option maxRecDepth 100000 in
theorem mk_some (h:MkOk C mb bv sv l m w) (hs:Sm 50 m) (b:Nat) (hb:b<m.bks.length) :
  Calls Tryz.prog 96 #[.pointer (some ⟨mb,0,none⟩),.int .i64 b] w (MkQ C mb bv sv l w m 5 1 1 ValQ):=by
 obtain⟨m0,hm0⟩:∃ x,x=m:=⟨_,rfl⟩
 subst hm0
 have H0:=Lib.hid h
 have MV0:=Lib.hid (Mv.refl mb bv w m0)
 have SM0:=Lib.hid hs
 have HB:=Lib.hid hb
 have nx0:=h.next0
 clear h hs
 go_enter Tryz.func96,Tryz.ntmps96
 go_wp2_with fail
 refine (mk_value H0.out (SM0.out.mono (by decide))).mono ?_
 rintro e w1 ⟨m1,⟨v,ok,a0,rfl,hv,ha0,hm1⟩,h1,mv1⟩
 have H1:=Lib.hid h1
 have MV1:=Lib.hid (MV0.out.trans mv1)
 have SM1:=Lib.hid (SM0.out.mv mv1 (by decide) (by decide) (by decide))
 have nx1:m0.next≤m1.next:=by rw[hm1];exact Int.le_refl _
 clear hm1
 clear h1 mv1
 cases ok
 ·go_wp2_with fail
  refine (mk_word H1.out (by have:=SM1.out.1;omega)).mono ?_
  rintro e w2 ⟨m2,⟨c,rfl,hc,hm2⟩,h2,mv2⟩
  have H2:=Lib.hid h2
  have MV2:=Lib.hid (MV1.out.trans mv2)
  have SM2:=Lib.hid (SM1.out.mv mv2 (by decide) (by decide) (by decide))
  have nx2:m1.next≤m2.next:=by rw[hm2];exact Int.le_refl _
  clear hm2
  clear h2 mv2
  go_wp2_with fail
  refine (mk_constant H2.out (SM2.out.mono (by decide)) b (by rw[MV2.out.len];exact HB.out) (c) hc).mono ?_
  rintro e w3 ⟨m3,⟨r,rfl,hr0,hr1⟩,h3,mv3⟩
  have H3:=Lib.hid h3
  have MV3:=Lib.hid (MV2.out.trans mv3)
  have SM3:=Lib.hid (SM2.out.mv mv3 (by decide) (by decide) (by decide))
  have nx3:=mv3.next.1
  clear h3 mv3
  go_wp2_with fail
  go_ret
  refine⟨_,?_,H3.out,MV3.out.more (by decide) (by decide) (by decide)⟩
  exact⟨r,rfl,hr0,hr1⟩
 ·have hv2:=hv rfl
  clear hv
  go_wp2_with fail
  refine (mk_take H1.out 9 (by decide) (by have:=SM1.out.1;omega)).mono ?_
  rintro e w2 ⟨m2,⟨y,rfl,⟨hy0,hy1⟩,hm2⟩,h2,mv2⟩
  have H2:=Lib.hid h2
  have MV2:=Lib.hid (MV1.out.trans mv2)
  have SM2:=Lib.hid (SM1.out.mv mv2 (by decide) (by decide) (by decide))
  have nx2:m1.next≤m2.next:=by rw[hm2];exact Int.le_refl _
  clear hm2
  clear h2 mv2
  by_cases hqy:y=0
  ·subst hqy
   go_wp2_with fail
   refine (mk_word H2.out (by have:=SM2.out.1;omega)).mono ?_
   rintro e w3 ⟨m3,⟨c,rfl,hc,hm3⟩,h3,mv3⟩
   have H3:=Lib.hid h3
   have MV3:=Lib.hid (MV2.out.trans mv3)
   have SM3:=Lib.hid (SM2.out.mv mv3 (by decide) (by decide) (by decide))
   have nx3:m2.next≤m3.next:=by rw[hm3];exact Int.le_refl _
   clear hm3
   clear h3 mv3
   go_wp2_with fail
   refine (mk_constant H3.out (SM3.out.mono (by decide)) b (by rw[MV3.out.len];exact HB.out) (c) hc).mono ?_
   rintro e w4 ⟨m4,⟨r,rfl,hr0,hr1⟩,h4,mv4⟩
   have H4:=Lib.hid h4
   have MV4:=Lib.hid (MV3.out.trans mv4)
   have SM4:=Lib.hid (SM3.out.mv mv4 (by decide) (by decide) (by decide))
   have nx4:=mv4.next.1
   clear h4 mv4
   go_wp2_with fail
   go_ret
   refine⟨_,?_,H4.out,MV4.out.more (by decide) (by decide) (by decide)⟩
   exact⟨r,rfl,hr0,hr1⟩
  ·have hry:(y==0)=false:=by simpa using hqy
   clear hqy
   go_wp2_with fail
   go_ret
   refine⟨_,?_,H2.out,MV2.out.more (by decide) (by decide) (by decide)⟩
   exact⟨v,rfl,hv2.1,by omega⟩
end
end Go.Proofs.YtmhojfpidedjeaaGreatDoor
