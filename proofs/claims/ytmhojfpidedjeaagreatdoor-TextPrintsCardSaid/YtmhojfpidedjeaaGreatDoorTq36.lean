/- MkHead MkRun Region12 MkRun2 MkRun3 MkFrame MkReady -/
import Derived.Test.YtmhojfpidedjeaaGreatDoorTq35
namespace Go.Proofs.YtmhojfpidedjeaaGreatDoor
open Go.RowKit
set_option linter.unusedVariables false
def mk0:MkSt:=⟨0,0,[],0,[],.slice none 0 0⟩
theorem own_mk0 {mb:Nat} {q : Nat} (h:Own mb (.slice none 0 0) mk0 q):q=mb:=by
 rcases h with h|h|h|⟨b,hb,_⟩
 ·exact h
 ·cases h
 ·cases h
 ·cases hb
theorem mk_new {C : Nat→Prop} {w : World} {sv:Value} {l : List Int} {cs:Array Value} {T : TypeId} (hs:Ints w sv l) (hsv:∀ q,sv.ownBlock=some q→q<w.heap.size) (hC:∀ q,C q→q<w.heap.size∧sv.ownBlock≠some q)
  (hm:MkAt (w.alloc (.cells cs T)) w.heap.size sv 0 [.int .i64 0,.slice none 0 0,.int .i64 0,.slice none 0 0]):MkOk C w.heap.size (.slice none 0 0) sv l mk0 (w.alloc (.cells cs T)):=by
 have hsz:(w.alloc (.cells cs T)).heap.size=w.heap.size+1:=by simp
 refine⟨hm,⟨hs.keep ((Since.refl _).alloc _),fun q hq=>⟨?_,by have:=hsv q hq;omega⟩⟩,own_nil _ _ _ _,.inl ⟨rfl,rfl⟩,fun b hb=>(by cases hb),fun i j b c hi=>(by cases hi),by decide,⟨by decide,fun v hv=>(by cases hv),fun b hb=>(by cases hb)⟩,fun q hq=>⟨by have:=(hC q hq).1;omega,fun ho=>by have:=own_mk0 ho;have:=(hC q hq).1;omega⟩⟩
 rintro (h|h)
 ·have:=own_mk0 h;have:=hsv q hq;omega
 ·exact (hC q h).2 hq
section
variable {C : Nat→Prop} {mb:Nat} {bv sv:Value} {l : List Int} {m : MkSt} {w w':World}
theorem MkOk.setHead {p next':Int} (h:MkOk C mb bv sv l m w) (hm:MkAt w' mb sv m.at_ [.int .i64 p,bv,.int .i64 next',m.livev]) (t:Turn (fun q=>q=mb) w w') (hn:m.next≤next') (hp:0≤p∧p≤4∧p≤next'):MkOk C mb bv sv l { m with params:=p,next:=next' } w':=by
 have hz:=t.size
 have hS:∀ q,Own mb bv { m with params:=p,next:=next' } q→Own mb bv m q∨w.heap.size≤q:=fun q hq=>.inl hq
 refine⟨hm,⟨h.src.1.turn t fun q hq e=>(h.src.2 q hq).1 (.inl (.inl e)),h.src.2.mono (ownC_sub hS) hz⟩,own_turn h.live t fun q hq e=>h.mb_live (e ▸ hq),?_,fun b hb=>(h.each b hb).turn t (fun q hq=>.inl (.inl hq)) (ownC_sub hS) (fun q hq e=>h.mb_phis hb (e ▸ hq)) (fun q hq e=>h.mb_ins hb (e ▸ hq)),h.apart,h.few,?_,fun q hq=>⟨Nat.lt_of_lt_of_le (h.aside q hq).1 hz,(h.aside q hq).2⟩⟩
 ·rcases h.bks with h1|⟨bb,h1,h2⟩
  ·exact .inl h1
  ·exact .inr ⟨bb,h1,h2.turn t fun e=>h.mb_bv (by rw[h1,←e];rfl)⟩
 ·exact⟨hp,fun v hv=>by have:=h.good.live v hv;dsimp only;omega,fun b hb x hx=>(h.good.ins b hb x hx).mono hn⟩
def fb0:FBlk:=⟨[],.slice none 0 0,[],.slice none 0 0,⟨0,[],.slice none 0 0,[],.slice none 0 0,0⟩⟩
theorem BkOk.zero (S:Nat→Prop) (w:World):BkOk S w fb0:=
 ⟨OwnRow.nil _ _ _ _ _,OwnRow.nil _ _ _ _ _,fun x hx=>(by cases hx),fun x hx=>(by cases hx),⟨.inl ⟨none,rfl,rfl⟩,.inl ⟨none,rfl,rfl⟩⟩,Stays.nil _ _,Stays.nil _ _⟩
theorem MkOk.setBlocks {n bb:Nat} (h:MkOk C mb (.slice none 0 0) sv l m w) (hm0:m.bks=[]) (hn:n≤512) (hbb:w.heap.size≤bb) (hbox:HeapIs w' bb ((List.replicate n fb0).flatMap fbcells).toArray 57)
  (hm:MkAt w' mb sv m.at_ [.int .i64 m.params,.slice (some ⟨bb,0,none⟩) n n,.int .i64 m.next,m.livev]) (t:Turn (fun q=>q=mb) w w'):MkOk C mb (.slice (some ⟨bb,0,none⟩) n n) sv l { m with bks:=List.replicate n fb0 } w':=by
 have hz:=t.size
 have hmem:∀ b∈List.replicate n fb0,b=fb0:=fun b hb=>(List.mem_replicate.1 hb).2
 have hS:∀ q,Own mb (.slice (some ⟨bb,0,none⟩) n n) { m with bks:=List.replicate n fb0 } q→Own mb (.slice none 0 0) m q∨w.heap.size≤q:=by
  rintro q (hq|hq|hq|⟨b,hb,hq⟩)
  ·exact .inl (.inl hq)
  ·cases hq;exact .inr hbb
  ·exact .inl (.inr (.inr (.inl hq)))
  ·rw[hmem b hb]at hq
   rcases hq with hq|hq<;>cases hq
 have hSC:∀ q,OwnC C mb (.slice (some ⟨bb,0,none⟩) n n) { m with bks:=List.replicate n fb0 } q→OwnC C mb (.slice none 0 0) m q∨w.heap.size≤q:=by
  rintro q (hq|hq)
  ·rcases hS q hq with h1|h1
   ·exact .inl (.inl h1)
   ·exact .inr h1
  ·exact .inl (.inr hq)
 refine⟨hm,⟨h.src.1.turn t fun q hq e=>(h.src.2 q hq).1 (.inl (.inl e)),h.src.2.mono hSC hz⟩,own_turn h.live t fun q hq e=>h.mb_live (e ▸ hq),.inr ⟨bb,by simp,hbox⟩,fun b hb=>by rw[hmem b hb];exact BkOk.zero _ _,fun i j b c hi hj hij=>?_,by simpa using hn,⟨h.good.params,h.good.live,fun b hb x hx=>by rw[hmem b hb]at hx;cases hx⟩,fun q hq=>⟨Nat.lt_of_lt_of_le (h.aside q hq).1 hz,fun ho=>?_⟩⟩
 ·rw[hmem b (List.mem_of_getElem? hi)]
  exact⟨fun q hq=>(by cases hq),fun q hq=>(by cases hq)⟩
 ·rcases hS q ho with h1|h1
  ·exact (h.aside q hq).2 h1
  ·have:=(h.aside q hq).1;omega
structure MvS (mb:Nat) (bv:Value) (w:World) (m:MkSt) (bv':Value) (w':World) (m':MkSt):Prop where
 turn:Turn (Own mb bv m) w w'
 new:∀ q,Own mb bv' m' q→Own mb bv m q∨w.heap.size≤q
theorem MvS.refl (mb:Nat) (bv:Value) (w:World) (m:MkSt):MvS mb bv w m bv w m:=⟨Turn.refl _ _,fun _ h=>.inl h⟩
theorem MvS.trans {bv' bv'':Value} {m' m'':MkSt} {w'':World} (h:MvS mb bv w m bv' w' m') (k:MvS mb bv' w' m' bv'' w'' m''):MvS mb bv w m bv'' w'' m'':=by
 have hz:=h.turn.size
 have h1:Turn (fun q=>Own mb bv m q∨w.heap.size≤q) w w':=h.turn.mono fun _ _ h=>.inl h
 have h2:Turn (fun q=>Own mb bv m q∨w.heap.size≤q) w' w'':=k.turn.mono fun q _ hq=>h.new q hq
 refine⟨(h1.trans h2).mono fun q hq hs=>?_,fun q hq=>?_⟩
 ·rcases hs with hs|hs
  ·exact hs
  ·omega
 ·rcases k.new q hq with h3|h3
  ·exact h.new q h3
  ·exact .inr (by omega)
theorem Mv.s {m':MkSt} {a n i:Nat} (h:Mv mb bv w m w' m' a n i):MvS mb bv w m bv w' m':=⟨h.turn,h.new⟩
theorem MkOk.addPhi {b bb:Nat} {k : FBlk} (h:MkOk C mb bv sv l m w) {x : FPhi} {v : Value} (hb:m.bks[b]? = some k) (hbv:bv.ownBlock=some bb) (hown:OwnRow fpcells 2 60 0 w' v (k.phis++[x])) (t:Turn (fun q=>k.phv.ownBlock=some q) w w') (hnew:NewOr w k.phv v) (hx:PairsIn w x.inv x.ins∧Stays (OwnC C mb bv m) w x.inv) :
  MkOk C mb bv sv l { m with bks:=m.bks.set b { k with phis:=k.phis++[x],phv:=v } } (w'.setCell ⟨bb,b*6,none⟩ v)∧MvS mb bv w m bv (w'.setCell ⟨bb,b*6,none⟩ v) { m with bks:=m.bks.set b { k with phis:=k.phis++[x],phv:=v } }:=by
 have hkm:=List.mem_of_getElem? hb
 have hko:=h.each k hkm
 have hB:=h.bbAt hbv
 have n1:NewOr w k.inv k.inv:=fun q hq=>.inl hq
 have hS:=own_upd (mb:=mb) (bv:=bv) (k':={ k with phis:=k.phis++[x],phv:=v }) hb n1 hnew
 have hBi:¬ k.phv.ownBlock=some bb:=own_not hko.phis hB (by decide)
 have hB':HeapIs w' bb (m.bks.flatMap fbcells).toArray 57:=hB.turn t hBi
 have tc:Turn (fun q=>q=bb) w' (w'.setCell ⟨bb,b*6,none⟩ v):=(Turn.refl (fun q=>q=bb) w').setCell (p:=⟨bb,b*6,none⟩) rfl _
 have tt:Turn (Bt bb k) w (w'.setCell ⟨bb,b*6,none⟩ v):=(t.mono fun q _ e=>.inr (.inr e)).trans (tc.mono fun q _ e=>.inl e)
 have hT:∀ q,Bt bb k q→Own mb bv m q:=by
  rintro q (rfl|hq|hq)
  ·exact .inr (.inl hbv)
  ·exact .inr (.inr (.inr ⟨k,hkm,.inl hq⟩))
  ·exact .inr (.inr (.inr ⟨k,hkm,.inr hq⟩))
 have t1:Turn (fun q=>q=bb∨k.phv.ownBlock=some q) w (w'.setCell ⟨bb,b*6,none⟩ v):=(t.mono fun q _ e=>.inr e).trans (tc.mono fun q _ e=>.inl e)
 have hz:=tt.size
 have hstay:∀ y:Value,Stays (OwnC C mb bv m) w y→Stays (OwnC C mb bv { m with bks:=m.bks.set b { k with phis:=k.phis++[x],phv:=v } }) (w'.setCell ⟨bb,b*6,none⟩ v) y:=fun y hy=>hy.mono (ownC_sub hS) hz
 refine⟨h.upd hb hbv tt ?_ ⟨?_,?_,fun y hy=>?_,fun y hy=>?_,?_⟩ n1 hnew fun y hy=>h.good.ins k hkm y hy,⟨tt.mono fun q _ e=>hT q e,hS⟩⟩
 ·have h1:=hB'.set (b*6) v
  rw[List.setIfInBounds_toArray]at h1
  have h2:=flat_setM fbcells 6 fbcells_len 0 v k { k with phis:=k.phis++[x],phv:=v } (by decide) rfl _ _ hb
  rw[Nat.add_zero]at h2
  rw[h2]at h1
  exact h1
 ·exact own_turn hown tc fun q hq e=>own_not hown hB' (by decide) (e ▸ hq)
 ·refine own_turn hko.ins t1 ?_
  rintro q hq (rfl|e)
  ·exact own_not hko.ins hB (by decide) hq
  ·exact own_ne hko.ins hko.phis (by decide) q hq e
 ·rcases List.mem_append.1 hy with hy|hy
  ·obtain⟨h3,h4⟩:=hko.phi y hy
   exact⟨RowIn.turn h3 tt (fun q hq e=>(h4 q hq).1 (.inl (hT q e))) fun _ _ h=>h,hstay _ h4⟩
  ·obtain rfl:=List.mem_singleton.1 hy
   exact⟨RowIn.turn hx.1 tt (fun q hq e=>(hx.2 q hq).1 (.inl (hT q e))) fun _ _ h=>h,hstay _ hx.2⟩
 ·obtain⟨h3,h4⟩:=hko.arg y hy
  exact⟨h3.turn tt fun q hq e=>(h4 q hq).1 (.inl (hT q e)),hstay _ h4⟩
 ·exact⟨⟨hko.term.1.1.turn tt fun q hq e=>(hko.term.2.1 q hq).1 (.inl (hT q e)),hko.term.1.2.turn tt fun q hq e=>(hko.term.2.2 q hq).1 (.inl (hT q e))⟩,hstay _ hko.term.2.1,hstay _ hko.term.2.2⟩
theorem MkOk.putLive (h:MkOk C mb bv sv l m w) {ys:List Int} {v : Value} (hown:w'.ownsRow 0 3 1 v ys.length (ys.map (Value.int .i64))) (t:Turn (fun q=>m.livev.ownBlock=some q) w w') (hnew:NewOr w m.livev v) (hg:∀ y∈ys,0≤y∧y<m.next) :
  MkOk C mb bv sv l { m with live:=ys,livev:=v } (w'.setCell ⟨mb,5,none⟩ v)∧(∀ q,Own mb bv { m with live:=ys,livev:=v } q→Own mb bv m q∨w.heap.size≤q)∧Turn (Own mb bv m) w (w'.setCell ⟨mb,5,none⟩ v):=by
 have hS:∀ q,Own mb bv { m with live:=ys,livev:=v } q→Own mb bv m q∨w.heap.size≤q:=by
  rintro q (hq|hq|hq|hq)
  ·exact .inl (.inl hq)
  ·exact .inl (.inr (.inl hq))
  ·rcases hnew q hq with h2|h2
   ·exact .inl (.inr (.inr (.inl h2)))
   ·exact .inr h2
  ·exact .inl (.inr (.inr (.inr hq)))
 have tc:Turn (fun q=>q=mb) w' (w'.setCell ⟨mb,5,none⟩ v):=(Turn.refl (fun q=>q=mb) w').setCell (p:=⟨mb,5,none⟩) rfl _
 have tt:Turn (fun q=>q=mb∨m.livev.ownBlock=some q) w (w'.setCell ⟨mb,5,none⟩ v):=(t.mono fun q _ e=>.inr e).trans (tc.mono fun q _ e=>.inl e)
 have hT:∀ q,(q=mb∨m.livev.ownBlock=some q)→Own mb bv m q:=by
  rintro q (hq|hq)
  ·exact .inl hq
  ·exact .inr (.inr (.inl hq))
 have hz:=tt.size
 have hM':HeapIs w' mb _ _:=HeapIs.turn (show HeapIs w mb _ _ from h.made) t h.mb_live
 refine⟨⟨?_,⟨h.src.1.turn tt fun q hq e=>(h.src.2 q hq).1 (.inl (hT q e)),h.src.2.mono (ownC_sub hS) hz⟩,own_turn hown tc fun q hq e=>own_not hown hM' (by decide) (e ▸ hq),?_,fun c hc=>(h.each c hc).turn tt (fun q e=>.inl (hT q e)) (ownC_sub hS) ?_ ?_,h.apart,h.few,⟨h.good.params,?_,h.good.ins⟩,fun q hq=>⟨Nat.lt_of_lt_of_le (h.aside q hq).1 hz,fun e=>?_⟩⟩,hS,tt.mono fun q _ e=>hT q e⟩
 ·have h1:=hM'.set 5 v
  simpa [MkAt]using h1
 ·rcases h.bks with h1|⟨bb,h1,h2⟩
  ·exact .inl h1
  ·refine .inr ⟨bb,h1,h2.turn tt ?_⟩
   rintro (e|e)
   ·exact h.mb_bv (by rw[h1,←e];rfl)
   ·exact own_not h.live h2 (by decide) e
 ·rintro q hq (e|e)
  ·exact h.mb_phis hc (e ▸ hq)
  ·exact own_ne (h.each c hc).phis h.live (by decide) q hq e
 ·rintro q hq (e|e)
  ·exact h.mb_ins hc (e ▸ hq)
  ·exact own_ne (h.each c hc).ins h.live (by decide) q hq e
 ·intro y hy
  exact hg y hy
 ·rcases hS q e with h1|h1
  ·exact (h.aside q hq).2 h1
  ·have:=(h.aside q hq).1;omega
theorem MkOk.setIn {b bb i pb pcap:Nat} {k : FBlk} {p : FPhi} (h:MkOk C mb bv sv l m w) {ins:List (Int × Int)} {v : Value} (hb:m.bks[b]? = some k) (hbv:bv.ownBlock=some bb) (hpv:k.phv=.slice (some ⟨pb,0,none⟩) k.phis.length pcap) (hi:k.phis[i]? = some p) (hx:PairsIn w v ins∧Stays (OwnC C mb bv m) w v) :
  MkOk C mb bv sv l { m with bks:=m.bks.set b { k with phis:=k.phis.set i { p with ins:=ins,inv:=v } } } (w.setCell ⟨pb,i*2+1,none⟩ v)∧MvS mb bv w m bv (w.setCell ⟨pb,i*2+1,none⟩ v) { m with bks:=m.bks.set b { k with phis:=k.phis.set i { p with ins:=ins,inv:=v } } }:=by
 have hkm:=List.mem_of_getElem? hb
 have hko:=h.each k hkm
 have hB:=h.bbAt hbv
 have n1:NewOr w k.inv k.inv:=fun q hq=>.inl hq
 have n2:NewOr w k.phv k.phv:=fun q hq=>.inl hq
 have hS:=own_upd (mb:=mb) (bv:=bv) (k':={ k with phis:=k.phis.set i { p with ins:=ins,inv:=v } }) hb n1 n2
 have hpo:k.phv.ownBlock=some pb:=by rw[hpv];rfl
 have tc:Turn (fun q=>q=pb) w (w.setCell ⟨pb,i*2+1,none⟩ v):=(Turn.refl (fun q=>q=pb) w).setCell (p:=⟨pb,i*2+1,none⟩) rfl _
 have tt:Turn (Bt bb k) w (w.setCell ⟨pb,i*2+1,none⟩ v):=tc.mono fun q _ e=>.inr (.inr (e ▸ hpo))
 have hT:∀ q,Bt bb k q→Own mb bv m q:=by
  rintro q (rfl|hq|hq)
  ·exact .inr (.inl hbv)
  ·exact .inr (.inr (.inr ⟨k,hkm,.inl hq⟩))
  ·exact .inr (.inr (.inr ⟨k,hkm,.inr hq⟩))
 have hz:=tt.size
 have hstay:∀ y:Value,Stays (OwnC C mb bv m) w y→Stays (OwnC C mb bv { m with bks:=m.bks.set b { k with phis:=k.phis.set i { p with ins:=ins,inv:=v } } }) (w.setCell ⟨pb,i*2+1,none⟩ v) y:=fun y hy=>hy.mono (ownC_sub hS) hz
 have hbp:¬ bb=pb:=fun e=>own_not hko.phis hB (by decide) (e ▸ hpo)
 refine⟨h.upd hb hbv tt ?_ ⟨?_,?_,fun y hy=>?_,fun y hy=>?_,?_⟩ n1 n2 fun y hy=>h.good.ins k hkm y hy,⟨tt.mono fun q _ e=>hT q e,hS⟩⟩
 ·have h1:=hB.turn tc hbp
  have h2:=flat_setM fbcells 6 fbcells_len 0 k.phv k { k with phis:=k.phis.set i { p with ins:=ins,inv:=v } } (by decide) rfl _ _ hb
  have h3:(m.bks.flatMap fbcells)[b*6+0]? = some k.phv:=by rw[flat_at fbcells 6 fbcells_len m.bks b 0 k hb (by decide)];rfl
  rw[←h2]
  have h4:(m.bks.flatMap fbcells).set (b*6+0) k.phv=m.bks.flatMap fbcells:=by
   apply List.ext_getElem?
   intro j
   by_cases hj:b*6+0=j
   ·subst hj
    rw[List.getElem?_set_self (List.getElem?_eq_some_iff.1 h3).1,h3]
   ·rw[List.getElem?_set_ne hj]
  rw[h4]
  exact h1
 ·have h1:w.ownsRow 0 60 2 (.slice (some ⟨pb,0,none⟩) k.phis.length pcap) k.phis.length (k.phis.flatMap fpcells):=by rw[←hpv];exact hko.phis
  have h2:=own_setCell h1 (i*2+1) v
  rw[flat_setM fpcells 2 fpcells_len 1 v p { p with ins:=ins,inv:=v } (by decide) rfl _ _ hi]at h2
  unfold OwnRow
  rw[List.length_set]
  dsimp only
  rw[hpv]
  exact h2
 ·exact own_turn hko.ins tc fun q hq e=>own_ne hko.ins hko.phis (by decide) q hq (e ▸ hpo)
 ·rcases mem_set_idx hy with rfl|⟨j,_,hj⟩
  ·exact⟨RowIn.turn hx.1 tt (fun q hq e=>(hx.2 q hq).1 (.inl (hT q e))) fun _ _ h=>h,hstay _ hx.2⟩
  ·obtain⟨h3,h4⟩:=hko.phi y (List.mem_of_getElem? hj)
   exact⟨RowIn.turn h3 tt (fun q hq e=>(h4 q hq).1 (.inl (hT q e))) fun _ _ h=>h,hstay _ h4⟩
 ·obtain⟨h3,h4⟩:=hko.arg y hy
  exact⟨h3.turn tt fun q hq e=>(h4 q hq).1 (.inl (hT q e)),hstay _ h4⟩
 ·exact⟨⟨hko.term.1.1.turn tt fun q hq e=>(hko.term.2.1 q hq).1 (.inl (hT q e)),hko.term.1.2.turn tt fun q hq e=>(hko.term.2.2 q hq).1 (.inl (hT q e))⟩,hstay _ hko.term.2.1,hstay _ hko.term.2.2⟩
theorem MkOk.setTo {b bb:Nat} {k : FBlk} (h:MkOk C mb bv sv l m w) (hb:m.bks[b]? = some k) (hbv:bv.ownBlock=some bb) (tv:Value) (tl:List Int) (ht:Ints w tv tl∧Stays (OwnC C mb bv m) w tv) :
  MkOk C mb bv sv l { m with bks:=m.bks.set b { k with term:={ k.term with «to»:=tl,tov:=tv } } } (w.setCell ⟨bb,b*6+4,none⟩ tv)∧MvS mb bv w m bv (w.setCell ⟨bb,b*6+4,none⟩ tv) { m with bks:=m.bks.set b { k with term:={ k.term with «to»:=tl,tov:=tv } } }:=by
 have hkm:=List.mem_of_getElem? hb
 have hko:=h.each k hkm
 have hB:=h.bbAt hbv
 have n1:NewOr w k.inv k.inv:=fun q hq=>.inl hq
 have n2:NewOr w k.phv k.phv:=fun q hq=>.inl hq
 have hS:=own_upd (mb:=mb) (bv:=bv) (k':={ k with term:={ k.term with «to»:=tl,tov:=tv } }) hb n1 n2
 have tc:Turn (fun q=>q=bb) w (w.setCell ⟨bb,b*6+4,none⟩ tv):=(Turn.refl (fun q=>q=bb) w).setCell (p:=⟨bb,b*6+4,none⟩) rfl _
 have hown:Own mb bv m bb:=.inr (.inl hbv)
 have hno:∀ {y : Value},Stays (OwnC C mb bv m) w y→∀ q,y.ownBlock=some q→¬ q=bb:=fun hy q hq e=>(hy q hq).1 (.inl (e ▸ hown))
 have hst:∀ {y : Value},Stays (OwnC C mb bv m) w y→Stays (OwnC C mb bv { m with bks:=m.bks.set b { k with term:={ k.term with «to»:=tl,tov:=tv } } }) (w.setCell ⟨bb,b*6+4,none⟩ tv) y:=fun hy=>hy.mono (ownC_sub hS) tc.size
 refine⟨h.upd hb hbv (tc.mono fun q _ e=>.inl e) ?_ ⟨?_,?_,fun x hx=>?_,fun x hx=>?_,⟨hko.term.1.1.turn tc (hno hko.term.2.1),ht.1.turn tc (hno ht.2)⟩,hst hko.term.2.1,hst ht.2⟩ n1 n2 fun x hx=>h.good.ins k hkm x hx,tc.mono fun q _ e=>e ▸ hown,hS⟩
 ·have h1:=hB.set (b*6+4) tv
  rw[List.setIfInBounds_toArray,flat_setM fbcells 6 fbcells_len 4 tv k { k with term:={ k.term with «to»:=tl,tov:=tv } } (by decide) rfl _ _ hb]at h1
  exact h1
 ·exact own_turn hko.phis tc fun q hq e=>own_not hko.phis hB (by decide) (e ▸ hq)
 ·exact own_turn hko.ins tc fun q hq e=>own_not hko.ins hB (by decide) (e ▸ hq)
 ·obtain⟨h3,h4⟩:=hko.phi x hx
  exact⟨RowIn.turn h3 tc (hno h4) fun _ _ h=>h,hst h4⟩
 ·obtain⟨h3,h4⟩:=hko.arg x hx
  exact⟨h3.turn tc (hno h4),hst h4⟩
end
structure RowsIn (S:Nat→Prop) (w:World) (tb:Nat) (rows:List (Value × List Int)):Prop where
 box:HeapIs w tb (rows.map (·.1)).toArray 32
 tb:¬ S tb
 row:∀ r∈rows,Ints w r.1 r.2∧Stays S w r.1
theorem RowsIn.turn {S S' T:Nat→Prop} {w w':World} {tb:Nat} {rows:List (Value × List Int)} (h:RowsIn S w tb rows) (t:Turn T w w') (hT:∀ q,q<w.heap.size→T q→S q) (hS:∀ q,S' q→S q∨w.heap.size≤q):RowsIn S' w' tb rows:=by
 have t:=t.mono hT
 refine⟨h.box.turn t h.tb,fun e=>?_,fun r hr=>⟨(h.row r hr).1.turn t fun q hq e=>((h.row r hr).2 q hq).1 e,(h.row r hr).2.mono hS t.size⟩⟩
 rcases hS _ e with h1|h1
 ·exact h.tb h1
 ·have:=h.box.lt;omega
theorem own_none {mb q:Nat} {m : MkSt} (h1:m.livev=.slice none 0 0) (h2:m.bks=[]) (h:Own mb (.slice none 0 0) m q):q=mb:=by
 rcases h with h|h|h|⟨b,hb,_⟩
 ·exact h
 ·cases h
 ·rw[h1]at h;cases h
 ·rw[h2]at hb;cases hb
structure Bx where
 q:Nat
 cs:Array Value
 ty:TypeId
def CE (ex:List Bx) (q:Nat):Prop:=∃ x∈ex,x.q=q
structure MSt (w0:World) (ex:List Bx) (mb bb tb:Nat) (sv:Value) (l:List Int) (n:Nat) (rows:List (Value × List Int)) (m:MkSt) (w:World):Prop where
 ok:MkOk (CE ex) mb (.slice (some ⟨bb,0,none⟩) n n) sv l m w
 boxes:∀ x∈ex,HeapIs w x.q x.cs x.ty∧w0.heap.size≤x.q
 tgt:RowsIn (OwnC (CE ex) mb (.slice (some ⟨bb,0,none⟩) n n) m) w tb rows
 old:Since w0 w
 low:∀ q,Own mb (.slice (some ⟨bb,0,none⟩) n n) m q→w0.heap.size≤q
 len:m.bks.length=n
 rlen:rows.length=n
 inr:∀ r∈rows,∀ x∈r.2,1≤x∧x<(n:Int)
 few:∀ r∈rows,r.2.length≤26
section
variable {w0 w w':World} {ex ex':List Bx} {mb bb tb:Nat} {sv:Value} {l : List Int} {n : Nat} {rows:List (Value × List Int)} {m m':MkSt}
theorem MSt.ceLow (h:MSt w0 ex mb bb tb sv l n rows m w) {q : Nat} (hq:CE ex q):w0.heap.size≤q:=by
 obtain⟨x,hx,rfl⟩:=hq
 exact (h.boxes x hx).2
theorem MSt.step (h:MSt w0 ex mb bb tb sv l n rows m w) (ok:MkOk (CE ex) mb (.slice (some ⟨bb,0,none⟩) n n) sv l m' w') (mv:MvS mb (.slice (some ⟨bb,0,none⟩) n n) w m (.slice (some ⟨bb,0,none⟩) n n) w' m') (hlen:m'.bks.length=m.bks.length):MSt w0 ex mb bb tb sv l n rows m' w':=by
 refine⟨ok,fun x hx=>⟨(h.boxes x hx).1.turn mv.turn fun e=>(h.ok.aside x.q ⟨x,hx,rfl⟩).2 e,(h.boxes x hx).2⟩,h.tgt.turn mv.turn (fun q _ e=>.inl e) (ownC_sub mv.new),mv.turn.toSince h.old fun k hk e=>by have:=h.low k e;omega,fun q hq=>?_,hlen.trans h.len,h.rlen,h.inr,h.few⟩
 rcases mv.new q hq with h1|h1
 ·exact h.low q h1
 ·have:=h.old.size;omega
def TosOk (rows:List (Value × List Int)) (tn:Nat) (bks:List FBlk):Prop:=∀ (j:Nat) (k:FBlk) (r:Value × List Int),j<tn→bks[j]? = some k→rows[j]? = some r→k.term.to=r.2
theorem TosOk.map {tn:Nat} {bks bks':List FBlk} (h:TosOk rows tn bks) (hs:bks'.map skel=bks.map skel):TosOk rows tn bks':=fun j k r hj hk hr=>by
 have h1:=congrArg (fun x=>x[j]?) hs
 simp only[List.getElem?_map,hk,Option.map_some]at h1
 obtain⟨k2,h2,h3⟩:=Option.map_eq_some_iff.1 h1.symm
 rw[←show k2.term=k.term from congrArg (fun x=>x.2.2) h3]
 exact h j k2 r hj h2 hr
theorem TosOk.set {tn b:Nat} {bks:List FBlk} {k':FBlk} (h:TosOk rows tn bks) (hk:∀ r,rows[b]? = some r→k'.term.to=r.2):TosOk rows tn (bks.set b k'):=fun j k r hj hjk hr=>by
 rcases getElem?_set_cases hjk with ⟨rfl,rfl⟩|⟨_,h2⟩
 ·exact hk r hr
 ·exact h j k r hj h2 hr
theorem TosOk.next {b : Nat} {bks:List FBlk} {k':FBlk} (h:TosOk rows b bks) (hk:∀ r,rows[b]? = some r→k'.term.to=r.2):TosOk rows (b+1) (bks.set b k'):=fun j k r hj hjk hr=>by
 rcases getElem?_set_cases hjk with ⟨rfl,rfl⟩|⟨hne,h2⟩
 ·exact hk r hr
 ·exact h j k r (by omega) h2 hr
theorem MSt.mv {a nn i:Nat} (h:MSt w0 ex mb bb tb sv l n rows m w) (ok:MkOk (CE ex) mb (.slice (some ⟨bb,0,none⟩) n n) sv l m' w') (mv:Mv mb (.slice (some ⟨bb,0,none⟩) n n) w m w' m' a nn i):MSt w0 ex mb bb tb sv l n rows m' w':=
 h.step ok mv.s mv.len
theorem MSt.beside {T : Nat→Prop} (h:MSt w0 ex mb bb tb sv l n rows m w) (t:Turn T w w') (hT:∀ q,q<w.heap.size→T q→CE ex q) (hex:∀ x∈ex',HeapIs w' x.q x.cs x.ty∧(CE ex x.q∨w.heap.size≤x.q)):MSt w0 ex' mb bb tb sv l n rows m w':=by
 have hC:∀ q,CE ex' q→(CE ex q∨w.heap.size≤q)∧q<w'.heap.size:=by
  rintro q ⟨x,hx,rfl⟩
  exact⟨(hex x hx).2,(hex x hx).1.lt⟩
 refine⟨h.ok.swapC t hT hC,fun x hx=>⟨(hex x hx).1,?_⟩,h.tgt.turn t (fun q hq e=>.inr (hT q hq e)) ?_,(t.mono hT).toSince h.old fun k hk e=>by have:=h.ceLow e;omega,h.low,h.len,h.rlen,h.inr,h.few⟩
 ·rcases (hex x hx).2 with h1|h1
  ·exact h.ceLow h1
  ·have:=h.old.size;omega
 ·rintro q (hq|hq)
  ·exact .inl (.inl hq)
  ·rcases (hC q hq).1 with h1|h1
   ·exact .inl (.inr h1)
   ·exact .inr h1
theorem MSt.keep (h:MSt w0 ex mb bb tb sv l n rows m w) (s:Since w w'):MSt w0 ex mb bb tb sv l n rows m w':=
 h.beside (T:=fun _=>False) (Turn.since s) (fun q _ e=>e.elim) fun x hx=>⟨(h.boxes x hx).1.keep s,.inl ⟨x,hx,rfl⟩⟩
theorem MSt.box (h:MSt w0 ex mb bb tb sv l n rows m w):HeapIs w mb #[sv,.int .i64 m.at_,.int .i64 m.params,.slice (some ⟨bb,0,none⟩) n n,.int .i64 m.next,m.livev] 101:=h.ok.made
theorem MSt.blkAt (h:MSt w0 ex mb bb tb sv l n rows m w):HeapIs w bb (m.bks.flatMap fbcells).toArray 57:=h.ok.bbAt rfl
theorem MSt.at (h:MSt w0 ex mb bb tb sv l n rows m w) {b : Nat} (hb:b<n):∃ k,m.bks[b]? = some k:=⟨_,List.getElem?_eq_getElem (by rw[h.len];exact hb)⟩
theorem MSt.cell (h:MSt w0 ex mb bb tb sv l n rows m w) {b : Nat} {k : FBlk} (hk:m.bks[b]? = some k) {t : Nat} (ht:t<6):w.cell? ⟨bb,b*6+t,none⟩=(fbcells k)[t]?:=by
 rw[h.blkAt.cell,List.getElem?_toArray,flat_at fbcells 6 fbcells_len _ _ _ _ hk ht]
theorem MSt.row (h:MSt w0 ex mb bb tb sv l n rows m w) {b : Nat} (hb:b<n):∃ r,rows[b]? = some r∧r∈rows∧w.cell? ⟨tb,b,none⟩=some r.1:=by
 obtain⟨r,hr⟩:∃ r,rows[b]? = some r:=⟨_,List.getElem?_eq_getElem (by rw[h.rlen];exact hb)⟩
 refine⟨_,hr,List.mem_of_getElem? hr,?_⟩
 rw[h.tgt.box.cell,List.getElem?_toArray,List.getElem?_map,hr];rfl
theorem MSt.fn (h:MSt w0 ex mb bb tb sv l n rows m w):FnIn w ⟨m.params,m.bks,.slice (some ⟨bb,0,none⟩) n n⟩:=by
 refine .inr ⟨bb,0,n,by rw[h.len],by rw[h.len];exact Nat.le_refl _,?_,h.blkAt.lt,fun j x hj=>⟨fun t ht=>?_,?_⟩⟩
 ·have:=h.ok.few;rw[h.len]at this;unfold maxLen;omega
 ·rw[Nat.zero_add];exact h.cell hj ht
 ·have hx:=h.ok.each x (List.mem_of_getElem? hj)
  exact⟨row_own_in fpcells_len hx.phis fun p hp=>(hx.phi p hp).1,row_own_in ficells_len hx.ins fun p hp=>(hx.arg p hp).1,hx.term.1⟩
end
theorem wp_region_one_t {P : Program} {Q : Exit→Act→World→Prop} {all:List Oper} {a0:Act} {w0:World} {id:Nat} (n pv:Nat) (keys los his incs:List Nat) (S T:Nat→Prop) (hTS:∀ q,T q→S q) (Ph:Nat→World→Prop) (hm:P.follows .mixedOrders=true)
  (hd:dstsApart (all.take n)=true) (hb:edgesBack all 0=true) (hf:forcedA all n=true) (hn:n≤all.length) (hbd:boundsKT all n keys los his incs=true) (Fs:List (Value→World→Prop)) (hF:AllBut S pv Fs 0) (hF2:AllStableT T Fs) (hph:Ph 0 w0.drew)
  (hs:StepsK1 pv (Turn S) (Turn T) Ph P all.toArray (all.take n) Q (nthF Fs) a0 w0 (all.take n) los his incs 0)
  (he:∀ vs w,Turn S w0 w→Ph keys.length w→KnowsAll (nthF Fs) vs w 0 n→wpList P all.toArray Q (all.drop n) (putAll (all.take n) 0 vs a0) w):(Code.region id all.toArray true).wp P Q a0 w0:=by
 refine wp_region_any hm ?_
 have hln:(all.take n).length=n:=by rw[List.length_take];omega
 have hcat:all.take n++all.drop n=all:=List.take_append_drop n all
 have e:=putAll_old (oldAt (all.take n) a0) a0 (all.take n) 0 (fun i o d hi hdst=>by simp only[oldAt,Nat.zero_add,hi,Option.bind_some,hdst])
 have h:=any_factsK1 (l:=all.take n) (t0:=all.drop n) (P:=P) (Q:=Q) (F:=nthF Fs) (a0:=a0) (w0:=w0) (pv:=pv) (R:=Turn S) (R2:=Turn T) (by rw[hcat,hln];exact hbd) (fun _ _ _=>Turn.trans) (fun i v w w' hi hv ht=>nthF_but Fs 0 hF i v w w' (by omega) hv ht) (nthF_stableT Fs hF2) (fun a b h=>h.mono fun q _ e=>hTS q e) hd (by rw[hcat];exact hb) (by rw[hcat,hln];exact hf) (by rw[hcat];exact hs) (by rw[hcat,hln];exact he)
  all.length (Array.replicate all.length false) (oldAt (all.take n) a0) { w0 with drawn:=w0.drawn+1 } (by rw[hcat];simp) (by rw[hcat];exact Nat.le_trans (List.length_filter_le _ _) (by simp)) (Turn.since (Since.refl w0).drew)
  (by
   have:doneK keys (Array.replicate all.length false)=0:=by
    unfold doneK
    rw[List.countP_eq_zero]
    intro k _
    simp[Array.getD_eq_getD_getElem?,Array.getElem?_replicate]
    split<;>rfl
   rw[this]
   exact hph)
  (fun i o ho hl=>by
   have hi:i<all.length:=by rw[←hcat];exact (List.getElem?_eq_some_iff.1 ho).1
   simp[Array.getD_eq_getD_getElem?,hi]at hl)
  (fun i hi hl=>by
   have:i<all.length:=by omega
   simp[Array.getD_eq_getD_getElem?,this]at hl)
  (fun i _ hi=>by
   rw[hcat]at hi
   simp[Array.getD_eq_getD_getElem?,hi])
 rw[e,hcat]at h
 simpa using h
def bxR (r:Nat):Bx:=⟨r,#[.int .i64 0,.slice none 0 0],24⟩
def bxP (pb:Nat) (ph:List Int):Bx:=⟨pb,(ph.map (Value.int .i64)).toArray,3⟩
def bxD (db:Nat) (dn:List Bool):Bx:=⟨db,(dn.map Value.bool).toArray,4⟩
def exP (r pb:Nat) (ph:List Int):List Bx:=[bxR r,bxP pb ph]
def exD (r pb db:Nat) (ph:List Int) (dn:List Bool):List Bx:=[bxR r,bxP pb ph,bxD db dn]
section
variable {w0 w w':World} {ex ex':List Bx} {mb bb tb r pb db:Nat} {sv:Value} {l : List Int} {n : Nat} {rows:List (Value × List Int)} {m m':MkSt} {ph:List Int} {dn:List Bool}
theorem MSt.addP (h:MSt w0 [bxR r] mb bb tb sv l n rows m w) (s:Since w w') (hb:HeapIs w' pb (ph.map (Value.int .i64)).toArray 3) (hpb:w.heap.size≤pb):MSt w0 (exP r pb ph) mb bb tb sv l n rows m w':=
 h.beside (T:=fun _=>False) (Turn.since s) (fun q _ e=>e.elim) fun x hx=>by
  rcases List.mem_cons.1 hx with rfl|hx
  ·exact⟨(h.boxes (bxR r) (List.mem_singleton.2 rfl)).1.keep s,.inl ⟨bxR r,List.mem_singleton.2 rfl,rfl⟩⟩
  ·rw[List.mem_singleton.1 hx];exact⟨hb,.inr hpb⟩
theorem MSt.phAt (h:MSt w0 (exP r pb ph) mb bb tb sv l n rows m w):HeapIs w pb (ph.map (Value.int .i64)).toArray 3:=(h.boxes (bxP pb ph) (by simp[exP])).1
theorem MSt.resAt (h:MSt w0 (exP r pb ph) mb bb tb sv l n rows m w):HeapIs w r #[.int .i64 0,.slice none 0 0] 24:=(h.boxes (bxR r) (by simp[exP])).1
theorem MSt.setP (h:MSt w0 (exP r pb ph) mb bb tb sv l n rows m w) (j:Nat) (v:Int):MSt w0 (exP r pb (ph.set j v)) mb bb tb sv l n rows m (w.setCell ⟨pb,j,none⟩ (.int .i64 v)):=by
 have t:Turn (fun q=>q=pb) w (w.setCell ⟨pb,j,none⟩ (.int .i64 v)):=(Turn.refl (fun q=>q=pb) w).setCell (p:=⟨pb,j,none⟩) rfl _
 have hrp:r≠pb:=heap_ne h.resAt h.phAt (by decide)
 refine h.beside t (fun q _ e=>⟨bxP pb ph,by simp[exP],e.symm⟩) fun x hx=>?_
 rcases List.mem_cons.1 hx with rfl|hx
 ·exact⟨h.resAt.turn t hrp,.inl ⟨bxR r,by simp[exP],rfl⟩⟩
 ·rw[List.mem_singleton.1 hx]
  refine⟨?_,.inl ⟨bxP pb ph,by simp[exP],rfl⟩⟩
  have h1:=h.phAt.set j (.int .i64 v)
  show HeapIs _ pb ((ph.set j v).map (Value.int .i64)).toArray 3
  rw[List.map_set]
  simpa using h1
theorem MSt.addD (h:MSt w0 (exP r pb ph) mb bb tb sv l n rows m w) (s:Since w w') (hb:HeapIs w' db (dn.map Value.bool).toArray 4) (hdb:w.heap.size≤db):MSt w0 (exD r pb db ph dn) mb bb tb sv l n rows m w':=
 h.beside (T:=fun _=>False) (Turn.since s) (fun q _ e=>e.elim) fun x hx=>by
  rcases List.mem_cons.1 hx with rfl|hx
  ·exact⟨h.resAt.keep s,.inl ⟨bxR r,by simp[exP],rfl⟩⟩
  ·rcases List.mem_cons.1 hx with rfl|hx
   ·exact⟨h.phAt.keep s,.inl ⟨bxP pb ph,by simp[exP],rfl⟩⟩
   ·rw[List.mem_singleton.1 hx];exact⟨hb,.inr hdb⟩
theorem MSt.dnAt (h:MSt w0 (exD r pb db ph dn) mb bb tb sv l n rows m w):HeapIs w db (dn.map Value.bool).toArray 4:=(h.boxes (bxD db dn) (by simp[exD])).1
structure PhI (ph:List Int) (n b i:Nat) (m:MkSt):Prop where
 len:ph.length=n
 few:∀ v∈ph,0≤v∧v≤3
 zero:ph[0]? = some 0
 phi:∀ k∈m.bks,∀ p∈k.phis,(0≤p.dst∧p.dst<m.next)∧p.ins=[]
 cnt:∀ (j:Nat) (k:FBlk) (v:Int),j≠b→m.bks[j]? = some k→ph[j]? = some v→(k.phis.length:Int)=v
 cur:∀ k,m.bks[b]? = some k→k.phis.length=i
theorem PhI.at {n b i:Nat} (h:PhI ph n b i m) {j : Nat} (hj:j<n):∃ v,ph[j]? = some v∧0≤v∧v≤3:=by
 obtain⟨v,hv⟩:∃ v,ph[j]? = some v:=⟨_,List.getElem?_eq_getElem (by rw[h.len];exact hj)⟩
 exact⟨_,hv,h.few _ (List.mem_of_getElem? hv)⟩
theorem PhI.enter {n b:Nat} {v : Int} (h:PhI ph n n 0 m) (hm:m'.bks=m.bks) (hn:m.next≤m'.next) (hb:b<n) (hb1:1≤b) (h0:ph[b]? = some 0) (hv:0≤v∧v≤3):PhI (ph.set b v) n b 0 m':=by
 refine⟨by rw[List.length_set];exact h.len,fun y hy=>?_,?_,fun k hk p hp=>?_,fun j k y hj hk hy=>?_,fun k hk=>?_⟩
 ·rcases List.mem_or_eq_of_mem_set hy with h1|rfl
  ·exact h.few y h1
  ·exact hv
 ·rw[List.getElem?_set_ne (by omega)];exact h.zero
 ·rw[hm]at hk
  have:=h.phi k hk p hp
  exact⟨⟨this.1.1,by have:=this.1.2;omega⟩,this.2⟩
 ·rw[hm]at hk
  rw[List.getElem?_set_ne (fun e=>hj e.symm)]at hy
  exact h.cnt j k y (by have:=(List.getElem?_eq_some_iff.1 hy).1;rw[h.len]at this;omega) hk hy
 ·rw[hm]at hk
  have:=h.cnt b k 0 (by omega) hk h0
  omega
theorem PhI.enter0 {n b:Nat} (h:PhI ph n n 0 m) (hm:m'.bks=m.bks) (hn:m.next≤m'.next) (hb:b<n) (hb1:1≤b) (h0:ph[b]? = some 0):PhI ph n b 0 m':=by
 have h1:=h.enter hm hn hb hb1 h0 (v:=0) (by omega)
 have e:ph.set b 0=ph:=by
  apply List.ext_getElem?
  intro t
  rw[List.getElem?_set]
  split
  ·rename_i e;subst e
   rw[h0,if_pos (by rw[h.len];exact hb)]
  ·rfl
 rwa [e]at h1
theorem PhI.leave {n b i:Nat} (h:PhI ph n b i m) (hl:m.bks.length=n) (hi:ph[b]? = some (i:Int)):PhI ph n n 0 m:=
 ⟨h.len,h.few,h.zero,h.phi,fun j k v _ hk hv=>by
  by_cases e:j=b
  ·subst e
   rw[hi]at hv
   rw[h.cur k hk]
   exact Option.some.inj hv
  ·exact h.cnt j k v e hk hv,fun k hk=>by
  have:=(List.getElem?_eq_some_iff.1 hk).1
  omega⟩
theorem PhI.add {n b i:Nat} {k k':FBlk} {p : FPhi} (h:PhI ph n b i m) (hb:m.bks[b]? = some k) (hk:k'.phis=k.phis++[p]) (hp:(0≤p.dst∧p.dst<m.next+1)∧p.ins=[]) {m2:MkSt} (hm:m2.bks=m.bks.set b k') (hn:m2.next=m.next+1):PhI ph n b (i+1) m2:=by
 refine⟨h.len,h.few,h.zero,fun c hc q hq=>?_,fun j c v hj hc hv=>?_,fun c hc=>?_⟩
 ·rw[hm]at hc
  rw[hn]
  have old:∀ c∈m.bks,∀ q∈c.phis,(0≤q.dst∧q.dst<m.next+1)∧q.ins=[]:=fun c hc q hq=>by
   have:=h.phi c hc q hq
   exact⟨⟨this.1.1,by have:=this.1.2;omega⟩,this.2⟩
  rcases mem_set_idx hc with rfl|⟨j,_,hj⟩
  ·rw[hk]at hq
   rcases List.mem_append.1 hq with hq|hq
   ·exact old k (List.mem_of_getElem? hb) q hq
   ·rw[List.mem_singleton.1 hq];exact hp
  ·exact old c (List.mem_of_getElem? hj) q hq
 ·rw[hm]at hc
  rcases getElem?_set_cases hc with ⟨rfl,_⟩|⟨_,h2⟩
  ·exact absurd rfl hj
  ·exact h.cnt j c v hj h2 hv
 ·rw[hm]at hc
  rcases getElem?_set_cases hc with ⟨_,rfl⟩|⟨hj,_⟩
  ·rw[hk,List.length_append,h.cur k hb];rfl
  ·exact absurd rfl hj
structure Hd (x:Int) (a k:Nat) (m:MkSt):Prop where
 at_:m.at_≤a
 next:m.next≤x+k
 params:m.params=x
 live:m.live=[]
 ins:∀ b∈m.bks,b.ins=[]
theorem Hd.step {x : Int} {a k a' k':Nat} (h:Hd x a k m) (hl:m'.live=m.live) (hp:m'.params=m.params) (ha:m'.at_≤m.at_+a') (hn:m'.next≤m.next+k') (hi:m'.bks=m.bks):Hd x (a+a') (k+k') m':=
 ⟨by have:=h.at_;omega,by have:=h.next;omega,hp.trans h.params,hl.trans h.live,by rw[hi];exact h.ins⟩
theorem Hd.more {x : Int} {a k a' k':Nat} (h:Hd x a k m) (ha:a≤a') (hk:k≤k'):Hd x a' k' m:=⟨by have:=h.at_;omega,by have:=h.next;omega,h.params,h.live,h.ins⟩
def OnePhi (S:Nat→Prop) (d:Int) (v:Value) (w:World):Prop:=∃ q,v=.slice (some ⟨q,0,none⟩) 1 1∧HeapIs w q #[.int .i64 d,.slice none 0 0] 60∧¬ S q
theorem OnePhi.stable (S:Nat→Prop) (d:Int):Stable (OnePhi S d):=fun v w w' ⟨q,h1,h2,h3⟩ s=>⟨q,h1,h2.keep s,h3⟩
theorem OnePhi.stableT (S:Nat→Prop) (d:Int):StableT S (OnePhi S d):=fun v w w' ⟨q,h1,h2,h3⟩ t=>⟨q,h1,h2.turn t h3,h3⟩
theorem OnePhi.stableT2 {mb:Nat} {A : Nat→Prop} (d:Int):StableT (fun q=>q=mb) (OnePhi (fun q=>q=mb∨A q) d):=fun v w w' ⟨q,h1,h2,h3⟩ t=>⟨q,h1,h2.turn t fun e=>h3 (.inl e),h3⟩
theorem onephi_new {S : Nat→Prop} {w : World} (d:Int) (h:¬ S w.heap.size):OnePhi S d (.slice (some ⟨w.heap.size,0,none⟩) 1 1) (w.alloc (.cells #[.int .i64 d,.slice none 0 0] 60)):=⟨_,rfl,HeapIs.new _ _ _,h⟩
structure AppPhi (C:Nat→Prop) (mb:Nat) (bv sv:Value) (l:List Int) (w0:World) (m:MkSt) (v0:Value) (xs:List FPhi) (wa:World) (v:Value) (w:World):Prop where
 ok:MkOk C mb bv sv l { m with next:=m.next+1 } wa
 mv:Mv mb bv w0 m wa { m with next:=m.next+1 } 0 1 0
 turn:Turn (fun q=>v0.ownBlock=some q∨q=mb) wa w
 new:NewOr wa v0 v
 own:OwnRow fpcells 2 60 0 w v xs
 ne:∀ q,v.ownBlock=some q→¬ q=mb
def AppPh (C:Nat→Prop) (mb:Nat) (bv sv:Value) (l:List Int) (w0:World) (m:MkSt) (v0:Value) (xs:List FPhi) (v:Value) (w:World):Prop:=∃ wa,AppPhi C mb bv sv l w0 m v0 xs wa v w
theorem AppPh.stableT (C:Nat→Prop) (mb:Nat) (bv sv:Value) (l:List Int) (w0:World) (m:MkSt) (v0:Value) (xs:List FPhi):StableT (fun q=>q=mb) (AppPh C mb bv sv l w0 m v0 xs):=fun v w w' ⟨wa,h⟩ t=>⟨wa,h.ok,h.mv,h.turn.trans (t.mono fun q _ e=>.inr e),h.new,own_turn h.own t h.ne,h.ne⟩
theorem turn_without {A : Nat→Prop} {wa w:World} {mb:Nat} {cs:Array Value} {T : TypeId} (t:Turn (fun q=>A q∨q=mb) wa w) (h1:HeapIs wa mb cs T) (h2:HeapIs w mb cs T):Turn A wa w:=
 ⟨t.os,t.tape,t.output,t.size,fun k hk hn=>by
  by_cases e:k=mb
  ·subst e;exact (show w.heap[k]? = _ from h2).trans (show wa.heap[k]? = _ from h1).symm
  ·exact t.block k hk fun h=>h.elim hn e⟩
structure PhPh (C:Nat→Prop) (mb:Nat) (bv sv:Value) (l:List Int) (w0:World) (m:MkSt) (bb:Nat) (p:Nat) (w:World):Prop where
 one:p=0→MkOk C mb bv sv l m w∧Since w0 w
 two:p=1→MkOk C mb bv sv l { m with next:=m.next+1 } w∧Mv mb bv w0 m w { m with next:=m.next+1 } 0 1 0
 three:p≠0→HeapIs w mb #[sv,.int .i64 m.at_,.int .i64 m.params,bv,.int .i64 (m.next+1),m.livev] 101
 c3:w.cell? ⟨mb,3,none⟩=some bv
 lmb:mb<w.heap.size
 blk:HeapIs w bb (m.bks.flatMap fbcells).toArray 57
 lt:∀ q,OwnC C mb bv m q→q<w.heap.size
theorem PhPh.keep {C : Nat→Prop} {bv:Value} {w1 w2:World} {p : Nat} (h:PhPh C mb bv sv l w0 m bb p w1) (s:Since w1 w2):PhPh C mb bv sv l w0 m bb p w2:=
 ⟨fun e=>⟨(h.one e).1.keep s,(h.one e).2.trans s⟩,fun e=>⟨(h.two e).1.keep s,(h.two e).2.keep s⟩,fun e=>(h.three e).keep s,(s.cell (p:=⟨mb,3,none⟩) h.lmb).trans h.c3,Nat.lt_of_lt_of_le h.lmb s.size,h.blk.keep s,fun q hq=>Nat.lt_of_lt_of_le (h.lt q hq) s.size⟩
end
def dnL (n d:Nat):List Bool:=(List.range n).map fun j=>decide (j<d)
theorem dnL_len (n d:Nat):(dnL n d).length=n:=by simp[dnL]
theorem dnL_at {n d j:Nat} (h:j<n):(dnL n d)[j]? = some (decide (j<d)):=by simp[dnL,h]
theorem dnL_zero (n:Nat):List.replicate n false=dnL n 0:=by
 apply List.ext_getElem?
 intro t
 rw[List.getElem?_replicate]
 by_cases h:t<n
 ·rw[if_pos h,dnL_at h];simp
 ·rw[if_neg h];simp[dnL,h]
theorem dnL_set (n d:Nat):(dnL n d).set d true=dnL n (d+1):=by
 apply List.ext_getElem?
 intro t
 rw[List.getElem?_set]
 by_cases h:t<n
 ·rw[dnL_at h]
  by_cases e:d=t
  ·subst e;rw[if_pos rfl,dnL_len,if_pos h,dnL_at h];simp
  ·rw[if_neg e,dnL_at h]
   congr 1
   rw[decide_eq_decide];omega
 ·by_cases e:d=t
  ·subst e;rw[if_pos rfl,dnL_len,if_neg h];simp[dnL,h]
  ·rw[if_neg e];simp[dnL,h]
def ReCl (bks:List FBlk) (n:Nat) (a:Int) (out:List Bool):Prop:=
 (a≠0→out[0]? = some true)∧∀ (c:Nat) (b:FBlk) (x:Int),out[c]? = some true→bks[c]? = some b→x∈b.term.to→0≤x→x<(n:Int)→x≠a→out[x.toNat]? = some true
theorem reach_lower {bks:List FBlk} {n a:Nat} {out:List Bool} {rows:List (Value × List Int)} (h:ReCl bks n a out) (ht:TosOk rows n bks) (hc:Chain rows n) (hl:bks.length=n):∀ (f c:Nat),c<f→c<a→c<n→out[c]? = some true
 | 0,c,hf,_,_=>by omega
 | f+1,c,hf,hca,hcn=>by
  by_cases h0:c=0
  ·subst h0;exact h.1 (by omega)
  ·obtain⟨p,r,hp,hr,hm⟩:=hc c (by omega) hcn
   obtain⟨b,hb⟩:∃ b,bks[p]? = some b:=⟨_,List.getElem?_eq_getElem (by omega)⟩
   have h1:=h.2 p b c (reach_lower h ht hc hl f p (by omega) (by omega) (by omega)) hb (by rw[ht p b r (by omega) hb hr];exact hm) (by omega) (by omega) (by omega)
   simpa using h1
def awv (n:Nat) (p:Nat × List Bool):Value:=.slice (some ⟨p.1,0,none⟩) n n
def awc (n:Nat) (p:Nat × List Bool):List Value:=[awv n p]
structure AwOk (wo:World) (bks:List FBlk) (n:Nat) (v:Value) (aw:List (Nat × List Bool)) (wr:World):Prop where
 own:OwnRow (awc n) 1 129 wo.heap.size wr v aw
 each:∀ p∈aw,HeapIs wr p.1 (p.2.map Value.bool).toArray 4∧wo.heap.size≤p.1∧p.2.length=n
 cl:∀ (a:Nat) (p:Nat × List Bool),aw[a]? = some p→ReCl bks n a p.2
 old:Since wo wr
section
variable {wo wr w w' w6:World} {bks:List FBlk} {n : Nat} {v v':Value} {aw:List (Nat × List Bool)} {p : Nat × List Bool}
theorem own_nilrow {α:Type} {f : α→List Value} {sz:Nat} {e : TypeId} (w:World) (base:Nat) (hb:base≤w.heap.size):OwnRow f sz e base (w.alloc (.cells #[] e)) (.slice (some ⟨w.heap.size,0,none⟩) 0 0) []:=
 ⟨by simp,.inr ⟨w.heap.size,0,#[],rfl,hb,heap_last _ _,by simp,by unfold maxLen;omega,by simp,by simp⟩⟩
theorem AwOk.start (wo:World) (bks:List FBlk) (n:Nat):AwOk wo bks n (.slice (some ⟨wo.heap.size,0,none⟩) 0 0) [] (wo.alloc (.cells #[] 129)):=
 ⟨own_nilrow wo _ (Nat.le_refl _),fun p hp=>(by cases hp),fun a p hp=>(by cases hp),(Since.refl _).alloc _⟩
theorem AwOk.low (h:AwOk wo bks n v aw wr) {q : Nat} (hq:v.ownBlock=some q):wo.heap.size≤q:=(World.ownsRow.lt h.own q hq).1
theorem AwOk.add (h:AwOk wo bks n v aw wr) (s:Since wr w) (hp:HeapIs w p.1 (p.2.map Value.bool).toArray 4∧wo.heap.size≤p.1∧p.2.length=n) (hc:ReCl bks n aw.length p.2)
  (hown:OwnRow (awc n) 1 129 wo.heap.size w6 v' (aw++[p])) (t6:Turn (fun q=>v.ownBlock=some q) w w6):AwOk wo bks n v' (aw++[p]) w6:=by
 have hne:∀ {q : Nat} {cs:Array Value},HeapIs w q cs 4→¬ v.ownBlock=some q:=fun hq=>own_not (OwnRow.keep h.own s) hq (by decide)
 refine⟨hown,fun x hx=>?_,fun a x hx=>?_,t6.toSince (h.old.trans s) fun k hk e=>by have:=h.low e;omega⟩
 ·rcases List.mem_append.1 hx with hx|hx
  ·obtain⟨h1,h2,h3⟩:=h.each x hx
   exact⟨(h1.keep s).turn t6 (hne (h1.keep s)),h2,h3⟩
  ·rw[List.mem_singleton.1 hx]
   exact⟨hp.1.turn t6 (hne hp.1),hp.2⟩
 ·rw[List.getElem?_append]at hx
  split at hx
  ·exact h.cl a x hx
  ·rename_i hge
   have ha:a-aw.length=0:=by
    rcases Nat.eq_zero_or_pos (a-aw.length) with h1|h1
    ·exact h1
    ·rw[List.getElem?_eq_none (by simp;omega)]at hx;cases hx
   rw[ha]at hx
   have hx:p=x:=by simpa using hx
   obtain rfl:a=aw.length:=by omega
   rw[←hx];exact hc
def awEx (vb:Nat) (cur:Array Value) (aw:List (Nat × List Bool)):List Bx:=⟨vb,cur,129⟩::aw.map fun p=>⟨p.1,(p.2.map Value.bool).toArray,4⟩
theorem AwOk.open (h:AwOk wo bks n v aw wr) (hl:0<aw.length):∃ vb cap cur,v=.slice (some ⟨vb,0,none⟩) aw.length cap∧HeapIs wr vb cur 129∧wo.heap.size≤vb∧(∀ (a:Nat) (p:Nat × List Bool),aw[a]? = some p→cur[a]? = some (awv n p)) ∧
  ∀ x∈awEx vb cur aw,HeapIs wr x.q x.cs x.ty∧wo.heap.size≤x.q:=by
 have ho:=h.own
 obtain⟨hx0,⟨hv,hn⟩|⟨g,cap,cur,hv,hb,hg,hnc,hcm,hcs,htake⟩⟩:=ho
 ·omega
 ·refine⟨g,cap,cur,hv,hg,hb,fun a p hp=>?_,fun x hx=>?_⟩
  ·have h1:=congrArg (fun l=>l[a]?) htake
   have h2:=flat_at (awc n) 1 (fun _=>rfl) aw a 0 p hp (by decide)
   have ha:=(List.getElem?_eq_some_iff.1 hp).1
   rw[Nat.mul_one,Nat.add_zero]at h2
   simp only[h2,List.getElem?_take,Nat.mul_one,if_pos ha]at h1
   rw[←Array.getElem?_toList,h1];rfl
  ·rcases List.mem_cons.1 hx with rfl|hx
   ·exact⟨hg,hb⟩
   ·obtain⟨p,hp,rfl⟩:=List.mem_map.1 hx
    exact⟨(h.each p hp).1,(h.each p hp).2.1⟩
end
structure Lp (x:Int) (ph:List Int) (n d:Nat) (m:MkSt):Prop where
 phs:PhI ph n n 0 m
 at_:m.at_≤120+200*d
 next:m.next≤x+27+40*d
 params:m.params=x
 total:m.total≤50*d
 live:m.live.length≤10000
 terms:∀ (j:Nat) (k:FBlk),j<d→m.bks[j]? = some k→TermGood m.next n k.term
section
variable {x : Int} {ph:List Int} {n d:Nat} {m m':MkSt}
theorem total_zero (h:∀ b∈m.bks,b.ins=[]):m.total=0:=by
 unfold MkSt.total
 have:∀ bks:List FBlk,(∀ b∈bks,b.ins=[])→(bks.map fun b=>b.ins.length).sum=0:=fun bks=>by
  induction bks with
  | nil=>intro _;rfl
  | cons b r ih =>
   intro hb
   rw[List.map_cons,List.sum_cons,hb b List.mem_cons_self,ih fun y hy=>hb y (List.mem_cons_of_mem _ hy)];rfl
 exact this _ h
theorem Lp.start {a k:Nat} (hp:PhI ph n n 0 m) (h:Hd x a k m) (ha:a≤120) (hk:k≤27):Lp x ph n 0 m:=
 ⟨hp,by have:=h.at_;omega,by have:=h.next;omega,h.params,by rw[total_zero h.ins];omega,by rw[h.live];decide,fun j _ hj=>by omega⟩
theorem ins_le_total {b : FBlk} (hb:b∈m.bks):b.ins.length≤m.total:=mem_le_sum (List.mem_map.2 ⟨b,hb,rfl⟩)
end
noncomputable def mkCode (p:List Nat):Code:=cNav p (Tryz.f37.body.getD .skip)
def Fr (l:List (Nat × Value)) (a:Act):Prop:=a.tmps.size=415∧a.defers=[]∧Sl l a
theorem fr_mk {l : List (Nat × Value)} {a : Act} (h1:a.tmps.size=415) (h2:a.defers=[]) (h3:Sl l a):Fr l a:=⟨h1,h2,h3⟩
set_option maxRecDepth 1000000 in
theorem lit_range (u:Nat→Value):(u 0::u 1::u 2::u 3::u 4::u 5::u 6::u 7::u 8::u 9::u 10::u 11::u 12::u 13::u 14::u 15::u 16::u 17::u 18::u 19::u 20::u 21::u 22::u 23::u 24::u 25::u 26::u 27::u 28::u 29::u 30::u 31::u 32::u 33::u 34::u 35::u 36::u 37::u 38::u 39::u 40::u 41::u 42::u 43::u 44::u 45::u 46::u 47::u 48::u 49::u 50::u 51::u 52::u 53::u 54::u 55::u 56::u 57::u 58::u 59::u 60::u 61::u 62::u 63::u 64::u 65::u 66::u 67::u 68::u 69::u 70::u 71::u 72::u 73::u 74::u 75::u 76::u 77::u 78::u 79::u 80::u 81::u 82::u 83::u 84::u 85::u 86::u 87::u 88::u 89::u 90::u 91::u 92::u 93::u 94::u 95::u 96::u 97::u 98::u 99::u 100::u 101::u 102::u 103::u 104::u 105::u 106::u 107::u 108::u 109::u 110::u 111::u 112::u 113::u 114::u 115::u 116::u 117::u 118::u 119::u 120::u 121::u 122::u 123::u 124::u 125::u 126::u 127::u 128::u 129::u 130::u 131::u 132::u 133::u 134::u 135::u 136::u 137::u 138::u 139::u 140::u 141::u 142::u 143::u 144::u 145::u 146::u 147::u 148::u 149::u 150::u 151::u 152::u 153::u 154::u 155::u 156::u 157::u 158::u 159::u 160::u 161::u 162::u 163::u 164::u 165::u 166::u 167::u 168::u 169::u 170::u 171::u 172::u 173::u 174::u 175::u 176::u 177::u 178::u 179::u 180::u 181::u 182::u 183::u 184::u 185::u 186::u 187::u 188::u 189::u 190::u 191::u 192::u 193::u 194::u 195::u 196::u 197::u 198::u 199::u 200::u 201::u 202::u 203::u 204::u 205::u 206::u 207::u 208::u 209::u 210::u 211::u 212::u 213::u 214::u 215::u 216::u 217::u 218::u 219::u 220::u 221::u 222::u 223::u 224::u 225::u 226::u 227::u 228::u 229::u 230::u 231::u 232::u 233::u 234::u 235::u 236::u 237::u 238::u 239::u 240::u 241::u 242::u 243::u 244::u 245::u 246::u 247::u 248::u 249::u 250::u 251::u 252::u 253::u 254::u 255::u 256::u 257::u 258::u 259::u 260::u 261::u 262::u 263::u 264::u 265::u 266::u 267::u 268::u 269::u 270::u 271::u 272::u 273::u 274::u 275::u 276::u 277::u 278::u 279::u 280::u 281::u 282::u 283::u 284::u 285::u 286::u 287::u 288::u 289::u 290::u 291::u 292::u 293::u 294::u 295::u 296::u 297::u 298::u 299::u 300::u 301::u 302::u 303::u 304::u 305::u 306::u 307::u 308::u 309::u 310::u 311::u 312::u 313::u 314::u 315::u 316::u 317::u 318::u 319::u 320::u 321::u 322::u 323::u 324::u 325::u 326::u 327::u 328::u 329::u 330::u 331::u 332::u 333::u 334::u 335::u 336::u 337::u 338::u 339::u 340::u 341::u 342::u 343::u 344::u 345::u 346::u 347::u 348::u 349::u 350::u 351::u 352::u 353::u 354::u 355::u 356::u 357::u 358::u 359::u 360::u 361::u 362::u 363::u 364::u 365::u 366::u 367::u 368::u 369::u 370::u 371::u 372::u 373::u 374::u 375::u 376::u 377::u 378::u 379::u 380::u 381::u 382::u 383::u 384::u 385::u 386::u 387::u 388::u 389::u 390::u 391::u 392::u 393::u 394::u 395::u 396::u 397::u 398::u 399::u 400::u 401::u 402::u 403::u 404::u 405::u 406::u 407::u 408::u 409::u 410::u 411::u 412::u 413::u 414::[]:List Value).toArray=((List.range 415).map u).toArray:=by kernel_rfl
set_option maxRecDepth 1000000 in
theorem frame_ex {l : List (Nat × Value)} {a : Act} (h:Fr l a):∃ u:Nat→Value,a=⟨(u 0::u 1::u 2::u 3::u 4::u 5::u 6::u 7::u 8::u 9::u 10::u 11::u 12::u 13::u 14::u 15::u 16::u 17::u 18::u 19::u 20::u 21::u 22::u 23::u 24::u 25::u 26::u 27::u 28::u 29::u 30::u 31::u 32::u 33::u 34::u 35::u 36::u 37::u 38::u 39::u 40::u 41::u 42::u 43::u 44::u 45::u 46::u 47::u 48::u 49::u 50::u 51::u 52::u 53::u 54::u 55::u 56::u 57::u 58::u 59::u 60::u 61::u 62::u 63::u 64::u 65::u 66::u 67::u 68::u 69::u 70::u 71::u 72::u 73::u 74::u 75::u 76::u 77::u 78::u 79::u 80::u 81::u 82::u 83::u 84::u 85::u 86::u 87::u 88::u 89::u 90::u 91::u 92::u 93::u 94::u 95::u 96::u 97::u 98::u 99::u 100::u 101::u 102::u 103::u 104::u 105::u 106::u 107::u 108::u 109::u 110::u 111::u 112::u 113::u 114::u 115::u 116::u 117::u 118::u 119::u 120::u 121::u 122::u 123::u 124::u 125::u 126::u 127::u 128::u 129::u 130::u 131::u 132::u 133::u 134::u 135::u 136::u 137::u 138::u 139::u 140::u 141::u 142::u 143::u 144::u 145::u 146::u 147::u 148::u 149::u 150::u 151::u 152::u 153::u 154::u 155::u 156::u 157::u 158::u 159::u 160::u 161::u 162::u 163::u 164::u 165::u 166::u 167::u 168::u 169::u 170::u 171::u 172::u 173::u 174::u 175::u 176::u 177::u 178::u 179::u 180::u 181::u 182::u 183::u 184::u 185::u 186::u 187::u 188::u 189::u 190::u 191::u 192::u 193::u 194::u 195::u 196::u 197::u 198::u 199::u 200::u 201::u 202::u 203::u 204::u 205::u 206::u 207::u 208::u 209::u 210::u 211::u 212::u 213::u 214::u 215::u 216::u 217::u 218::u 219::u 220::u 221::u 222::u 223::u 224::u 225::u 226::u 227::u 228::u 229::u 230::u 231::u 232::u 233::u 234::u 235::u 236::u 237::u 238::u 239::u 240::u 241::u 242::u 243::u 244::u 245::u 246::u 247::u 248::u 249::u 250::u 251::u 252::u 253::u 254::u 255::u 256::u 257::u 258::u 259::u 260::u 261::u 262::u 263::u 264::u 265::u 266::u 267::u 268::u 269::u 270::u 271::u 272::u 273::u 274::u 275::u 276::u 277::u 278::u 279::u 280::u 281::u 282::u 283::u 284::u 285::u 286::u 287::u 288::u 289::u 290::u 291::u 292::u 293::u 294::u 295::u 296::u 297::u 298::u 299::u 300::u 301::u 302::u 303::u 304::u 305::u 306::u 307::u 308::u 309::u 310::u 311::u 312::u 313::u 314::u 315::u 316::u 317::u 318::u 319::u 320::u 321::u 322::u 323::u 324::u 325::u 326::u 327::u 328::u 329::u 330::u 331::u 332::u 333::u 334::u 335::u 336::u 337::u 338::u 339::u 340::u 341::u 342::u 343::u 344::u 345::u 346::u 347::u 348::u 349::u 350::u 351::u 352::u 353::u 354::u 355::u 356::u 357::u 358::u 359::u 360::u 361::u 362::u 363::u 364::u 365::u 366::u 367::u 368::u 369::u 370::u 371::u 372::u 373::u 374::u 375::u 376::u 377::u 378::u 379::u 380::u 381::u 382::u 383::u 384::u 385::u 386::u 387::u 388::u 389::u 390::u 391::u 392::u 393::u 394::u 395::u 396::u 397::u 398::u 399::u 400::u 401::u 402::u 403::u 404::u 405::u 406::u 407::u 408::u 409::u 410::u 411::u 412::u 413::u 414::[]).toArray,[]⟩∧∀ i v,a.tmps[i]? = some v→u i=v:=by
 obtain⟨t,d⟩:=a
 obtain⟨h1,h2,_⟩:=h
 dsimp only at h1 h2
 obtain⟨u,hu⟩:∃ u:Nat→Value,∀ i,u i=t.getD i undef:=⟨fun i=>t.getD i undef,fun _=>rfl⟩
 refine⟨u,?_,fun i v hv=>?_⟩
 ·rw[h2]
  refine congrArg (fun x=>Act.mk x []) (Eq.trans ?_ (lit_range u).symm)
  apply Array.ext
  ·simp[h1]
  ·intro i g1 g2
   simp[g1,hu]
 ·rw[hu,Array.getD_eq_getD_getElem?,show t[i]? = some v from hv];rfl
set_option maxHeartbeats 8000000 in
set_option maxRecDepth 1000000 in
theorem mk_ready (r mb n tb pb db tn b d vb vc:Nat) (dbit:Bool) (a0:Act) (w1:World) (Q0:Exit→Act→World→Prop) (hfr:Fr [(2,.pointer (some ⟨r,0,none⟩)),(3,.pointer (some ⟨mb,0,none⟩)),(4,.int .i64 n),(5,.slice (some ⟨tb,0,none⟩) n n),(7,.slice (some ⟨pb,0,none⟩) n n),(11,.slice (some ⟨db,0,none⟩) n n),(12,.int .i64 tn),(13,.int .i64 b),(14,.bool (!dbit)),(15,.slice (some ⟨vb,0,none⟩) n vc),(17,.int .i64 0)] a0)
  (hn:n≤9) (hb:b<n) (hd:dbit=false→d=b∧True∧True) (hdn:HeapIs w1 db ((dnL n d).map Value.bool).toArray 4)
  (haw:∀ a,a<n→∃ (ob:Nat) (rb:Bool),w1.cell? ⟨vb,a,none⟩=some (.slice (some ⟨ob,0,none⟩) n n)∧vb<w1.heap.size∧w1.cell? ⟨ob,b,none⟩=some (.bool rb)∧ob<w1.heap.size)
  (hreach:∀ (a ob:Nat) (rb:Bool),a<n→w1.cell? ⟨vb,a,none⟩=some (.slice (some ⟨ob,0,none⟩) n n)→w1.cell? ⟨ob,b,none⟩=some (.bool rb)→b<a→rb=true)
  (hQ:∀ a1,Fr [(2,.pointer (some ⟨r,0,none⟩)),(3,.pointer (some ⟨mb,0,none⟩)),(4,.int .i64 n),(5,.slice (some ⟨tb,0,none⟩) n n),(7,.slice (some ⟨pb,0,none⟩) n n),(11,.slice (some ⟨db,0,none⟩) n n),(12,.int .i64 tn),(13,.int .i64 b),(14,.bool (!dbit)),(15,.slice (some ⟨vb,0,none⟩) n vc)] a1→Q0 .normal a1 w1):Code.wp Tryz.prog (mkCode [1,1,1,1,1,1,1,1,1,1,1,0,1,0,0,1,0,0,1,0,0,1,0,0,1,1,1,0,1]) Q0 a0 w1:=by
 obtain⟨u,ha0,hu⟩:=frame_ex hfr
 obtain⟨g1,g2,s2,s3,s4,s5,s7,s11,s12,s13,s14,s15,s17,g3⟩:=hfr
 have e2:=hu 2 _ s2
 have e3:=hu 3 _ s3
 have e4:=hu 4 _ s4
 have e5:=hu 5 _ s5
 have e7:=hu 7 _ s7
 have e11:=hu 11 _ s11
 have e12:=hu 12 _ s12
 have e13:=hu 13 _ s13
 have e14:=hu 14 _ s14
 have e15:=hu 15 _ s15
 have e17:=hu 17 _ s17
 rw[e2,e3,e4,e5,e7,e11,e12,e13,e14,e15,e17]at ha0
 subst ha0
 clear hu g1 g2 g3 e2 s2 e3 s3 e4 s4 e5 s5 e7 s7 e11 s11 e12 s12 e13 s13 e14 s14 e15 s15 e17 s17
 conv=>arg 2;whnf
 have HD:=Lib.hid hd
 have HA:=Lib.hid haw
 have HDN:=Lib.hid hdn
 have HR:=Lib.hid hreach
 clear hd haw hdn hreach
 have HQ:=Lib.hid hQ
 clear hQ
 go_wp2_with fail
 go_loopw [14,17] (fun r i wr=>∃ a:Nat,a≤n∧r=.bool (!dbit)∧i=.int .i64 a∧wr=w1) (fun _ i _=>n-(intOf i).toNat)
 case atStart=>exact⟨0,Nat.zero_le _,rfl,rfl,rfl⟩
 case round =>
  obtain⟨a,han,rfl,rfl,rfl⟩:=hrel
  by_cases hla:a<n
  ·cases dbit
   ·obtain⟨db1,db2,db3⟩:=HD.out rfl
    obtain⟨ob,rb,hcv,hcl,hob,hol⟩:=HA.out a hla
    have hvl:vb<wr.heap.size:=hcl
    have hdc:=HDN.out.cell a
    rw[List.getElem?_toArray,List.getElem?_map,dnL_at hla]at hdc
    have hdl:=HDN.out.lt
    have HRB:=Lib.hid (HR.out a ob rb hla hcv hob)
    clear hcl
    by_cases hab:a=b
    ·subst hab
     replace hdc:wr.cell? ⟨db,a,none⟩=some (.bool (decide (a<d))):=hdc
     have haq:((a:Int)==(a:Int))=true:=by simp
     clear db1 db2 db3
     go_wp2
     go_roundw
     case rel=>exact⟨a+1,by omega,by trivial,by go_num,by trivial⟩
     case measure=>simp[intOf];omega
    ·have haq:((a:Int)==(b:Int))=false:=by simp;omega
     by_cases hlow:a<b
     ·replace hdc:wr.cell? ⟨db,a,none⟩=some (.bool true):=by rw[hdc,decide_eq_true (by omega)];rfl
      clear db1 db2 db3 hab
      go_wp2
      go_roundw
      case rel=>exact⟨a+1,by omega,by trivial,by go_num,by trivial⟩
      case measure=>simp[intOf];omega
     ·replace hdc:wr.cell? ⟨db,a,none⟩=some (.bool false):=by rw[hdc,decide_eq_false (by omega)];rfl
      obtain rfl:rb=true:=HRB.out (by omega)
      clear db1 db2 db3 hab hlow
      go_wp2
      go_roundw
      case rel=>exact⟨a+1,by omega,by trivial,by go_num,by trivial⟩
      case measure=>simp[intOf];omega
   ·go_wp2
    go_roundw
    case rel=>exact⟨a+1,by omega,by trivial,by go_num,by trivial⟩
    case measure=>simp[intOf];omega
  ·obtain rfl:n=a:=by omega
   go_wp2_with fail
   exact HQ.out _ (fr_mk rfl rfl (sl_cons rfl (sl_cons rfl (sl_cons rfl (sl_cons rfl (sl_cons rfl (sl_cons rfl (sl_cons rfl (sl_cons rfl (sl_cons rfl (sl_cons rfl (sl_nil _))))))))))))
end Go.Proofs.YtmhojfpidedjeaaGreatDoor
