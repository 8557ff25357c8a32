/- The rule of XRegion8 for a region with one operation p that turns what was there: what is known of all others' values stays where it turns; what is known of its own stays where memory only grows. jacquardref03's maker: add. jacquardref07's maker as it lies in memory: the row that it lays, and how th -/
import Derived.Test.YtkpbmbhejpmboaaPkB04
import Derived.Test.YtkpbmbhejpmboaaPkB11
import Derived.Laws.Rows
import Derived.Deep.CutBlock
namespace Go.Proofs.Ytkpbmbhejpmboaa
open Go.RowKit
def RR (p:Nat) (R R2:World→World→Prop) (k:Nat):World→World→Prop:=cond (Nat.beq k p) R R2
theorem RR_le {p : Nat} {R R2:World→World→Prop} (h:∀ a b,R2 a b→R a b) (k:Nat) {a b:World} (hk:RR p R R2 k a b):R a b:=by
 unfold RR at hk
 cases hb:Nat.beq k p with
 | true=>rw[hb]at hk;exact hk
 | false=>rw[hb]at hk;exact h _ _ hk
theorem RR_ne {p : Nat} {R R2:World→World→Prop} {k : Nat} (hn:k≠p) {a b:World} (hk:RR p R R2 k a b):R2 a b:=by
 unfold RR at hk
 cases hb:Nat.beq k p with
 | true=>exact absurd (Nat.eq_of_beq_eq_true hb) hn
 | false=>rw[hb]at hk;exact hk
def StepsK1 (pv:Nat) (R R2:World→World→Prop) (Ph:Nat→World→Prop) (P:Program) (ops:Array Oper) (l:List Oper) (Q:Exit→Act→World→Prop) (F:Nat→Value→World→Prop) (a0:Act) (w0:World):List Oper→List Nat→List Nat→List Nat→Nat→Prop
 | o::r,lo::los,hi::his,inc::incs,k=>(∀ (p:Nat) (vs:Nat→Value) (w:World),lo≤p→p≤hi→R w0 w→Ph p w→Knows F vs w o.after.toList →
   wpList P ops (OneQK (RR pv R R2 k) Ph Q F k (p+inc) o.dst (putAll l 0 vs a0) w) [o] (putAll l 0 vs a0) w)∧StepsK1 pv R R2 Ph P ops l Q F a0 w0 r los his incs (k+1)
 | _,_,_,_,_=>True
theorem stepsK1_at {pv:Nat} {R R2:World→World→Prop} {Ph:Nat→World→Prop} {P : Program} {ops:Array Oper} {l0:List Oper} {Q : Exit→Act→World→Prop} {F : Nat→Value→World→Prop} {a0:Act} {w0:World}:∀ (l:List Oper) (los his incs:List Nat) (k:Nat),StepsK1 pv R R2 Ph P ops l0 Q F a0 w0 l los his incs k→los.length=l.length→his.length=l.length→incs.length=l.length→∀ (i:Nat) (o:Oper),l[i]? = some o→ops[k+i]? = some o →
  ∀ (p:Nat) (vs:Nat→Value) (w:World),los.getD i 0≤p→p≤his.getD i 0→R w0 w→Ph p w→Knows F vs w o.after.toList→∀ K:Act→World→Prop,(∀ a' w',LeftK (RR pv R R2 (k+i)) Ph F (k+i) (p+incs.getD i 0) o.dst (putAll l0 0 vs a0) w a' w'→K a' w') →
   wpOp P ops Q (k+i) K (putAll l0 0 vs a0) w
 | [],_,_,_,_,_,_,_,_,_,_,h,_=>by cases h
 | _::_,[],_,_,_,_,h,_,_,_,_,_,_=>by simp at h
 | _::_,_::_,[],_,_,_,_,h,_,_,_,_,_=>by simp at h
 | _::_,_::_,_::_,[],_,_,_,_,h,_,_,_,_=>by simp at h
 | p::r,lo::los,hi::his,inc::incs,k,h,_,_,_,0,o,ho,hall=>by
  obtain rfl:p=o:=by simpa using ho
  intro q vs w hlo hhi hw hph hk K hK
  have:=h.1 q vs w hlo hhi hw hph hk
  unfold wpOp
  rw[hall]
  simp only[wpList]at this
  show if _ then _ else _
  split
  ·rename_i hwant
   rw[if_pos hwant]at this
   rcases this with this|⟨h1,h2⟩
   ·exact .inl (Oper.wp_turn (fun _ _ _ h=>h) (fun h=>h) (Oper.wp_mono (fun a' w' h=>hK a' w' h) this))
   ·exact .inr ⟨h1,h2⟩
  ·rename_i hwant
   rw[if_neg hwant]at this
   exact hK _ _ this
 | p::r,lo::los,hi::his,inc::incs,k,h,h1,h2,h3,i+1,o,ho,hall=>by
  have:=stepsK1_at r los his incs (k+1) h.2 (by simpa using h1) (by simpa using h2) (by simpa using h3) i o (by simpa using ho) (by rw[show k+1+i=k+(i+1) from by omega];exact hall)
  rw[show k+1+i=k+(i+1) from by omega]at this
  exact this
section
variable {P : Program} {Q : Exit→Act→World→Prop} {l t0:List Oper} {F : Nat→Value→World→Prop} {a0:Act} {w0:World} {pv:Nat} {R R2:World→World→Prop} {Ph:Nat→World→Prop} {keys los his incs:List Nat}
theorem any_factsK1 (hbd:boundsKT (l++t0) l.length keys los his incs=true) (hRt:∀ a b c,R a b→R b c→R a c) (hF:∀ i v w w',i≠pv→F i v w→R w w'→F i v w') (hF2:∀ i v w w',F i v w→R2 w w'→F i v w') (hle:∀ a b,R2 a b→R a b) (hd:dstsApart l=true) (hb:edgesBack (l++t0) 0=true) (hf:forcedA (l++t0) l.length=true)
  (hs:StepsK1 pv R R2 Ph P (l++t0).toArray l Q F a0 w0 l los his incs 0)
  (he:∀ vs w,R w0 w→Ph keys.length w→KnowsAll F vs w 0 l.length→wpList P (l++t0).toArray Q t0 (putAll l 0 vs a0) w) :
  ∀ (fuel:Nat) (listed:Array Bool) (vs:Nat→Value) (w:World),listed.size=(l++t0).length→((List.range (l++t0).length).filter fun i=>!listed.getD i true).length≤fuel→R w0 w→Ph (doneK keys listed) w→Closed (l++t0) listed →
   (∀ i,i<l.length→listed.getD i true=true→F i (vs i) w)→(∀ i,l.length≤i→i<(l++t0).length→listed.getD i true=false)→wpAny P .any (l++t0).toArray Q fuel listed (putAll l 0 vs a0) w:=by
 unfold boundsKT at hbd
 simp only[Bool.and_eq_true,beq_iff_eq,decide_eq_true_eq,List.all_eq_true]at hbd
 obtain⟨⟨⟨⟨hlos,hhis⟩,hincs⟩,hnod⟩,hkeys⟩:=hbd
 have hll:l.length≤(l++t0).length:=by simp
 have hend:∀ (fuel:Nat) (listed:Array Bool) (vs:Nat→Value) (w:World),listed.size=(l++t0).length→((List.range (l++t0).length).filter fun i=>!listed.getD i true).length≤fuel→R w0 w→Ph (doneK keys listed) w→(∀ i,i<l.length→listed.getD i true=true) →
   (∀ i,i<l.length→listed.getD i true=true→F i (vs i) w)→(∀ i,l.length≤i→i<(l++t0).length→listed.getD i true=false)→wpAny P .any (l++t0).toArray Q fuel listed (putAll l 0 vs a0) w:=by
  intro fuel listed vs w hsz hn hw hph hall hk htl
  have hfull:doneK keys listed=keys.length:=by
   unfold doneK
   rw[List.countP_eq_length]
   intro k hk
   have hkl:=hkeys k hk
   rw[same_getD (by omega)]
   exact hall k hkl
  rw[hfull]at hph
  refine run_tail (n0:=l.length) (t0:=t0) hb (by simp) hf t0 0 rfl (by simp) fuel listed _ w hsz hn (fun i hi=>hall i (by omega)) (fun i hi hil=>htl i (by omega) hil) ?_
  exact he vs w hw hph (knowsAll_of F vs w _ 0 fun i _ hi=>hk i (by omega) (hall i (by omega)))
 have hget:∀ i o,i<l.length→(l++t0)[i]? = some o→l[i]? = some o:=fun i o hi h=>by rwa [List.getElem?_append_left hi]at h
 intro fuel
 induction fuel with
 | zero =>
  intro listed vs w hsz hn hw hph hcl hk htl
  refine hend 0 listed vs w hsz hn hw hph (fun i hi=>?_) hk htl
  cases hl:listed.getD i true with
  | true=>rfl
  | false =>
   exfalso
   have:i∈(List.range (l++t0).length).filter fun i=>!listed.getD i true:=by
    rw[List.mem_filter];exact⟨List.mem_range.2 (by omega),by simp[hl]⟩
   have:=List.length_pos_of_mem this
   omega
 | succ fuel ih =>
  intro listed vs w hsz hn hw hph hcl hk htl
  by_cases hallL:∀ i,i<l.length→listed.getD i true=true
  ·exact hend (fuel+1) listed vs w hsz hn hw hph hallL hk htl
  ·refine⟨fun hr=>?_,fun i hi=>?_⟩
   ·exfalso
    apply hallL
    have all:∀ (n i:Nat),i<n→i<l.length→listed.getD i true=true:=by
     intro n
     induction n with
     | zero=>intro i h;omega
     | succ n ihn =>
      intro i h1 h2
      cases hl:listed.getD i true with
      | true=>rfl
      | false =>
       exfalso
       have:i∈Region.ready .any (l++t0).toArray listed:=by
        rw[mem_ready]
        have ho:(l++t0)[i]? = some l[i]:=by rw[List.getElem?_append_left h2];exact List.getElem?_eq_getElem h2
        refine⟨hl,l[i],by simpa using ho,fun e hee hbd=>?_⟩
        have hlt:=edges_back (l++t0) 0 hb i l[i] ho e hee hbd
        rw[same_getD (by omega)]
        exact ihn e.on (by omega) (by omega)
       rw[hr]at this
       cases this
    exact fun i hi=>all (i+1) i (by omega) hi
   ·rw[mem_ready]at hi
    obtain⟨h1,o,ho,hpre⟩:=hi
    have hol':(l++t0)[i]? = some o:=by simpa using ho
    have hlt':i<(l++t0).length:=(List.getElem?_eq_some_iff.1 hol').1
    have hlt:i<l.length:=by
     by_cases h:i<l.length
     ·exact h
     ·exfalso
      apply hallL
      intro j hj
      have:=forced_listed hf hcl hol' (by omega) hpre (i:=j) (by omega)
      rwa [same_getD (by omega)]at this
    have hol:=hget i o hlt hol'
    have hknow:Knows F vs w o.after.toList:=by
     refine knows_of F vs w _ fun e hee hbind=>?_
     have hee':e∈o.after:=by simpa using hee
     have hlt2:=edges_back (l++t0) 0 hb i o hol' e hee' hbind
     have hon:e.on<l.length:=by omega
     refine hk e.on hon ?_
     rw[←same_getD (by omega)]
     exact hpre e hee' hbind
    have hil:listed.getD i false=false:=by rw[same_getD (by omega)];exact h1
    have hlo:los.getD i 0≤doneK keys listed:=by
     rw[hlos]
     simp only[List.getD_eq_getElem?_getD,List.getElem?_map,List.getElem?_range hlt,Option.map_some,Option.getD_some]
     exact List.countP_mono_left fun k _ hk2=>ahead_listed hcl _ _ _ hk2 o hol' hpre
    have hhi:doneK keys listed≤his.getD i 0:=by
     rw[hhis]
     simp only[List.getD_eq_getElem?_getD,List.getElem?_map,List.getElem?_range hlt,Option.map_some,Option.getD_some]
     refine List.countP_mono_left fun k hkm hk2=>?_
     simp only[Bool.and_eq_true,Bool.not_eq_true',beq_eq_false_iff_ne]
     refine⟨?_,fun e=>by rw[e,hil]at hk2;cases hk2⟩
     cases hah:aheadB (l++t0) (l++t0).length i k with
     | false=>rfl
     | true =>
      exfalso
      have hkl:k<(l++t0).length:=Nat.lt_of_lt_of_le (hkeys k hkm) hll
      have ho2:(l++t0)[k]? = some (l++t0)[k]:=List.getElem?_eq_getElem hkl
      have:=ahead_listed hcl _ _ _ hah _ ho2 (hcl k _ ho2 hk2)
      rw[hil]at this;cases this
    have hinc:incs.getD i 0=if keys.contains i then 1 else 0:=by
     rw[hincs]
     simp only[List.getD_eq_getElem?_getD,List.getElem?_map,List.getElem?_range hlt,Option.map_some,Option.getD_some]
    have hstep:=stepsK1_at l los his incs 0 hs (by rw[hlos];simp) (by rw[hhis];simp) (by rw[hincs];simp) i o hol (by simpa using hol') (doneK keys listed) vs w hlo hhi hw hph hknow
    simp only[Nat.zero_add]at hstep
    refine hstep _ fun a' w' ⟨v,ha',hv,hw',hph'⟩=>?_
    subst ha'
    have e:=putAll_upd v l 0 vs a0 i o hol hd
    rw[Nat.zero_add]at e
    rw[←e]
    refine ih (listed.setIfInBounds i true) (upd vs i v) w' (by simpa using hsz) ?_ (hRt _ _ _ hw (RR_le hle i hw')) ?_ ?_ ?_ ?_
    ·have e2:((List.range (l++t0).length).filter fun j=>!(listed.setIfInBounds i true).getD j true)=((List.range (l++t0).length).filter fun j=>!listed.getD j true).filter fun j=>j != i:=by
      rw[List.filter_filter]
      refine List.filter_congr fun j hj=>?_
      by_cases hji:j=i
      ·subst hji
       have hin:j<listed.size:=by omega
       simp[Array.getD_eq_getD_getElem?,hin]
      ·rw[getD_set_ne _ (Ne.symm hji)];simp[hji]
     rw[e2]
     have hmem:i∈(List.range (l++t0).length).filter fun j=>!listed.getD j true:=by
      rw[List.mem_filter];exact⟨List.mem_range.2 hlt',by simp[h1]⟩
     have:=(List.length_filter_lt_length_iff_exists (p:=fun j=>j != i) (l:=(List.range (l++t0).length).filter fun j=>!listed.getD j true)).2 ⟨i,hmem,by simp⟩
     omega
    ·rw[hinc]at hph'
     by_cases hik:i∈keys
     ·rw[doneK_more (by omega) hil hnod hik]
      rw[if_pos (by simpa using hik)]at hph'
      exact hph'
     ·rw[doneK_same hik]
      rw[if_neg (by simpa using hik)]at hph'
      exact hph'
    ·intro j p hp hjl x hx hbx
     by_cases hji:j=i
     ·subst hji
      have:=hol'.symm.trans hp;cases this
      exact getD_set_true (hpre x hx hbx)
     ·rw[getD_set_ne _ (Ne.symm hji)]at hjl
      exact getD_set_true (hcl j p hp hjl x hx hbx)
    ·intro j hj hlj
     by_cases hji:j=i
     ·subst hji;rw[upd_same];exact hv
     ·rw[upd_other _ _ hji]
      rw[getD_set_ne _ (Ne.symm hji)]at hlj
      by_cases hip:i=pv
      ·subst hip
       exact hF _ _ _ _ hji (hk j hj hlj) (RR_le hle i hw')
      ·exact hF2 _ _ _ _ (hk j hj hlj) (RR_ne hip hw')
    ·intro j hj hjl
     rw[getD_set_ne _ (by omega)]
     exact htl j hj hjl
end
def AllBut (S:Nat→Prop) (pv:Nat):List (Value→World→Prop)→Nat→Prop
 | [],_=>True
 | f::r,k=>(k≠pv→StableT S f)∧AllBut S pv r (k+1)
theorem nthF_but {S : Nat→Prop} {pv:Nat}:∀ (l:List (Value→World→Prop)) (k:Nat),AllBut S pv l k→∀ i v w w',k+i≠pv→nthF l i v w→Turn S w w'→nthF l i v w'
 | [],_,_,_,_,_,_,_,h,_=>h
 | _::_,k,hl,0,v,w,w',hn,h,t=>hl.1 hn v w w' h t
 | _::r,k,hl,i+1,v,w,w',hn,h,t=>nthF_but r (k+1) hl.2 i v w w' (by omega) h t
theorem wp_region_one {P : Program} {Q : Exit→Act→World→Prop} {all:List Oper} {a0:Act} {w0:World} {id:Nat} (n pv:Nat) (keys los his incs:List Nat) (S:Nat→Prop) (Ph:Nat→World→Prop) (hm:P.follows .mixedOrders=true)
  (hd:dstsApart (all.take n)=true) (hb:edgesBack all 0=true) (hf:forcedA all n=true) (hn:n≤all.length) (hbd:boundsKT all n keys los his incs=true) (Fs:List (Value→World→Prop)) (hF:AllBut S pv Fs 0) (hF2:AllStable Fs) (hph:Ph 0 w0.drew)
  (hs:StepsK1 pv (Turn S) Since Ph P all.toArray (all.take n) Q (nthF Fs) a0 w0 (all.take n) los his incs 0)
  (he:∀ vs w,Turn S w0 w→Ph keys.length w→KnowsAll (nthF Fs) vs w 0 n→wpList P all.toArray Q (all.drop n) (putAll (all.take n) 0 vs a0) w):(Code.region id all.toArray true).wp P Q a0 w0:=by
 refine wp_region_any hm ?_
 have hln:(all.take n).length=n:=by rw[List.length_take];omega
 have hcat:all.take n++all.drop n=all:=List.take_append_drop n all
 have e:=putAll_old (oldAt (all.take n) a0) a0 (all.take n) 0 (fun i o d hi hdst=>by simp only[oldAt,Nat.zero_add,hi,Option.bind_some,hdst])
 have h:=any_factsK1 (l:=all.take n) (t0:=all.drop n) (P:=P) (Q:=Q) (F:=nthF Fs) (a0:=a0) (w0:=w0) (pv:=pv) (R:=Turn S) (R2:=Since) (by rw[hcat,hln];exact hbd) (fun _ _ _=>Turn.trans) (fun i v w w' hi hv ht=>nthF_but Fs 0 hF i v w w' (by omega) hv ht) (nthF_stable Fs hF2) (fun a b h=>Turn.since h) hd (by rw[hcat];exact hb) (by rw[hcat,hln];exact hf) (by rw[hcat];exact hs) (by rw[hcat,hln];exact he)
  all.length (Array.replicate all.length false) (oldAt (all.take n) a0) { w0 with drawn:=w0.drawn+1 } (by rw[hcat];simp) (by rw[hcat];exact Nat.le_trans (List.length_filter_le _ _) (by simp)) (Turn.since (Since.refl w0).drew)
  (by
   have:doneK keys (Array.replicate all.length false)=0:=by
    unfold doneK
    rw[List.countP_eq_zero]
    intro k _
    simp[Array.getD_eq_getD_getElem?,Array.getElem?_replicate]
    split<;>rfl
   rw[this]
   exact hph)
  (fun i o ho hl=>by
   have hi:i<all.length:=by rw[←hcat];exact (List.getElem?_eq_some_iff.1 ho).1
   simp[Array.getD_eq_getD_getElem?,hi]at hl)
  (fun i hi hl=>by
   have:i<all.length:=by omega
   simp[Array.getD_eq_getD_getElem?,this]at hl)
  (fun i _ hi=>by
   rw[hcat]at hi
   simp[Array.getD_eq_getD_getElem?,hi])
 rw[e,hcat]at h
 simpa using h
set_option linter.unusedVariables false
def fmakes (x:FIns):List Int:=if x.op=16 then [] else if x.op=18 then [x.dst,x.two] else [x.dst]
theorem fmakes_len (x:FIns):(fmakes x).length≤2:=by
 unfold fmakes
 split
 ·simp
 ·split<;>simp
theorem fmakes_in {N : Int} {x : FIns} (h:InsGood N x):∀ y∈fmakes x,0≤y∧y<N:=by
 intro y hy
 unfold fmakes at hy
 split at hy
 ·cases hy
 ·split at hy
  ·rcases List.mem_cons.1 hy with rfl|hy
   ·exact h.2.2.1
   ·obtain rfl:=List.mem_singleton.1 hy
    exact h.2.2.2.1
  ·obtain rfl:=List.mem_singleton.1 hy
   exact h.2.2.1
set_option maxHeartbeats 1000000 in
set_option maxRecDepth 100000 in
theorem fmakes_any (x:FIns) (w:World):Calls Try.prog 124 #[fiv x] w (Gives w (fmakes x)):=by
 obtain⟨op,dst,two,args,av,imm⟩:=x
 unfold fiv fmakes
 dsimp only
 by_cases h1:op=16
 ·subst h1
  rw[if_pos rfl]
  go_enter Try.func124,Try.ntmps124
  go_wp2
  go_ret
  exact gives_none ((Since.refl _).alloc _)
 ·rw[if_neg h1]
  have h1q:(op==16)=false:=by simpa using h1
  by_cases h2:op=18
  ·subst h2
   rw[if_pos rfl]
   clear h1
   go_enter Try.func124,Try.ntmps124
   go_wp2
   go_ret
   exact gives_last ((Since.refl _).alloc _) [dst,two] _ (by simp) rfl (by show 2≤maxLen;decide) rfl
  ·rw[if_neg h2]
   have h2q:(op==18)=false:=by simpa using h2
   clear h1 h2
   go_enter Try.func124,Try.ntmps124
   go_wp2
   go_ret
   exact gives_last ((Since.refl _).alloc _) [dst] _ (by simp) rfl (by show 1≤maxLen;decide) rfl
theorem mem_le_sum:∀ {l : List Nat} {n : Nat},n∈l→n≤l.sum
 | [],_,h=>by cases h
 | x::r,n,h=>by
  rw[List.sum_cons]
  rcases List.mem_cons.1 h with rfl|h
  ·omega
  ·have:=mem_le_sum h;omega
def OneIns (S:Nat→Prop) (x:FIns) (v:Value) (w:World):Prop:=∃ b,v=.slice (some ⟨b,0,none⟩) 1 1∧HeapIs w b (ficells x).toArray 181∧¬ S b
theorem OneIns.stable (S:Nat→Prop) (x:FIns):Stable (OneIns S x):=fun v w w' ⟨b,h1,h2,h3⟩ s=>⟨b,h1,h2.keep s,h3⟩
theorem OneIns.stableT (S:Nat→Prop) (x:FIns):StableT S (OneIns S x):=fun v w w' ⟨b,h1,h2,h3⟩ t=>⟨b,h1,h2.turn t h3,h3⟩
def Appended (w0:World) (v0:Value) (xs:List FIns) (v:Value) (w:World):Prop:=∃ wa,Since w0 wa∧Turn (fun q=>v0.ownBlock=some q) wa w∧NewOr wa v0 v∧OwnRow ficells 5 181 0 w v xs
theorem Appended.stable (w0:World) (v0:Value) (xs:List FIns):Stable (Appended w0 v0 xs):=fun v w w' ⟨wa,h1,h2,h3,h4⟩ s=>⟨wa,h1,h2.trans (Turn.since s),h3,h4.keep s⟩
structure AddPh (w0 w:World) (mb bb n:Nat) (x:FIns) (m:MkSt) (sv:Value) (w1:World):Prop where
 made:MkAt w1 mb sv m.at_ [.int .i64 m.params,.slice (some ⟨bb,0,none⟩) n n,.int .i64 m.next,m.livev]
 blocks:HeapIs w1 bb (m.bks.flatMap fbcells).toArray 178
 box:HeapIs w1 w.heap.size #[.int .i64 x.op,.int .i64 x.dst,.int .i64 x.two,x.av,.int .i32 x.imm] 181
def AddP (w0 w:World) (mb bb n:Nat) (x:FIns) (m:MkSt) (sv:Value) (p:Nat) (w1:World):Prop:=AddPh w0 w mb bb n x m sv w1∧(p=0→Since w0 w1)
theorem AddPh.keep {w0 w w1 w2:World} {mb bb n:Nat} {x : FIns} {m : MkSt} {sv:Value} (h:AddPh w0 w mb bb n x m sv w1) (s:Since w1 w2):AddPh w0 w mb bb n x m sv w2:=⟨h.made.keep s,h.blocks.keep s,h.box.keep s⟩
theorem AddPh.turn {S : Nat→Prop} {w0 w w1 w2:World} {mb bb n:Nat} {x : FIns} {m : MkSt} {sv:Value} (h:AddPh w0 w mb bb n x m sv w1) (t:Turn S w1 w2) (hn:¬ S mb∧¬ S bb∧¬ S w.heap.size):AddPh w0 w mb bb n x m sv w2:=⟨HeapIs.turn (show HeapIs w1 mb _ _ from h.made) t hn.1,h.blocks.turn t hn.2.1,h.box.turn t hn.2.2⟩
section
variable {C : Nat→Prop} {mb:Nat} {bv sv:Value} {l : List Int} {m : MkSt} {w : World}
theorem Mv.keep {w' w'':World} {m':MkSt} {a n i:Nat} (h:Mv mb bv w m w' m' a n i) (s:Since w' w''):Mv mb bv w m w'' m' a n i:=
 ⟨h.turn.trans (Turn.since s),h.new,h.at_,h.next,h.total,h.live,h.same⟩
theorem Mv.setLive {w' w'':World} {m':MkSt} {a n i:Nat} {more:List Int} {v : Value} (h:Mv mb bv w m w' m' a n i) (hS:∀ q,Own mb bv { m' with live:=m'.live++more,livev:=v } q→Own mb bv m' q∨w'.heap.size≤q) (t:Turn (Own mb bv m') w' w'') (hl:(m'.live++more).length≤m.live.length+2*i):Mv mb bv w m w'' { m' with live:=m'.live++more,livev:=v } a n i:=by
 have hz:=h.turn.size
 have h1:Turn (fun q=>Own mb bv m q∨w.heap.size≤q) w w':=h.turn.mono fun _ _ h=>.inl h
 have h2:Turn (fun q=>Own mb bv m q∨w.heap.size≤q) w' w'':=t.mono fun q _ hq=>h.new q hq
 refine⟨(h1.trans h2).mono fun q hq hs=>?_,fun q hq=>?_,h.at_,h.next,h.total,hl,h.same⟩
 ·rcases hs with hs|hs
  ·exact hs
  ·omega
 ·rcases hS q hq with h3|h3
  ·exact h.new q h3
  ·exact .inr (by omega)
set_option maxHeartbeats 4000000 in
set_option maxRecDepth 100000 in
theorem mk_add (h:MkOk C mb bv sv l m w) (hs:Sm 70 m) (b:Nat) (hb:b<m.bks.length) (x:FIns) (hx:Ints w x.av x.args∧Stays (OwnC C mb bv m) w x.av) (hg:InsGood m.next x) :
  Calls Try.prog 144 #[.pointer (some ⟨mb,0,none⟩),.int .i64 b,fiv x] w (MkQ C mb bv sv l w m 0 0 1 fun m' e=>e=.returned (.tuple #[])∧m'.next=m.next):=by
 obtain⟨k,hk⟩:∃ k,m.bks[b]? = some k:=⟨_,List.getElem?_eq_getElem hb⟩
 have hkm:=List.mem_of_getElem? hk
 have hko:=h.each k hkm
 obtain⟨bb,hbv⟩:∃ bb,bv=.slice (some ⟨bb,0,none⟩) m.bks.length m.bks.length:=by
  rcases h.bks with ⟨_,h2⟩|⟨bb,h1,_⟩
  ·rw[h2]at hb;simp at hb
  ·exact⟨bb,h1⟩
 subst hbv
 have hB:=h.bbAt (bb:=bb) rfl
 obtain⟨ia,ic,hiv⟩:=own_shape (show w.ownsRow _ _ _ _ _ _ from hko.ins)
 obtain⟨hs1,hs2,hs3,hs4⟩:=hs
 have hfew:=h.few
 have hil:k.ins.length≤70000:=by
  refine Nat.le_trans ?_ hs3
  unfold MkSt.total
  exact mem_le_sum (List.mem_map.2 ⟨k,hkm,rfl⟩)
 obtain⟨il,hill⟩:∃ n,k.ins.length=n:=⟨_,rfl⟩
 obtain⟨n,hn⟩:∃ n,m.bks.length=n:=⟨_,rfl⟩
 rw[hill]at hiv
 have hci:(m.bks.flatMap fbcells).toArray[b*6+1]? = some (.slice ia il ic):=by
  rw[←hiv,List.getElem?_toArray,flat_at fbcells 6 fbcells_len m.bks b 1 k hk (by decide)];rfl
 obtain⟨w0,hw0⟩:∃ w0,w0=w.alloc (.cells #[.int .i64 x.op,.int .i64 x.dst,.int .i64 x.two,x.av,.int .i32 x.imm] 181):=⟨_,rfl⟩
 have hs0:Since w w0:=by rw[hw0];exact (Since.refl w).alloc _
 have hbx:HeapIs w0 w.heap.size #[.int .i64 x.op,.int .i64 x.dst,.int .i64 x.two,x.av,.int .i32 x.imm] 181:=by rw[hw0];exact HeapIs.new _ _ _
 have HOK0:=Lib.hid (h.keep hs0)
 have HROW:=Lib.hid (show OwnRow ficells 5 181 0 w0 (.slice ia il ic) k.ins from by rw[←hiv];exact hko.ins.keep hs0)
 have HPH0:=Lib.hid (show AddP w0 w mb bb n x m sv 0 w0.drew from⟨⟨by rw[←hn];exact h.made.keep hs0.drew,hB.keep hs0.drew,hbx.keep (Since.refl _).drew⟩,fun _=>(Since.refl _).drew⟩)
 have HIL:=Lib.hid (show ∀ q,(Value.slice ia il ic).ownBlock=some q→q<w0.heap.size from fun q hq=>own_some_lt HROW.out hq)
 have HIO:=Lib.hid (show ¬ (Value.slice ia il ic).ownBlock=some mb∧¬ (Value.slice ia il ic).ownBlock=some bb∧¬ (Value.slice ia il ic).ownBlock=some w.heap.size from by
  rw[←hiv]
  exact⟨h.mb_ins hkm,own_not hko.ins hB (by decide),fun e=>by have:=own_some_lt hko.ins e;omega⟩)
 have HCI:=Lib.hid hci
 have HAV:=Lib.hid (show x.av.oneCell'=true from by obtain⟨a,c,e⟩:=nums_lenI hx.1;rw[e];rfl)
 have HX:=Lib.hid hx
 have HG:=Lib.hid hg
 have HK:=Lib.hid hk
 have HN:=Lib.hid hn
 have HIV:=Lib.hid hiv
 have HILL:=Lib.hid hill
 have HS0:=Lib.hid hs0
 have HBX:=Lib.hid hbx
 rw[hill]at hil
 rw[hn]at hb hfew
 clear h hko hB hiv hci hs0 hbx hx hg hk hkm hn hill
 go_enter Try.func144,Try.ntmps144
 unfold fiv
 go_wp2_with fail
 rw[←hw0]
 have HW0:=Lib.hid hw0
 clear hw0
 refine wp_region_one 18 17 [17] [0,0,0,0,0,0,0,0,0,0,0,0,0,0,0,0,0,0] [1,1,1,1,1,1,0,0,0,0,0,0,0,0,0,0,0,0] [0,0,0,0,0,0,0,0,0,0,0,0,0,0,0,0,0,1] (fun q=>(Value.slice ia il ic).ownBlock=some q) (AddP w0 w mb bb n x m sv) rfl (by decide +kernel) (by decide +kernel) (by decide +kernel) (by decide) (by decide +kernel)
  [Is (.pointer (some ⟨mb,0,none⟩)),Is (.pointer (some ⟨mb,0,none⟩)),Is (.pointer (some ⟨mb,2,none⟩)),Is (.pointer (some ⟨mb,3,none⟩)),Is (.slice (some ⟨bb,0,none⟩) n n),Is (.int .i64 b),Is (.pointer (some ⟨mb,0,none⟩)),Is (.pointer (some ⟨mb,0,none⟩)),Is (.pointer (some ⟨mb,2,none⟩)),Is (.pointer (some ⟨mb,3,none⟩)),Is (.slice (some ⟨bb,0,none⟩) n n),Is (.int .i64 b),Is (.pointer (some ⟨bb,b*6,none⟩)),Is (.pointer (some ⟨bb,b*6+1,none⟩)),Is (.slice ia il ic),Is (fiv x),OneIns (fun q=>(Value.slice ia il ic).ownBlock=some q) x,Appended w0 (.slice ia il ic) (k.ins++[x])]
  (by repeat (first | exact trivial | refine⟨fun h=>absurd rfl h,?_⟩ | refine⟨fun _=>Is.stableT _ _,?_⟩ | refine⟨fun _=>Any.stableT _,?_⟩ | refine⟨fun _=>OneIns.stableT _ _,?_⟩)) (by repeat (first | exact trivial | refine⟨Is.stable _,?_⟩ | refine⟨Any.stable,?_⟩ | refine⟨OneIns.stable _ _,?_⟩ | refine⟨Appended.stable _ _ _,?_⟩)) HPH0.out ⟨?_,?_,?_,?_,?_,?_,?_,?_,?_,?_,?_,?_,?_,?_,?_,?_,?_,?_,trivial⟩ ?_
 rotate_right
 ·intro vs w2 ht hph hk
  simp only[List.take,List.drop,putAll,Act.put,KnowsAll,nthF,Is,List.setIfInBounds_toArray,List.set_cons_zero,List.set_cons_succ,Nat.reduceAdd]at hk ⊢
  try simp only[hk]
  obtain⟨wa,hsa,hta,hnew,hown⟩:Appended w0 (.slice ia il ic) (k.ins++[x]) (vs 17) w2:=by exact hk.2.2.2.2.2.2.2.2.2.2.2.2.2.2.2.2.2.1
  generalize vs 17=nv at *
  have hbc:w2.cell? ⟨bb,b*6+1,none⟩=some (.slice ia il ic):=(hph.1.blocks.cell (b*6+1)).trans HCI.out
  have hbf:=hph.1.blocks.frozen
  have hbl:=hph.1.blocks.lt
  have HPH:=Lib.hid hph.1
  have HSA:=Lib.hid hsa
  have HTA:=Lib.hid hta
  have HNEW:=Lib.hid hnew
  have HOWN:=Lib.hid hown
  clear hk hph ht hsa hta hnew hown
  obtain⟨na,nc,hnv⟩:=own_shape (show w2.ownsRow _ _ _ _ _ _ from HOWN.out)
  rw[show (k.ins++[x]).length=il+1 from by rw[List.length_append,HILL.out];rfl]at hnv
  subst hnv
  go_upto_region 2 with (fail)
  have hadd:=(HOK0.out.keep HSA.out).addIns (w':=w2) (v:=.slice na (il+1) nc) HK.out rfl HOWN.out (by rw[HIV.out];exact HTA.out) (by rw[HIV.out];exact HNEW.out) ⟨HX.out.1.keep (HS0.out.trans HSA.out),HX.out.2.keep (HS0.out.trans HSA.out)⟩ HG.out
  have hbx4:HeapIs (w2.setCell ⟨bb,b*6+1,none⟩ (.slice na (il+1) nc)) w.heap.size #[.int .i64 x.op,.int .i64 x.dst,.int .i64 x.two,x.av,.int .i32 x.imm] 181:=HPH.out.box.turn ((Turn.refl (fun q=>q=bb) w2).setCell (p:=⟨bb,b*6+1,none⟩) rfl _) (heap_ne HPH.out.box HPH.out.blocks (by decide))
  have hmv:=Mv.since (HS0.out.trans HSA.out) hadd.2
  have HOK4:=Lib.hid hadd.1
  have HMV4:=Lib.hid hmv
  have HBX4:=Lib.hid hbx4
  clear hadd hbx4 hmv hbc hbf hbl
  generalize (w2.setCell ⟨bb,b*6+1,none⟩ (.slice na (il+1) nc))=w4 at *
  go_wp2_with (refine wpList_load_row rfl _ _ rfl w.heap.size rfl 181 _ (0,0) _ HBX4.out Try.underlying181 rfl (by kernel_rfl) ?_)
  refine (fmakes_any x w4).mono ?_
  rintro e w5 ⟨mv,rfl,hmk,hs5⟩
  obtain⟨ma,mc,hmv⟩:=nums_lenI hmk
  have HMK:=Lib.hid hmk
  obtain⟨mm,hmm⟩:∃ mm,mm={ m with bks:=m.bks.set b { k with ins:=k.ins++[x],inv:=.slice na (il+1) nc } }:=⟨_,rfl⟩
  rw[←hmm]at HOK4 HMV4
  have hlive:mm.livev=m.livev∧mm.live=m.live∧mm.next=m.next:=by rw[hmm];exact⟨rfl,rfl,rfl⟩
  have HLIVE:=Lib.hid hlive
  have HOK5:=Lib.hid (HOK4.out.keep hs5)
  have HS5:=Lib.hid hs5
  obtain⟨la,lc,hlv⟩:=own_shape HOK5.out.live
  obtain⟨ln,hln⟩:∃ ln,mm.live.length=ln:=⟨_,rfl⟩
  have hln2:ln≤140000:=by rw[←hln,hlive.2.1];omega
  rw[hln]at hlv
  have HLN:=Lib.hid hln
  have HLV:=Lib.hid hlv
  have hmade:HeapIs w5 mb _ _:=HOK5.out.made
  have c5:w5.cell? ⟨mb,5,none⟩=some (.slice la ln lc):=by rw[←hlv];exact hmade.cell 5
  have hl5:=hmade.lt
  have hf5:=hmade.frozen
  obtain⟨mn,hmn⟩:∃ mn,(fmakes x).length=mn:=⟨_,rfl⟩
  rw[hmn]at hmv
  subst hmv
  have hmn2:mn≤2:=by rw[←hmn];exact fmakes_len x
  have HMN:=Lib.hid hmn
  clear hmk hs5 hmm hln hlv hmade hmn hlive
  go_wp2_with (refine wpList_append_nums2 (base:=0) .i64 rfl _ _ 25 rfl 3 (.int .i64 0) 8 Try.underlying25 Try.info3 rfl (by decide) (.slice la ln lc) _ mm.live (fmakes x) rfl rfl (by have:=HOK5.out.live;rwa [HLV.out]at this) HMK.out (by rw[HLN.out,HMN.out];omega) (Nat.zero_le _) ?_;intro v6 w6 hown6 ht6 hnew6;obtain⟨a6,c6,hv6⟩:=own_shape hown6;rw[show (mm.live++fmakes x).length=ln+mn from by rw[List.length_append,HLN.out,HMN.out]]at hv6;subst hv6;have hM6:HeapIs w6 mb _ _:=HeapIs.turn (show HeapIs w5 mb _ _ from HOK5.out.made) ht6 (by rw[←HLV.out];exact HOK5.out.mb_live);have k5:w6.cell? ⟨mb,5,none⟩=some (.slice la ln lc):=(by rw[←HLV.out];exact hM6.cell 5);have kl:=hM6.lt;have kf:=hM6.frozen;have HOWN6:=Lib.hid hown6;have HT6:=Lib.hid ht6;have HNEW6:=Lib.hid hnew6;clear hM6 hown6 ht6 hnew6)
  go_end0
  have hfin:=HOK5.out.setLive (more:=fmakes x) HOWN6.out (by rw[HLV.out];exact HT6.out) (by rw[HLV.out];exact HNEW6.out) (by rw[HLIVE.out.2.2];exact fmakes_in HG.out)
  refine⟨{ mm with live:=mm.live++fmakes x,livev:=.slice a6 (ln+mn) c6 },⟨rfl,HLIVE.out.2.2⟩,hfin.1,?_⟩
  exact (Mv.keep HMV4.out HS5.out).setLive hfin.2.1 hfin.2.2 (by rw[List.length_append,HLIVE.out.2.1,HMN.out];omega)
 all_goals
  intro p vs w2 hlo hhi ht hph hk
  simp only[List.take,putAll,Act.put,Knows,nthF,Is,List.setIfInBounds_toArray,List.set_cons_zero,List.set_cons_succ,Nat.reduceAdd]at hk ⊢
  try simp only[hk]
 ·go_wp2
  exact⟨_,rfl,rfl,Since.refl _,hph⟩
 ·go_wp2
  exact⟨_,rfl,rfl,Since.refl _,hph⟩
 ·go_wp2
  exact⟨_,rfl,rfl,Since.refl _,hph⟩
 ·go_wp2
  exact⟨_,rfl,rfl,Since.refl _,hph⟩
 ·have hc:w2.cell? ⟨mb,3,none⟩=some (.slice (some ⟨bb,0,none⟩) n n):=HeapIs.cell (show HeapIs w2 mb _ _ from hph.1.made) 3
  have hl:=HeapIs.lt (show HeapIs w2 mb _ _ from hph.1.made)
  go_wp2
  exact⟨_,rfl,rfl,Since.refl _,hph⟩
 ·go_wp2
  exact⟨_,rfl,rfl,Since.refl _,hph⟩
 ·go_wp2
  exact⟨_,rfl,rfl,Since.refl _,hph⟩
 ·go_wp2
  exact⟨_,rfl,rfl,Since.refl _,hph⟩
 ·go_wp2
  exact⟨_,rfl,rfl,Since.refl _,hph⟩
 ·go_wp2
  exact⟨_,rfl,rfl,Since.refl _,hph⟩
 ·have hc:w2.cell? ⟨mb,3,none⟩=some (.slice (some ⟨bb,0,none⟩) n n):=HeapIs.cell (show HeapIs w2 mb _ _ from hph.1.made) 3
  have hl:=HeapIs.lt (show HeapIs w2 mb _ _ from hph.1.made)
  go_wp2
  exact⟨_,rfl,rfl,Since.refl _,hph⟩
 ·go_wp2
  exact⟨_,rfl,rfl,Since.refl _,hph⟩
 ·go_wp2
  exact⟨_,rfl,rfl,Since.refl _,hph⟩
 ·go_wp2
  exact⟨_,rfl,rfl,Since.refl _,hph⟩
 ·have hc:w2.cell? ⟨bb,b*6+1,none⟩=some (.slice ia il ic):=(hph.1.blocks.cell (b*6+1)).trans HCI.out
  have hl:=hph.1.blocks.lt
  go_wp2
  exact⟨_,rfl,rfl,Since.refl _,hph⟩
 ·have hbx:=hph.1.box
  clear hk
  refine wpList_load_row rfl _ _ rfl w.heap.size rfl 181 _ (0,0) _ hbx Try.underlying181 rfl (by kernel_rfl) ?_
  go_wp2
  exact⟨_,rfl,rfl,Since.refl _,hph⟩
 ·have hne:¬ (Value.slice ia il ic).ownBlock=some w2.heap.size:=fun e=>by have:=HIL.out _ e;have:=ht.size;omega
  have hs2:=(Since.refl w2).alloc (.cells (ficells x).toArray 181)
  have HP:=Lib.hid (show AddP w0 w mb bb n x m sv p _ from And.intro (hph.1.keep hs2) (fun (e:p=0)=>(hph.2 e).trans hs2))
  clear hk hph
  unfold fiv
  go_wp2
  exact⟨_,rfl,⟨_,rfl,HeapIs.new _ _ _,hne⟩,hs2,HP.out⟩
 ·obtain rfl:p=0:=by omega
  have hs0:=hph.2 rfl
  obtain⟨b1,hb1,hb2,hb3⟩:OneIns (fun q=>(Value.slice ia il ic).ownBlock=some q) x (vs 16) w2:=hk.2.1
  simp only[hb1]
  have HOK:=Lib.hid (HOK0.out.keep hs0)
  have hrow:=HROW.out.keep hs0
  have HPH:=Lib.hid hph.1
  have HS0:=Lib.hid hs0
  clear hk hph hs0 hb1
  refine wpList_append_one2 ficells 5 ficells_len (by decide) rfl _ _ 174 rfl 181 (.agg #[.int .i64 0,.int .i64 0,.int .i64 0,.slice none 0 0,.int .i32 0]) 56 Try.underlying174 (by kernel_rfl) rfl (.slice ia il ic) k.ins x b1 1 _ rfl rfl hrow hb2 (by unfold ficells;simp[Value.oneCell'];exact HAV.out) (by rw[HILL.out];unfold maxLen;omega) (by rw[HILL.out];omega) (Nat.zero_le _) ?_
  intro v' w3 hown ht3 hnew
  have HA:=Lib.hid (show Appended w0 (.slice ia il ic) (k.ins++[x]) v' w3 from⟨w2,HS0.out,ht3,hnew,hown⟩)
  have HP3:=Lib.hid (HPH.out.turn ht3 HIO.out)
  have HT3:=Lib.hid ht3
  clear hown ht3 hnew hrow hb2 hb3
  go_wp2
  exact⟨_,rfl,HA.out,HT3.out,HP3.out,fun e=>absurd e (by decide)⟩
end
structure MaV where
 m:Mach
 av:Value
def macells (x:MaV):List Value:=[.int .i64 x.m.op,.int .i64 x.m.d,.int .i64 x.m.e,.int .i64 x.m.a,.int .i64 x.m.b,.int .i64 x.m.c,.int .i32 x.m.imm,x.av]
theorem macells_len (x:MaV):(macells x).length=8:=rfl
structure K7 where
 at_:Nat
 next:Int
 l:List MaV
 lv:Value
 base:Nat
def Own7 (kb:Nat) (m:K7) (q:Nat):Prop:=q=kb∨m.lv.ownBlock=some q
def OwnC7 (C:Nat→Prop) (kb:Nat) (m:K7) (q:Nat):Prop:=Own7 kb m q∨C q
structure MGood (m:Mach):Prop where
 imm:In32 m.imm
 few:m.args.length≤4
 args:∀ a∈m.args,0≤a∧a<10000
 d:0≤m.d∧m.d<10000
 e:0≤m.e∧m.e<10000
 a:0≤m.a∧m.a<10000
 b:0≤m.b∧m.b<10000
 c:0≤m.c∧m.c<10000
 op:(m.op=1∨(m.op=3∧-32768≤m.imm∧m.imm≤32767)∨m.op=4∨(5≤m.op∧m.op≤17)∨(m.op=18∧-128≤m.imm∧m.imm≤127)∨(m.op=20∧0≤m.imm∧m.imm≤31)∨m.op=23∨((m.op=24∨m.op=26)∧0≤m.imm∧m.imm≤255)∨m.op=25∨m.op=27∨m.op=28∨m.op=29)
 none:m.op=28∨m.args=[]
structure K7Ok (C:Nat→Prop) (kb:Nat) (sv:Value) (l:List Int) (m:K7) (w:World):Prop where
 made:HeapIs w kb #[sv,.int .i64 m.at_,.int .i64 m.next,m.lv] 173
 src:Ints w sv l∧Stays (OwnC7 C kb m) w sv
 row:OwnRow macells 8 46 m.base w m.lv m.l
 arg:∀ x∈m.l,Ints w x.av x.m.args∧Stays (OwnC7 C kb m) w x.av
 newer:∀ x∈m.l,∀ q,x.av.ownBlock=some q→m.base≤q
 low:m.base≤w.heap.size
 good:∀ x∈m.l,MGood x.m
 aside:∀ q,C q→q<w.heap.size∧¬ Own7 kb m q
structure Mv7 (kb:Nat) (w:World) (m:K7) (w':World) (m':K7) (a n i:Nat):Prop where
 turn:Turn (Own7 kb m) w w'
 new:∀ q,Own7 kb m' q→Own7 kb m q∨w.heap.size≤q
 at_:m'.at_≤m.at_+a
 next:m.next≤m'.next∧m'.next≤m.next+n
 len:m.l.length≤m'.l.length∧m'.l.length≤m.l.length+i
 base:m'.base=m.base
def Sm7 (k:Nat) (m:K7):Prop:=m.at_≤1000*k∧(0≤m.next∧m.next≤100*k)∧m.l.length≤1000*k
def K7Q (C:Nat→Prop) (kb:Nat) (sv:Value) (l:List Int) (w:World) (m:K7) (a n i:Nat) (R:K7→Ending→Prop) (e:Ending) (w':World):Prop:=
 ∃ m',R m' e∧K7Ok C kb sv l m' w'∧Mv7 kb w m w' m' a n i
section
variable {C C':Nat→Prop} {kb:Nat} {sv:Value} {l : List Int} {m m' m'':K7} {w w' w'':World} {a n i a' n' i':Nat}
theorem Mv7.refl (kb:Nat) (w:World) (m:K7):Mv7 kb w m w m 0 0 0:=⟨Turn.refl _ _,fun _ h=>.inl h,by omega,by omega,by omega,rfl⟩
theorem mv7_eq {m1:K7} (e:m1=m') (h:Hid (Mv7 kb w m w' m' a n i)):Hid (Mv7 kb w m w' m1 a n i):=e ▸ h
theorem Mv7.trans (h:Mv7 kb w m w' m' a n i) (k:Mv7 kb w' m' w'' m'' a' n' i'):Mv7 kb w m w'' m'' (a+a') (n+n') (i+i'):=by
 have hz:=h.turn.size
 have h1:Turn (fun q=>Own7 kb m q∨w.heap.size≤q) w w':=h.turn.mono fun _ _ h=>.inl h
 have h2:Turn (fun q=>Own7 kb m q∨w.heap.size≤q) w' w'':=k.turn.mono fun q _ hq=>h.new q hq
 refine⟨(h1.trans h2).mono fun q hq hs=>?_,fun q hq=>?_,by have:=h.at_;have:=k.at_;omega,by have:=h.next;have:=k.next;omega,by have:=h.len;have:=k.len;omega,k.base.trans h.base⟩
 ·rcases hs with hs|hs
  ·exact hs
  ·omega
 ·rcases k.new q hq with h3|h3
  ·exact h.new q h3
  ·exact .inr (by omega)
theorem Mv7.more (h:Mv7 kb w m w' m' a n i) (ha:a≤a') (hn:n≤n') (hi:i≤i'):Mv7 kb w m w' m' a' n' i':=
 ⟨h.turn,h.new,by have:=h.at_;omega,by have:=h.next;omega,by have:=h.len;omega,h.base⟩
theorem Mv7.since (s:Since w w') (h:Mv7 kb w' m w'' m'' a n i):Mv7 kb w m w'' m'' a n i:=
 ⟨(Turn.since s).trans h.turn,fun q hq=>by rcases h.new q hq with h1 | h1;exact .inl h1;exact .inr (Nat.le_trans s.size h1),h.at_,h.next,h.len,h.base⟩
theorem Mv7.keep (h:Mv7 kb w m w' m' a n i) (s:Since w' w''):Mv7 kb w m w'' m' a n i:=
 ⟨h.turn.trans (Turn.since s),h.new,h.at_,h.next,h.len,h.base⟩
theorem Mv7.beside {T : Nat→Prop} (h:Mv7 kb w m w' m' a n i) (t:Turn T w' w'') (hT:∀ q,T q→w.heap.size≤q):Mv7 kb w m w'' m' a n i:=by
 have h1:Turn (fun q=>Own7 kb m q∨w.heap.size≤q) w w':=h.turn.mono fun _ _ h=>.inl h
 have h2:Turn (fun q=>Own7 kb m q∨w.heap.size≤q) w' w'':=t.mono fun q _ hq=>.inr (hT q hq)
 refine⟨(h1.trans h2).mono fun q hq hs=>?_,h.new,h.at_,h.next,h.len,h.base⟩
 rcases hs with hs|hs
 ·exact hs
 ·omega
theorem ownC7_sub {kb:Nat} {m m':K7} {w : World} (h:∀ q,Own7 kb m' q→Own7 kb m q∨w.heap.size≤q):∀ q,OwnC7 C kb m' q→OwnC7 C kb m q∨w.heap.size≤q:=by
 rintro q (hq|hq)
 ·rcases h q hq with h1|h1
  ·exact .inl (.inl h1)
  ·exact .inr h1
 ·exact .inl (.inr hq)
theorem K7Ok.ltOwn (h:K7Ok C kb sv l m w) {q : Nat} (hq:Own7 kb m q):q<w.heap.size:=by
 rcases hq with rfl|hq
 ·exact HeapIs.lt h.made
 ·exact own_some_lt h.row hq
theorem K7Ok.ltOwnC (h:K7Ok C kb sv l m w) {q : Nat} (hq:OwnC7 C kb m q):q<w.heap.size:=by
 rcases hq with hq|hq
 ·exact h.ltOwn hq
 ·exact (h.aside q hq).1
theorem K7Ok.keep (h:K7Ok C kb sv l m w) (s:Since w w'):K7Ok C kb sv l m w':=
 ⟨h.made.keep s,⟨h.src.1.keep s,h.src.2.keep s⟩,OwnRow.keep h.row s,fun x hx=>⟨(h.arg x hx).1.keep s,(h.arg x hx).2.keep s⟩,h.newer,Nat.le_trans h.low s.size,h.good,fun q hq=>⟨Nat.lt_of_lt_of_le (h.aside q hq).1 s.size,(h.aside q hq).2⟩⟩
theorem K7Ok.kb_row (h:K7Ok C kb sv l m w):¬ m.lv.ownBlock=some kb:=own_not (show w.ownsRow _ _ _ _ _ _ from h.row) h.made (by decide)
theorem K7Ok.swapC {T : Nat→Prop} (h:K7Ok C kb sv l m w) (t:Turn T w w') (hT:∀ q,q<w.heap.size→T q→C q) (hC:∀ q,C' q→(C q∨w.heap.size≤q)∧q<w'.heap.size):K7Ok C' kb sv l m w':=by
 have hz:=t.size
 have hno:∀ q,q<w.heap.size→Own7 kb m q→¬ T q:=fun q hl ho ht=>(h.aside q (hT q hl ht)).2 ho
 have hS:∀ q,OwnC7 C' kb m q→OwnC7 C kb m q∨w.heap.size≤q:=by
  rintro q (hq|hq)
  ·exact .inl (.inl hq)
  ·rcases (hC q hq).1 with h1|h1
   ·exact .inl (.inr h1)
   ·exact .inr h1
 have hst:∀ {v : Value},Stays (OwnC7 C kb m) w v→∀ q,v.ownBlock=some q→¬ T q:=fun hv q hq e=>(hv q hq).1 (.inr (hT q (hv q hq).2 e))
 refine⟨h.made.turn t (hno kb h.made.lt (.inl rfl)),⟨h.src.1.turn t (hst h.src.2),h.src.2.mono hS hz⟩,own_turn h.row t fun q hq e=>hno q (own_some_lt h.row hq) (.inr hq) e,fun x hx=>⟨(h.arg x hx).1.turn t (hst (h.arg x hx).2),(h.arg x hx).2.mono hS hz⟩,h.newer,Nat.le_trans h.low hz,h.good,fun q hq=>⟨(hC q hq).2,fun ho=>?_⟩⟩
 rcases (hC q hq).1 with h1|h1
 ·exact (h.aside q h1).2 ho
 ·have:=h.ltOwn ho;omega
theorem K7Ok.box {at':Nat} {next':Int} (h:K7Ok C kb sv l m w) (hm:HeapIs w' kb #[sv,.int .i64 at',.int .i64 next',m.lv] 173) (t:Turn (fun q=>q=kb) w w'):K7Ok C kb sv l { m with at_:=at',next:=next' } w':=by
 have hz:=t.size
 have hT:∀ {v : Value},Stays (OwnC7 C kb m) w v→∀ q,v.ownBlock=some q→¬ q=kb:=fun hv q hq e=>(hv q hq).1 (.inl (.inl e))
 exact⟨hm,⟨h.src.1.turn t (hT h.src.2),h.src.2.mono (fun q hq=>.inl hq) hz⟩,own_turn h.row t fun q hq e=>h.kb_row (e ▸ hq),fun x hx=>⟨(h.arg x hx).1.turn t (hT (h.arg x hx).2),(h.arg x hx).2.mono (fun q hq=>.inl hq) hz⟩,h.newer,Nat.le_trans h.low hz,h.good,fun q hq=>⟨Nat.lt_of_lt_of_le (h.aside q hq).1 hz,(h.aside q hq).2⟩⟩
theorem Mv7.box {at':Nat} {next':Int} (t:Turn (fun q=>q=kb) w w') (ha:at'≤m.at_+a) (hn:m.next≤next'∧next'≤m.next+n):Mv7 kb w m w' { m with at_:=at',next:=next' } a n 0:=
 ⟨t.mono fun q _ h=>.inl h,fun q hq=>.inl hq,ha,hn,⟨Nat.le_refl _,Nat.le_refl _⟩,rfl⟩
theorem K7Ok.put (h:K7Ok C kb sv l m w) {x : MaV} {v':Value} {w1 w2:World} (hown:OwnRow macells 8 46 m.base w1 v' (m.l++[x])) (t:Turn (fun q=>m.lv.ownBlock=some q) w w1) (hnew:NewOr w m.lv v')
  (t2:Turn (fun q=>q=kb) w1 w2) (hm:HeapIs w2 kb #[sv,.int .i64 m.at_,.int .i64 m.next,v'] 173) (hx:Ints w x.av x.m.args∧Stays (OwnC7 C kb m) w x.av) (hxb:∀ q,x.av.ownBlock=some q→m.base≤q) (hg:MGood x.m) (hne:¬ v'.ownBlock=some kb) :
  K7Ok C kb sv l { m with l:=m.l++[x],lv:=v' } w2∧Mv7 kb w m w2 { m with l:=m.l++[x],lv:=v' } 0 0 1:=by
 have ht:Turn (Own7 kb m) w w2:=(t.mono fun q _ hq=>.inr hq).trans (t2.mono fun q _ hq=>.inl hq)
 have hS:∀ q,Own7 kb { m with l:=m.l++[x],lv:=v' } q→Own7 kb m q∨w.heap.size≤q:=by
  rintro q (hq|hq)
  ·exact .inl (.inl hq)
  ·rcases hnew q hq with h1|h1
   ·exact .inl (.inr h1)
   ·exact .inr h1
 have hT:∀ {v : Value},Stays (OwnC7 C kb m) w v→∀ q,v.ownBlock=some q→¬ Own7 kb m q:=fun hv q hq e=>(hv q hq).1 (.inl e)
 refine⟨⟨hm,⟨h.src.1.turn ht (hT h.src.2),h.src.2.mono (ownC7_sub hS) ht.size⟩,own_turn (show w1.ownsRow _ _ _ _ _ _ from hown) t2 fun q hq e=>hne (e ▸ hq),fun y hy=>?_,fun y hy=>?_,Nat.le_trans h.low ht.size,fun y hy=>?_,fun q hq=>⟨Nat.lt_of_lt_of_le (h.aside q hq).1 ht.size,fun ho=>?_⟩⟩,ht,hS,Nat.le_refl _,⟨Int.le_refl _,by show m.next≤m.next+0;omega⟩,by simp,rfl⟩
 ·rcases List.mem_append.1 hy with hy|hy
  ·exact⟨(h.arg y hy).1.turn ht (hT (h.arg y hy).2),(h.arg y hy).2.mono (ownC7_sub hS) ht.size⟩
  ·rw[List.mem_singleton.1 hy]
   exact⟨hx.1.turn ht (hT hx.2),hx.2.mono (ownC7_sub hS) ht.size⟩
 ·rcases List.mem_append.1 hy with hy|hy
  ·exact h.newer y hy
  ·rw[List.mem_singleton.1 hy];exact hxb
 ·rcases List.mem_append.1 hy with hy|hy
  ·exact h.good y hy
  ·rw[List.mem_singleton.1 hy];exact hg
 ·rcases hS q ho with h1|h1
  ·exact (h.aside q hq).2 h1
  ·have:=(h.aside q hq).1;omega
theorem Sm7.mono {k k':Nat} (h:Sm7 k m) (hk:k≤k'):Sm7 k' m:=by
 obtain⟨h1,h2,h3⟩:=h
 exact⟨by omega,by omega,by omega⟩
theorem Sm7.mv {k a n i:Nat} (h:Sm7 k m) (v:Mv7 kb w m w' m' a n i) (ha:a≤1000) (hn:n≤100) (hi:i≤1000):Sm7 (k+1) m':=by
 obtain⟨h1,h2,h3⟩:=h
 have:=v.at_
 have:=v.next
 have:=v.len
 exact⟨by omega,by omega,by omega⟩
theorem Mv7.heap {q : Nat} {cs:Array Value} {T : TypeId} (h:Mv7 kb w m w' m' a n i) (hb:HeapIs w q cs T) (hq:¬ Own7 kb m q):HeapIs w' q cs T:=hb.turn h.turn hq
theorem Mv7.nums {k : IntKind} {v : Value} {xs:List Int} (h:Mv7 kb w m w' m' a n i) (hx:Nums k w v xs) (hv:Stays (OwnC7 C kb m) w v):Nums k w' v xs:=hx.turn h.turn fun q hq e=>(hv q hq).1 (.inl e)
theorem Mv7.stays {v : Value} (h:Mv7 kb w m w' m' a n i) (hv:Stays (OwnC7 C kb m) w v):Stays (OwnC7 C kb m') w' v:=hv.mono (ownC7_sub h.new) h.turn.size
end
end Go.Proofs.Ytkpbmbhejpmboaa
