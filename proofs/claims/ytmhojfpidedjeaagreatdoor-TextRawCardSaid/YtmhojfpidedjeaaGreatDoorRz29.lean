/- The region rule for a region in which two operations turn what was there, one behind the other. -/
import Derived.Test.YtmhojfpidedjeaaGreatDoorRz15
namespace Go.Proofs.YtmhojfpidedjeaaGreatDoor
open Go.RowKit
set_option linter.unusedVariables false
def needsB (l:List Oper) (j i:Nat):Bool:=match l[j]? with | some o=>o.after.toList.any (fun e=>e.on==i&&Region.binds .any e) | none=>false
theorem needsB_at {l : List Oper} {j i:Nat} {listed:Array Bool} (h:needsB l j i=true) (hc:Closed l listed) (hj:listed.getD j false=true):listed.getD i false=true:=by
 unfold needsB at h
 cases ho:l[j]? with
 | none=>rw[ho]at h;cases h
 | some o =>
  rw[ho]at h
  obtain⟨e,he,hb⟩:=List.any_eq_true.1 h
  simp only[Bool.and_eq_true,beq_iff_eq]at hb
  have:=hc j o ho hj e (by simpa using he) hb.2
  rwa [hb.1]at this
def RRt (p p2:Nat) (R R2:World→World→Prop) (k:Nat):World→World→Prop:=cond (Nat.beq k p||Nat.beq k p2) R R2
theorem RRt_le {p p2:Nat} {R R2:World→World→Prop} (h:∀ a b,R2 a b→R a b) (k:Nat) {a b:World} (hk:RRt p p2 R R2 k a b):R a b:=by
 unfold RRt at hk
 cases hb:(Nat.beq k p||Nat.beq k p2) with
 | true=>rw[hb]at hk;exact hk
 | false=>rw[hb]at hk;exact h _ _ hk
theorem RRt_ne {p p2:Nat} {R R2:World→World→Prop} {k : Nat} (hn:k≠p) (hn2:k≠p2) {a b:World} (hk:RRt p p2 R R2 k a b):R2 a b:=by
 unfold RRt at hk
 cases hb:(Nat.beq k p||Nat.beq k p2) with
 | true=>rcases Bool.or_eq_true _ _ |>.mp hb with h | h;exact absurd (Nat.eq_of_beq_eq_true h) hn;exact absurd (Nat.eq_of_beq_eq_true h) hn2
 | false=>rw[hb]at hk;exact hk
def StepsK2 (pv p2:Nat) (R R2:World→World→Prop) (Ph:Nat→World→Prop) (P:Program) (ops:Array Oper) (l:List Oper) (Q:Exit→Act→World→Prop) (F:Nat→Value→World→Prop) (a0:Act) (w0:World):List Oper→List Nat→List Nat→List Nat→Nat→Prop
 | o::r,lo::los,hi::his,inc::incs,k=>(∀ (p:Nat) (vs:Nat→Value) (w:World),lo≤p→p≤hi→R w0 w→Ph p w→Knows F vs w o.after.toList →
   wpList P ops (OneQK (RRt pv p2 R R2 k) Ph Q F k (p+inc) o.dst (putAll l 0 vs a0) w) [o] (putAll l 0 vs a0) w)∧StepsK2 pv p2 R R2 Ph P ops l Q F a0 w0 r los his incs (k+1)
 | _,_,_,_,_=>True
theorem stepsK2_at {pv p2:Nat} {R R2:World→World→Prop} {Ph:Nat→World→Prop} {P : Program} {ops:Array Oper} {l0:List Oper} {Q : Exit→Act→World→Prop} {F : Nat→Value→World→Prop} {a0:Act} {w0:World}:∀ (l:List Oper) (los his incs:List Nat) (k:Nat),StepsK2 pv p2 R R2 Ph P ops l0 Q F a0 w0 l los his incs k→los.length=l.length→his.length=l.length→incs.length=l.length→∀ (i:Nat) (o:Oper),l[i]? = some o→ops[k+i]? = some o →
  ∀ (p:Nat) (vs:Nat→Value) (w:World),los.getD i 0≤p→p≤his.getD i 0→R w0 w→Ph p w→Knows F vs w o.after.toList→∀ K:Act→World→Prop,(∀ a' w',LeftK (RRt pv p2 R R2 (k+i)) Ph F (k+i) (p+incs.getD i 0) o.dst (putAll l0 0 vs a0) w a' w'→K a' w') →
   wpOp P ops Q (k+i) K (putAll l0 0 vs a0) w
 | [],_,_,_,_,_,_,_,_,_,_,h,_=>by cases h
 | _::_,[],_,_,_,_,h,_,_,_,_,_,_=>by simp at h
 | _::_,_::_,[],_,_,_,_,h,_,_,_,_,_=>by simp at h
 | _::_,_::_,_::_,[],_,_,_,_,h,_,_,_,_=>by simp at h
 | p::r,lo::los,hi::his,inc::incs,k,h,_,_,_,0,o,ho,hall=>by
  obtain rfl:p=o:=by simpa using ho
  intro q vs w hlo hhi hw hph hk K hK
  have:=h.1 q vs w hlo hhi hw hph hk
  unfold wpOp
  rw[hall]
  simp only[wpList]at this
  show if _ then _ else _
  split
  ·rename_i hwant
   rw[if_pos hwant]at this
   rcases this with this|⟨h1,h2⟩
   ·exact .inl (Oper.wp_turn (fun _ _ _ h=>h) (fun h=>h) (Oper.wp_mono (fun a' w' h=>hK a' w' h) this))
   ·exact .inr ⟨h1,h2⟩
  ·rename_i hwant
   rw[if_neg hwant]at this
   exact hK _ _ this
 | p::r,lo::los,hi::his,inc::incs,k,h,h1,h2,h3,i+1,o,ho,hall=>by
  have:=stepsK2_at r los his incs (k+1) h.2 (by simpa using h1) (by simpa using h2) (by simpa using h3) i o (by simpa using ho) (by rw[show k+1+i=k+(i+1) from by omega];exact hall)
  rw[show k+1+i=k+(i+1) from by omega]at this
  exact this
section
variable {P : Program} {Q : Exit→Act→World→Prop} {l t0:List Oper} {F : Nat→Value→World→Prop} {a0:Act} {w0:World} {pv p2:Nat} {R R2:World→World→Prop} {Ph:Nat→World→Prop} {keys los his incs:List Nat}
theorem any_factsK2 (hnd:needsB (l++t0) pv p2=true) (hbd:boundsKT (l++t0) l.length keys los his incs=true) (hRt:∀ a b c,R a b→R b c→R a c) (hF:∀ i v w w',i≠pv→F i v w→R w w'→F i v w') (hF2:∀ i v w w',F i v w→R2 w w'→F i v w') (hle:∀ a b,R2 a b→R a b) (hd:dstsApart l=true) (hb:edgesBack (l++t0) 0=true) (hf:forcedA (l++t0) l.length=true)
  (hs:StepsK2 pv p2 R R2 Ph P (l++t0).toArray l Q F a0 w0 l los his incs 0)
  (he:∀ vs w,R w0 w→Ph keys.length w→KnowsAll F vs w 0 l.length→wpList P (l++t0).toArray Q t0 (putAll l 0 vs a0) w) :
  ∀ (fuel:Nat) (listed:Array Bool) (vs:Nat→Value) (w:World),listed.size=(l++t0).length→((List.range (l++t0).length).filter fun i=>!listed.getD i true).length≤fuel→R w0 w→Ph (doneK keys listed) w→Closed (l++t0) listed →
   (∀ i,i<l.length→listed.getD i true=true→F i (vs i) w)→(∀ i,l.length≤i→i<(l++t0).length→listed.getD i true=false)→wpAny P .any (l++t0).toArray Q fuel listed (putAll l 0 vs a0) w:=by
 unfold boundsKT at hbd
 simp only[Bool.and_eq_true,beq_iff_eq,decide_eq_true_eq,List.all_eq_true]at hbd
 obtain⟨⟨⟨⟨hlos,hhis⟩,hincs⟩,hnod⟩,hkeys⟩:=hbd
 have hll:l.length≤(l++t0).length:=by simp
 have hend:∀ (fuel:Nat) (listed:Array Bool) (vs:Nat→Value) (w:World),listed.size=(l++t0).length→((List.range (l++t0).length).filter fun i=>!listed.getD i true).length≤fuel→R w0 w→Ph (doneK keys listed) w→(∀ i,i<l.length→listed.getD i true=true) →
   (∀ i,i<l.length→listed.getD i true=true→F i (vs i) w)→(∀ i,l.length≤i→i<(l++t0).length→listed.getD i true=false)→wpAny P .any (l++t0).toArray Q fuel listed (putAll l 0 vs a0) w:=by
  intro fuel listed vs w hsz hn hw hph hall hk htl
  have hfull:doneK keys listed=keys.length:=by
   unfold doneK
   rw[List.countP_eq_length]
   intro k hk
   have hkl:=hkeys k hk
   rw[same_getD (by omega)]
   exact hall k hkl
  rw[hfull]at hph
  refine run_tail (n0:=l.length) (t0:=t0) hb (by simp) hf t0 0 rfl (by simp) fuel listed _ w hsz hn (fun i hi=>hall i (by omega)) (fun i hi hil=>htl i (by omega) hil) ?_
  exact he vs w hw hph (knowsAll_of F vs w _ 0 fun i _ hi=>hk i (by omega) (hall i (by omega)))
 have hget:∀ i o,i<l.length→(l++t0)[i]? = some o→l[i]? = some o:=fun i o hi h=>by rwa [List.getElem?_append_left hi]at h
 intro fuel
 induction fuel with
 | zero =>
  intro listed vs w hsz hn hw hph hcl hk htl
  refine hend 0 listed vs w hsz hn hw hph (fun i hi=>?_) hk htl
  cases hl:listed.getD i true with
  | true=>rfl
  | false =>
   exfalso
   have:i∈(List.range (l++t0).length).filter fun i=>!listed.getD i true:=by
    rw[List.mem_filter];exact⟨List.mem_range.2 (by omega),by simp[hl]⟩
   have:=List.length_pos_of_mem this
   omega
 | succ fuel ih =>
  intro listed vs w hsz hn hw hph hcl hk htl
  by_cases hallL:∀ i,i<l.length→listed.getD i true=true
  ·exact hend (fuel+1) listed vs w hsz hn hw hph hallL hk htl
  ·refine⟨fun hr=>?_,fun i hi=>?_⟩
   ·exfalso
    apply hallL
    have all:∀ (n i:Nat),i<n→i<l.length→listed.getD i true=true:=by
     intro n
     induction n with
     | zero=>intro i h;omega
     | succ n ihn =>
      intro i h1 h2
      cases hl:listed.getD i true with
      | true=>rfl
      | false =>
       exfalso
       have:i∈Region.ready .any (l++t0).toArray listed:=by
        rw[mem_ready]
        have ho:(l++t0)[i]? = some l[i]:=by rw[List.getElem?_append_left h2];exact List.getElem?_eq_getElem h2
        refine⟨hl,l[i],by simpa using ho,fun e hee hbd=>?_⟩
        have hlt:=edges_back (l++t0) 0 hb i l[i] ho e hee hbd
        rw[same_getD (by omega)]
        exact ihn e.on (by omega) (by omega)
       rw[hr]at this
       cases this
    exact fun i hi=>all (i+1) i (by omega) hi
   ·rw[mem_ready]at hi
    obtain⟨h1,o,ho,hpre⟩:=hi
    have hol':(l++t0)[i]? = some o:=by simpa using ho
    have hlt':i<(l++t0).length:=(List.getElem?_eq_some_iff.1 hol').1
    have hlt:i<l.length:=by
     by_cases h:i<l.length
     ·exact h
     ·exfalso
      apply hallL
      intro j hj
      have:=forced_listed hf hcl hol' (by omega) hpre (i:=j) (by omega)
      rwa [same_getD (by omega)]at this
    have hol:=hget i o hlt hol'
    have hknow:Knows F vs w o.after.toList:=by
     refine knows_of F vs w _ fun e hee hbind=>?_
     have hee':e∈o.after:=by simpa using hee
     have hlt2:=edges_back (l++t0) 0 hb i o hol' e hee' hbind
     have hon:e.on<l.length:=by omega
     refine hk e.on hon ?_
     rw[←same_getD (by omega)]
     exact hpre e hee' hbind
    have hil:listed.getD i false=false:=by rw[same_getD (by omega)];exact h1
    have hlo:los.getD i 0≤doneK keys listed:=by
     rw[hlos]
     simp only[List.getD_eq_getElem?_getD,List.getElem?_map,List.getElem?_range hlt,Option.map_some,Option.getD_some]
     exact List.countP_mono_left fun k _ hk2=>ahead_listed hcl _ _ _ hk2 o hol' hpre
    have hhi:doneK keys listed≤his.getD i 0:=by
     rw[hhis]
     simp only[List.getD_eq_getElem?_getD,List.getElem?_map,List.getElem?_range hlt,Option.map_some,Option.getD_some]
     refine List.countP_mono_left fun k hkm hk2=>?_
     simp only[Bool.and_eq_true,Bool.not_eq_true',beq_eq_false_iff_ne]
     refine⟨?_,fun e=>by rw[e,hil]at hk2;cases hk2⟩
     cases hah:aheadB (l++t0) (l++t0).length i k with
     | false=>rfl
     | true =>
      exfalso
      have hkl:k<(l++t0).length:=Nat.lt_of_lt_of_le (hkeys k hkm) hll
      have ho2:(l++t0)[k]? = some (l++t0)[k]:=List.getElem?_eq_getElem hkl
      have:=ahead_listed hcl _ _ _ hah _ ho2 (hcl k _ ho2 hk2)
      rw[hil]at this;cases this
    have hinc:incs.getD i 0=if keys.contains i then 1 else 0:=by
     rw[hincs]
     simp only[List.getD_eq_getElem?_getD,List.getElem?_map,List.getElem?_range hlt,Option.map_some,Option.getD_some]
    have hstep:=stepsK2_at l los his incs 0 hs (by rw[hlos];simp) (by rw[hhis];simp) (by rw[hincs];simp) i o hol (by simpa using hol') (doneK keys listed) vs w hlo hhi hw hph hknow
    simp only[Nat.zero_add]at hstep
    refine hstep _ fun a' w' ⟨v,ha',hv,hw',hph'⟩=>?_
    subst ha'
    have e:=putAll_upd v l 0 vs a0 i o hol hd
    rw[Nat.zero_add]at e
    rw[←e]
    refine ih (listed.setIfInBounds i true) (upd vs i v) w' (by simpa using hsz) ?_ (hRt _ _ _ hw (RRt_le hle i hw')) ?_ ?_ ?_ ?_
    ·have e2:((List.range (l++t0).length).filter fun j=>!(listed.setIfInBounds i true).getD j true)=((List.range (l++t0).length).filter fun j=>!listed.getD j true).filter fun j=>j != i:=by
      rw[List.filter_filter]
      refine List.filter_congr fun j hj=>?_
      by_cases hji:j=i
      ·subst hji
       have hin:j<listed.size:=by omega
       simp[Array.getD_eq_getD_getElem?,hin]
      ·rw[getD_set_ne _ (Ne.symm hji)];simp[hji]
     rw[e2]
     have hmem:i∈(List.range (l++t0).length).filter fun j=>!listed.getD j true:=by
      rw[List.mem_filter];exact⟨List.mem_range.2 hlt',by simp[h1]⟩
     have:=(List.length_filter_lt_length_iff_exists (p:=fun j=>j != i) (l:=(List.range (l++t0).length).filter fun j=>!listed.getD j true)).2 ⟨i,hmem,by simp⟩
     omega
    ·rw[hinc]at hph'
     by_cases hik:i∈keys
     ·rw[doneK_more (by omega) hil hnod hik]
      rw[if_pos (by simpa using hik)]at hph'
      exact hph'
     ·rw[doneK_same hik]
      rw[if_neg (by simpa using hik)]at hph'
      exact hph'
    ·intro j p hp hjl x hx hbx
     by_cases hji:j=i
     ·subst hji
      have:=hol'.symm.trans hp;cases this
      exact getD_set_true (hpre x hx hbx)
     ·rw[getD_set_ne _ (Ne.symm hji)]at hjl
      exact getD_set_true (hcl j p hp hjl x hx hbx)
    ·intro j hj hlj
     by_cases hji:j=i
     ·subst hji;rw[upd_same];exact hv
     ·rw[upd_other _ _ hji]
      rw[getD_set_ne _ (Ne.symm hji)]at hlj
      by_cases hip:i=pv
      ·subst hip
       exact hF _ _ _ _ hji (hk j hj hlj) (RRt_le hle i hw')
      ·by_cases hip2:i=p2
       ·refine hF _ _ _ _ (fun hjp=>?_) (hk j hj hlj) (RRt_le hle i hw')
        subst hjp hip2
        have hon:=needsB_at hnd hcl (by rw[same_getD (by omega)];exact hlj)
        rw[hil]at hon;cases hon
       ·exact hF2 _ _ _ _ (hk j hj hlj) (RRt_ne hip hip2 hw')
    ·intro j hj hjl
     rw[getD_set_ne _ (by omega)]
     exact htl j hj hjl
end
theorem wp_region_two {P : Program} {Q : Exit→Act→World→Prop} {all:List Oper} {a0:Act} {w0:World} {id:Nat} (n pv p2:Nat) (keys los his incs:List Nat) (S:Nat→Prop) (Ph:Nat→World→Prop) (hm:P.follows .mixedOrders=true) (hnd:needsB all pv p2=true)
  (hd:dstsApart (all.take n)=true) (hb:edgesBack all 0=true) (hf:forcedA all n=true) (hn:n≤all.length) (hbd:boundsKT all n keys los his incs=true) (Fs:List (Value→World→Prop)) (hF:AllBut S pv Fs 0) (hF2:AllStable Fs) (hph:Ph 0 w0.drew)
  (hs:StepsK2 pv p2 (Turn S) Since Ph P all.toArray (all.take n) Q (nthF Fs) a0 w0 (all.take n) los his incs 0)
  (he:∀ vs w,Turn S w0 w→Ph keys.length w→KnowsAll (nthF Fs) vs w 0 n→wpList P all.toArray Q (all.drop n) (putAll (all.take n) 0 vs a0) w):(Code.region id all.toArray true).wp P Q a0 w0:=by
 refine wp_region_any hm ?_
 have hln:(all.take n).length=n:=by rw[List.length_take];omega
 have hcat:all.take n++all.drop n=all:=List.take_append_drop n all
 have e:=putAll_old (oldAt (all.take n) a0) a0 (all.take n) 0 (fun i o d hi hdst=>by simp only[oldAt,Nat.zero_add,hi,Option.bind_some,hdst])
 have h:=any_factsK2 (hnd:=by rw[hcat];exact hnd) (l:=all.take n) (t0:=all.drop n) (P:=P) (Q:=Q) (F:=nthF Fs) (a0:=a0) (w0:=w0) (pv:=pv) (p2:=p2) (R:=Turn S) (R2:=Since) (by rw[hcat,hln];exact hbd) (fun _ _ _=>Turn.trans) (fun i v w w' hi hv ht=>nthF_but Fs 0 hF i v w w' (by omega) hv ht) (nthF_stable Fs hF2) (fun a b h=>Turn.since h) hd (by rw[hcat];exact hb) (by rw[hcat,hln];exact hf) (by rw[hcat];exact hs) (by rw[hcat,hln];exact he)
  all.length (Array.replicate all.length false) (oldAt (all.take n) a0) { w0 with drawn:=w0.drawn+1 } (by rw[hcat];simp) (by rw[hcat];exact Nat.le_trans (List.length_filter_le _ _) (by simp)) (Turn.since (Since.refl w0).drew)
  (by
   have:doneK keys (Array.replicate all.length false)=0:=by
    unfold doneK
    rw[List.countP_eq_zero]
    intro k _
    simp[Array.getD_eq_getD_getElem?,Array.getElem?_replicate]
    split<;>rfl
   rw[this]
   exact hph)
  (fun i o ho hl=>by
   have hi:i<all.length:=by rw[←hcat];exact (List.getElem?_eq_some_iff.1 ho).1
   simp[Array.getD_eq_getD_getElem?,hi]at hl)
  (fun i hi hl=>by
   have:i<all.length:=by omega
   simp[Array.getD_eq_getD_getElem?,this]at hl)
  (fun i _ hi=>by
   rw[hcat]at hi
   simp[Array.getD_eq_getD_getElem?,hi])
 rw[e,hcat]at h
 simpa using h
end Go.Proofs.YtmhojfpidedjeaaGreatDoor
