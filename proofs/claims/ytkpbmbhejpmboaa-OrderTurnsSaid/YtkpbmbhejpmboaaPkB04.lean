/- The rule of XRegion over any relation between the world before and behind an operation. The rule of XRegion for a region whose last operations come in one order, behind all others (x := T{..} with calls: the block is made whenever, and is filled last). The rule of XRegion5 (phases) for a region whos -/
import Derived.Test.YtkpbmbhejpmboaaPkB02
import Derived.Test.YtkpbmbhejpmboaaPkB03
namespace Go.Proofs.Ytkpbmbhejpmboaa
open Go.RowKit
def LeftR (R:World→World→Prop) (F:Nat→Value→World→Prop) (i:Nat) (dst:Option Tmp) (a:Act) (w:World) (a':Act) (w':World):Prop:=∃ v,a'=a.put dst v∧F i v w'∧R w w'
def OneQR (R:World→World→Prop) (Q:Exit→Act→World→Prop) (F:Nat→Value→World→Prop) (i:Nat) (dst:Option Tmp) (a:Act) (w:World):Exit→Act→World→Prop
 | .normal,a',w'=>LeftR R F i dst a w a' w'
 | e,a',w'=>Q e a' w'
def StepsR (R:World→World→Prop) (P:Program) (all:Array Oper) (Q:Exit→Act→World→Prop) (F:Nat→Value→World→Prop) (a0:Act) (w0:World):List Oper→Nat→Prop
 | [],_=>True
 | o::r,k=>(∀ (vs:Nat→Value) (w:World),R w0 w→Knows F vs w o.after.toList→(∀ j,predB all.toList k j=true→vs j=oldAt all.toList a0 j) →
   wpList P all (OneQR R Q F k o.dst (putAll all.toList 0 vs a0) w) [o] (putAll all.toList 0 vs a0) w)∧StepsR R P all Q F a0 w0 r (k+1)
theorem stepsR_at {R : World→World→Prop} {P : Program} {all:Array Oper} {Q : Exit→Act→World→Prop} {F : Nat→Value→World→Prop} {a0:Act} {w0:World}:∀ (l:List Oper) (k:Nat),StepsR R P all Q F a0 w0 l k→∀ (i:Nat) (o:Oper),l[i]? = some o→all[k+i]? = some o →
  ∀ (vs:Nat→Value) (w:World),R w0 w→Knows F vs w o.after.toList→(∀ j,predB all.toList (k+i) j=true→vs j=oldAt all.toList a0 j)→∀ K:Act→World→Prop,(∀ a' w',LeftR R F (k+i) o.dst (putAll all.toList 0 vs a0) w a' w'→K a' w') →
   wpOp P all Q (k+i) K (putAll all.toList 0 vs a0) w
 | [],_,_,_,_,h,_=>by cases h
 | p::r,k,h,0,o,ho,hall=>by
  obtain rfl:p=o:=by simpa using ho
  intro vs w hw hk hold K hK
  have:=h.1 vs w hw hk hold
  unfold wpOp
  rw[hall]
  simp only[wpList]at this
  show if _ then _ else _
  split
  ·rename_i hwant
   rw[if_pos hwant]at this
   rcases this with this|⟨h1,h2⟩
   ·exact .inl (Oper.wp_turn (fun _ _ _ h=>h) (fun h=>h) (Oper.wp_mono (fun a' w' h=>hK a' w' h) this))
   ·exact .inr ⟨h1,h2⟩
  ·rename_i hwant
   rw[if_neg hwant]at this
   exact hK _ _ this
 | p::r,k,h,i+1,o,ho,hall=>by
  have:=stepsR_at r (k+1) h.2 i o (by simpa using ho) (by rw[show k+1+i=k+(i+1) from by omega];exact hall)
  rw[show k+1+i=k+(i+1) from by omega]at this
  exact this
section
variable {P : Program} {Q : Exit→Act→World→Prop} {l : List Oper} {F : Nat→Value→World→Prop} {a0:Act} {w0:World} {R : World→World→Prop}
theorem any_factsR (hRt:∀ a b c,R a b→R b c→R a c) (hF:∀ i v w w',F i v w→R w w'→F i v w') (hd:dstsApart l=true) (hb:edgesBack l 0=true)
  (hs:StepsR R P l.toArray Q F a0 w0 l 0)
  (he:∀ vs w,R w0 w→KnowsAll F vs w 0 l.length→Q .normal (putAll l 0 vs a0) w) :
  ∀ (fuel:Nat) (listed:Array Bool) (vs:Nat→Value) (w:World),listed.size=l.length→((List.range l.length).filter fun i=>!listed.getD i true).length≤fuel→R w0 w→Closed l listed→(∀ j,j<l.length→listed.getD j true=false→vs j=oldAt l a0 j) →
   (∀ i,i<l.length→listed.getD i true=true→F i (vs i) w)→wpAny P .any l.toArray Q fuel listed (putAll l 0 vs a0) w:=by
 have hend:∀ (listed:Array Bool) (vs:Nat→Value) (w:World),listed.size=l.length→Region.ready .any l.toArray listed=[]→R w0 w →
   (∀ i,i<l.length→listed.getD i true=true→F i (vs i) w)→Q .normal (putAll l 0 vs a0) w:=by
  intro listed vs w hsz hr hw hk
  refine he vs w hw (knowsAll_of F vs w _ 0 fun i _ hi=>hk i (by omega) ?_)
  have all:∀ (n i:Nat),i<n→i<l.length→listed.getD i true=true:=by
   intro n
   induction n with
   | zero=>intro i h;omega
   | succ n ih =>
    intro i h1 h2
    cases hl:listed.getD i true with
    | true=>rfl
    | false =>
     exfalso
     have:i∈Region.ready .any l.toArray listed:=by
      rw[mem_ready]
      have ho:l[i]? = some l[i]:=List.getElem?_eq_getElem h2
      refine⟨hl,l[i],by simp,fun e hee hbd=>?_⟩
      have hlt:=edges_back l 0 hb i l[i] ho e hee hbd
      have:=ih e.on (by omega) (by omega)
      have hin:e.on<listed.size:=by omega
      rw[Array.getD_eq_getD_getElem?,Array.getElem?_eq_getElem hin]at this ⊢
      simpa using this
     rw[hr]at this
     cases this
  exact all (i+1) i (by omega) (by omega)
 have hsame:∀ (listed:Array Bool) (i:Nat),listed.size=l.length→i<l.length→listed.getD i false=listed.getD i true:=by
  intro listed i hsz hi
  have hin:i<listed.size:=by omega
  rw[Array.getD_eq_getD_getElem?,Array.getD_eq_getD_getElem?,Array.getElem?_eq_getElem hin];rfl
 intro fuel
 induction fuel with
 | zero =>
  intro listed vs w hsz hn hw _ _ hk
  have hr:Region.ready .any l.toArray listed=[]:=by
   rw[List.eq_nil_iff_forall_not_mem]
   intro i hi
   rw[mem_ready]at hi
   obtain⟨h1,o,ho,_⟩:=hi
   have hlt:i<l.length:=by simpa using (Array.getElem?_eq_some_iff.1 ho).1
   have:i∈(List.range l.length).filter fun i=>!listed.getD i true:=by
    rw[List.mem_filter];exact⟨List.mem_range.2 hlt,by simp[h1]⟩
   have:=List.length_pos_of_mem this
   omega
  exact⟨hr,hend listed vs w hsz hr hw hk⟩
 | succ fuel ih =>
  intro listed vs w hsz hn hw hcl hold hk
  refine⟨fun hr=>hend listed vs w hsz hr hw hk,fun i hi=>?_⟩
  rw[mem_ready]at hi
  obtain⟨h1,o,ho,hpre⟩:=hi
  have hol:l[i]? = some o:=by simpa using ho
  have hlt:i<l.length:=(List.getElem?_eq_some_iff.1 hol).1
  have hknow:Knows F vs w o.after.toList:=by
   refine knows_of F vs w _ fun e hee hbind=>?_
   have hee':e∈o.after:=by simpa using hee
   have hlt2:=edges_back l 0 hb i o hol e hee' hbind
   have hon:e.on<l.length:=by omega
   refine hk e.on hon ?_
   have:=hpre e hee' hbind
   have hin:e.on<listed.size:=by omega
   rw[Array.getD_eq_getD_getElem?,Array.getElem?_eq_getElem hin]at this ⊢
   simpa using this
  have hstep:=stepsR_at l 0 hs i o hol (by simpa using hol) vs w hw hknow (by
   intro j hj
   rw[Nat.zero_add]at hj
   change predB l i j=true at hj
   unfold predB at hj
   cases hoj:l[j]? with
   | none=>rw[hoj]at hj;cases hj
   | some oj =>
    rw[hoj]at hj
    simp only[List.any_eq_true,Bool.and_eq_true,beq_iff_eq]at hj
    obtain⟨e,he,heq,hbe⟩:=hj
    have hjl:j<l.length:=(List.getElem?_eq_some_iff.1 hoj).1
    refine hold j hjl ?_
    rw[←hsame listed j hsz hjl]
    cases hlj:listed.getD j false with
    | false=>rfl
    | true =>
     have:=hcl j oj hoj hlj e (by simpa using he) hbe
     rw[heq,hsame listed i hsz hlt,h1]at this;cases this)
  rw[Nat.zero_add]at hstep
  refine hstep _ fun a' w' ⟨v,ha',hv,hw'⟩=>?_
  subst ha'
  have e:=putAll_upd v l 0 vs a0 i o hol hd
  rw[Nat.zero_add]at e
  rw[show l.toArray.toList=l from rfl,←e]
  refine ih (listed.setIfInBounds i true) (upd vs i v) w' (by simpa using hsz) ?_ (hRt _ _ _ hw hw') ?_ ?_ ?_
  ·have e2:((List.range l.length).filter fun j=>!(listed.setIfInBounds i true).getD j true)=((List.range l.length).filter fun j=>!listed.getD j true).filter fun j=>j != i:=by
    rw[List.filter_filter]
    refine List.filter_congr fun j hj=>?_
    by_cases hji:j=i
    ·subst hji
     have hin:j<listed.size:=by omega
     simp[Array.getD_eq_getD_getElem?,hin]
    ·rw[getD_set_ne _ (Ne.symm hji)];simp[hji]
   rw[e2]
   have hmem:i∈(List.range l.length).filter fun j=>!listed.getD j true:=by
    rw[List.mem_filter];exact⟨List.mem_range.2 hlt,by simp[h1]⟩
   have:=(List.length_filter_lt_length_iff_exists (p:=fun j=>j != i) (l:=(List.range l.length).filter fun j=>!listed.getD j true)).2 ⟨i,hmem,by simp⟩
   omega
  ·intro j p hp hjl x hx hbx
   by_cases hji:j=i
   ·subst hji
    have:=hol.symm.trans hp;cases this
    exact getD_set_true (hpre x hx hbx)
   ·rw[getD_set_ne _ (Ne.symm hji)]at hjl
    exact getD_set_true (hcl j p hp hjl x hx hbx)
  ·intro j hj hlj
   by_cases hji:j=i
   ·subst hji
    have hin:j<listed.size:=by omega
    simp[Array.getD_eq_getD_getElem?,hin]at hlj
   ·rw[upd_other _ _ hji]
    rw[getD_set_ne _ (Ne.symm hji)]at hlj
    exact hold j hj hlj
  ·intro j hj hlj
   by_cases hji:j=i
   ·subst hji;rw[upd_same];exact hv
   ·rw[upd_other _ _ hji]
    rw[getD_set_ne _ (Ne.symm hji)]at hlj
    exact hF _ _ _ _ (hk j hj hlj) hw'
theorem wp_region_rel {id:Nat} (R:World→World→Prop) (hRt:∀ a b c,R a b→R b c→R a c) (hRd:R w0 w0.drew) (hm:P.follows .mixedOrders=true) (hd:dstsApart l=true) (hb:edgesBack l 0=true) (F:Nat→Value→World→Prop) (hF:∀ i v w w',F i v w→R w w'→F i v w')
  (hs:StepsR R P l.toArray Q F a0 w0 l 0)
  (he:∀ vs w,R w0 w→KnowsAll F vs w 0 l.length→Q .normal (putAll l 0 vs a0) w):(Code.region id l.toArray true).wp P Q a0 w0:=by
 refine wp_region_any hm ?_
 have e:=putAll_old (oldAt l a0) a0 l 0 (fun i o d hi hdst=>by simp[oldAt,hi,hdst])
 have h:=any_factsR hRt hF hd hb hs he l.length (Array.replicate l.length false) (oldAt l a0) { w0 with drawn:=w0.drawn+1 } (by simp) (Nat.le_trans (List.length_filter_le _ _) (by simp)) hRd
  (fun i o ho hl=>by
   have hi:i<l.length:=(List.getElem?_eq_some_iff.1 ho).1
   simp[Array.getD_eq_getD_getElem?,hi]at hl)
  (fun _ _ _=>rfl)
  (fun i hi hl=>by simp[Array.getD_eq_getD_getElem?,hi]at hl)
 rw[e]at h
 simpa using h
end
def StepsT (R:World→World→Prop) (P:Program) (ops:Array Oper) (l:List Oper) (Q:Exit→Act→World→Prop) (F:Nat→Value→World→Prop) (a0:Act) (w0:World):List Oper→Nat→Prop
 | [],_=>True
 | o::r,k=>(∀ (vs:Nat→Value) (w:World),R w0 w→Knows F vs w o.after.toList→(∀ j,predB l k j=true→vs j=oldAt l a0 j) →
   wpList P ops (OneQR R Q F k o.dst (putAll l 0 vs a0) w) [o] (putAll l 0 vs a0) w)∧StepsT R P ops l Q F a0 w0 r (k+1)
theorem stepsT_at {R : World→World→Prop} {P : Program} {ops:Array Oper} {l0:List Oper} {Q : Exit→Act→World→Prop} {F : Nat→Value→World→Prop} {a0:Act} {w0:World}:∀ (l:List Oper) (k:Nat),StepsT R P ops l0 Q F a0 w0 l k→∀ (i:Nat) (o:Oper),l[i]? = some o→ops[k+i]? = some o →
  ∀ (vs:Nat→Value) (w:World),R w0 w→Knows F vs w o.after.toList→(∀ j,predB l0 (k+i) j=true→vs j=oldAt l0 a0 j)→∀ K:Act→World→Prop,(∀ a' w',LeftR R F (k+i) o.dst (putAll l0 0 vs a0) w a' w'→K a' w') →
   wpOp P ops Q (k+i) K (putAll l0 0 vs a0) w
 | [],_,_,_,_,h,_=>by cases h
 | p::r,k,h,0,o,ho,hall=>by
  obtain rfl:p=o:=by simpa using ho
  intro vs w hw hk hold K hK
  have:=h.1 vs w hw hk hold
  unfold wpOp
  rw[hall]
  simp only[wpList]at this
  show if _ then _ else _
  split
  ·rename_i hwant
   rw[if_pos hwant]at this
   rcases this with this|⟨h1,h2⟩
   ·exact .inl (Oper.wp_turn (fun _ _ _ h=>h) (fun h=>h) (Oper.wp_mono (fun a' w' h=>hK a' w' h) this))
   ·exact .inr ⟨h1,h2⟩
  ·rename_i hwant
   rw[if_neg hwant]at this
   exact hK _ _ this
 | p::r,k,h,i+1,o,ho,hall=>by
  have:=stepsT_at r (k+1) h.2 i o (by simpa using ho) (by rw[show k+1+i=k+(i+1) from by omega];exact hall)
  rw[show k+1+i=k+(i+1) from by omega]at this
  exact this
def forcedA (all:List Oper) (n:Nat):Bool:=
 (List.range all.length).all fun k=>decide (k<n)||(List.range k).all fun i=>predB all i k||aheadB all all.length i k
theorem forced_listed {all:List Oper} {n : Nat} (hf:forcedA all n=true) {listed:Array Bool} (hc:Closed all listed) {k : Nat} {o : Oper} (ho:all[k]? = some o) (hk:n≤k) (hp:∀ e∈o.after,Region.binds .any e=true→listed.getD e.on false=true) {i : Nat} (hi:i<k):listed.getD i false=true:=by
 unfold forcedA at hf
 rw[List.all_eq_true]at hf
 have h1:=hf k (List.mem_range.2 (List.getElem?_eq_some_iff.1 ho).1)
 rw[Bool.or_eq_true,decide_eq_true_eq]at h1
 rcases h1 with h1|h1
 ·omega
 rw[List.all_eq_true]at h1
 have h2:=h1 i (List.mem_range.2 hi)
 rw[Bool.or_eq_true]at h2
 rcases h2 with h2|h2
 ·unfold predB at h2
  rw[ho]at h2
  simp only[List.any_eq_true,Bool.and_eq_true,beq_iff_eq]at h2
  obtain⟨e,he,heq,hb⟩:=h2
  rw[←heq]
  exact hp e (by simpa using he) hb
 ·exact ahead_listed hc _ _ _ h2 o ho hp
section
variable {P : Program} {Q : Exit→Act→World→Prop} {l t0:List Oper} {F : Nat→Value→World→Prop} {a0:Act} {w0:World} {R : World→World→Prop}
theorem same_getD {listed:Array Bool} {i : Nat} (h:i<listed.size):listed.getD i false=listed.getD i true:=by
 rw[Array.getD_eq_getD_getElem?,Array.getD_eq_getD_getElem?,Array.getElem?_eq_getElem h];rfl
theorem run_tail {all:List Oper} {n0:Nat} (hb:edgesBack all 0=true) (hall:all.drop n0=t0) (hf:forcedA all n0=true):∀ (t:List Oper) (k:Nat),t0.drop k=t→n0+k≤all.length →
  ∀ (fuel:Nat) (listed:Array Bool) (a:Act) (w:World),listed.size=all.length→((List.range all.length).filter fun i=>!listed.getD i true).length≤fuel →
   (∀ i,i<n0+k→listed.getD i true=true)→(∀ i,n0+k≤i→i<all.length→listed.getD i true=false)→wpList P all.toArray Q t a w→wpAny P .any all.toArray Q fuel listed a w:=by
 intro t
 induction t with
 | nil =>
  intro k hk hkl fuel listed a w hsz hfu h1 h2 hw
  have hlen:all.length≤n0+k:=by
   have:(t0.drop k).length=0:=by rw[hk];rfl
   rw[←hall,List.length_drop,List.length_drop]at this
   omega
  have hr:Region.ready .any all.toArray listed=[]:=by
   rw[List.eq_nil_iff_forall_not_mem]
   intro i hi
   rw[mem_ready]at hi
   obtain⟨h3,o,ho,_⟩:=hi
   have hlt:i<all.length:=by simpa using (Array.getElem?_eq_some_iff.1 ho).1
   rw[h1 i (by omega)]at h3
   cases h3
  cases fuel with
  | zero=>exact⟨hr,hw⟩
  | succ fuel=>exact⟨fun _=>hw,fun i hi=>by rw[hr]at hi;cases hi⟩
 | cons o r ih =>
  intro k hk hkl fuel listed a w hsz hfu h1 h2 hw
  have hok:all[n0+k]? = some o:=by
   have e:(t0.drop k)[0]? = some o:=by rw[hk];rfl
   rw[←hall,List.drop_drop,List.getElem?_drop]at e
   simpa using e
  have hlt:n0+k<all.length:=(List.getElem?_eq_some_iff.1 hok).1
  have hmem:n0+k∈(List.range all.length).filter fun i=>!listed.getD i true:=by
   rw[List.mem_filter];exact⟨List.mem_range.2 hlt,by rw[h2 _ (Nat.le_refl _) hlt];rfl⟩
  have hpos:=List.length_pos_of_mem hmem
  cases fuel with
  | zero=>omega
  | succ fuel =>
   refine⟨fun hr=>?_,fun i hi=>?_⟩
   ·exfalso
    have:n0+k∈Region.ready .any all.toArray listed:=by
     rw[mem_ready]
     refine⟨h2 _ (Nat.le_refl _) hlt,o,by simpa using hok,fun e he hbd=>?_⟩
     have:=edges_back all 0 hb (n0+k) o hok e he hbd
     rw[same_getD (by omega)]
     exact h1 _ (by omega)
    rw[hr]at this
    cases this
   ·rw[mem_ready]at hi
    obtain⟨h3,p,hp,hpre⟩:=hi
    have hpl:all[i]? = some p:=by simpa using hp
    have hil:i<all.length:=(List.getElem?_eq_some_iff.1 hpl).1
    have hge:n0+k≤i:=by
     by_cases hlt2:i<n0+k
     ·rw[h1 i hlt2]at h3;cases h3
     ·omega
    obtain rfl:i=n0+k:=by
     by_cases he:i=n0+k
     ·exact he
     ·exfalso
      have hc:Closed all listed:=by
       intro j q hq hlj e he hbd
       have hjl:j<all.length:=(List.getElem?_eq_some_iff.1 hq).1
       have hej:=edges_back all 0 hb j q hq e he hbd
       rw[same_getD (by omega)]at hlj ⊢
       by_cases hjk:j<n0+k
       ·exact h1 _ (by omega)
       ·rw[h2 j (by omega) hjl]at hlj;cases hlj
      have:=forced_listed hf hc hpl (by omega) hpre (i:=n0+k) (by omega)
      rw[same_getD (by omega),h2 _ (Nat.le_refl _) hlt]at this
      cases this
    have:=hpl.symm.trans hok
    cases this
    have hnext:∀ a' w',wpList P all.toArray Q r a' w'→wpAny P .any all.toArray Q fuel (listed.setIfInBounds (n0+k) true) a' w':=by
     intro a' w' hw'
     refine ih (k+1) (by rw[←List.drop_drop,hk];rfl) (by omega) fuel _ a' w' (by simpa using hsz) ?_ ?_ ?_ hw'
     ·have e2:((List.range all.length).filter fun j=>!(listed.setIfInBounds (n0+k) true).getD j true)=((List.range all.length).filter fun j=>!listed.getD j true).filter fun j=>j != n0+k:=by
       rw[List.filter_filter]
       refine List.filter_congr fun j hj=>?_
       by_cases hji:j=n0+k
       ·subst hji
        have hin:n0+k<listed.size:=by omega
        simp[Array.getD_eq_getD_getElem?,hin]
       ·rw[getD_set_ne _ (Ne.symm hji)];simp[hji]
      rw[e2]
      have:=(List.length_filter_lt_length_iff_exists (p:=fun j=>j != n0+k) (l:=(List.range all.length).filter fun j=>!listed.getD j true)).2 ⟨n0+k,hmem,by simp⟩
      omega
     ·intro j hj
      by_cases hji:j=n0+k
      ·subst hji
       have hin:n0+k<listed.size:=by omega
       simp[Array.getD_eq_getD_getElem?,hin]
      ·rw[getD_set_ne _ (Ne.symm hji)];exact h1 j (by omega)
     ·intro j hj hjl
      rw[getD_set_ne _ (by omega)];exact h2 j (by omega) hjl
    unfold wpOp
    rw[hp]
    simp only[wpList]at hw
    show if _ then _ else _
    split
    ·rename_i hwant
     rw[if_pos hwant]at hw
     rcases hw with hw|⟨g1,g2⟩
     ·exact .inl (Oper.wp_mono hnext hw)
     ·exact .inr ⟨g1,g2⟩
    ·rename_i hwant
     rw[if_neg hwant]at hw
     exact hnext _ _ hw
theorem any_factsT (hRt:∀ a b c,R a b→R b c→R a c) (hF:∀ i v w w',F i v w→R w w'→F i v w') (hd:dstsApart l=true) (hb:edgesBack (l++t0) 0=true) (hf:forcedA (l++t0) l.length=true)
  (hs:StepsT R P (l++t0).toArray l Q F a0 w0 l 0)
  (he:∀ vs w,R w0 w→KnowsAll F vs w 0 l.length→wpList P (l++t0).toArray Q t0 (putAll l 0 vs a0) w) :
  ∀ (fuel:Nat) (listed:Array Bool) (vs:Nat→Value) (w:World),listed.size=(l++t0).length→((List.range (l++t0).length).filter fun i=>!listed.getD i true).length≤fuel→R w0 w→Closed (l++t0) listed→(∀ j,j<l.length→listed.getD j true=false→vs j=oldAt l a0 j) →
   (∀ i,i<l.length→listed.getD i true=true→F i (vs i) w)→(∀ i,l.length≤i→i<(l++t0).length→listed.getD i true=false)→wpAny P .any (l++t0).toArray Q fuel listed (putAll l 0 vs a0) w:=by
 have hll:l.length≤(l++t0).length:=by simp
 have hend:∀ (fuel:Nat) (listed:Array Bool) (vs:Nat→Value) (w:World),listed.size=(l++t0).length→((List.range (l++t0).length).filter fun i=>!listed.getD i true).length≤fuel→R w0 w→(∀ i,i<l.length→listed.getD i true=true) →
   (∀ i,i<l.length→listed.getD i true=true→F i (vs i) w)→(∀ i,l.length≤i→i<(l++t0).length→listed.getD i true=false)→wpAny P .any (l++t0).toArray Q fuel listed (putAll l 0 vs a0) w:=by
  intro fuel listed vs w hsz hn hw hall hk htl
  refine run_tail (n0:=l.length) (t0:=t0) hb (by simp) hf t0 0 rfl (by simp) fuel listed _ w hsz hn (fun i hi=>hall i (by omega)) (fun i hi hil=>htl i (by omega) hil) ?_
  exact he vs w hw (knowsAll_of F vs w _ 0 fun i _ hi=>hk i (by omega) (hall i (by omega)))
 have hget:∀ i o,i<l.length→(l++t0)[i]? = some o→l[i]? = some o:=fun i o hi h=>by rwa [List.getElem?_append_left hi]at h
 intro fuel
 induction fuel with
 | zero =>
  intro listed vs w hsz hn hw hcl hold hk htl
  refine hend 0 listed vs w hsz hn hw (fun i hi=>?_) hk htl
  cases hl:listed.getD i true with
  | true=>rfl
  | false =>
   exfalso
   have:i∈(List.range (l++t0).length).filter fun i=>!listed.getD i true:=by
    rw[List.mem_filter];exact⟨List.mem_range.2 (by omega),by simp[hl]⟩
   have:=List.length_pos_of_mem this
   omega
 | succ fuel ih =>
  intro listed vs w hsz hn hw hcl hold hk htl
  by_cases hallL:∀ i,i<l.length→listed.getD i true=true
  ·exact hend (fuel+1) listed vs w hsz hn hw hallL hk htl
  ·refine⟨fun hr=>?_,fun i hi=>?_⟩
   ·exfalso
    apply hallL
    have all:∀ (n i:Nat),i<n→i<l.length→listed.getD i true=true:=by
     intro n
     induction n with
     | zero=>intro i h;omega
     | succ n ihn =>
      intro i h1 h2
      cases hl:listed.getD i true with
      | true=>rfl
      | false =>
       exfalso
       have:i∈Region.ready .any (l++t0).toArray listed:=by
        rw[mem_ready]
        have ho:(l++t0)[i]? = some l[i]:=by rw[List.getElem?_append_left h2];exact List.getElem?_eq_getElem h2
        refine⟨hl,l[i],by simpa using ho,fun e hee hbd=>?_⟩
        have hlt:=edges_back (l++t0) 0 hb i l[i] ho e hee hbd
        rw[same_getD (by omega)]
        exact ihn e.on (by omega) (by omega)
       rw[hr]at this
       cases this
    exact fun i hi=>all (i+1) i (by omega) hi
   ·rw[mem_ready]at hi
    obtain⟨h1,o,ho,hpre⟩:=hi
    have hol':(l++t0)[i]? = some o:=by simpa using ho
    have hlt':i<(l++t0).length:=(List.getElem?_eq_some_iff.1 hol').1
    have hlt:i<l.length:=by
     by_cases h:i<l.length
     ·exact h
     ·exfalso
      apply hallL
      intro j hj
      have:=forced_listed hf hcl hol' (by omega) hpre (i:=j) (by omega)
      rwa [same_getD (by omega)]at this
    have hol:=hget i o hlt hol'
    have hknow:Knows F vs w o.after.toList:=by
     refine knows_of F vs w _ fun e hee hbind=>?_
     have hee':e∈o.after:=by simpa using hee
     have hlt2:=edges_back (l++t0) 0 hb i o hol' e hee' hbind
     have hon:e.on<l.length:=by omega
     refine hk e.on hon ?_
     rw[←same_getD (by omega)]
     exact hpre e hee' hbind
    have hstep:=stepsT_at l 0 hs i o hol (by simpa using hol') vs w hw hknow (by
     intro j hj
     rw[Nat.zero_add]at hj
     unfold predB at hj
     cases hoj:l[j]? with
     | none=>rw[hoj]at hj;cases hj
     | some oj =>
      rw[hoj]at hj
      simp only[List.any_eq_true,Bool.and_eq_true,beq_iff_eq]at hj
      obtain⟨e,he,heq,hbe⟩:=hj
      have hjl:j<l.length:=(List.getElem?_eq_some_iff.1 hoj).1
      have hoj':(l++t0)[j]? = some oj:=by rw[List.getElem?_append_left hjl];exact hoj
      refine hold j hjl ?_
      rw[←same_getD (by omega)]
      cases hlj:listed.getD j false with
      | false=>rfl
      | true =>
       have:=hcl j oj hoj' hlj e (by simpa using he) hbe
       rw[heq,same_getD (by omega),h1]at this;cases this)
    rw[Nat.zero_add]at hstep
    refine hstep _ fun a' w' ⟨v,ha',hv,hw'⟩=>?_
    subst ha'
    have e:=putAll_upd v l 0 vs a0 i o hol hd
    rw[Nat.zero_add]at e
    rw[←e]
    refine ih (listed.setIfInBounds i true) (upd vs i v) w' (by simpa using hsz) ?_ (hRt _ _ _ hw hw') ?_ ?_ ?_ ?_
    ·have e2:((List.range (l++t0).length).filter fun j=>!(listed.setIfInBounds i true).getD j true)=((List.range (l++t0).length).filter fun j=>!listed.getD j true).filter fun j=>j != i:=by
      rw[List.filter_filter]
      refine List.filter_congr fun j hj=>?_
      by_cases hji:j=i
      ·subst hji
       have hin:j<listed.size:=by omega
       simp[Array.getD_eq_getD_getElem?,hin]
      ·rw[getD_set_ne _ (Ne.symm hji)];simp[hji]
     rw[e2]
     have hmem:i∈(List.range (l++t0).length).filter fun j=>!listed.getD j true:=by
      rw[List.mem_filter];exact⟨List.mem_range.2 hlt',by simp[h1]⟩
     have:=(List.length_filter_lt_length_iff_exists (p:=fun j=>j != i) (l:=(List.range (l++t0).length).filter fun j=>!listed.getD j true)).2 ⟨i,hmem,by simp⟩
     omega
    ·intro j p hp hjl x hx hbx
     by_cases hji:j=i
     ·subst hji
      have:=hol'.symm.trans hp;cases this
      exact getD_set_true (hpre x hx hbx)
     ·rw[getD_set_ne _ (Ne.symm hji)]at hjl
      exact getD_set_true (hcl j p hp hjl x hx hbx)
    ·intro j hj hlj
     by_cases hji:j=i
     ·subst hji
      have hin:j<listed.size:=by omega
      simp[Array.getD_eq_getD_getElem?,hin]at hlj
     ·rw[upd_other _ _ hji]
      rw[getD_set_ne _ (Ne.symm hji)]at hlj
      exact hold j hj hlj
    ·intro j hj hlj
     by_cases hji:j=i
     ·subst hji;rw[upd_same];exact hv
     ·rw[upd_other _ _ hji]
      rw[getD_set_ne _ (Ne.symm hji)]at hlj
      exact hF _ _ _ _ (hk j hj hlj) hw'
    ·intro j hj hjl
     rw[getD_set_ne _ (by omega)]
     exact htl j hj hjl
end
theorem wp_region_tail {P : Program} {Q : Exit→Act→World→Prop} {all:List Oper} {a0:Act} {w0:World} {id:Nat} (n:Nat) (R:World→World→Prop) (hRt:∀ a b c,R a b→R b c→R a c) (hRd:R w0 w0.drew) (hm:P.follows .mixedOrders=true)
  (hd:dstsApart (all.take n)=true) (hb:edgesBack all 0=true) (hf:forcedA all n=true) (hn:n≤all.length) (Fs:List (Value→World→Prop)) (hF:∀ i v w w',nthF Fs i v w→R w w'→nthF Fs i v w')
  (hs:StepsT R P all.toArray (all.take n) Q (nthF Fs) a0 w0 (all.take n) 0)
  (he:∀ vs w,R w0 w→KnowsAll (nthF Fs) vs w 0 n→wpList P all.toArray Q (all.drop n) (putAll (all.take n) 0 vs a0) w):(Code.region id all.toArray true).wp P Q a0 w0:=by
 refine wp_region_any hm ?_
 have hln:(all.take n).length=n:=by rw[List.length_take];omega
 have hcat:all.take n++all.drop n=all:=List.take_append_drop n all
 have e:=putAll_old (oldAt (all.take n) a0) a0 (all.take n) 0 (fun i o d hi hdst=>by simp only[oldAt,Nat.zero_add,hi,Option.bind_some,hdst])
 have h:=any_factsT (l:=all.take n) (t0:=all.drop n) (P:=P) (Q:=Q) (F:=nthF Fs) (a0:=a0) (w0:=w0) hRt hF hd (by rw[hcat];exact hb) (by rw[hcat,hln];exact hf) (by rw[hcat];exact hs) (by rw[hcat,hln];exact he)
  all.length (Array.replicate all.length false) (oldAt (all.take n) a0) { w0 with drawn:=w0.drawn+1 } (by rw[hcat];simp) (by rw[hcat];exact Nat.le_trans (List.length_filter_le _ _) (by simp)) hRd
  (fun i o ho hl=>by
   have hi:i<all.length:=by rw[←hcat];exact (List.getElem?_eq_some_iff.1 ho).1
   simp[Array.getD_eq_getD_getElem?,hi]at hl)
  (fun _ _ _=>rfl)
  (fun i hi hl=>by
   have:i<all.length:=by omega
   simp[Array.getD_eq_getD_getElem?,this]at hl)
  (fun i _ hi=>by
   rw[hcat]at hi
   simp[Array.getD_eq_getD_getElem?,hi])
 rw[e,hcat]at h
 simpa using h
theorem wp_region_since_tail {P : Program} {Q : Exit→Act→World→Prop} {all:List Oper} {a0:Act} {w0:World} {id:Nat} (n:Nat) (hm:P.follows .mixedOrders=true)
  (hd:dstsApart (all.take n)=true) (hb:edgesBack all 0=true) (hf:forcedA all n=true) (hn:n≤all.length) (Fs:List (Value→World→Prop)) (hF:AllStable Fs)
  (hs:StepsT Since P all.toArray (all.take n) Q (nthF Fs) a0 w0 (all.take n) 0)
  (he:∀ vs w,Since w0 w→KnowsAll (nthF Fs) vs w 0 n→wpList P all.toArray Q (all.drop n) (putAll (all.take n) 0 vs a0) w):(Code.region id all.toArray true).wp P Q a0 w0:=
 wp_region_tail n Since (fun _ _ _=>Since.trans) (Since.refl _).drew hm hd hb hf hn Fs (nthF_stable Fs hF) hs he
def boundsKT (all:List Oper) (n:Nat) (keys los his incs:List Nat):Bool:=
 los==(List.range n).map (loK all keys)&&his==(List.range n).map (hiK all keys)&&incs==(List.range n).map (fun i=>if keys.contains i then 1 else 0)&&decide keys.Nodup&&keys.all (fun k=>decide (k<n))
def StepsKT (R:World→World→Prop) (Ph:Nat→World→Prop) (P:Program) (ops:Array Oper) (l:List Oper) (Q:Exit→Act→World→Prop) (F:Nat→Value→World→Prop) (a0:Act) (w0:World):List Oper→List Nat→List Nat→List Nat→Nat→Prop
 | o::r,lo::los,hi::his,inc::incs,k=>(∀ (p:Nat) (vs:Nat→Value) (w:World),lo≤p→p≤hi→R w0 w→Ph p w→Knows F vs w o.after.toList →
   wpList P ops (OneQK R Ph Q F k (p+inc) o.dst (putAll l 0 vs a0) w) [o] (putAll l 0 vs a0) w)∧StepsKT R Ph P ops l Q F a0 w0 r los his incs (k+1)
 | _,_,_,_,_=>True
theorem stepsKT_at {R : World→World→Prop} {Ph:Nat→World→Prop} {P : Program} {ops:Array Oper} {l0:List Oper} {Q : Exit→Act→World→Prop} {F : Nat→Value→World→Prop} {a0:Act} {w0:World}:∀ (l:List Oper) (los his incs:List Nat) (k:Nat),StepsKT R Ph P ops l0 Q F a0 w0 l los his incs k→los.length=l.length→his.length=l.length→incs.length=l.length→∀ (i:Nat) (o:Oper),l[i]? = some o→ops[k+i]? = some o →
  ∀ (p:Nat) (vs:Nat→Value) (w:World),los.getD i 0≤p→p≤his.getD i 0→R w0 w→Ph p w→Knows F vs w o.after.toList→∀ K:Act→World→Prop,(∀ a' w',LeftK R Ph F (k+i) (p+incs.getD i 0) o.dst (putAll l0 0 vs a0) w a' w'→K a' w') →
   wpOp P ops Q (k+i) K (putAll l0 0 vs a0) w
 | [],_,_,_,_,_,_,_,_,_,_,h,_=>by cases h
 | _::_,[],_,_,_,_,h,_,_,_,_,_,_=>by simp at h
 | _::_,_::_,[],_,_,_,_,h,_,_,_,_,_=>by simp at h
 | _::_,_::_,_::_,[],_,_,_,_,h,_,_,_,_=>by simp at h
 | p::r,lo::los,hi::his,inc::incs,k,h,_,_,_,0,o,ho,hall=>by
  obtain rfl:p=o:=by simpa using ho
  intro q vs w hlo hhi hw hph hk K hK
  have:=h.1 q vs w hlo hhi hw hph hk
  unfold wpOp
  rw[hall]
  simp only[wpList]at this
  show if _ then _ else _
  split
  ·rename_i hwant
   rw[if_pos hwant]at this
   rcases this with this|⟨h1,h2⟩
   ·exact .inl (Oper.wp_turn (fun _ _ _ h=>h) (fun h=>h) (Oper.wp_mono (fun a' w' h=>hK a' w' h) this))
   ·exact .inr ⟨h1,h2⟩
  ·rename_i hwant
   rw[if_neg hwant]at this
   exact hK _ _ this
 | p::r,lo::los,hi::his,inc::incs,k,h,h1,h2,h3,i+1,o,ho,hall=>by
  have:=stepsKT_at r los his incs (k+1) h.2 (by simpa using h1) (by simpa using h2) (by simpa using h3) i o (by simpa using ho) (by rw[show k+1+i=k+(i+1) from by omega];exact hall)
  rw[show k+1+i=k+(i+1) from by omega]at this
  exact this
section
variable {P : Program} {Q : Exit→Act→World→Prop} {l t0:List Oper} {F : Nat→Value→World→Prop} {a0:Act} {w0:World} {R : World→World→Prop} {Ph:Nat→World→Prop} {keys los his incs:List Nat}
theorem any_factsKT (hbd:boundsKT (l++t0) l.length keys los his incs=true) (hRt:∀ a b c,R a b→R b c→R a c) (hF:∀ i v w w',F i v w→R w w'→F i v w') (hd:dstsApart l=true) (hb:edgesBack (l++t0) 0=true) (hf:forcedA (l++t0) l.length=true)
  (hs:StepsKT R Ph P (l++t0).toArray l Q F a0 w0 l los his incs 0)
  (he:∀ vs w,R w0 w→Ph keys.length w→KnowsAll F vs w 0 l.length→wpList P (l++t0).toArray Q t0 (putAll l 0 vs a0) w) :
  ∀ (fuel:Nat) (listed:Array Bool) (vs:Nat→Value) (w:World),listed.size=(l++t0).length→((List.range (l++t0).length).filter fun i=>!listed.getD i true).length≤fuel→R w0 w→Ph (doneK keys listed) w→Closed (l++t0) listed →
   (∀ i,i<l.length→listed.getD i true=true→F i (vs i) w)→(∀ i,l.length≤i→i<(l++t0).length→listed.getD i true=false)→wpAny P .any (l++t0).toArray Q fuel listed (putAll l 0 vs a0) w:=by
 unfold boundsKT at hbd
 simp only[Bool.and_eq_true,beq_iff_eq,decide_eq_true_eq,List.all_eq_true]at hbd
 obtain⟨⟨⟨⟨hlos,hhis⟩,hincs⟩,hnod⟩,hkeys⟩:=hbd
 have hll:l.length≤(l++t0).length:=by simp
 have hend:∀ (fuel:Nat) (listed:Array Bool) (vs:Nat→Value) (w:World),listed.size=(l++t0).length→((List.range (l++t0).length).filter fun i=>!listed.getD i true).length≤fuel→R w0 w→Ph (doneK keys listed) w→(∀ i,i<l.length→listed.getD i true=true) →
   (∀ i,i<l.length→listed.getD i true=true→F i (vs i) w)→(∀ i,l.length≤i→i<(l++t0).length→listed.getD i true=false)→wpAny P .any (l++t0).toArray Q fuel listed (putAll l 0 vs a0) w:=by
  intro fuel listed vs w hsz hn hw hph hall hk htl
  have hfull:doneK keys listed=keys.length:=by
   unfold doneK
   rw[List.countP_eq_length]
   intro k hk
   have hkl:=hkeys k hk
   rw[same_getD (by omega)]
   exact hall k hkl
  rw[hfull]at hph
  refine run_tail (n0:=l.length) (t0:=t0) hb (by simp) hf t0 0 rfl (by simp) fuel listed _ w hsz hn (fun i hi=>hall i (by omega)) (fun i hi hil=>htl i (by omega) hil) ?_
  exact he vs w hw hph (knowsAll_of F vs w _ 0 fun i _ hi=>hk i (by omega) (hall i (by omega)))
 have hget:∀ i o,i<l.length→(l++t0)[i]? = some o→l[i]? = some o:=fun i o hi h=>by rwa [List.getElem?_append_left hi]at h
 intro fuel
 induction fuel with
 | zero =>
  intro listed vs w hsz hn hw hph hcl hk htl
  refine hend 0 listed vs w hsz hn hw hph (fun i hi=>?_) hk htl
  cases hl:listed.getD i true with
  | true=>rfl
  | false =>
   exfalso
   have:i∈(List.range (l++t0).length).filter fun i=>!listed.getD i true:=by
    rw[List.mem_filter];exact⟨List.mem_range.2 (by omega),by simp[hl]⟩
   have:=List.length_pos_of_mem this
   omega
 | succ fuel ih =>
  intro listed vs w hsz hn hw hph hcl hk htl
  by_cases hallL:∀ i,i<l.length→listed.getD i true=true
  ·exact hend (fuel+1) listed vs w hsz hn hw hph hallL hk htl
  ·refine⟨fun hr=>?_,fun i hi=>?_⟩
   ·exfalso
    apply hallL
    have all:∀ (n i:Nat),i<n→i<l.length→listed.getD i true=true:=by
     intro n
     induction n with
     | zero=>intro i h;omega
     | succ n ihn =>
      intro i h1 h2
      cases hl:listed.getD i true with
      | true=>rfl
      | false =>
       exfalso
       have:i∈Region.ready .any (l++t0).toArray listed:=by
        rw[mem_ready]
        have ho:(l++t0)[i]? = some l[i]:=by rw[List.getElem?_append_left h2];exact List.getElem?_eq_getElem h2
        refine⟨hl,l[i],by simpa using ho,fun e hee hbd=>?_⟩
        have hlt:=edges_back (l++t0) 0 hb i l[i] ho e hee hbd
        rw[same_getD (by omega)]
        exact ihn e.on (by omega) (by omega)
       rw[hr]at this
       cases this
    exact fun i hi=>all (i+1) i (by omega) hi
   ·rw[mem_ready]at hi
    obtain⟨h1,o,ho,hpre⟩:=hi
    have hol':(l++t0)[i]? = some o:=by simpa using ho
    have hlt':i<(l++t0).length:=(List.getElem?_eq_some_iff.1 hol').1
    have hlt:i<l.length:=by
     by_cases h:i<l.length
     ·exact h
     ·exfalso
      apply hallL
      intro j hj
      have:=forced_listed hf hcl hol' (by omega) hpre (i:=j) (by omega)
      rwa [same_getD (by omega)]at this
    have hol:=hget i o hlt hol'
    have hknow:Knows F vs w o.after.toList:=by
     refine knows_of F vs w _ fun e hee hbind=>?_
     have hee':e∈o.after:=by simpa using hee
     have hlt2:=edges_back (l++t0) 0 hb i o hol' e hee' hbind
     have hon:e.on<l.length:=by omega
     refine hk e.on hon ?_
     rw[←same_getD (by omega)]
     exact hpre e hee' hbind
    have hil:listed.getD i false=false:=by rw[same_getD (by omega)];exact h1
    have hlo:los.getD i 0≤doneK keys listed:=by
     rw[hlos]
     simp only[List.getD_eq_getElem?_getD,List.getElem?_map,List.getElem?_range hlt,Option.map_some,Option.getD_some]
     exact List.countP_mono_left fun k _ hk2=>ahead_listed hcl _ _ _ hk2 o hol' hpre
    have hhi:doneK keys listed≤his.getD i 0:=by
     rw[hhis]
     simp only[List.getD_eq_getElem?_getD,List.getElem?_map,List.getElem?_range hlt,Option.map_some,Option.getD_some]
     refine List.countP_mono_left fun k hkm hk2=>?_
     simp only[Bool.and_eq_true,Bool.not_eq_true',beq_eq_false_iff_ne]
     refine⟨?_,fun e=>by rw[e,hil]at hk2;cases hk2⟩
     cases hah:aheadB (l++t0) (l++t0).length i k with
     | false=>rfl
     | true =>
      exfalso
      have hkl:k<(l++t0).length:=Nat.lt_of_lt_of_le (hkeys k hkm) hll
      have ho2:(l++t0)[k]? = some (l++t0)[k]:=List.getElem?_eq_getElem hkl
      have:=ahead_listed hcl _ _ _ hah _ ho2 (hcl k _ ho2 hk2)
      rw[hil]at this;cases this
    have hinc:incs.getD i 0=if keys.contains i then 1 else 0:=by
     rw[hincs]
     simp only[List.getD_eq_getElem?_getD,List.getElem?_map,List.getElem?_range hlt,Option.map_some,Option.getD_some]
    have hstep:=stepsKT_at l los his incs 0 hs (by rw[hlos];simp) (by rw[hhis];simp) (by rw[hincs];simp) i o hol (by simpa using hol') (doneK keys listed) vs w hlo hhi hw hph hknow
    rw[Nat.zero_add]at hstep
    refine hstep _ fun a' w' ⟨v,ha',hv,hw',hph'⟩=>?_
    subst ha'
    have e:=putAll_upd v l 0 vs a0 i o hol hd
    rw[Nat.zero_add]at e
    rw[←e]
    refine ih (listed.setIfInBounds i true) (upd vs i v) w' (by simpa using hsz) ?_ (hRt _ _ _ hw hw') ?_ ?_ ?_ ?_
    ·have e2:((List.range (l++t0).length).filter fun j=>!(listed.setIfInBounds i true).getD j true)=((List.range (l++t0).length).filter fun j=>!listed.getD j true).filter fun j=>j != i:=by
      rw[List.filter_filter]
      refine List.filter_congr fun j hj=>?_
      by_cases hji:j=i
      ·subst hji
       have hin:j<listed.size:=by omega
       simp[Array.getD_eq_getD_getElem?,hin]
      ·rw[getD_set_ne _ (Ne.symm hji)];simp[hji]
     rw[e2]
     have hmem:i∈(List.range (l++t0).length).filter fun j=>!listed.getD j true:=by
      rw[List.mem_filter];exact⟨List.mem_range.2 hlt',by simp[h1]⟩
     have:=(List.length_filter_lt_length_iff_exists (p:=fun j=>j != i) (l:=(List.range (l++t0).length).filter fun j=>!listed.getD j true)).2 ⟨i,hmem,by simp⟩
     omega
    ·rw[hinc]at hph'
     by_cases hik:i∈keys
     ·rw[doneK_more (by omega) hil hnod hik]
      rw[if_pos (by simpa using hik)]at hph'
      exact hph'
     ·rw[doneK_same hik]
      rw[if_neg (by simpa using hik)]at hph'
      exact hph'
    ·intro j p hp hjl x hx hbx
     by_cases hji:j=i
     ·subst hji
      have:=hol'.symm.trans hp;cases this
      exact getD_set_true (hpre x hx hbx)
     ·rw[getD_set_ne _ (Ne.symm hji)]at hjl
      exact getD_set_true (hcl j p hp hjl x hx hbx)
    ·intro j hj hlj
     by_cases hji:j=i
     ·subst hji;rw[upd_same];exact hv
     ·rw[upd_other _ _ hji]
      rw[getD_set_ne _ (Ne.symm hji)]at hlj
      exact hF _ _ _ _ (hk j hj hlj) hw'
    ·intro j hj hjl
     rw[getD_set_ne _ (by omega)]
     exact htl j hj hjl
end
theorem wp_region_keys_tail {P : Program} {Q : Exit→Act→World→Prop} {all:List Oper} {a0:Act} {w0:World} {id:Nat} (n:Nat) (keys los his incs:List Nat) (R:World→World→Prop) (Ph:Nat→World→Prop) (hRt:∀ a b c,R a b→R b c→R a c) (hRd:R w0 w0.drew) (hm:P.follows .mixedOrders=true)
  (hd:dstsApart (all.take n)=true) (hb:edgesBack all 0=true) (hf:forcedA all n=true) (hn:n≤all.length) (hbd:boundsKT all n keys los his incs=true) (Fs:List (Value→World→Prop)) (hF:∀ i v w w',nthF Fs i v w→R w w'→nthF Fs i v w') (hph:Ph 0 w0.drew)
  (hs:StepsKT R Ph P all.toArray (all.take n) Q (nthF Fs) a0 w0 (all.take n) los his incs 0)
  (he:∀ vs w,R w0 w→Ph keys.length w→KnowsAll (nthF Fs) vs w 0 n→wpList P all.toArray Q (all.drop n) (putAll (all.take n) 0 vs a0) w):(Code.region id all.toArray true).wp P Q a0 w0:=by
 refine wp_region_any hm ?_
 have hln:(all.take n).length=n:=by rw[List.length_take];omega
 have hcat:all.take n++all.drop n=all:=List.take_append_drop n all
 have e:=putAll_old (oldAt (all.take n) a0) a0 (all.take n) 0 (fun i o d hi hdst=>by simp only[oldAt,Nat.zero_add,hi,Option.bind_some,hdst])
 have h:=any_factsKT (l:=all.take n) (t0:=all.drop n) (P:=P) (Q:=Q) (F:=nthF Fs) (a0:=a0) (w0:=w0) (by rw[hcat,hln];exact hbd) hRt hF hd (by rw[hcat];exact hb) (by rw[hcat,hln];exact hf) (by rw[hcat];exact hs) (by rw[hcat,hln];exact he)
  all.length (Array.replicate all.length false) (oldAt (all.take n) a0) { w0 with drawn:=w0.drawn+1 } (by rw[hcat];simp) (by rw[hcat];exact Nat.le_trans (List.length_filter_le _ _) (by simp)) hRd
  (by
   have:doneK keys (Array.replicate all.length false)=0:=by
    unfold doneK
    rw[List.countP_eq_zero]
    intro k _
    simp[Array.getD_eq_getD_getElem?,Array.getElem?_replicate]
    split<;>rfl
   rw[this]
   exact hph)
  (fun i o ho hl=>by
   have hi:i<all.length:=by rw[←hcat];exact (List.getElem?_eq_some_iff.1 ho).1
   simp[Array.getD_eq_getD_getElem?,hi]at hl)
  (fun i hi hl=>by
   have:i<all.length:=by omega
   simp[Array.getD_eq_getD_getElem?,this]at hl)
  (fun i _ hi=>by
   rw[hcat]at hi
   simp[Array.getD_eq_getD_getElem?,hi])
 rw[e,hcat]at h
 simpa using h
def StableT (S:Nat→Prop) (F:Value→World→Prop):Prop:=∀ v w w',F v w→Turn S w w'→F v w'
def AllStableT (S:Nat→Prop):List (Value→World→Prop)→Prop
 | []=>True
 | f::r=>StableT S f∧AllStableT S r
theorem nthF_stableT {S : Nat→Prop}:∀ (l:List (Value→World→Prop)),AllStableT S l→∀ i v w w',nthF l i v w→Turn S w w'→nthF l i v w'
 | [],_,_,_,_,_,h,_=>h
 | _::_,hl,0,v,w,w',h,t=>hl.1 v w w' h t
 | _::r,hl,i+1,v,w,w',h,t=>nthF_stableT r hl.2 i v w w' h t
theorem Is.stableT (S:Nat→Prop) (x:Value):StableT S (Is x):=fun _ _ _ h _=>h
theorem wp_region_turn_tail {P : Program} {Q : Exit→Act→World→Prop} {all:List Oper} {a0:Act} {w0:World} {id:Nat} (n:Nat) (keys los his incs:List Nat) (S:Nat→Prop) (Ph:Nat→World→Prop) (hm:P.follows .mixedOrders=true)
  (hd:dstsApart (all.take n)=true) (hb:edgesBack all 0=true) (hf:forcedA all n=true) (hn:n≤all.length) (hbd:boundsKT all n keys los his incs=true) (Fs:List (Value→World→Prop)) (hF:AllStableT S Fs) (hph:Ph 0 w0.drew)
  (hs:StepsKT (Turn S) Ph P all.toArray (all.take n) Q (nthF Fs) a0 w0 (all.take n) los his incs 0)
  (he:∀ vs w,Turn S w0 w→Ph keys.length w→KnowsAll (nthF Fs) vs w 0 n→wpList P all.toArray Q (all.drop n) (putAll (all.take n) 0 vs a0) w):(Code.region id all.toArray true).wp P Q a0 w0:=
 wp_region_keys_tail n keys los his incs (Turn S) Ph (fun _ _ _=>Turn.trans) (Turn.since (Since.refl _).drew) hm hd hb hf hn hbd Fs (nthF_stableT Fs hF) hph hs he
end Go.Proofs.Ytkpbmbhejpmboaa
