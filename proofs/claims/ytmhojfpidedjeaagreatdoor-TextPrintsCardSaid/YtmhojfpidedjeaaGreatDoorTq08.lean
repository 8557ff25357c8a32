/- The rule of XRegion for a region with one operation that turns what was there (its pivot): the first n operations come in any order ahead of it, but some late ones, of which nothing but a fixed value is asked, may come behind it; then the others in one order. The rule of XRegion6 where what comes be -/
import Derived.Test.YtmhojfpidedjeaaGreatDoorTq03
import Derived.Test.YtmhojfpidedjeaaGreatDoorTq04
import Derived.Test.YtmhojfpidedjeaaGreatDoorTq05
import Derived.Test.YtmhojfpidedjeaaGreatDoorTq07
import Derived.Deep.MidRow
namespace Go.Proofs.YtmhojfpidedjeaaGreatDoor
open Go.RowKit
def KnowsB (F:Nat→Value→World→Prop) (b:Nat→Bool) (vs:Nat→Value) (w:World):Nat→Nat→Prop
 | _,0=>True
 | k,n+1=>(b k=true→F k (vs k) w)∧KnowsB F b vs w (k+1) n
theorem knowsB_of (F:Nat→Value→World→Prop) (b:Nat→Bool) (vs:Nat→Value) (w:World):∀ (n k:Nat),(∀ i,k≤i→i<k+n→b i=true→F i (vs i) w)→KnowsB F b vs w k n
 | 0,_,_=>trivial
 | n+1,k,h=>⟨h k (Nat.le_refl _) (by omega),knowsB_of F b vs w n (k+1) fun i h1 h2=>h i (by omega) (by omega)⟩
def OneQP (Q:Exit→Act→World→Prop) (G:Value→World→Prop) (dst:Option Tmp) (a:Act):Exit→Act→World→Prop
 | .normal,a',w'=>∃ v,a'=a.put dst v∧G v w'
 | e,a',w'=>Q e a' w'
def forcedP (all:List Oper) (n:Nat) (late:Nat→Bool):Bool:=
 (List.range all.length).all fun k=>decide (k<n)||(List.range k).all fun i=>(k==n&&late i)||(predB all i k||aheadB all all.length i k)
theorem forced_listedP {all:List Oper} {n : Nat} {late:Nat→Bool} (hf:forcedP all n late=true) {listed:Array Bool} (hc:Closed all listed) {k : Nat} {o : Oper} (ho:all[k]? = some o) (hk:n≤k) (hp:∀ e∈o.after,Region.binds .any e=true→listed.getD e.on false=true) {i : Nat} (hi:i<k) (hl:k=n→late i=false):listed.getD i false=true:=by
 unfold forcedP at hf
 rw[List.all_eq_true]at hf
 have h1:=hf k (List.mem_range.2 (List.getElem?_eq_some_iff.1 ho).1)
 rw[Bool.or_eq_true,decide_eq_true_eq]at h1
 rcases h1 with h1|h1
 ·omega
 rw[List.all_eq_true]at h1
 have h2:=h1 i (List.mem_range.2 hi)
 rw[Bool.or_eq_true]at h2
 rcases h2 with h2|h2
 ·rw[Bool.and_eq_true,beq_iff_eq]at h2
  rw[hl h2.1]at h2
  cases h2.2
 rw[Bool.or_eq_true]at h2
 rcases h2 with h2|h2
 ·unfold predB at h2
  rw[ho]at h2
  simp only[List.any_eq_true,Bool.and_eq_true,beq_iff_eq]at h2
  obtain⟨e,he,heq,hb⟩:=h2
  rw[←heq]
  exact hp e (by simpa using he) hb
 ·exact ahead_listed hc _ _ _ h2 o ho hp
theorem forcedA_of {all:List Oper} {n : Nat} {late:Nat→Bool} (hf:forcedP all n late=true):forcedA all (n+1)=true:=by
 unfold forcedP at hf
 unfold forcedA
 rw[List.all_eq_true]at hf ⊢
 intro k hk
 have h1:=hf k hk
 rw[Bool.or_eq_true,decide_eq_true_eq]at h1 ⊢
 rcases h1 with h1|h1
 ·left;omega
 by_cases hkn:k=n
 ·left;omega
 right
 rw[List.all_eq_true]at h1 ⊢
 intro i hi
 have h2:=h1 i hi
 rw[Bool.or_eq_true]at h2
 rcases h2 with h2|h2
 ·rw[Bool.and_eq_true,beq_iff_eq]at h2;exact absurd h2.1 hkn
 ·exact h2
theorem pivot_at {P : Program} {ops:Array Oper} {Q : Exit→Act→World→Prop} {G : Value→World→Prop} {i : Nat} {o : Oper} {a : Act} {w : World} (hall:ops[i]? = some o) (h:wpList P ops (OneQP Q G o.dst a) [o] a w) (K:Act→World→Prop) (hK:∀ a' w',(∃ v,a'=a.put o.dst v∧G v w')→K a' w') :
  wpOp P ops Q i K a w:=by
 unfold wpOp
 rw[hall]
 simp only[wpList]at h
 show if _ then _ else _
 split
 ·rename_i hwant
  rw[if_pos hwant]at h
  rcases h with h|⟨h1,h2⟩
  ·exact .inl (Oper.wp_turn (fun _ _ _ h=>h) (fun h=>h) (Oper.wp_mono (fun a' w' h=>hK a' w' h) h))
  ·exact .inr ⟨h1,h2⟩
 ·rename_i hwant
  rw[if_neg hwant]at h
  exact hK _ _ h
theorem late_at {P : Program} {ops:Array Oper} {Q : Exit→Act→World→Prop} {F : Nat→Value→World→Prop} {i k:Nat} {o : Oper} {a : Act} {w : World} (hall:ops[i]? = some o) (h:wpList P ops (OneQR (fun a b=>a=b) Q F k o.dst a w) [o] a w) (K:Act→World→Prop) (hK:∀ a' w',LeftR (fun a b=>a=b) F k o.dst a w a' w'→K a' w') :
  wpOp P ops Q i K a w:=by
 unfold wpOp
 rw[hall]
 simp only[wpList]at h
 show if _ then _ else _
 split
 ·rename_i hwant
  rw[if_pos hwant]at h
  rcases h with h|⟨h1,h2⟩
  ·exact .inl (Oper.wp_turn (fun _ _ _ h=>h) (fun h=>h) (Oper.wp_mono (fun a' w' h=>hK a' w' h) h))
  ·exact .inr ⟨h1,h2⟩
 ·rename_i hwant
  rw[if_neg hwant]at h
  exact hK _ _ h
def LateFree (late:Nat→Bool):List (Value→World→Prop)→Nat→Prop
 | [],_=>True
 | F::r,k=>(late k=true→∀ v w w',F v w→F v w')∧LateFree late r (k+1)
theorem lateFree_at {late:Nat→Bool}:∀ (Fs:List (Value→World→Prop)) (k:Nat),LateFree late Fs k→∀ i,late (k+i)=true→∀ v w w',nthF Fs i v w→nthF Fs i v w'
 | [],_,_,_,_,_,_,_,h=>h
 | _::_,_,h,0,hl,v,w,w',hf=>h.1 hl v w w' hf
 | _::r,k,h,i+1,hl,v,w,w',hf=>lateFree_at r (k+1) h.2 i (by rw[show k+1+i=k+(i+1) from by omega];exact hl) v w w' hf
def StepsG (late:Nat→Bool) (G:Value→World→Prop) (P:Program) (ops:Array Oper) (l:List Oper) (Q:Exit→Act→World→Prop) (F:Nat→Value→World→Prop) (a0:Act):List Oper→Nat→Prop
 | [],_=>True
 | o::r,k=>(late k=true→∀ (vs:Nat→Value) (w:World),(∃ v,G v w)→Knows F vs w o.after.toList→wpList P ops (OneQR (fun a b=>a=b) Q F k o.dst (putAll l 0 vs a0) w) [o] (putAll l 0 vs a0) w)∧StepsG late G P ops l Q F a0 r (k+1)
theorem stepsG_at {late:Nat→Bool} {G : Value→World→Prop} {P : Program} {ops:Array Oper} {l0:List Oper} {Q : Exit→Act→World→Prop} {F : Nat→Value→World→Prop} {a0:Act}:∀ (l:List Oper) (k:Nat),StepsG late G P ops l0 Q F a0 l k→∀ (i:Nat) (o:Oper),l[i]? = some o→late (k+i)=true →
  ∀ (vs:Nat→Value) (w:World),(∃ v,G v w)→Knows F vs w o.after.toList→wpList P ops (OneQR (fun a b=>a=b) Q F (k+i) o.dst (putAll l0 0 vs a0) w) [o] (putAll l0 0 vs a0) w
 | [],_,_,_,_,h,_=>by cases h
 | p::r,k,h,0,o,ho,hl=>by
  obtain rfl:p=o:=by simpa using ho
  exact h.1 hl
 | p::r,k,h,i+1,o,ho,hl=>by
  have:=stepsG_at r (k+1) h.2 i o (by simpa using ho) (by rw[show k+1+i=k+(i+1) from by omega];exact hl)
  rw[show k+1+i=k+(i+1) from by omega]at this
  exact this
def lateShut (all:List Oper) (late:Nat→Bool):Bool:=
 (List.range all.length).all fun k=>!late k||match all[k]? with
  | some o=>o.after.toList.all fun e=>!Region.binds .any e||late e.on
  | none=>true
theorem late_shut {all:List Oper} {late:Nat→Bool} (h:lateShut all late=true) {k : Nat} {o : Oper} (ho:all[k]? = some o) (hl:late k=true):∀ e∈o.after,Region.binds .any e=true→late e.on=true:=by
 unfold lateShut at h
 rw[List.all_eq_true]at h
 have h1:=h k (List.mem_range.2 (List.getElem?_eq_some_iff.1 ho).1)
 rw[ho,hl]at h1
 simp only[Bool.not_true,Bool.false_or]at h1
 intro e he hb
 have h2:=List.all_eq_true.1 h1 e (by simpa using he)
 rw[hb]at h2
 simpa using h2
theorem any_factsG {P : Program} {Q : Exit→Act→World→Prop} {all l:List Oper} {F : Nat→Value→World→Prop} {G : Value→World→Prop} {a0:Act} {w0:World} {R : World→World→Prop} {n : Nat} {late:Nat→Bool} (hl:l=all.take (n+1)) (hn:n<all.length)
  (hRt:∀ a b c,R a b→R b c→R a c) (hF:∀ i v w w',F i v w→R w w'→F i v w') (hFl:∀ i,late i=true→∀ v w w',F i v w→F i v w') (hd:dstsApart l=true) (hb:edgesBack all 0=true) (hf:forcedP all n late=true) (hsh:lateShut all late=true)
  (hs:StepsT R P all.toArray l Q F a0 w0 (all.take n) 0) (hsl:StepsG late G P all.toArray l Q F a0 (all.take n) 0)
  (hp:∀ o,all[n]? = some o→∀ vs w,R w0 w→(∀ i,i<n→late i=false→F i (vs i) w)→wpList P all.toArray (OneQP Q G o.dst (putAll l 0 vs a0)) [o] (putAll l 0 vs a0) w)
  (he:∀ vs w,G (vs n) w→(∀ i,i<n→late i=true→F i (vs i) w)→wpList P all.toArray Q (all.drop (n+1)) (putAll l 0 vs a0) w) :
  ∀ (fuel:Nat) (listed:Array Bool) (vs:Nat→Value) (w:World),listed.size=all.length→((List.range all.length).filter fun i=>!listed.getD i true).length≤fuel→Closed all listed→(∀ j,j<n+1→listed.getD j true=false→vs j=oldAt l a0 j) →
   (listed.getD n true=false→R w0 w∧∀ i,i<n→listed.getD i true=true→F i (vs i) w) →
   (listed.getD n true=true→G (vs n) w∧(∀ i,i<n→late i=false→listed.getD i true=true)∧∀ i,i<n→late i=true→listed.getD i true=true→F i (vs i) w) →
   (∀ i,n<i→i<all.length→listed.getD i true=false)→wpAny P .any all.toArray Q fuel listed (putAll l 0 vs a0) w:=by
 have hlen:l.length=n+1:=by rw[hl,List.length_take];omega
 have hget:∀ i o,i<n+1→all[i]? = some o→l[i]? = some o:=fun i o hi h=>by rw[hl,List.getElem?_take_of_lt hi];exact h
 have hend:∀ (fuel:Nat) (listed:Array Bool) (vs:Nat→Value) (w:World),listed.size=all.length→((List.range all.length).filter fun i=>!listed.getD i true).length≤fuel→(∀ i,i<n+1→listed.getD i true=true)→G (vs n) w→(∀ i,i<n→late i=true→F i (vs i) w) →
   (∀ i,n<i→i<all.length→listed.getD i true=false)→wpAny P .any all.toArray Q fuel listed (putAll l 0 vs a0) w:=by
  intro fuel listed vs w hsz hfu hall hG hL htl
  exact run_tail (n0:=n+1) (t0:=all.drop (n+1)) hb rfl (forcedA_of hf) _ 0 rfl (by omega) fuel listed _ w hsz hfu (fun i hi=>hall i (by omega)) (fun i hi hil=>htl i (by omega) hil) (he vs w hG hL)
 intro fuel
 induction fuel with
 | zero =>
  intro listed vs w hsz hfu hcl hold hA hB htl
  have hall:∀ i,i<n+1→listed.getD i true=true:=fun i hi=>by
   cases hx:listed.getD i true with
   | true=>rfl
   | false =>
    exfalso
    have:i∈(List.range all.length).filter fun i=>!listed.getD i true:=by
     rw[List.mem_filter];exact⟨List.mem_range.2 (by omega),by simp[hx]⟩
    have:=List.length_pos_of_mem this
    omega
  obtain⟨g1,_,g3⟩:=hB (hall n (by omega))
  exact hend 0 listed vs w hsz hfu hall g1 (fun i hi hli=>g3 i hi hli (hall i (by omega))) htl
 | succ fuel ih =>
  intro listed vs w hsz hfu hcl hold hA hB htl
  by_cases hallL:∀ i,i<n+1→listed.getD i true=true
  ·obtain⟨g1,_,g3⟩:=hB (hallL n (by omega))
   exact hend (fuel+1) listed vs w hsz hfu hallL g1 (fun i hi hli=>g3 i hi hli (hallL i (by omega))) htl
  ·refine⟨fun hr=>?_,fun i hi=>?_⟩
   ·exfalso
    apply hallL
    have go:∀ (m i:Nat),i<m→i<n+1→listed.getD i true=true:=by
     intro m
     induction m with
     | zero=>intro i h;omega
     | succ m ihm =>
      intro i h1 h2
      cases hx:listed.getD i true with
      | true=>rfl
      | false =>
       exfalso
       have hia:i<all.length:=by omega
       have:i∈Region.ready .any all.toArray listed:=by
        rw[mem_ready]
        refine⟨hx,all[i],by simp[hia],fun e hee hbd=>?_⟩
        have hlt:=edges_back all 0 hb i all[i] (by simp[hia]) e hee hbd
        rw[same_getD (by omega)]
        exact ihm e.on (by omega) (by omega)
       rw[hr]at this
       cases this
    exact fun i hi=>go (i+1) i (by omega) hi
   ·rw[mem_ready]at hi
    obtain⟨h1,o,ho,hpre⟩:=hi
    have hoa:all[i]? = some o:=by simpa using ho
    have hia:i<all.length:=(List.getElem?_eq_some_iff.1 hoa).1
    have hle:i≤n:=by
     by_cases h:i≤n
     ·exact h
     ·exfalso
      apply hallL
      intro j hj
      have:=forced_listedP hf hcl hoa (by omega) hpre (i:=j) (by omega) (fun e=>by omega)
      rwa [same_getD (by omega)]at this
    have hol:=hget i o (by omega) hoa
    have hput:∀ v,(putAll l 0 vs a0).put o.dst v=putAll l 0 (upd vs i v) a0:=fun v=>by
     have e:=putAll_upd v l 0 vs a0 i o hol hd
     rw[Nat.zero_add]at e
     exact e.symm
    have hcnt:((List.range all.length).filter fun j=>!(listed.setIfInBounds i true).getD j true).length≤fuel:=by
     have e2:((List.range all.length).filter fun j=>!(listed.setIfInBounds i true).getD j true)=((List.range all.length).filter fun j=>!listed.getD j true).filter fun j=>j != i:=by
      rw[List.filter_filter]
      refine List.filter_congr fun j hj=>?_
      by_cases hji:j=i
      ·subst hji
       have hin:j<listed.size:=by omega
       simp[Array.getD_eq_getD_getElem?,hin]
      ·rw[getD_set_ne _ (Ne.symm hji)];simp[hji]
     rw[e2]
     have hmem:i∈(List.range all.length).filter fun j=>!listed.getD j true:=by
      rw[List.mem_filter];exact⟨List.mem_range.2 hia,by simp[h1]⟩
     have:=(List.length_filter_lt_length_iff_exists (p:=fun j=>j != i) (l:=(List.range all.length).filter fun j=>!listed.getD j true)).2 ⟨i,hmem,by simp⟩
     omega
    have hcl2:Closed all (listed.setIfInBounds i true):=by
     intro j q hq hjl x hx hbx
     by_cases hji:j=i
     ·subst hji
      have:=hoa.symm.trans hq;cases this
      exact getD_set_true (hpre x hx hbx)
     ·rw[getD_set_ne _ (Ne.symm hji)]at hjl
      exact getD_set_true (hcl j q hq hjl x hx hbx)
    have hin:i<listed.size:=by omega
    have hset:(listed.setIfInBounds i true).getD i true=true:=by simp[Array.getD_eq_getD_getElem?,hin]
    have hsame:∀ j,j≠i→(listed.setIfInBounds i true).getD j true=listed.getD j true:=fun j hj=>getD_set_ne _ (Ne.symm hj)
    have hold2:∀ v,∀ j,j<n+1→(listed.setIfInBounds i true).getD j true=false→upd vs i v j=oldAt l a0 j:=fun v j hj hlj=>by
     by_cases hji:j=i
     ·subst hji;rw[hset]at hlj;cases hlj
     ·rw[upd_other _ _ hji]
      rw[hsame j hji]at hlj
      exact hold j hj hlj
    have htl2:∀ j,n<j→j<all.length→(listed.setIfInBounds i true).getD j true=false:=fun j hj hjl=>by
     rw[hsame j (by omega)];exact htl j hj hjl
    by_cases hin2:i=n
    ·subst hin2
     obtain⟨hR,hFs⟩:=hA h1
     have hnl:∀ j,j<i→late j=false→listed.getD j true=true:=fun j hj hlj=>by
      have:=forced_listedP hf hcl hoa (Nat.le_refl _) hpre (i:=j) hj (fun _=>hlj)
      rwa [same_getD (by omega)]at this
     refine pivot_at ho (hp o hoa vs w hR fun j hj hlj=>hFs j hj (hnl j hj hlj)) _ fun a' w' ⟨v,ha',hv⟩=>?_
     subst ha'
     rw[hput]
     refine ih _ (upd vs i v) w' (by simpa using hsz) hcnt hcl2 (hold2 v) (fun h=>by rw[hset]at h;cases h) (fun _=>⟨by rw[upd_same];exact hv,fun j hj hlj=>by rw[hsame j (by omega)];exact hnl j hj hlj,fun j hj hlj hjl=>?_⟩) htl2
     rw[hsame j (by omega)]at hjl
     rw[upd_other _ _ (by omega)]
     exact hFl j hlj _ _ _ (hFs j hj hjl)
    ·have hlt:i<n:=by omega
     have hne:n≠i:=by omega
     have hoT:(all.take n)[i]? = some o:=by rw[List.getElem?_take_of_lt hlt];exact hoa
     cases hpv:listed.getD n true with
     | false =>
      obtain⟨hR,hFs⟩:=hA hpv
      have hknow:Knows F vs w o.after.toList:=by
       refine knows_of F vs w _ fun e hee hbind=>?_
       have hee':e∈o.after:=by simpa using hee
       have hlt2:=edges_back all 0 hb i o hoa e hee' hbind
       refine hFs e.on (by omega) ?_
       rw[←same_getD (by omega)]
       exact hpre e hee' hbind
      have hstep:=stepsT_at (all.take n) 0 hs i o hoT (by simpa using ho) vs w hR hknow (by
       intro j hj
       rw[Nat.zero_add]at hj
       unfold predB at hj
       cases hoj:l[j]? with
       | none=>rw[hoj]at hj;cases hj
       | some oj =>
        rw[hoj]at hj
        simp only[List.any_eq_true,Bool.and_eq_true,beq_iff_eq]at hj
        obtain⟨e,he,heq,hbe⟩:=hj
        have hjl:j<n+1:=by have:=(List.getElem?_eq_some_iff.1 hoj).1;omega
        have hoj':all[j]? = some oj:=by rw[hl,List.getElem?_take_of_lt hjl]at hoj;exact hoj
        refine hold j hjl ?_
        rw[←same_getD (by omega)]
        cases hlj:listed.getD j false with
        | false=>rfl
        | true =>
         have:=hcl j oj hoj' hlj e (by simpa using he) hbe
         rw[heq,same_getD (by omega),h1]at this;cases this)
      rw[Nat.zero_add]at hstep
      refine hstep _ fun a' w' ⟨v,ha',hv,hw'⟩=>?_
      subst ha'
      rw[hput]
      refine ih _ (upd vs i v) w' (by simpa using hsz) hcnt hcl2 (hold2 v) (fun _=>⟨hRt _ _ _ hR hw',fun j hj hjl=>?_⟩) (fun h=>by rw[hsame n hne,hpv]at h;cases h) htl2
      by_cases hji:j=i
      ·subst hji;rw[upd_same];exact hv
      ·rw[upd_other _ _ hji]
       rw[hsame j hji]at hjl
       exact hF _ _ _ _ (hFs j hj hjl) hw'
     | true =>
      obtain⟨g1,g2,g3⟩:=hB hpv
      have hli:late i=true:=by
       cases hx:late i with
       | true=>rfl
       | false=>rw[g2 i hlt hx]at h1;cases h1
      have hknow:Knows F vs w o.after.toList:=by
       refine knows_of F vs w _ fun e hee hbind=>?_
       have hee':e∈o.after:=by simpa using hee
       have hlt2:=edges_back all 0 hb i o hoa e hee' hbind
       refine g3 e.on (by omega) (late_shut hsh hoa hli e hee' hbind) ?_
       rw[←same_getD (by omega)]
       exact hpre e hee' hbind
      have hl2:=stepsG_at (all.take n) 0 hsl i o hoT (by rw[Nat.zero_add];exact hli) vs w ⟨_,g1⟩ hknow
      rw[Nat.zero_add]at hl2
      refine late_at ho hl2 _ fun a' w' ⟨v,ha',hv,hw'⟩=>?_
      subst ha'
      subst hw'
      rw[hput]
      refine ih _ (upd vs i v) w (by simpa using hsz) hcnt hcl2 (hold2 v) (fun h=>by rw[hsame n hne,hpv]at h;cases h) (fun _=>⟨by rw[upd_other _ _ hne];exact g1,fun j hj hlj=>?_,fun j hj hlj hjl=>?_⟩) htl2
      ·by_cases hji:j=i
       ·subst hji;exact hset
       ·rw[hsame j hji];exact g2 j hj hlj
      ·by_cases hji:j=i
       ·subst hji;rw[upd_same];exact hv
       ·rw[upd_other _ _ hji]
        rw[hsame j hji]at hjl
        exact g3 j hj hlj hjl
theorem wp_region_pivotG {P : Program} {Q : Exit→Act→World→Prop} {all:List Oper} {a0:Act} {w0:World} {id:Nat} (n:Nat) (late:Nat→Bool) (G:Value→World→Prop) (hm:P.follows .mixedOrders=true)
  (hd:dstsApart (all.take (n+1))=true) (hb:edgesBack all 0=true) (hf:forcedP all n late=true) (hsh:lateShut all late=true) (hn:n<all.length) (Fs:List (Value→World→Prop)) (hF:AllStable Fs) (hfr:LateFree late Fs 0)
  (hs:StepsT Since P all.toArray (all.take (n+1)) Q (nthF Fs) a0 w0 (all.take n) 0)
  (hsl:StepsG late G P all.toArray (all.take (n+1)) Q (nthF Fs) a0 (all.take n) 0)
  (hp:∀ vs w,Since w0 w→KnowsB (nthF Fs) (fun i=>!late i) vs w 0 n→wpList P all.toArray (OneQP Q G ((all[n]?).bind (·.dst)) (putAll (all.take (n+1)) 0 vs a0)) ((all.drop n).take 1) (putAll (all.take (n+1)) 0 vs a0) w)
  (he:∀ vs w,G (vs n) w→KnowsB (nthF Fs) late vs w 0 n→wpList P all.toArray Q (all.drop (n+1)) (putAll (all.take (n+1)) 0 vs a0) w):(Code.region id all.toArray true).wp P Q a0 w0:=by
 refine wp_region_any hm ?_
 have e:=putAll_old (oldAt (all.take (n+1)) a0) a0 (all.take (n+1)) 0 (fun i o d hi hdst=>by simp only[oldAt,Nat.zero_add,hi,Option.bind_some,hdst])
 have hrep:∀ i,i<all.length→(Array.replicate all.length false).getD i true=false:=fun i hi=>by simp[Array.getD_eq_getD_getElem?,hi]
 have h:=any_factsG (P:=P) (Q:=Q) (F:=nthF Fs) (G:=G) (a0:=a0) (w0:=w0) (R:=Since) (late:=late) (l:=all.take (n+1)) rfl hn (fun _ _ _=>Since.trans) (nthF_stable Fs hF) (fun i hi=>lateFree_at Fs 0 hfr i (by rw[Nat.zero_add];exact hi)) hd hb hf hsh hs hsl
  (fun o ho vs w hR hk=>by
   have h:=hp vs w hR (knowsB_of _ _ _ _ n 0 fun i _ hi hl=>hk i (by omega) (by simpa using hl))
   have ed:(all.drop n).take 1=[o]:=by rw[List.drop_eq_getElem_cons hn];simp[(List.getElem?_eq_some_iff.1 ho).2]
   rw[ed,ho]at h
   exact h)
  (fun vs w hG hk=>he vs w hG (knowsB_of _ _ _ _ n 0 fun i _ hi hl=>hk i (by omega) hl))
  all.length (Array.replicate all.length false) (oldAt (all.take (n+1)) a0) { w0 with drawn:=w0.drawn+1 } (by simp) (Nat.le_trans (List.length_filter_le _ _) (by simp))
  (fun i o ho hl=>by
   have hi:i<all.length:=(List.getElem?_eq_some_iff.1 ho).1
   simp[Array.getD_eq_getD_getElem?,hi]at hl)
  (fun _ _ _=>rfl)
  (fun _=>⟨(Since.refl _).drew,fun i hi hl=>by rw[hrep i (by omega)]at hl;cases hl⟩)
  (fun hl=>by rw[hrep n hn]at hl;cases hl)
  (fun i _ hi=>hrep i hi)
 rw[e]at h
 exact h
theorem run_append_cap0 {P : Program} (w:World) (base:Nat) (t ty e:TypeId) (i:TypeInfo) (z:Value) (size bytes:Nat) (ht:P.underlying t=some (.slice e)) (hi:P.info? e=some i) (hz:i.zero=some z)
  (hsize:i.size=size) (hby:i.bytes=bytes) (hzs:z.cells.size=size) (hsz:0<size) (g:Nat) (hown:w.ownsRow base e size (.slice (some ⟨g,0,none⟩) 0 0) 0 [])
  (a:Addr) (m c:Nat) (news:List Value) (hl:news.length=m*size) (hnews:∀ j u,news[j]? = some u→w.cell? (a.add j)=some u) (h1:∀ u∈news,u.oneCell'=true)
  (h63:m≤maxLen) (hbytes:m*bytes≤140737488355328) (hbase:base≤w.heap.size) :
  ∃ v' w',(Builtin.append_ #[t,t] ty #[.slice (some ⟨g,0,none⟩) 0 0,.slice (some a) m c]).run P w=.ok v' w'∧w'.ownsRow base e size v' m news∧Since w w':=by
 obtain⟨v',w',hr,h2,_,_⟩:=run_append_own2 (P:=P) w base t ty e i z size bytes ht hi hz hsize hby hzs hsz _ 0 [] hown a m c news hl hnews h1 (by omega) (by rw[Nat.zero_add];exact hbytes) hbase
 rw[Nat.zero_add,List.nil_append]at h2
 refine⟨v',w',hr,h2,?_⟩
 obtain⟨_,⟨hv,_⟩|⟨g2,cap,cur,hv,hb,hg,hnc,hcm,hcs,htake⟩⟩:=hown
 ·cases hv
 cases hv
 subst hsize
 rcases Nat.eq_zero_or_pos m with h0|h0
 ·subst h0
  obtain rfl:news=[]:=List.length_eq_zero_iff.1 (by omega)
  have hr2:=run_append_room (P:=P) w t ty e i ht hi g 0 0 cur hg a 0 c [] (by simp) (fun j u hu=>by cases hu) (fun u hu=>by cases hu) (Nat.le_refl _) (by simp)
  rw[hr]at hr2
  cases hr2
  have e1:(cur.toList.take (0*i.size)++[]++cur.toList.drop (0*i.size+([]:List Value).length)).toArray=cur:=by simp
  rw[e1]
  have tn:Turn (fun q=>q=g) w (w.setRow g cur):=by
   have hk:∀ k,¬ k=g→(w.setRow g cur).heap[k]? = w.heap[k]?:=fun k hk=>by
    simp only[World.setRow,Array.getElem?_modify]
    rw[if_neg (fun e=>hk e.symm)]
   exact⟨rfl,rfl,rfl,by simp[World.setRow],fun k _ h=>hk k h⟩
  refine⟨tn.os,tn.tape,tn.output,tn.size,fun k hk=>?_⟩
  by_cases hkg:k=g
  ·subst hkg
   simp[World.setRow,Array.getElem?_modify,hg]
  ·exact tn.block k hk hkg
 ·have hr2:=run_append_grow (P:=P) w t ty e i z ht hi hz ⟨g,0,none⟩ 0 0 [] (by simp) (fun j u hu=>by cases hu) a m c news hl hnews (by omega) (by simp only[maxLen]at h63;omega) (growslice_fits (by omega) (by rw[hby,Nat.zero_add];exact hbytes))
  rw[hr]at hr2
  cases hr2
  exact (Since.refl w).drew.alloc _
theorem wpList_append_cap0 {α:Type} {P : Program} {w : World} {ops:Array Oper} {rest:List Oper} {o : Oper} {a : Act} {Q : Exit→Act→World→Prop} (base:Nat) (f:α→List Value) (sz:Nat) (hf:∀ x,(f x).length=sz) (hsz:0<sz) (hgd:o.guard=none) (s x:Operand) (t:TypeId)
  (ho:o.op=.call { callee:=.builtin .append,args:=#[s,x],argTypes:=#[t,t] })
  (e:TypeId) (z:Value) (bytes:Nat) (ht:P.underlying t=some (.slice e)) (hinfo:(P.info? e).map (fun i=>(i.zero,i.size,i.bytes))=some (some z,sz,bytes)) (hz:z.cells.size=sz) (hby:bytes≤128)
  (g:Nat) (xv:Value) (l:List α) (hone:∀ x∈l,∀ u∈f x,u.oneCell'=true) (hs:a.eval s=.slice (some ⟨g,0,none⟩) 0 0) (hx:a.eval x=xv) (hown:OwnRow f sz e base w (.slice (some ⟨g,0,none⟩) 0 0) ([]:List α)) {p : World→α→Prop} (hl:RowIn f sz p w xv l) (hlen:l.length≤1000000) (hbase:base≤w.heap.size)
  (h:∀ v' w',OwnRow f sz e base w' v' l→Since w w'→wpList P ops Q rest (a.put o.dst v') w'):wpList P ops Q (o::rest) a w:=by
 obtain⟨i,hi,hz0,hz1,hz2⟩:=info_parts hinfo
 have key:∀ (ad:Addr) (m c:Nat),xv=.slice (some ad) m c→l.length=m→(∀ j u,(l.flatMap f)[j]? = some u→w.cell? (ad.add j)=some u)→wpList P ops Q (o::rest) a w:=by
  intro ad m c hv hm hcell
  refine wpList_plain hgd fun _ hK=>?_
  obtain⟨v',w',hr,h2,h3⟩:=run_append_cap0 (P:=P) w base t o.type e i z sz bytes ht hi hz0 hz1 hz2 hz hsz g hown ad m c (l.flatMap f) (by rw[flat_len f sz hf,hm]) hcell (fun u hu=>by obtain⟨y,hyl,hy⟩:=List.mem_flatMap.1 hu;exact hone y hyl u hy) (by unfold maxLen;omega) (by
   have:m*bytes≤1000000*128:=Nat.mul_le_mul (by omega) hby
   omega) hbase
  unfold Oper.wp execOp
  simp only[ho,resolve,invoke,builtin,Sem.run_bind,Sem.run_pure,Result.andThen_ok,List.map_toArray,List.map_cons,List.map_nil,hs,hx,hv,hr]
  exact hK _ _ (h v' w' (by unfold OwnRow;rw[hm];exact h2) h3)
 rcases hl with ⟨ad,hv,rfl⟩|⟨b,off,cap,hv,hcap,_,hb,hcell⟩
 ·cases ad with
  | none=>exact wpList_append_own_none hgd s x t ho base e i sz ht hi _ _ _ hs (show w.ownsRow base e sz _ 0 [] from hown) (hx.trans hv) (h _ w hown (Since.refl w))
  | some ad=>exact key ad 0 0 hv rfl (fun j u hu=>by cases hu)
 ·refine key ⟨b,off,none⟩ l.length cap hv rfl fun j u hu=>?_
  have hj:j<l.length*sz:=by have:=(List.getElem?_eq_some_iff.1 hu).1;rwa [flat_len f sz hf]at this
  have hq:j / sz<l.length:=(Nat.div_lt_iff_lt_mul hsz).2 hj
  obtain⟨y,hy⟩:∃ y,l[j / sz]? = some y:=⟨_,List.getElem?_eq_getElem hq⟩
  have hjs:j / sz*sz+j % sz=j:=by rw[Nat.mul_comm];exact Nat.div_add_mod j sz
  have h2:=(hcell (j / sz) y hy).1 (j % sz) (Nat.mod_lt _ hsz)
  have h3:=flat_at f sz hf l (j / sz) (j % sz) y hy (Nat.mod_lt _ hsz)
  rw[hjs,hu]at h3
  rw[←h3,Nat.add_assoc,hjs]at h2
  unfold Addr.add
  split
  ·rename_i h0;subst h0;simpa using h2
  ·exact h2
set_option linter.unusedVariables false
noncomputable def TnCode (p:List Nat):Code:=cNav p (Tryz.f21.body.getD .skip)
def FrTn (l:List (Nat × Value)) (a:Act):Prop:=a.tmps.size=293∧a.defers=[]∧Sl l a
theorem frTn_mk {l : List (Nat × Value)} {a : Act} (h1:a.tmps.size=293) (h2:a.defers=[]) (h3:Sl l a):FrTn l a:=⟨h1,h2,h3⟩
set_option maxRecDepth 1000000 in
theorem litTn_range (u:Nat→Value):(u 0::u 1::u 2::u 3::u 4::u 5::u 6::u 7::u 8::u 9::u 10::u 11::u 12::u 13::u 14::u 15::u 16::u 17::u 18::u 19::u 20::u 21::u 22::u 23::u 24::u 25::u 26::u 27::u 28::u 29::u 30::u 31::u 32::u 33::u 34::u 35::u 36::u 37::u 38::u 39::u 40::u 41::u 42::u 43::u 44::u 45::u 46::u 47::u 48::u 49::u 50::u 51::u 52::u 53::u 54::u 55::u 56::u 57::u 58::u 59::u 60::u 61::u 62::u 63::u 64::u 65::u 66::u 67::u 68::u 69::u 70::u 71::u 72::u 73::u 74::u 75::u 76::u 77::u 78::u 79::u 80::u 81::u 82::u 83::u 84::u 85::u 86::u 87::u 88::u 89::u 90::u 91::u 92::u 93::u 94::u 95::u 96::u 97::u 98::u 99::u 100::u 101::u 102::u 103::u 104::u 105::u 106::u 107::u 108::u 109::u 110::u 111::u 112::u 113::u 114::u 115::u 116::u 117::u 118::u 119::u 120::u 121::u 122::u 123::u 124::u 125::u 126::u 127::u 128::u 129::u 130::u 131::u 132::u 133::u 134::u 135::u 136::u 137::u 138::u 139::u 140::u 141::u 142::u 143::u 144::u 145::u 146::u 147::u 148::u 149::u 150::u 151::u 152::u 153::u 154::u 155::u 156::u 157::u 158::u 159::u 160::u 161::u 162::u 163::u 164::u 165::u 166::u 167::u 168::u 169::u 170::u 171::u 172::u 173::u 174::u 175::u 176::u 177::u 178::u 179::u 180::u 181::u 182::u 183::u 184::u 185::u 186::u 187::u 188::u 189::u 190::u 191::u 192::u 193::u 194::u 195::u 196::u 197::u 198::u 199::u 200::u 201::u 202::u 203::u 204::u 205::u 206::u 207::u 208::u 209::u 210::u 211::u 212::u 213::u 214::u 215::u 216::u 217::u 218::u 219::u 220::u 221::u 222::u 223::u 224::u 225::u 226::u 227::u 228::u 229::u 230::u 231::u 232::u 233::u 234::u 235::u 236::u 237::u 238::u 239::u 240::u 241::u 242::u 243::u 244::u 245::u 246::u 247::u 248::u 249::u 250::u 251::u 252::u 253::u 254::u 255::u 256::u 257::u 258::u 259::u 260::u 261::u 262::u 263::u 264::u 265::u 266::u 267::u 268::u 269::u 270::u 271::u 272::u 273::u 274::u 275::u 276::u 277::u 278::u 279::u 280::u 281::u 282::u 283::u 284::u 285::u 286::u 287::u 288::u 289::u 290::u 291::u 292::[]:List Value).toArray=((List.range 293).map u).toArray:=by kernel_rfl
set_option maxRecDepth 1000000 in
theorem frameTn_ex {l : List (Nat × Value)} {a : Act} (h:FrTn l a):∃ u:Nat→Value,a=⟨(u 0::u 1::u 2::u 3::u 4::u 5::u 6::u 7::u 8::u 9::u 10::u 11::u 12::u 13::u 14::u 15::u 16::u 17::u 18::u 19::u 20::u 21::u 22::u 23::u 24::u 25::u 26::u 27::u 28::u 29::u 30::u 31::u 32::u 33::u 34::u 35::u 36::u 37::u 38::u 39::u 40::u 41::u 42::u 43::u 44::u 45::u 46::u 47::u 48::u 49::u 50::u 51::u 52::u 53::u 54::u 55::u 56::u 57::u 58::u 59::u 60::u 61::u 62::u 63::u 64::u 65::u 66::u 67::u 68::u 69::u 70::u 71::u 72::u 73::u 74::u 75::u 76::u 77::u 78::u 79::u 80::u 81::u 82::u 83::u 84::u 85::u 86::u 87::u 88::u 89::u 90::u 91::u 92::u 93::u 94::u 95::u 96::u 97::u 98::u 99::u 100::u 101::u 102::u 103::u 104::u 105::u 106::u 107::u 108::u 109::u 110::u 111::u 112::u 113::u 114::u 115::u 116::u 117::u 118::u 119::u 120::u 121::u 122::u 123::u 124::u 125::u 126::u 127::u 128::u 129::u 130::u 131::u 132::u 133::u 134::u 135::u 136::u 137::u 138::u 139::u 140::u 141::u 142::u 143::u 144::u 145::u 146::u 147::u 148::u 149::u 150::u 151::u 152::u 153::u 154::u 155::u 156::u 157::u 158::u 159::u 160::u 161::u 162::u 163::u 164::u 165::u 166::u 167::u 168::u 169::u 170::u 171::u 172::u 173::u 174::u 175::u 176::u 177::u 178::u 179::u 180::u 181::u 182::u 183::u 184::u 185::u 186::u 187::u 188::u 189::u 190::u 191::u 192::u 193::u 194::u 195::u 196::u 197::u 198::u 199::u 200::u 201::u 202::u 203::u 204::u 205::u 206::u 207::u 208::u 209::u 210::u 211::u 212::u 213::u 214::u 215::u 216::u 217::u 218::u 219::u 220::u 221::u 222::u 223::u 224::u 225::u 226::u 227::u 228::u 229::u 230::u 231::u 232::u 233::u 234::u 235::u 236::u 237::u 238::u 239::u 240::u 241::u 242::u 243::u 244::u 245::u 246::u 247::u 248::u 249::u 250::u 251::u 252::u 253::u 254::u 255::u 256::u 257::u 258::u 259::u 260::u 261::u 262::u 263::u 264::u 265::u 266::u 267::u 268::u 269::u 270::u 271::u 272::u 273::u 274::u 275::u 276::u 277::u 278::u 279::u 280::u 281::u 282::u 283::u 284::u 285::u 286::u 287::u 288::u 289::u 290::u 291::u 292::[]).toArray,[]⟩∧∀ i v,a.tmps[i]? = some v→u i=v:=by
 obtain⟨t,d⟩:=a
 obtain⟨h1,h2,_⟩:=h
 dsimp only at h1 h2
 obtain⟨u,hu⟩:∃ u:Nat→Value,∀ i,u i=t.getD i undef:=⟨fun i=>t.getD i undef,fun _=>rfl⟩
 refine⟨u,?_,fun i v hv=>?_⟩
 ·rw[h2]
  refine congrArg (fun x=>Act.mk x []) (Eq.trans ?_ (litTn_range u).symm)
  apply Array.ext
  ·simp[h1]
  ·intro i g1 g2
   simp[g1,hu]
 ·rw[hu,Array.getD_eq_getD_getElem?,show t[i]? = some v from hv];rfl
structure XOk (N:Nat) (X:FBlk):Prop where
 r:BlkR X
 phis:X.phis.length≤3+N∧∀ p∈X.phis,p.ins.length≤9+N
 args:∀ i∈X.ins,i.args.length≤4
 term:X.term.args.length≤65+N∧X.term.to.length≤65+N
 len:X.ins.length≤700
theorem XOk.same {N : Nat} {X : FBlk} (h:XOk N X):BlkT N X X:=⟨h.r,⟨by have:=h.phis.1;omega,fun p hp=>by have:=h.phis.2 p hp;omega⟩,h.args,by have:=h.term;omega,Nat.le_refl _⟩
structure TnOut (w0:World) (N:Nat) (X:FBlk) (fb rq bb nb bc qx:Nat) (bl:List FBlk) (p':Int) (y:FBlk) (w2:World):Prop where
 st:TnS w0 fb rq bb nb bc qx bl p' y.phv y.phis y.inv y.ins y.term.kind y.term.argsv y.term.tov y.term.imm w2
 par:In64 p'
 turn:BlkT N X y
 blk:∀ w',Turn (TnT bb rq) w2 w'→FBlkIn w' y
def TnWay (w0:World) (N:Nat) (X:FBlk) (k:Int):Prop:=∀ (fb rq bb nb bc qx:Nat) (bl:List FBlk) (p:Int) (phv inv:Value) (bi:Int) (n i:Nat) (a0:Act) (w1:World) (Q0:Exit→Act→World→Prop),FrTn [(2,.pointer (some ⟨fb,0,none⟩)),(4,.pointer (some ⟨rq,0,none⟩)),(5,.slice (some ⟨bb,0,none⟩) nb bc),(8,.int .i64 bi),(9,.int .i64 (n:Int)),(10,.pointer (some ⟨qx,0,none⟩)),(11,.int .i64 (i:Int)),(60,.int .i64 k)] a0 →
 FBlkIn w0 X→XOk N X→N≤100→In64 p→n<40→(0<X.ins.length→i<X.ins.length)→TnS w0 fb rq bb nb bc qx bl p phv X.phis inv X.ins X.term.kind X.term.argsv X.term.tov X.term.imm w1 →
 (∀ a1 w2 p' y,FrTn [(2,.pointer (some ⟨fb,0,none⟩)),(4,.pointer (some ⟨rq,0,none⟩)),(5,.slice (some ⟨bb,0,none⟩) nb bc),(8,.int .i64 bi),(10,.pointer (some ⟨qx,0,none⟩))] a1→TnOut w0 N X fb rq bb nb bc qx bl p' y w2→Q0 .normal a1 w2)→Code.wp Tryz.prog (TnCode [1,1,1,1,1,1,1,1,1,1,1,1,1,0,1]) Q0 a0 w1
theorem row_all {α:Type} {f : α→List Value} {sz:Nat} {p : World→α→Prop} {w : World} {v : Value} {l : List α} (h:RowIn f sz p w v l):∀ x∈l,p w x:=fun x hx=>by
 obtain⟨j,hj,rfl⟩:=List.mem_iff_getElem.1 hx
 rcases h with ⟨_,_,e⟩|⟨b,off,cap,_,_,_,_,h5⟩
 ·subst e;cases hx
 ·exact (h5 j _ (List.getElem?_eq_getElem hj)).2
section
variable {w0 w:World} {fb rq bb nb bc qx:Nat} {bl:List FBlk} {p : Int} {phv inv v:Value} {phl:List FPhi} {il:List FIns} {kd im:Int} {av tv:Value}
theorem TnS.oldPh (h:TnS w0 fb rq bb nb bc qx bl p phv phl inv il kd av tv im w) {l : List FPhi} (hX:RowIn fpcells 2 FPhiIn w0 v l):∀ x∈l,∀ w',Turn (TnT bb rq) w w'→FPhiIn w' x:=fun x hx w' t=>FPhiIn.keep _ _ _ (row_all hX x hx) (h.late t)
theorem TnS.oldIn (h:TnS w0 fb rq bb nb bc qx bl p phv phl inv il kd av tv im w) {l : List FIns} (hX:RowIn ficells 5 FInsIn w0 v l):∀ x∈l,∀ w',Turn (TnT bb rq) w w'→FInsIn w' x:=fun x hx w' t=>FInsIn.keep _ _ _ (row_all hX x hx) (h.late t)
end
theorem own_where {w : World} {base sz n:Nat} {e : TypeId} {v : Value} {xs:List Value} (h:w.ownsRow base e sz v n xs) (hn:0<n):∃ g cap,v=.slice (some ⟨g,0,none⟩) n cap∧n≤cap∧cap≤maxLen∧base≤g∧g<w.heap.size∧(∀ j u,xs[j]? = some u→w.cell? ⟨g,j,none⟩=some u)∧∀ j,w.frozen? ⟨g,j,none⟩=false:=by
 obtain⟨_,⟨_,h1⟩|⟨g,cap,cur,hv,hb,hg,hc,hm,hs,htake⟩⟩:=h
 ·omega
 ·refine⟨g,cap,hv,hc,hm,hb,(Array.getElem?_eq_some_iff.1 hg).1,fun j u hu=>?_,fun j=>HeapIs.frozen (show HeapIs w g cur e from hg) j⟩
  rw[HeapIs.cell (show HeapIs w g cur e from hg) j]
  have hj:=(List.getElem?_eq_some_iff.1 hu).1
  rw[←htake]at hu hj
  rw[List.length_take]at hj
  rw[List.getElem?_take_of_lt (by omega)]at hu
  simpa using hu
theorem ints_ownT {w : World} {base:Nat} {e : TypeId} {v : Value} {l : List Int} (h:w.ownsRow base e 1 v l.length (l.map (Value.int .i64))):Ints w v l:=by
 rcases Nat.eq_zero_or_pos l.length with h0|h0
 ·obtain⟨_,⟨hv,_⟩|⟨g,cap,cur,hv,hb,hg,hc,hm,hs,htake⟩⟩:=h
  ·exact .inl ⟨none,hv,List.length_eq_zero_iff.1 h0⟩
  ·exact .inr ⟨g,0,cap,hv,hc,hm,(Array.getElem?_eq_some_iff.1 hg).1,fun j n hj=>by rw[List.length_eq_zero_iff.1 h0]at hj;cases hj⟩
 ·obtain⟨g,cap,hv,hc,hm,_,hg,hcell,_⟩:=own_where h h0
  exact .inr ⟨g,0,cap,hv,hc,hm,hg,fun j n hj=>by rw[Nat.zero_add];exact hcell j _ (by rw[List.getElem?_map,hj];rfl)⟩
theorem one_numsT (w:World) (y:Int) (T:TypeId):Ints (w.alloc (.cells #[.int .i64 y] T)) (.slice (some ⟨w.heap.size,0,none⟩) 1 1) [y]:=
 nums_new (k:=.i64) (b:=w.heap.size) [y] T 1 (by simp) (by decide) (cs:=[.int .i64 y]) (heap_last w _) (fun j n hj=>by match j,hj with | 0,hj=>simp at hj;subst hj;rfl)
theorem ownT_shape {w : World} {base:Nat} {e : TypeId} {sz n:Nat} {v : Value} {xs:List Value} (h:w.ownsRow base e sz v n xs):∃ a c,v=.slice a n c:=by
 obtain⟨_,⟨hv,hn⟩|⟨g,cap,cur,hv,_⟩⟩:=h
 ·exact⟨none,0,by rw[hv,hn]⟩
 ·exact⟨_,cap,hv⟩
theorem empty_nums (w:World):(w.alloc (.cells #[] 3)).ownsRow w.heap.size 3 1 (.slice (some ⟨w.heap.size,0,none⟩) 0 0) ([]:List Int).length (([]:List Int).map (Value.int .i64)):=own_new (fun (x:Int)=>[Value.int .i64 x]) 1 3 w [] 0 (fun _=>rfl) rfl (by decide) #[] rfl
theorem own_setInt {w : World} {base g n cap j:Nat} {l : List Int} (h:w.ownsRow base 3 1 (.slice (some ⟨g,0,none⟩) n cap) l.length (l.map (Value.int .i64))) (hn:l.length=n) (y:Int):(w.setCell ⟨g,j,none⟩ (.int .i64 y)).ownsRow base 3 1 (.slice (some ⟨g,0,none⟩) n cap) (l.set j y).length ((l.set j y).map (Value.int .i64)):=by
 rw[hn]at h
 rw[List.length_set,hn,List.map_set]
 exact own_setCell h j _
theorem own_at {α:Type} {f : α→List Value} {sz:Nat} (hf:∀ x,(f x).length=sz) {e : TypeId} {base g n cap:Nat} {w : World} {l : List α} (h:OwnRow f sz e base w (.slice (some ⟨g,0,none⟩) n cap) l) {j : Nat} {x : α} (hj:l[j]? = some x):∀ t,t<sz→w.cell? ⟨g,j*sz+t,none⟩=(f x)[t]?:=fun t ht=>by
 rcases OwnRow.cells hf h with ⟨e1,_⟩|⟨g2,c2,e1,_,_,_,_,hc⟩
 ·cases e1
 ·cases e1
  exact hc j t x hj ht
theorem wpList_append_rowT {α:Type} {P : Program} {w : World} {ops:Array Oper} {rest:List Oper} {o : Oper} {a : Act} {Q : Exit→Act→World→Prop} (base:Nat) (f:α→List Value) (sz:Nat) (hf:∀ x,(f x).length=sz) (hsz:0<sz) (hgd:o.guard=none) (s x:Operand) (t:TypeId)
  (ho:o.op=.call { callee:=.builtin .append,args:=#[s,x],argTypes:=#[t,t] })
  (e:TypeId) (z:Value) (bytes:Nat) (ht:P.underlying t=some (.slice e)) (hinfo:(P.info? e).map (fun i=>(i.zero,i.size,i.bytes))=some (some z,sz,bytes)) (hz:z.cells.size=sz) (hby:bytes≤128)
  (v:Value) (l1 l2:List α) (hone:∀ x∈l2,∀ u∈f x,u.oneCell'=true) (b off n cap:Nat) (hs:a.eval s=v) (hx:a.eval x=.slice (some ⟨b,off,none⟩) n cap) (hown:OwnRow f sz e base w v l1) (hn:l2.length=n) (hcell:∀ (j t:Nat) (x:α),l2[j]? = some x→t<sz→w.cell? ⟨b,off+j*sz+t,none⟩=(f x)[t]?)
  (hlen:l1.length+n≤1000000) (hbase:base≤w.heap.size)
  (h:∀ v' w',OwnRow f sz e base w' v' (l1++l2)→Turn (fun q=>v.ownBlock=some q) w w'→NewOr w v v'→wpList P ops Q rest (a.put o.dst v') w'):wpList P ops Q (o::rest) a w:=by
 obtain⟨i,hi,hz0,hz1,hz2⟩:=info_parts hinfo
 subst hn
 refine wpList_append_own2 hgd s x t ho base e i z sz bytes ht hi hz0 hz1 hz2 hz hsz v _ _ hs hown ⟨b,off,none⟩ l2.length cap (l2.flatMap f) hx (by rw[flat_len f sz hf]) ?_ ?_ (by unfold maxLen;omega) ?_ hbase ?_
 ·intro j u hu
  have hj:j<l2.length*sz:=by have:=(List.getElem?_eq_some_iff.1 hu).1;rwa [flat_len f sz hf]at this
  have hq:j / sz<l2.length:=(Nat.div_lt_iff_lt_mul hsz).2 hj
  obtain⟨y,hy⟩:∃ y,l2[j / sz]? = some y:=⟨_,List.getElem?_eq_getElem hq⟩
  have hjs:j / sz*sz+j % sz=j:=by rw[Nat.mul_comm];exact Nat.div_add_mod j sz
  have h2:=hcell (j / sz) (j % sz) y hy (Nat.mod_lt _ hsz)
  have h3:=flat_at f sz hf l2 (j / sz) (j % sz) y hy (Nat.mod_lt _ hsz)
  rw[hjs,hu]at h3
  rw[←h3,Nat.add_assoc,hjs]at h2
  unfold Addr.add
  split
  ·rename_i h0;subst h0;simpa using h2
  ·exact h2
 ·intro u hu
  obtain⟨y,hyl,hy⟩:=List.mem_flatMap.1 hu
  exact hone y hyl u hy
 ·have:(l1.length+l2.length)*bytes≤1000000*128:=Nat.mul_le_mul hlen hby
  omega
 ·intro v' w' hown' ht h4
  exact h v' w' (by unfold OwnRow;rw[List.length_append,List.flatMap_append];exact hown') ht h4
theorem OwnRow.cut {α:Type} {f : α→List Value} {sz:Nat} (hf:∀ x,(f x).length=sz) {e : TypeId} {base g n cap k:Nat} {w : World} {l : List α} (h:OwnRow f sz e base w (.slice (some ⟨g,0,none⟩) n cap) l) (hk:k≤n):OwnRow f sz e base w (.slice (some ⟨g,0,none⟩) k cap) (l.take k):=by
 have hn:l.length=n:=by
  obtain⟨a,c,e1⟩:=h.shape
  injection e1 with _ e2 _;exact e2.symm
 obtain⟨h0,⟨hv,_⟩|⟨g2,cap2,cur,hv,hb,hg,hc,hm,hs,htake⟩⟩:=h
 ·cases hv
 cases hv
 have hl:(l.take k).length=k:=by rw[List.length_take];omega
 refine⟨by rw[flat_len f sz hf],.inr ⟨g,cap,cur,by rw[hl],hb,hg,by omega,hm,hs,?_⟩⟩
 have h5:l.flatMap f=(l.take k).flatMap f++(l.drop k).flatMap f:=by rw[←List.flatMap_append,List.take_append_drop]
 have h6:((l.take k).flatMap f).length=k*sz:=by rw[flat_len f sz hf,hl]
 have h7:(cur.toList.take (l.length*sz)).take (k*sz)=cur.toList.take (k*sz):=by
  rw[List.take_take,Nat.min_eq_left (Nat.mul_le_mul_right _ (by omega))]
 rw[hl,←h7,htake,h5,←h6,List.take_left]
theorem own_thereR {α:Type} {f : α→List Value} {sz:Nat} (hf:∀ x,(f x).length=sz) {e : TypeId} {base g n cap:Nat} {w : World} {l : List α} (h:OwnRow f sz e base w (.slice (some ⟨g,0,none⟩) n cap) l) {j : Nat} (hj:j<n):w.there g (j*sz) sz:=by
 have hn:l.length=n:=by
  obtain⟨a,c,e1⟩:=h.shape
  injection e1 with _ e2 _;exact e2.symm
 unfold OwnRow at h
 rw[hn]at h
 refine own_there h ?_
 rw[flat_len f sz hf,hn]
 have:=Nat.mul_le_mul_right sz (show j+1≤n by omega)
 rw[Nat.succ_mul]at this
 exact this
theorem nums_one {k : IntKind} {w : World} {v : Value} {l : List Int} (h:Nums k w v l):v.oneCell'=true:=by
 obtain⟨a,c,rfl⟩:=nums_lenI h;rfl
theorem row_one {α:Type} {f : α→List Value} {sz:Nat} {p : World→α→Prop} {w : World} {v : Value} {l : List α} (h:RowIn f sz p w v l):v.oneCell'=true:=by
 obtain⟨a,c,rfl,_⟩:=RowIn.shape h;rfl
theorem fi_one {w : World} {x : FIns} (h:FInsIn w x):∀ u∈ficells x,u.oneCell'=true:=fun u hu=>by
 simp only[ficells,List.mem_cons,List.not_mem_nil,or_false]at hu
 rcases hu with rfl|rfl|rfl|rfl|rfl
 ·rfl
 ·rfl
 ·rfl
 ·exact nums_one h
 ·rfl
theorem fp_one {w : World} {x : FPhi} (h:FPhiIn w x):∀ u∈fpcells x,u.oneCell'=true:=fun u hu=>by
 simp only[fpcells,List.mem_cons,List.not_mem_nil,or_false]at hu
 rcases hu with rfl|rfl
 ·rfl
 ·exact row_one (show PairsIn w x.inv x.ins from h)
theorem fb_one2 {w : World} {x : FBlk} (h:FBlkIn w x):∀ u∈fbcells x,u.oneCell'=true:=fun u hu=>by
 simp only[fbcells,List.mem_cons,List.not_mem_nil,or_false]at hu
 rcases hu with rfl|rfl|rfl|rfl|rfl|rfl
 ·exact row_one h.1
 ·exact row_one h.2.1
 ·rfl
 ·exact nums_one h.2.2.1
 ·exact nums_one h.2.2.2
 ·rfl
def EmptyP (w0:World) (v:Value) (w:World):Prop:=∃ g,v=.slice (some ⟨g,0,none⟩) 0 0∧OwnRow prcells 2 71 w0.heap.size w (.slice (some ⟨g,0,none⟩) 0 0) []
theorem EmptyP.stable (w0:World):Stable (EmptyP w0):=fun v w w' ⟨g,h1,h2⟩ s=>⟨g,h1,OwnRow.keep h2 s⟩
def CopyP (w0:World) (l:List (Int × Int)) (v:Value) (w:World):Prop:=OwnRow prcells 2 71 w0.heap.size w v l
theorem CopyP.stable (w0:World) (l:List (Int × Int)):Stable (CopyP w0 l):=fun v w w' h s=>OwnRow.keep h s
theorem pr_one (x:Int × Int):∀ u∈prcells x,u.oneCell'=true:=fun u hu=>by
 simp only[prcells,List.mem_cons,List.not_mem_nil,or_false]at hu;rcases hu with rfl | rfl<;>rfl
theorem ints_map (l:List Int) (j:Nat) (y:Int) (h:l[j]? = some y):(l.map (Value.int .i64))[j]? = some (.int .i64 y):=by rw[List.getElem?_map,h];rfl
theorem rem_nat (n m:Nat):(n:Int).tmod m=((n % m:Nat):Int):=by rw[Int.tmod_eq_emod_of_nonneg (by omega)];omega
end Go.Proofs.YtmhojfpidedjeaaGreatDoor
