/- A rule for regions that write: some operations (the keys) turn memory from one phase to the next; each other one stays within the phase in which it stands. One obligation for each operation, for all phases in which it may come. The region rule for a region in which one operation turns what was there -/
import Derived.Test.YtmhojfpidedjeaaGreatDoorTq03
import Derived.Test.YtmhojfpidedjeaaGreatDoorTq04
import Derived.Test.YtmhojfpidedjeaaGreatDoorTq05
import Derived.Test.YtmhojfpidedjeaaGreatDoorTq06
import Derived.Laws.Rows
import Derived.Deep.CutBlock
import Derived.Deep.MidRow
namespace Go.Proofs.YtmhojfpidedjeaaGreatDoor
open Go.RowKit
def doneK (keys:List Nat) (listed:Array Bool):Nat:=keys.countP fun k=>listed.getD k false
def loK (l:List Oper) (keys:List Nat) (i:Nat):Nat:=keys.countP fun k=>aheadB l l.length k i
def hiK (l:List Oper) (keys:List Nat) (i:Nat):Nat:=keys.countP fun k=>!aheadB l l.length i k&&!(k==i)
def boundsK (l:List Oper) (keys los his incs:List Nat):Bool:=
 los==(List.range l.length).map (loK l keys)&&his==(List.range l.length).map (hiK l keys)&&incs==(List.range l.length).map (fun i=>if keys.contains i then 1 else 0)&&decide keys.Nodup&&keys.all (fun k=>decide (k<l.length))
def LeftK (R:World→World→Prop) (Ph:Nat→World→Prop) (F:Nat→Value→World→Prop) (i n:Nat) (dst:Option Tmp) (a:Act) (w:World) (a':Act) (w':World):Prop:=∃ v,a'=a.put dst v∧F i v w'∧R w w'∧Ph n w'
def OneQK (R:World→World→Prop) (Ph:Nat→World→Prop) (Q:Exit→Act→World→Prop) (F:Nat→Value→World→Prop) (i n:Nat) (dst:Option Tmp) (a:Act) (w:World):Exit→Act→World→Prop
 | .normal,a',w'=>LeftK R Ph F i n dst a w a' w'
 | e,a',w'=>Q e a' w'
def StepsK (R:World→World→Prop) (Ph:Nat→World→Prop) (P:Program) (all:Array Oper) (Q:Exit→Act→World→Prop) (F:Nat→Value→World→Prop) (a0:Act) (w0:World):List Oper→List Nat→List Nat→List Nat→Nat→Prop
 | o::r,lo::los,hi::his,inc::incs,k=>(∀ (p:Nat) (vs:Nat→Value) (w:World),lo≤p→p≤hi→R w0 w→Ph p w→Knows F vs w o.after.toList →
   wpList P all (OneQK R Ph Q F k (p+inc) o.dst (putAll all.toList 0 vs a0) w) [o] (putAll all.toList 0 vs a0) w)∧StepsK R Ph P all Q F a0 w0 r los his incs (k+1)
 | _,_,_,_,_=>True
theorem stepsK_at {R : World→World→Prop} {Ph:Nat→World→Prop} {P : Program} {all:Array Oper} {Q : Exit→Act→World→Prop} {F : Nat→Value→World→Prop} {a0:Act} {w0:World}:∀ (l:List Oper) (los his incs:List Nat) (k:Nat),StepsK R Ph P all Q F a0 w0 l los his incs k→los.length=l.length→his.length=l.length→incs.length=l.length→∀ (i:Nat) (o:Oper),l[i]? = some o→all[k+i]? = some o →
  ∀ (p:Nat) (vs:Nat→Value) (w:World),los.getD i 0≤p→p≤his.getD i 0→R w0 w→Ph p w→Knows F vs w o.after.toList→∀ K:Act→World→Prop,(∀ a' w',LeftK R Ph F (k+i) (p+incs.getD i 0) o.dst (putAll all.toList 0 vs a0) w a' w'→K a' w') →
   wpOp P all Q (k+i) K (putAll all.toList 0 vs a0) w
 | [],_,_,_,_,_,_,_,_,_,_,h,_=>by cases h
 | _::_,[],_,_,_,_,h,_,_,_,_,_,_=>by simp at h
 | _::_,_::_,[],_,_,_,_,h,_,_,_,_,_=>by simp at h
 | _::_,_::_,_::_,[],_,_,_,_,h,_,_,_,_=>by simp at h
 | p::r,lo::los,hi::his,inc::incs,k,h,_,_,_,0,o,ho,hall=>by
  obtain rfl:p=o:=by simpa using ho
  intro q vs w hlo hhi hw hph hk K hK
  have:=h.1 q vs w hlo hhi hw hph hk
  unfold wpOp
  rw[hall]
  simp only[wpList]at this
  show if _ then _ else _
  split
  ·rename_i hwant
   rw[if_pos hwant]at this
   rcases this with this|⟨h1,h2⟩
   ·exact .inl (Oper.wp_turn (fun _ _ _ h=>h) (fun h=>h) (Oper.wp_mono (fun a' w' h=>hK a' w' h) this))
   ·exact .inr ⟨h1,h2⟩
  ·rename_i hwant
   rw[if_neg hwant]at this
   exact hK _ _ this
 | p::r,lo::los,hi::his,inc::incs,k,h,h1,h2,h3,i+1,o,ho,hall=>by
  have:=stepsK_at r los his incs (k+1) h.2 (by simpa using h1) (by simpa using h2) (by simpa using h3) i o (by simpa using ho) (by rw[show k+1+i=k+(i+1) from by omega];exact hall)
  rw[show k+1+i=k+(i+1) from by omega]at this
  exact this
theorem doneK_same {keys:List Nat} {listed:Array Bool} {i : Nat} (h:i∉keys):doneK keys (listed.setIfInBounds i true)=doneK keys listed:=by
 unfold doneK
 refine List.countP_congr fun k hk=>?_
 have hne:i≠k:=fun e=>h (by rw[e];exact hk)
 rw[getD_set_ne _ hne]
theorem doneK_more {listed:Array Bool} {i : Nat} (hi:i<listed.size) (hl:listed.getD i false=false):∀ {keys:List Nat},keys.Nodup→i∈keys→doneK keys (listed.setIfInBounds i true)=doneK keys listed+1
 | [],_,h=>by cases h
 | k::r,hn,h=>by
  rw[List.nodup_cons]at hn
  have hset:(listed.setIfInBounds i true).getD i false=true:=by simp[Array.getD_eq_getD_getElem?,hi]
  by_cases hk:k=i
  ·subst hk
   have hs:=doneK_same (listed:=listed) hn.1
   unfold doneK at hs ⊢
   rw[List.countP_cons,List.countP_cons,hs,hset,hl]
   simp
  ·have hr:=doneK_more hi hl hn.2 ((List.mem_cons.1 h).resolve_left (fun e=>hk e.symm))
   unfold doneK at hr ⊢
   rw[List.countP_cons,List.countP_cons,hr,getD_set_ne _ (fun e=>hk e.symm)]
   omega
section
variable {P : Program} {Q : Exit→Act→World→Prop} {l : List Oper} {F : Nat→Value→World→Prop} {a0:Act} {w0:World} {R : World→World→Prop} {Ph:Nat→World→Prop} {keys los his incs:List Nat}
theorem any_factsK (hbd:boundsK l keys los his incs=true) (hRt:∀ a b c,R a b→R b c→R a c) (hF:∀ i v w w',F i v w→R w w'→F i v w') (hd:dstsApart l=true) (hb:edgesBack l 0=true)
  (hs:StepsK R Ph P l.toArray Q F a0 w0 l los his incs 0)
  (he:∀ vs w,R w0 w→Ph keys.length w→KnowsAll F vs w 0 l.length→Q .normal (putAll l 0 vs a0) w) :
  ∀ (fuel:Nat) (listed:Array Bool) (vs:Nat→Value) (w:World),listed.size=l.length→((List.range l.length).filter fun i=>!listed.getD i true).length≤fuel→R w0 w→Ph (doneK keys listed) w→Closed l listed →
   (∀ i,i<l.length→listed.getD i true=true→F i (vs i) w)→wpAny P .any l.toArray Q fuel listed (putAll l 0 vs a0) w:=by
 unfold boundsK at hbd
 simp only[Bool.and_eq_true,beq_iff_eq,decide_eq_true_eq,List.all_eq_true]at hbd
 obtain⟨⟨⟨⟨hlos,hhis⟩,hincs⟩,hnod⟩,hkeys⟩:=hbd
 have hend:∀ (listed:Array Bool) (vs:Nat→Value) (w:World),listed.size=l.length→Region.ready .any l.toArray listed=[]→R w0 w→Ph (doneK keys listed) w →
   (∀ i,i<l.length→listed.getD i true=true→F i (vs i) w)→Q .normal (putAll l 0 vs a0) w:=by
  intro listed vs w hsz hr hw hph hk
  have all:∀ (n i:Nat),i<n→i<l.length→listed.getD i true=true:=by
   intro n
   induction n with
   | zero=>intro i h;omega
   | succ n ih =>
    intro i h1 h2
    cases hl:listed.getD i true with
    | true=>rfl
    | false =>
     exfalso
     have:i∈Region.ready .any l.toArray listed:=by
      rw[mem_ready]
      have ho:l[i]? = some l[i]:=List.getElem?_eq_getElem h2
      refine⟨hl,l[i],by simp,fun e hee hbd=>?_⟩
      have hlt:=edges_back l 0 hb i l[i] ho e hee hbd
      have:=ih e.on (by omega) (by omega)
      have hin:e.on<listed.size:=by omega
      rw[Array.getD_eq_getD_getElem?,Array.getElem?_eq_getElem hin]at this ⊢
      simpa using this
     rw[hr]at this
     cases this
  have hfull:doneK keys listed=keys.length:=by
   unfold doneK
   rw[List.countP_eq_length]
   intro k hk
   have hkl:=hkeys k hk
   have:=all (k+1) k (by omega) hkl
   have hin:k<listed.size:=by omega
   rw[Array.getD_eq_getD_getElem?,Array.getElem?_eq_getElem hin]at this ⊢
   simpa using this
  rw[hfull]at hph
  exact he vs w hw hph (knowsAll_of F vs w _ 0 fun i _ hi=>hk i (by omega) (all (i+1) i (by omega) (by omega)))
 have hsame:∀ (listed:Array Bool) (i:Nat),listed.size=l.length→i<l.length→listed.getD i false=listed.getD i true:=by
  intro listed i hsz hi
  have hin:i<listed.size:=by omega
  rw[Array.getD_eq_getD_getElem?,Array.getD_eq_getD_getElem?,Array.getElem?_eq_getElem hin];rfl
 intro fuel
 induction fuel with
 | zero =>
  intro listed vs w hsz hn hw hph _ hk
  have hr:Region.ready .any l.toArray listed=[]:=by
   rw[List.eq_nil_iff_forall_not_mem]
   intro i hi
   rw[mem_ready]at hi
   obtain⟨h1,o,ho,_⟩:=hi
   have hlt:i<l.length:=by simpa using (Array.getElem?_eq_some_iff.1 ho).1
   have:i∈(List.range l.length).filter fun i=>!listed.getD i true:=by
    rw[List.mem_filter];exact⟨List.mem_range.2 hlt,by simp[h1]⟩
   have:=List.length_pos_of_mem this
   omega
  exact⟨hr,hend listed vs w hsz hr hw hph hk⟩
 | succ fuel ih =>
  intro listed vs w hsz hn hw hph hcl hk
  refine⟨fun hr=>hend listed vs w hsz hr hw hph hk,fun i hi=>?_⟩
  rw[mem_ready]at hi
  obtain⟨h1,o,ho,hpre⟩:=hi
  have hol:l[i]? = some o:=by simpa using ho
  have hlt:i<l.length:=(List.getElem?_eq_some_iff.1 hol).1
  have hknow:Knows F vs w o.after.toList:=by
   refine knows_of F vs w _ fun e hee hbind=>?_
   have hee':e∈o.after:=by simpa using hee
   have hlt2:=edges_back l 0 hb i o hol e hee' hbind
   have hon:e.on<l.length:=by omega
   refine hk e.on hon ?_
   have:=hpre e hee' hbind
   have hin:e.on<listed.size:=by omega
   rw[Array.getD_eq_getD_getElem?,Array.getElem?_eq_getElem hin]at this ⊢
   simpa using this
  have hil:listed.getD i false=false:=by rw[hsame listed i hsz hlt];exact h1
  have hlo:los.getD i 0≤doneK keys listed:=by
   rw[hlos]
   simp only[List.getD_eq_getElem?_getD,List.getElem?_map,List.getElem?_range hlt,Option.map_some,Option.getD_some]
   exact List.countP_mono_left fun k _ hk2=>ahead_listed hcl _ _ _ hk2 o hol hpre
  have hhi:doneK keys listed≤his.getD i 0:=by
   rw[hhis]
   simp only[List.getD_eq_getElem?_getD,List.getElem?_map,List.getElem?_range hlt,Option.map_some,Option.getD_some]
   refine List.countP_mono_left fun k hkm hk2=>?_
   simp only[Bool.and_eq_true,Bool.not_eq_true',beq_eq_false_iff_ne]
   refine⟨?_,fun e=>by rw[e,hil]at hk2;cases hk2⟩
   cases hah:aheadB l l.length i k with
   | false=>rfl
   | true =>
    exfalso
    have hkl:=hkeys k hkm
    have ho2:l[k]? = some l[k]:=List.getElem?_eq_getElem hkl
    have:=ahead_listed hcl _ _ _ hah _ ho2 (hcl k _ ho2 hk2)
    rw[hil]at this;cases this
  have hinc:incs.getD i 0=if keys.contains i then 1 else 0:=by
   rw[hincs]
   simp only[List.getD_eq_getElem?_getD,List.getElem?_map,List.getElem?_range hlt,Option.map_some,Option.getD_some]
  have hstep:=stepsK_at l los his incs 0 hs (by rw[hlos];simp) (by rw[hhis];simp) (by rw[hincs];simp) i o hol (by simpa using hol) (doneK keys listed) vs w hlo hhi hw hph hknow
  rw[Nat.zero_add]at hstep
  refine hstep _ fun a' w' ⟨v,ha',hv,hw',hph'⟩=>?_
  subst ha'
  have e:=putAll_upd v l 0 vs a0 i o hol hd
  rw[Nat.zero_add]at e
  rw[show l.toArray.toList=l from rfl,←e]
  refine ih (listed.setIfInBounds i true) (upd vs i v) w' (by simpa using hsz) ?_ (hRt _ _ _ hw hw') ?_ ?_ ?_
  ·have e2:((List.range l.length).filter fun j=>!(listed.setIfInBounds i true).getD j true)=((List.range l.length).filter fun j=>!listed.getD j true).filter fun j=>j != i:=by
    rw[List.filter_filter]
    refine List.filter_congr fun j hj=>?_
    by_cases hji:j=i
    ·subst hji
     have hin:j<listed.size:=by omega
     simp[Array.getD_eq_getD_getElem?,hin]
    ·rw[getD_set_ne _ (Ne.symm hji)];simp[hji]
   rw[e2]
   have hmem:i∈(List.range l.length).filter fun j=>!listed.getD j true:=by
    rw[List.mem_filter];exact⟨List.mem_range.2 hlt,by simp[h1]⟩
   have:=(List.length_filter_lt_length_iff_exists (p:=fun j=>j != i) (l:=(List.range l.length).filter fun j=>!listed.getD j true)).2 ⟨i,hmem,by simp⟩
   omega
  ·rw[hinc]at hph'
   by_cases hik:i∈keys
   ·rw[doneK_more (by omega) hil hnod hik]
    rw[if_pos (by simpa using hik)]at hph'
    exact hph'
   ·rw[doneK_same hik]
    rw[if_neg (by simpa using hik)]at hph'
    exact hph'
  ·intro j p hp hjl x hx hbx
   by_cases hji:j=i
   ·subst hji
    have:=hol.symm.trans hp;cases this
    exact getD_set_true (hpre x hx hbx)
   ·rw[getD_set_ne _ (Ne.symm hji)]at hjl
    exact getD_set_true (hcl j p hp hjl x hx hbx)
  ·intro j hj hlj
   by_cases hji:j=i
   ·subst hji;rw[upd_same];exact hv
   ·rw[upd_other _ _ hji]
    rw[getD_set_ne _ (Ne.symm hji)]at hlj
    exact hF _ _ _ _ (hk j hj hlj) hw'
theorem wp_region_keys {id:Nat} (keys los his incs:List Nat) (R:World→World→Prop) (Ph:Nat→World→Prop) (hRt:∀ a b c,R a b→R b c→R a c) (hRd:R w0 w0.drew) (hm:P.follows .mixedOrders=true) (hd:dstsApart l=true) (hb:edgesBack l 0=true) (hbd:boundsK l keys los his incs=true)
  (Fs:List (Value→World→Prop)) (hF:∀ i v w w',nthF Fs i v w→R w w'→nthF Fs i v w') (hph:Ph 0 w0.drew)
  (hs:StepsK R Ph P l.toArray Q (nthF Fs) a0 w0 l los his incs 0)
  (he:∀ vs w,R w0 w→Ph keys.length w→KnowsAll (nthF Fs) vs w 0 l.length→Q .normal (putAll l 0 vs a0) w):(Code.region id l.toArray true).wp P Q a0 w0:=by
 refine wp_region_any hm ?_
 have e:=putAll_old (oldAt l a0) a0 l 0 (fun i o d hi hdst=>by simp[oldAt,hi,hdst])
 have h:=any_factsK hbd hRt hF hd hb hs he l.length (Array.replicate l.length false) (oldAt l a0) { w0 with drawn:=w0.drawn+1 } (by simp) (Nat.le_trans (List.length_filter_le _ _) (by simp)) hRd
  (by
   have:doneK keys (Array.replicate l.length false)=0:=by
    unfold doneK
    rw[List.countP_eq_zero]
    intro k _
    simp[Array.getD_eq_getD_getElem?,Array.getElem?_replicate]
    split<;>simp
   rw[this];exact hph)
  (fun i o ho hl=>by
   have hi:i<l.length:=(List.getElem?_eq_some_iff.1 ho).1
   simp[Array.getD_eq_getD_getElem?,hi]at hl)
  (fun i hi hl=>by simp[Array.getD_eq_getD_getElem?,hi]at hl)
 rw[e]at h
 simpa using h
end
def AllFree:List (Value→World→Prop)→Prop
 | []=>True
 | f::r=>FixedF f∧AllFree r
theorem nthF_free:∀ (l:List (Value→World→Prop)),AllFree l→∀ i v w w',nthF l i v w→nthF l i v w'
 | [],_,_,_,_,_,h=>h
 | _::_,hl,0,v,w,w',h=>hl.1 v w w' h
 | _::r,hl,i+1,v,w,w',h=>nthF_free r hl.2 i v w w' h
theorem Any.fixed:FixedF Any:=fun _ _ _ h=>h
theorem wp_region_phases {P : Program} {Q : Exit→Act→World→Prop} {l : List Oper} {a0:Act} {w0:World} {id:Nat} (keys los his incs:List Nat) (Ph:Nat→World→Prop) (hm:P.follows .mixedOrders=true) (hd:dstsApart l=true) (hb:edgesBack l 0=true) (hbd:boundsK l keys los his incs=true)
  (Fs:List (Value→World→Prop)) (hF:AllFree Fs) (hph:Ph 0 w0.drew)
  (hs:StepsK (fun _ _=>True) Ph P l.toArray Q (nthF Fs) a0 w0 l los his incs 0)
  (he:∀ vs w,True→Ph keys.length w→KnowsAll (nthF Fs) vs w 0 l.length→Q .normal (putAll l 0 vs a0) w):(Code.region id l.toArray true).wp P Q a0 w0:=
 wp_region_keys keys los his incs (fun _ _=>True) Ph (fun _ _ _ _ _=>trivial) trivial hm hd hb hbd Fs (fun i v w w' h _=>nthF_free Fs hF i v w w' h) hph hs he
set_option linter.unusedVariables false
def boundsKT (all:List Oper) (n:Nat) (keys los his incs:List Nat):Bool:=
 los==(List.range n).map (loK all keys)&&his==(List.range n).map (hiK all keys)&&incs==(List.range n).map (fun i=>if keys.contains i then 1 else 0)&&decide keys.Nodup&&keys.all (fun k=>decide (k<n))
def StableT (S:Nat→Prop) (F:Value→World→Prop):Prop:=∀ v w w',F v w→Turn S w w'→F v w'
def AllStableT (S:Nat→Prop):List (Value→World→Prop)→Prop
 | []=>True
 | f::r=>StableT S f∧AllStableT S r
theorem Is.stableT (S:Nat→Prop) (x:Value):StableT S (Is x):=fun _ _ _ h _=>h
theorem Any.stableT (S:Nat→Prop):StableT S Any:=fun _ _ _ h _=>h
def RR (p:Nat) (R R2:World→World→Prop) (k:Nat):World→World→Prop:=cond (Nat.beq k p) R R2
theorem RR_le {p : Nat} {R R2:World→World→Prop} (h:∀ a b,R2 a b→R a b) (k:Nat) {a b:World} (hk:RR p R R2 k a b):R a b:=by
 unfold RR at hk
 cases hb:Nat.beq k p with
 | true=>rw[hb]at hk;exact hk
 | false=>rw[hb]at hk;exact h _ _ hk
theorem RR_ne {p : Nat} {R R2:World→World→Prop} {k : Nat} (hn:k≠p) {a b:World} (hk:RR p R R2 k a b):R2 a b:=by
 unfold RR at hk
 cases hb:Nat.beq k p with
 | true=>exact absurd (Nat.eq_of_beq_eq_true hb) hn
 | false=>rw[hb]at hk;exact hk
def StepsK1 (pv:Nat) (R R2:World→World→Prop) (Ph:Nat→World→Prop) (P:Program) (ops:Array Oper) (l:List Oper) (Q:Exit→Act→World→Prop) (F:Nat→Value→World→Prop) (a0:Act) (w0:World):List Oper→List Nat→List Nat→List Nat→Nat→Prop
 | o::r,lo::los,hi::his,inc::incs,k=>(∀ (p:Nat) (vs:Nat→Value) (w:World),lo≤p→p≤hi→R w0 w→Ph p w→Knows F vs w o.after.toList →
   wpList P ops (OneQK (RR pv R R2 k) Ph Q F k (p+inc) o.dst (putAll l 0 vs a0) w) [o] (putAll l 0 vs a0) w)∧StepsK1 pv R R2 Ph P ops l Q F a0 w0 r los his incs (k+1)
 | _,_,_,_,_=>True
theorem stepsK1_at {pv:Nat} {R R2:World→World→Prop} {Ph:Nat→World→Prop} {P : Program} {ops:Array Oper} {l0:List Oper} {Q : Exit→Act→World→Prop} {F : Nat→Value→World→Prop} {a0:Act} {w0:World}:∀ (l:List Oper) (los his incs:List Nat) (k:Nat),StepsK1 pv R R2 Ph P ops l0 Q F a0 w0 l los his incs k→los.length=l.length→his.length=l.length→incs.length=l.length→∀ (i:Nat) (o:Oper),l[i]? = some o→ops[k+i]? = some o →
  ∀ (p:Nat) (vs:Nat→Value) (w:World),los.getD i 0≤p→p≤his.getD i 0→R w0 w→Ph p w→Knows F vs w o.after.toList→∀ K:Act→World→Prop,(∀ a' w',LeftK (RR pv R R2 (k+i)) Ph F (k+i) (p+incs.getD i 0) o.dst (putAll l0 0 vs a0) w a' w'→K a' w') →
   wpOp P ops Q (k+i) K (putAll l0 0 vs a0) w
 | [],_,_,_,_,_,_,_,_,_,_,h,_=>by cases h
 | _::_,[],_,_,_,_,h,_,_,_,_,_,_=>by simp at h
 | _::_,_::_,[],_,_,_,_,h,_,_,_,_,_=>by simp at h
 | _::_,_::_,_::_,[],_,_,_,_,h,_,_,_,_=>by simp at h
 | p::r,lo::los,hi::his,inc::incs,k,h,_,_,_,0,o,ho,hall=>by
  obtain rfl:p=o:=by simpa using ho
  intro q vs w hlo hhi hw hph hk K hK
  have:=h.1 q vs w hlo hhi hw hph hk
  unfold wpOp
  rw[hall]
  simp only[wpList]at this
  show if _ then _ else _
  split
  ·rename_i hwant
   rw[if_pos hwant]at this
   rcases this with this|⟨h1,h2⟩
   ·exact .inl (Oper.wp_turn (fun _ _ _ h=>h) (fun h=>h) (Oper.wp_mono (fun a' w' h=>hK a' w' h) this))
   ·exact .inr ⟨h1,h2⟩
  ·rename_i hwant
   rw[if_neg hwant]at this
   exact hK _ _ this
 | p::r,lo::los,hi::his,inc::incs,k,h,h1,h2,h3,i+1,o,ho,hall=>by
  have:=stepsK1_at r los his incs (k+1) h.2 (by simpa using h1) (by simpa using h2) (by simpa using h3) i o (by simpa using ho) (by rw[show k+1+i=k+(i+1) from by omega];exact hall)
  rw[show k+1+i=k+(i+1) from by omega]at this
  exact this
section
variable {P : Program} {Q : Exit→Act→World→Prop} {l t0:List Oper} {F : Nat→Value→World→Prop} {a0:Act} {w0:World} {pv:Nat} {R R2:World→World→Prop} {Ph:Nat→World→Prop} {keys los his incs:List Nat}
theorem any_factsK1 (hbd:boundsKT (l++t0) l.length keys los his incs=true) (hRt:∀ a b c,R a b→R b c→R a c) (hF:∀ i v w w',i≠pv→F i v w→R w w'→F i v w') (hF2:∀ i v w w',F i v w→R2 w w'→F i v w') (hle:∀ a b,R2 a b→R a b) (hd:dstsApart l=true) (hb:edgesBack (l++t0) 0=true) (hf:forcedA (l++t0) l.length=true)
  (hs:StepsK1 pv R R2 Ph P (l++t0).toArray l Q F a0 w0 l los his incs 0)
  (he:∀ vs w,R w0 w→Ph keys.length w→KnowsAll F vs w 0 l.length→wpList P (l++t0).toArray Q t0 (putAll l 0 vs a0) w) :
  ∀ (fuel:Nat) (listed:Array Bool) (vs:Nat→Value) (w:World),listed.size=(l++t0).length→((List.range (l++t0).length).filter fun i=>!listed.getD i true).length≤fuel→R w0 w→Ph (doneK keys listed) w→Closed (l++t0) listed →
   (∀ i,i<l.length→listed.getD i true=true→F i (vs i) w)→(∀ i,l.length≤i→i<(l++t0).length→listed.getD i true=false)→wpAny P .any (l++t0).toArray Q fuel listed (putAll l 0 vs a0) w:=by
 unfold boundsKT at hbd
 simp only[Bool.and_eq_true,beq_iff_eq,decide_eq_true_eq,List.all_eq_true]at hbd
 obtain⟨⟨⟨⟨hlos,hhis⟩,hincs⟩,hnod⟩,hkeys⟩:=hbd
 have hll:l.length≤(l++t0).length:=by simp
 have hend:∀ (fuel:Nat) (listed:Array Bool) (vs:Nat→Value) (w:World),listed.size=(l++t0).length→((List.range (l++t0).length).filter fun i=>!listed.getD i true).length≤fuel→R w0 w→Ph (doneK keys listed) w→(∀ i,i<l.length→listed.getD i true=true) →
   (∀ i,i<l.length→listed.getD i true=true→F i (vs i) w)→(∀ i,l.length≤i→i<(l++t0).length→listed.getD i true=false)→wpAny P .any (l++t0).toArray Q fuel listed (putAll l 0 vs a0) w:=by
  intro fuel listed vs w hsz hn hw hph hall hk htl
  have hfull:doneK keys listed=keys.length:=by
   unfold doneK
   rw[List.countP_eq_length]
   intro k hk
   have hkl:=hkeys k hk
   rw[same_getD (by omega)]
   exact hall k hkl
  rw[hfull]at hph
  refine run_tail (n0:=l.length) (t0:=t0) hb (by simp) hf t0 0 rfl (by simp) fuel listed _ w hsz hn (fun i hi=>hall i (by omega)) (fun i hi hil=>htl i (by omega) hil) ?_
  exact he vs w hw hph (knowsAll_of F vs w _ 0 fun i _ hi=>hk i (by omega) (hall i (by omega)))
 have hget:∀ i o,i<l.length→(l++t0)[i]? = some o→l[i]? = some o:=fun i o hi h=>by rwa [List.getElem?_append_left hi]at h
 intro fuel
 induction fuel with
 | zero =>
  intro listed vs w hsz hn hw hph hcl hk htl
  refine hend 0 listed vs w hsz hn hw hph (fun i hi=>?_) hk htl
  cases hl:listed.getD i true with
  | true=>rfl
  | false =>
   exfalso
   have:i∈(List.range (l++t0).length).filter fun i=>!listed.getD i true:=by
    rw[List.mem_filter];exact⟨List.mem_range.2 (by omega),by simp[hl]⟩
   have:=List.length_pos_of_mem this
   omega
 | succ fuel ih =>
  intro listed vs w hsz hn hw hph hcl hk htl
  by_cases hallL:∀ i,i<l.length→listed.getD i true=true
  ·exact hend (fuel+1) listed vs w hsz hn hw hph hallL hk htl
  ·refine⟨fun hr=>?_,fun i hi=>?_⟩
   ·exfalso
    apply hallL
    have all:∀ (n i:Nat),i<n→i<l.length→listed.getD i true=true:=by
     intro n
     induction n with
     | zero=>intro i h;omega
     | succ n ihn =>
      intro i h1 h2
      cases hl:listed.getD i true with
      | true=>rfl
      | false =>
       exfalso
       have:i∈Region.ready .any (l++t0).toArray listed:=by
        rw[mem_ready]
        have ho:(l++t0)[i]? = some l[i]:=by rw[List.getElem?_append_left h2];exact List.getElem?_eq_getElem h2
        refine⟨hl,l[i],by simpa using ho,fun e hee hbd=>?_⟩
        have hlt:=edges_back (l++t0) 0 hb i l[i] ho e hee hbd
        rw[same_getD (by omega)]
        exact ihn e.on (by omega) (by omega)
       rw[hr]at this
       cases this
    exact fun i hi=>all (i+1) i (by omega) hi
   ·rw[mem_ready]at hi
    obtain⟨h1,o,ho,hpre⟩:=hi
    have hol':(l++t0)[i]? = some o:=by simpa using ho
    have hlt':i<(l++t0).length:=(List.getElem?_eq_some_iff.1 hol').1
    have hlt:i<l.length:=by
     by_cases h:i<l.length
     ·exact h
     ·exfalso
      apply hallL
      intro j hj
      have:=forced_listed hf hcl hol' (by omega) hpre (i:=j) (by omega)
      rwa [same_getD (by omega)]at this
    have hol:=hget i o hlt hol'
    have hknow:Knows F vs w o.after.toList:=by
     refine knows_of F vs w _ fun e hee hbind=>?_
     have hee':e∈o.after:=by simpa using hee
     have hlt2:=edges_back (l++t0) 0 hb i o hol' e hee' hbind
     have hon:e.on<l.length:=by omega
     refine hk e.on hon ?_
     rw[←same_getD (by omega)]
     exact hpre e hee' hbind
    have hil:listed.getD i false=false:=by rw[same_getD (by omega)];exact h1
    have hlo:los.getD i 0≤doneK keys listed:=by
     rw[hlos]
     simp only[List.getD_eq_getElem?_getD,List.getElem?_map,List.getElem?_range hlt,Option.map_some,Option.getD_some]
     exact List.countP_mono_left fun k _ hk2=>ahead_listed hcl _ _ _ hk2 o hol' hpre
    have hhi:doneK keys listed≤his.getD i 0:=by
     rw[hhis]
     simp only[List.getD_eq_getElem?_getD,List.getElem?_map,List.getElem?_range hlt,Option.map_some,Option.getD_some]
     refine List.countP_mono_left fun k hkm hk2=>?_
     simp only[Bool.and_eq_true,Bool.not_eq_true',beq_eq_false_iff_ne]
     refine⟨?_,fun e=>by rw[e,hil]at hk2;cases hk2⟩
     cases hah:aheadB (l++t0) (l++t0).length i k with
     | false=>rfl
     | true =>
      exfalso
      have hkl:k<(l++t0).length:=Nat.lt_of_lt_of_le (hkeys k hkm) hll
      have ho2:(l++t0)[k]? = some (l++t0)[k]:=List.getElem?_eq_getElem hkl
      have:=ahead_listed hcl _ _ _ hah _ ho2 (hcl k _ ho2 hk2)
      rw[hil]at this;cases this
    have hinc:incs.getD i 0=if keys.contains i then 1 else 0:=by
     rw[hincs]
     simp only[List.getD_eq_getElem?_getD,List.getElem?_map,List.getElem?_range hlt,Option.map_some,Option.getD_some]
    have hstep:=stepsK1_at l los his incs 0 hs (by rw[hlos];simp) (by rw[hhis];simp) (by rw[hincs];simp) i o hol (by simpa using hol') (doneK keys listed) vs w hlo hhi hw hph hknow
    simp only[Nat.zero_add]at hstep
    refine hstep _ fun a' w' ⟨v,ha',hv,hw',hph'⟩=>?_
    subst ha'
    have e:=putAll_upd v l 0 vs a0 i o hol hd
    rw[Nat.zero_add]at e
    rw[←e]
    refine ih (listed.setIfInBounds i true) (upd vs i v) w' (by simpa using hsz) ?_ (hRt _ _ _ hw (RR_le hle i hw')) ?_ ?_ ?_ ?_
    ·have e2:((List.range (l++t0).length).filter fun j=>!(listed.setIfInBounds i true).getD j true)=((List.range (l++t0).length).filter fun j=>!listed.getD j true).filter fun j=>j != i:=by
      rw[List.filter_filter]
      refine List.filter_congr fun j hj=>?_
      by_cases hji:j=i
      ·subst hji
       have hin:j<listed.size:=by omega
       simp[Array.getD_eq_getD_getElem?,hin]
      ·rw[getD_set_ne _ (Ne.symm hji)];simp[hji]
     rw[e2]
     have hmem:i∈(List.range (l++t0).length).filter fun j=>!listed.getD j true:=by
      rw[List.mem_filter];exact⟨List.mem_range.2 hlt',by simp[h1]⟩
     have:=(List.length_filter_lt_length_iff_exists (p:=fun j=>j != i) (l:=(List.range (l++t0).length).filter fun j=>!listed.getD j true)).2 ⟨i,hmem,by simp⟩
     omega
    ·rw[hinc]at hph'
     by_cases hik:i∈keys
     ·rw[doneK_more (by omega) hil hnod hik]
      rw[if_pos (by simpa using hik)]at hph'
      exact hph'
     ·rw[doneK_same hik]
      rw[if_neg (by simpa using hik)]at hph'
      exact hph'
    ·intro j p hp hjl x hx hbx
     by_cases hji:j=i
     ·subst hji
      have:=hol'.symm.trans hp;cases this
      exact getD_set_true (hpre x hx hbx)
     ·rw[getD_set_ne _ (Ne.symm hji)]at hjl
      exact getD_set_true (hcl j p hp hjl x hx hbx)
    ·intro j hj hlj
     by_cases hji:j=i
     ·subst hji;rw[upd_same];exact hv
     ·rw[upd_other _ _ hji]
      rw[getD_set_ne _ (Ne.symm hji)]at hlj
      by_cases hip:i=pv
      ·subst hip
       exact hF _ _ _ _ hji (hk j hj hlj) (RR_le hle i hw')
      ·exact hF2 _ _ _ _ (hk j hj hlj) (RR_ne hip hw')
    ·intro j hj hjl
     rw[getD_set_ne _ (by omega)]
     exact htl j hj hjl
end
def AllBut (S:Nat→Prop) (pv:Nat):List (Value→World→Prop)→Nat→Prop
 | [],_=>True
 | f::r,k=>(k≠pv→StableT S f)∧AllBut S pv r (k+1)
theorem nthF_but {S : Nat→Prop} {pv:Nat}:∀ (l:List (Value→World→Prop)) (k:Nat),AllBut S pv l k→∀ i v w w',k+i≠pv→nthF l i v w→Turn S w w'→nthF l i v w'
 | [],_,_,_,_,_,_,_,h,_=>h
 | _::_,k,hl,0,v,w,w',hn,h,t=>hl.1 hn v w w' h t
 | _::r,k,hl,i+1,v,w,w',hn,h,t=>nthF_but r (k+1) hl.2 i v w w' (by omega) h t
theorem wp_region_one {P : Program} {Q : Exit→Act→World→Prop} {all:List Oper} {a0:Act} {w0:World} {id:Nat} (n pv:Nat) (keys los his incs:List Nat) (S:Nat→Prop) (Ph:Nat→World→Prop) (hm:P.follows .mixedOrders=true)
  (hd:dstsApart (all.take n)=true) (hb:edgesBack all 0=true) (hf:forcedA all n=true) (hn:n≤all.length) (hbd:boundsKT all n keys los his incs=true) (Fs:List (Value→World→Prop)) (hF:AllBut S pv Fs 0) (hF2:AllStable Fs) (hph:Ph 0 w0.drew)
  (hs:StepsK1 pv (Turn S) Since Ph P all.toArray (all.take n) Q (nthF Fs) a0 w0 (all.take n) los his incs 0)
  (he:∀ vs w,Turn S w0 w→Ph keys.length w→KnowsAll (nthF Fs) vs w 0 n→wpList P all.toArray Q (all.drop n) (putAll (all.take n) 0 vs a0) w):(Code.region id all.toArray true).wp P Q a0 w0:=by
 refine wp_region_any hm ?_
 have hln:(all.take n).length=n:=by rw[List.length_take];omega
 have hcat:all.take n++all.drop n=all:=List.take_append_drop n all
 have e:=putAll_old (oldAt (all.take n) a0) a0 (all.take n) 0 (fun i o d hi hdst=>by simp only[oldAt,Nat.zero_add,hi,Option.bind_some,hdst])
 have h:=any_factsK1 (l:=all.take n) (t0:=all.drop n) (P:=P) (Q:=Q) (F:=nthF Fs) (a0:=a0) (w0:=w0) (pv:=pv) (R:=Turn S) (R2:=Since) (by rw[hcat,hln];exact hbd) (fun _ _ _=>Turn.trans) (fun i v w w' hi hv ht=>nthF_but Fs 0 hF i v w w' (by omega) hv ht) (nthF_stable Fs hF2) (fun a b h=>Turn.since h) hd (by rw[hcat];exact hb) (by rw[hcat,hln];exact hf) (by rw[hcat];exact hs) (by rw[hcat,hln];exact he)
  all.length (Array.replicate all.length false) (oldAt (all.take n) a0) { w0 with drawn:=w0.drawn+1 } (by rw[hcat];simp) (by rw[hcat];exact Nat.le_trans (List.length_filter_le _ _) (by simp)) (Turn.since (Since.refl w0).drew)
  (by
   have:doneK keys (Array.replicate all.length false)=0:=by
    unfold doneK
    rw[List.countP_eq_zero]
    intro k _
    simp[Array.getD_eq_getD_getElem?,Array.getElem?_replicate]
    split<;>rfl
   rw[this]
   exact hph)
  (fun i o ho hl=>by
   have hi:i<all.length:=by rw[←hcat];exact (List.getElem?_eq_some_iff.1 ho).1
   simp[Array.getD_eq_getD_getElem?,hi]at hl)
  (fun i hi hl=>by
   have:i<all.length:=by omega
   simp[Array.getD_eq_getD_getElem?,this]at hl)
  (fun i _ hi=>by
   rw[hcat]at hi
   simp[Array.getD_eq_getD_getElem?,hi])
 rw[e,hcat]at h
 simpa using h
def OneOf {α:Type} (f:α→List Value) (U:TypeId) (S:Nat→Prop) (x:α) (v:Value) (w:World):Prop:=∃ b,v=.slice (some ⟨b,0,none⟩) 1 1∧HeapIs w b (f x).toArray U∧¬ S b
theorem OneOf.stable {α:Type} (f:α→List Value) (U:TypeId) (S:Nat→Prop) (x:α):Stable (OneOf f U S x):=fun v w w' ⟨b,h1,h2,h3⟩ s=>⟨b,h1,h2.keep s,h3⟩
theorem OneOf.stableT {α:Type} (f:α→List Value) (U:TypeId) (S:Nat→Prop) (x:α):StableT S (OneOf f U S x):=fun v w w' ⟨b,h1,h2,h3⟩ t=>⟨b,h1,h2.turn t h3,h3⟩
def AppOf {α:Type} (f:α→List Value) (sz:Nat) (U:TypeId) (w0:World) (v0:Value) (xs:List α) (v:Value) (w:World):Prop:=∃ wa,Since w0 wa∧Turn (fun q=>v0.ownBlock=some q) wa w∧NewOr wa v0 v∧OwnRow f sz U 0 w v xs
theorem AppOf.stable {α:Type} (f:α→List Value) (sz:Nat) (U:TypeId) (w0:World) (v0:Value) (xs:List α):Stable (AppOf f sz U w0 v0 xs):=fun v w w' ⟨wa,h1,h2,h3,h4⟩ s=>⟨wa,h1,h2.trans (Turn.since s),h3,OwnRow.keep h4 s⟩
def PaAns (r:Except Int PSt) (e params:Int) (bl:List FBlk):Prop:=match r with
 | .error n=>e=n∧n≠0
 | .ok s=>e=0∧s.params=params∧s.blocks=bl.map FBlk.d
def phiN (d:ByteArray) (r:List ByteArray) (k:Nat):Int:=if isNum d=true∧(r.take k).all isPair=true then 0 else 71
theorem phiN_zero (d:ByteArray) (r:List ByteArray):numsE 0 [d]=phiN d r 0:=by
 unfold numsE phiN areNums;cases h:isNum d<;>simp[h]
theorem phiN_next {d : ByteArray} {r : List ByteArray} {k : Nat} {x : ByteArray} (h:r[k]? = some x):numsE (phiN d r k) [front x,behind x]=phiN d r (k+1):=by
 unfold phiN numsE areNums
 rw[List.take_add_one,h,List.all_append]
 have:isPair x=(isNum (front x)&&isNum (behind x)):=rfl
 cases h1:isNum d<;>cases h2:(r.take k).all isPair<;>cases h3:isNum (front x)<;>cases h4:isNum (behind x)<;>simp[this,h3,h4]
theorem phiN_all (d:ByteArray) (r:List ByteArray):phiN d r r.length=if (isNum d&&r.all isPair)=true then 0 else 71:=by
 unfold phiN;rw[List.take_length];cases isNum d<;>cases r.all isPair<;>rfl
theorem pairs_next {r : List ByteArray} {k : Nat} {x : ByteArray} (h:r[k]? = some x):(r.take (k+1)).map pairW=(r.take k).map pairW++[(numW (front x),numW (behind x))]:=by
 rw[List.take_add_one,h];simp[pairW]
theorem frontB_len (s:ByteArray):(front s).size≤s.size:=by
 have:(ahead 58 s.data.toList).length≤s.data.toList.length:=by unfold ahead;exact (List.takeWhile_sublist _).length_le
 rw[bytes_len]at this
 show (ahead 58 s.data.toList).toArray.size≤_
 simpa using this
theorem behindB_len (s:ByteArray):(behind s).size≤s.size:=by
 have:(s.data.toList.drop ((ahead 58 s.data.toList).length+1)).length≤s.data.toList.length:=by rw[List.length_drop];omega
 rw[bytes_len]at this
 exact this
theorem last_set {bl:List FBlk} {b b':FBlk} (hb:bl[bl.length-1]? = some b) (s:PSt) (hs:s.blocks=bl.map FBlk.d) (g:DBlk→DBlk) (hg:b'.d=g b.d):onLast s g=(bl.set (bl.length-1) b').map FBlk.d:=by
 unfold onLast
 rw[hs,List.length_map,List.map_set,hg]
 apply List.ext_getElem?
 intro i
 rw[List.getElem?_modify,List.getElem?_set]
 by_cases hi:bl.length-1=i
 ·subst hi
  rw[if_pos rfl,List.getElem?_map,hb]
  have:bl.length-1<(bl.map FBlk.d).length:=by rw[List.length_map];exact (List.getElem?_eq_some_iff.1 hb).1
  rw[if_pos this];simp
 ·rw[if_neg hi];simp[hi]
theorem own_two {w : World} {base:Nat} {e : TypeId} {v x y:Value} (h:w.ownsRow base e 1 v 2 [x,y]):∃ g cap,v=.slice (some ⟨g,0,none⟩) 2 cap∧2≤cap∧cap≤maxLen∧base≤g∧g<w.heap.size∧w.cell? ⟨g,0,none⟩=some x∧w.cell? ⟨g,1,none⟩=some y:=by
 have hh:=h
 obtain⟨_,h1|⟨g,cap,cur,h1,h2,h3,h4,h5,_⟩⟩:=h
 ·exact absurd h1.2 (by decide)
 ·subst h1
  have hl:=World.ownsRow.lt hh g rfl
  have hc:=World.ownsRow.cells hh (g:=g) rfl
  exact⟨g,cap,rfl,h4,h5,h2,hl.2,by simpa [Addr.add]using hc 0 x rfl,by simpa [Addr.add]using hc 1 y rfl⟩
theorem own_one {w : World} {base:Nat} {e : TypeId} {v x:Value} (h:w.ownsRow base e 1 v 1 [x]):∃ g cap,v=.slice (some ⟨g,0,none⟩) 1 cap∧1≤cap∧cap≤maxLen∧base≤g∧g<w.heap.size∧w.cell? ⟨g,0,none⟩=some x:=by
 have hh:=h
 obtain⟨_,h1|⟨g,cap,cur,h1,h2,h3,h4,h5,_⟩⟩:=h
 ·exact absurd h1.2 (by decide)
 ·subst h1
  have hl:=World.ownsRow.lt hh g rfl
  have hc:=World.ownsRow.cells hh (g:=g) rfl
  exact⟨g,cap,rfl,h4,h5,h2,hl.2,by simpa [Addr.add]using hc 0 x rfl⟩
theorem stays_slice {S : Nat→Prop} {w : World} {a : Option Addr} {n c k d:Nat} (h:Stays S w (.slice a n c)):Stays S w (.slice a k d):=fun q hq=>h q (by cases a<;>exact hq)
theorem own_shape {w : World} {b : Nat} {e : TypeId} {size n:Nat} {v : Value} {xs:List Value} (h:w.ownsRow b e size v n xs):∃ a cap,v=.slice a n cap:=by
 obtain⟨_,⟨h1,h2⟩|⟨g,cap,cur,h1,_⟩⟩:=h
 ·exact⟨none,0,by rw[h1,h2]⟩
 ·exact⟨_,cap,h1⟩
theorem own_pos {w : World} {base:Nat} {e : TypeId} {v : Value} {sz n:Nat} {xs:List Value} (h:w.ownsRow base e sz v n xs) (hn:0<n):∃ g cap,v=.slice (some ⟨g,0,none⟩) n cap∧n≤cap∧cap≤maxLen∧base≤g∧g<w.heap.size∧w.heap[g]?.isSome=true∧∀ (j:Nat) (x:Value),xs[j]? = some x→w.cell? ⟨g,j,none⟩=some x:=by
 have hh:=h
 obtain⟨_,h1|⟨g,cap,cur,h1,h2,h3,h4,h5,_⟩⟩:=h
 ·omega
 ·subst h1
  have hl:=World.ownsRow.lt hh g rfl
  have hc:=World.ownsRow.cells hh (g:=g) rfl
  refine⟨g,cap,rfl,h4,h5,h2,hl.2,by rw[h3];rfl,fun j x hj=>?_⟩
  have:=hc j x hj
  unfold Addr.add at this
  split at this
  ·rename_i h0;subst h0;exact this
  ·simpa using this
theorem strs_two (w : World) (fx gx : ByteArray) (T : TypeId) (h1 : fx.size ≤ 1000000) (h2 : gx.size ≤ 1000000) : StrsIn (w.alloc (.cells #[.string fx, .string gx] T)) (.slice (some ⟨w.heap.size, 0, none⟩) 2 2) [fx, gx] := by
  have hb : HeapIs (w.alloc (.cells #[.string fx, .string gx] T)) w.heap.size #[.string fx, .string gx] T := HeapIs.new _ _ _
  refine .inr ⟨w.heap.size, 0, 2, rfl, Nat.le_refl _, by decide, hb.lt, fun j y hj => ?_⟩
  match j, hj with
  | 0, hj => obtain rfl : fx = y := by simpa using hj
             exact ⟨fun t ht => by obtain rfl : t = 0 := by omega
                                   exact hb.cell 0, h1⟩
  | 1, hj => obtain rfl : gx = y := by simpa using hj
             exact ⟨fun t ht => by obtain rfl : t = 0 := by omega
                                   exact hb.cell 1, h2⟩
  | j + 2, hj => simp at hj
theorem OwnRow.low {α:Type} {f : α→List Value} {sz:Nat} {U : TypeId} {base:Nat} {w : World} {v : Value} {l : List α} (h:OwnRow f sz U base w v l):OwnRow f sz U 0 w v l:=own_base h (Nat.zero_le _)
theorem own_up {w : World} {base b2:Nat} {e : TypeId} {v : Value} {sz n:Nat} {xs:List Value} (h:w.ownsRow base e sz v n xs) (hl:∀ q,v.ownBlock=some q→b2≤q):w.ownsRow b2 e sz v n xs:=by
 obtain⟨h0,h1|⟨g,cap,cur,h1,h2,h3⟩⟩:=h
 ·exact⟨h0,.inl h1⟩
 ·exact⟨h0,.inr ⟨g,cap,cur,h1,hl g (by rw[h1];rfl),h3⟩⟩
theorem RowIn.first {α:Type} {f : α→List Value} {sz:Nat} {p : World→α→Prop} {w : World} {a : Option Addr} {n c k:Nat} {l : List α} (h:RowIn f sz p w (.slice a n c) l) (hk:k≤n) (h0:0<k):RowIn f sz p w (.slice a k c) (l.take k):=by
 rcases h with ⟨x,h1,h2⟩|⟨b,off,cap,h1,h2,h3,h4,h5⟩
 ·cases h1;omega
 ·cases h1
  have hl:(l.take k).length=k:=by rw[List.length_take];omega
  refine .inr ⟨b,off,_,by rw[hl],by omega,h3,h4,fun j x hj=>h5 j x ?_⟩
  have:=(List.getElem?_eq_some_iff.1 hj).1
  rwa [List.getElem?_take_of_lt (by omega)]at hj
theorem list3 {α:Type} {l : List α} (h:l.length=3):∃ a b c,l=[a,b,c]:=by
 match l,h with
 | [a,b,c],_=>exact⟨a,b,c,rfl⟩
theorem list2 {α:Type} {l : List α} (h:l.length=2):∃ a b,l=[a,b]:=by
 match l,h with
 | [a,b],_=>exact⟨a,b,rfl⟩
theorem wrap32_of {x : Int} (h:In32W x):wrap32 x=x:=by unfold In32W at h;unfold wrap32;omega
theorem ints_part {w : World} {g : Nat} {ns:List Int} (hc:∀ (j:Nat) (x:Value),(ns.map (Value.int .i64))[j]? = some x→w.cell? ⟨g,j,none⟩=some x) (hg:g<w.heap.size) (i k cap:Nat) (hik:i+k≤ns.length) (hk:k≤cap) (hcap:cap≤maxLen):Ints w (.slice (some ⟨g,i,none⟩) k cap) ((ns.drop i).take k):=by
 have hl:((ns.drop i).take k).length=k:=by rw[List.length_take,List.length_drop];omega
 refine .inr ⟨g,i,cap,by rw[hl],by omega,hcap,hg,fun j n hj=>?_⟩
 have hjk:=(List.getElem?_eq_some_iff.1 hj).1
 rw[hl]at hjk
 rw[List.getElem?_take_of_lt hjk,List.getElem?_drop]at hj
 exact hc (i+j) (.int .i64 n) (by rw[List.getElem?_map,hj];rfl)
theorem ints_part2 {w : World} {g : Nat} {ns:List Int} (hc:∀ (j:Nat) (x:Value),(ns.map (Value.int .i64))[j]? = some x→w.cell? ⟨g,j,none⟩=some x) (hg:g<w.heap.size) (i k cap:Nat) (hik:i+k≤ns.length) (hk2:ns.length-i=k) (hk:k≤cap) (hcap:cap≤maxLen):Ints w (.slice (some ⟨g,i,none⟩) k cap) (ns.drop i):=by
 have:=ints_part hc hg i k cap hik hk hcap
 rwa [List.take_of_length_le (by rw[List.length_drop];omega)]at this
theorem least_bounds (op:Int):2≤least op∧least op≤4∧most op≤6:=by
 unfold least most
 by_cases h1:op=1<;>by_cases h2:op=17<;>by_cases h3:op=18<;>simp[h1,h2,h3]
section
variable {w0:World} {pb:Nat} {params pl:Int} {bv:Value} {bl:List FBlk}
end
theorem ints_own {w : World} {base:Nat} {e : TypeId} {v : Value} {l : List Int} (h:w.ownsRow base e 1 v l.length (l.map (Value.int .i64))):Ints w v l:=by
 have hh:=h
 obtain⟨_,h1|⟨g,cap,cur,h1,h2,h3,h4,h5,_⟩⟩:=h
 ·exact .inl ⟨none,h1.1,List.eq_nil_of_length_eq_zero h1.2⟩
 ·subst h1
  have hl:=World.ownsRow.lt hh g rfl
  have hc:=World.ownsRow.cells hh (g:=g) rfl
  refine .inr ⟨g,0,cap,rfl,h4,h5,hl.2,fun j n hj=>?_⟩
  have:=hc j (.int .i64 n) (by rw[List.getElem?_map,hj];rfl)
  rw[Nat.zero_add]
  unfold Addr.add at this
  split at this
  ·rename_i h0;subst h0;exact this
  ·simpa using this
theorem own_there {w : World} {base:Nat} {e : TypeId} {sz n g cap:Nat} {xs:List Value} (h:w.ownsRow base e sz (.slice (some ⟨g,0,none⟩) n cap) n xs) {o k:Nat} (ho:o+k≤xs.length):w.there g o k:=by
 obtain⟨cur,hc⟩:=own_heap h (q:=g) rfl
 intro i hi
 refine⟨?_,HeapIs.frozen (show HeapIs w g cur e from hc) _⟩
 have h9:=World.ownsRow.cells h (g:=g) rfl (o+i) xs[o+i] (List.getElem?_eq_getElem (by omega))
 unfold Addr.add at h9
 split at h9
 ·rename_i h0;rw[h0];rw[h9];rfl
 ·simp only[Nat.zero_add]at h9;rw[h9];rfl
theorem own_setTerm {w : World} {g cap mm:Nat} {bl:List FBlk} {b : FBlk} (h:OwnRow fbcells 6 57 0 w (.slice (some ⟨g,0,none⟩) bl.length cap) bl) (hb:bl[mm]? = some b) (t:FTerm):OwnRow fbcells 6 57 0 (w.setCells g (mm*6+2) [.int .i64 t.kind,t.argsv,t.tov,.int .i32 t.imm]) (.slice (some ⟨g,0,none⟩) bl.length cap) (bl.set mm { b with term:=t }):=by
 have e:w.setCells g (mm*6+2) [.int .i64 t.kind,t.argsv,t.tov,.int .i32 t.imm]=(((w.setCell ⟨g,mm*6+2,none⟩ (.int .i64 t.kind)).setCell ⟨g,mm*6+3,none⟩ t.argsv).setCell ⟨g,mm*6+4,none⟩ t.tov).setCell ⟨g,mm*6+5,none⟩ (.int .i32 t.imm):=rfl
 rw[e]
 have hlt:mm<bl.length:=(List.getElem?_eq_some_iff.1 hb).1
 have q:∀ x:FBlk,(bl.set mm x)[mm]? = some x:=fun x=>by rw[List.getElem?_set_self hlt]
 have h1:=own_setCell h (mm*6+2) (.int .i64 t.kind)
 rw[flat_set fbcells 6 fbcells_len bl mm 2 b { b with term:={ b.term with kind:=t.kind } } (.int .i64 t.kind) hb (by decide) rfl]at h1
 have h2:=own_setCell h1 (mm*6+3) t.argsv
 rw[flat_set fbcells 6 fbcells_len _ mm 3 { b with term:={ b.term with kind:=t.kind } } { b with term:={ b.term with kind:=t.kind,argsv:=t.argsv } } t.argsv (q _) (by decide) rfl,List.set_set]at h2
 have h3:=own_setCell h2 (mm*6+4) t.tov
 rw[flat_set fbcells 6 fbcells_len _ mm 4 { b with term:={ b.term with kind:=t.kind,argsv:=t.argsv } } { b with term:={ b.term with kind:=t.kind,argsv:=t.argsv,tov:=t.tov } } t.tov (q _) (by decide) rfl,List.set_set]at h3
 have h4:=own_setCell h3 (mm*6+5) (.int .i32 t.imm)
 rw[flat_set fbcells 6 fbcells_len _ mm 5 { b with term:={ b.term with kind:=t.kind,argsv:=t.argsv,tov:=t.tov } } { b with term:=t } (.int .i32 t.imm) (q _) (by decide) rfl,List.set_set]at h4
 unfold OwnRow
 rw[List.length_set]
 exact h4
theorem term_bounds (k:Int) (n:Nat) (h:1≤k∧k≤5):tleast k≤3∧(k≠4→1≤tleast k)∧tmost k n≤n+3:=by
 unfold tleast tmost
 have:k=1∨k=2∨k=3∨k=4∨k=5:=by omega
 rcases this with rfl|rfl|rfl|rfl|rfl<;>simp
def fterm (t:FTerm):Value:=.agg #[.int .i64 t.kind,t.argsv,t.tov,.int .i32 t.imm]
theorem list1 {α:Type} {l : List α} (h:l.length=1):∃ a,l=[a]:=by
 match l,h with
 | [a],_=>exact⟨a,rfl⟩
section
variable {w0:World} {pb:Nat} {params pl:Int} {bv:Value} {bl:List FBlk}
end
end Go.Proofs.YtmhojfpidedjeaaGreatDoor
