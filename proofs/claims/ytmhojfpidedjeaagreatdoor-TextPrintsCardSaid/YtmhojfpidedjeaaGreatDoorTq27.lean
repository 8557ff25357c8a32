/- KindOf Takes Phys Common MachDo PhysFunc Region9 RunHead MkMem Take MkState MkBase -/
import Derived.Test.YtmhojfpidedjeaaGreatDoorTq03
import Derived.Test.YtmhojfpidedjeaaGreatDoorTq05
import Derived.Test.YtmhojfpidedjeaaGreatDoorTq06
import Derived.Test.YtmhojfpidedjeaaGreatDoorTq18
import Derived.Test.YtmhojfpidedjeaaGreatDoorTq21
import Derived.Test.YtmhojfpidedjeaaGreatDoorTq25
import Derived.Test.YtmhojfpidedjeaaGreatDoorTq26
import Derived.WalkKit
import Derived.Laws.EntriesVeiled
import Derived.WalkSpells
import Derived.WalkLawsBesides
import Derived.Lib.Hide
import Derived.Lib.AppendZeros
import Derived.Deep.QuietTactic
import Derived.BigQuiet
import Derived.Deep.Slices
import Derived.WideShapes
import Derived.Laws.CopyOwn
import Derived.Laws.BitsLemmas
namespace Go.Proofs.YtmhojfpidedjeaaGreatDoor
open Go.RowKit
set_option linter.unusedVariables false
theorem Tryz.info3:(Tryz.prog.info? 3).map (fun i=>(i.zero,i.size,i.bytes))=some (some (.int .i64 0),1,8):=by kernel_rfl
attribute [local simp] fresh_nil fresh_cons
def takes7 (m:Mach):List Int:=
 if m.op=1∨(18≤m.op∧m.op≤22)∨m.op=24∨m.op=31 then [m.a]
 else if m.op=2∨(5≤m.op∧m.op≤17)∨m.op=25∨m.op=26∨m.op=29 then [m.a,m.b]
 else if m.op=23∨m.op=27 then [m.a,m.b,m.c] else if m.op=28 then m.args else []
def makes7 (m:Mach):List Int:=
 if m.op=2 then [m.a,m.b] else if m.op=29 then [m.d,m.e] else if m.op=26∨m.op=27∨m.op=31∨m.op<1∨31<m.op then [] else [m.d]
def takes (m:Mach):List Int:=if m.op=2 then [m.a,m.b] else if m.op=30 then [16+m.imm] else takes7 m
def makes (m:Mach):List Int:=if m.op=2 then [m.a,m.b] else if m.op=31 then [16+m.imm] else makes7 m
def spoils (m:Mach):List Int:=if m.op=28 then [1,2,3] else []
abbrev W:=BitVec 32
def far (b:W):Nat:=b.toNat % 32
structure PlV where
 m:Mach
 av:Value
 src:Int
structure EndV where
 op:Int
 a:Int
 b:Int
 «to» : List Int
 tov:Value
 imm:Int
structure BlkV where
 ins:List PlV
 insv:Value
 fin:EndV
structure PrgV where
 params:Int
 k:Int
 slots:Int
 blocks:List BlkV
 bv:Value
def getR (r:List Int) (i:Int):Int:=if 0≤i∧i<(r.length:Int) then r.getD i.toNat 0 else 0
def goes (e:EndV) (r:List Int):Nat:=
 let a:=getR r e.a
 let b:=getR r e.b
 if e.op=1 then 0
 else if e.op=2 then (if a=0 then 1 else 0)
 else if e.op=3 then (if a=b then 0 else 1)
 else if e.op=4 then (if a<b then 0 else 1)
 else if e.op=5 then (if a % 4294967296<b % 4294967296 then 0 else 1)
 else if a % 4294967296<(e.to.length:Int)-1 then (a % 4294967296).toNat else e.to.length-1
structure InV where
 args:List Int
 argsv:Value
 mem:List Int
 memv:Value
 ans:List Int
 ansv:Value
 steps:Int
def total (rows:List (Value × List Int)):Nat:=(rows.map fun x=>x.2.length).sum
theorem nums_cell {k : IntKind} {w : World} {a : Option Addr} {len cap:Nat} {l : List Int} (h:Nums k w (.slice a len cap) l):len=l.length∧(l≠[]→∃ b off,a=some ⟨b,off,none⟩∧b<w.heap.size∧∀ (j:Nat) (n:Int),l[j]? = some n→w.cell? ⟨b,off+j,none⟩=some (.int k n)):=by
 rcases h with ⟨_,h1,h2⟩|⟨b,off,cap',h1,_,_,hb,hc⟩
 ·cases h1;subst h2;exact⟨rfl,fun h=>absurd rfl h⟩
 ·cases h1;exact⟨rfl,fun _=>⟨b,off,rfl,hb,hc⟩⟩
def In32 (x:Int):Prop:=-2147483648≤x∧x≤2147483647
theorem Since.drewN {a b:World} (h:Since a b) (n:Nat):Since a (b.drewN n):=⟨h.os,h.tape,h.output,h.size,h.block⟩
def pv (p:PrgV):Value:=.agg #[.int .i64 p.params,.int .i64 p.k,.int .i64 p.slots,p.bv]
def StepsKT (R:World→World→Prop) (Ph:Nat→World→Prop) (P:Program) (ops:Array Oper) (l:List Oper) (Q:Exit→Act→World→Prop) (F:Nat→Value→World→Prop) (a0:Act) (w0:World):List Oper→List Nat→List Nat→List Nat→Nat→Prop
 | o::r,lo::los,hi::his,inc::incs,k=>(∀ (p:Nat) (vs:Nat→Value) (w:World),lo≤p→p≤hi→R w0 w→Ph p w→Knows F vs w o.after.toList →
   wpList P ops (OneQK R Ph Q F k (p+inc) o.dst (putAll l 0 vs a0) w) [o] (putAll l 0 vs a0) w)∧StepsKT R Ph P ops l Q F a0 w0 r los his incs (k+1)
 | _,_,_,_,_=>True
theorem stepsKT_at {R : World→World→Prop} {Ph:Nat→World→Prop} {P : Program} {ops:Array Oper} {l0:List Oper} {Q : Exit→Act→World→Prop} {F : Nat→Value→World→Prop} {a0:Act} {w0:World}:∀ (l:List Oper) (los his incs:List Nat) (k:Nat),StepsKT R Ph P ops l0 Q F a0 w0 l los his incs k→los.length=l.length→his.length=l.length→incs.length=l.length→∀ (i:Nat) (o:Oper),l[i]? = some o→ops[k+i]? = some o →
  ∀ (p:Nat) (vs:Nat→Value) (w:World),los.getD i 0≤p→p≤his.getD i 0→R w0 w→Ph p w→Knows F vs w o.after.toList→∀ K:Act→World→Prop,(∀ a' w',LeftK R Ph F (k+i) (p+incs.getD i 0) o.dst (putAll l0 0 vs a0) w a' w'→K a' w') →
   wpOp P ops Q (k+i) K (putAll l0 0 vs a0) w
 | [],_,_,_,_,_,_,_,_,_,_,h,_=>by cases h
 | _::_,[],_,_,_,_,h,_,_,_,_,_,_=>by simp at h
 | _::_,_::_,[],_,_,_,_,h,_,_,_,_,_=>by simp at h
 | _::_,_::_,_::_,[],_,_,_,_,h,_,_,_,_=>by simp at h
 | p::r,lo::los,hi::his,inc::incs,k,h,_,_,_,0,o,ho,hall=>by
  obtain rfl:p=o:=by simpa using ho
  intro q vs w hlo hhi hw hph hk K hK
  have:=h.1 q vs w hlo hhi hw hph hk
  unfold wpOp
  rw[hall]
  simp only[wpList]at this
  show if _ then _ else _
  split
  ·rename_i hwant
   rw[if_pos hwant]at this
   rcases this with this|⟨h1,h2⟩
   ·exact .inl (Oper.wp_turn (fun _ _ _ h=>h) (fun h=>h) (Oper.wp_mono (fun a' w' h=>hK a' w' h) this))
   ·exact .inr ⟨h1,h2⟩
  ·rename_i hwant
   rw[if_neg hwant]at this
   exact hK _ _ this
 | p::r,lo::los,hi::his,inc::incs,k,h,h1,h2,h3,i+1,o,ho,hall=>by
  have:=stepsKT_at r los his incs (k+1) h.2 (by simpa using h1) (by simpa using h2) (by simpa using h3) i o (by simpa using ho) (by rw[show k+1+i=k+(i+1) from by omega];exact hall)
  rw[show k+1+i=k+(i+1) from by omega]at this
  exact this
section
variable {P : Program} {Q : Exit→Act→World→Prop} {l t0:List Oper} {F : Nat→Value→World→Prop} {a0:Act} {w0:World} {R : World→World→Prop} {Ph:Nat→World→Prop} {keys los his incs:List Nat}
theorem any_factsKT (hbd:boundsKT (l++t0) l.length keys los his incs=true) (hRt:∀ a b c,R a b→R b c→R a c) (hF:∀ i v w w',F i v w→R w w'→F i v w') (hd:dstsApart l=true) (hb:edgesBack (l++t0) 0=true) (hf:forcedA (l++t0) l.length=true)
  (hs:StepsKT R Ph P (l++t0).toArray l Q F a0 w0 l los his incs 0)
  (he:∀ vs w,R w0 w→Ph keys.length w→KnowsAll F vs w 0 l.length→wpList P (l++t0).toArray Q t0 (putAll l 0 vs a0) w) :
  ∀ (fuel:Nat) (listed:Array Bool) (vs:Nat→Value) (w:World),listed.size=(l++t0).length→((List.range (l++t0).length).filter fun i=>!listed.getD i true).length≤fuel→R w0 w→Ph (doneK keys listed) w→Closed (l++t0) listed →
   (∀ i,i<l.length→listed.getD i true=true→F i (vs i) w)→(∀ i,l.length≤i→i<(l++t0).length→listed.getD i true=false)→wpAny P .any (l++t0).toArray Q fuel listed (putAll l 0 vs a0) w:=by
 unfold boundsKT at hbd
 simp only[Bool.and_eq_true,beq_iff_eq,decide_eq_true_eq,List.all_eq_true]at hbd
 obtain⟨⟨⟨⟨hlos,hhis⟩,hincs⟩,hnod⟩,hkeys⟩:=hbd
 have hll:l.length≤(l++t0).length:=by simp
 have hend:∀ (fuel:Nat) (listed:Array Bool) (vs:Nat→Value) (w:World),listed.size=(l++t0).length→((List.range (l++t0).length).filter fun i=>!listed.getD i true).length≤fuel→R w0 w→Ph (doneK keys listed) w→(∀ i,i<l.length→listed.getD i true=true) →
   (∀ i,i<l.length→listed.getD i true=true→F i (vs i) w)→(∀ i,l.length≤i→i<(l++t0).length→listed.getD i true=false)→wpAny P .any (l++t0).toArray Q fuel listed (putAll l 0 vs a0) w:=by
  intro fuel listed vs w hsz hn hw hph hall hk htl
  have hfull:doneK keys listed=keys.length:=by
   unfold doneK
   rw[List.countP_eq_length]
   intro k hk
   have hkl:=hkeys k hk
   rw[same_getD (by omega)]
   exact hall k hkl
  rw[hfull]at hph
  refine run_tail (n0:=l.length) (t0:=t0) hb (by simp) hf t0 0 rfl (by simp) fuel listed _ w hsz hn (fun i hi=>hall i (by omega)) (fun i hi hil=>htl i (by omega) hil) ?_
  exact he vs w hw hph (knowsAll_of F vs w _ 0 fun i _ hi=>hk i (by omega) (hall i (by omega)))
 have hget:∀ i o,i<l.length→(l++t0)[i]? = some o→l[i]? = some o:=fun i o hi h=>by rwa [List.getElem?_append_left hi]at h
 intro fuel
 induction fuel with
 | zero =>
  intro listed vs w hsz hn hw hph hcl hk htl
  refine hend 0 listed vs w hsz hn hw hph (fun i hi=>?_) hk htl
  cases hl:listed.getD i true with
  | true=>rfl
  | false =>
   exfalso
   have:i∈(List.range (l++t0).length).filter fun i=>!listed.getD i true:=by
    rw[List.mem_filter];exact⟨List.mem_range.2 (by omega),by simp[hl]⟩
   have:=List.length_pos_of_mem this
   omega
 | succ fuel ih =>
  intro listed vs w hsz hn hw hph hcl hk htl
  by_cases hallL:∀ i,i<l.length→listed.getD i true=true
  ·exact hend (fuel+1) listed vs w hsz hn hw hph hallL hk htl
  ·refine⟨fun hr=>?_,fun i hi=>?_⟩
   ·exfalso
    apply hallL
    have all:∀ (n i:Nat),i<n→i<l.length→listed.getD i true=true:=by
     intro n
     induction n with
     | zero=>intro i h;omega
     | succ n ihn =>
      intro i h1 h2
      cases hl:listed.getD i true with
      | true=>rfl
      | false =>
       exfalso
       have:i∈Region.ready .any (l++t0).toArray listed:=by
        rw[mem_ready]
        have ho:(l++t0)[i]? = some l[i]:=by rw[List.getElem?_append_left h2];exact List.getElem?_eq_getElem h2
        refine⟨hl,l[i],by simpa using ho,fun e hee hbd=>?_⟩
        have hlt:=edges_back (l++t0) 0 hb i l[i] ho e hee hbd
        rw[same_getD (by omega)]
        exact ihn e.on (by omega) (by omega)
       rw[hr]at this
       cases this
    exact fun i hi=>all (i+1) i (by omega) hi
   ·rw[mem_ready]at hi
    obtain⟨h1,o,ho,hpre⟩:=hi
    have hol':(l++t0)[i]? = some o:=by simpa using ho
    have hlt':i<(l++t0).length:=(List.getElem?_eq_some_iff.1 hol').1
    have hlt:i<l.length:=by
     by_cases h:i<l.length
     ·exact h
     ·exfalso
      apply hallL
      intro j hj
      have:=forced_listed hf hcl hol' (by omega) hpre (i:=j) (by omega)
      rwa [same_getD (by omega)]at this
    have hol:=hget i o hlt hol'
    have hknow:Knows F vs w o.after.toList:=by
     refine knows_of F vs w _ fun e hee hbind=>?_
     have hee':e∈o.after:=by simpa using hee
     have hlt2:=edges_back (l++t0) 0 hb i o hol' e hee' hbind
     have hon:e.on<l.length:=by omega
     refine hk e.on hon ?_
     rw[←same_getD (by omega)]
     exact hpre e hee' hbind
    have hil:listed.getD i false=false:=by rw[same_getD (by omega)];exact h1
    have hlo:los.getD i 0≤doneK keys listed:=by
     rw[hlos]
     simp only[List.getD_eq_getElem?_getD,List.getElem?_map,List.getElem?_range hlt,Option.map_some,Option.getD_some]
     exact List.countP_mono_left fun k _ hk2=>ahead_listed hcl _ _ _ hk2 o hol' hpre
    have hhi:doneK keys listed≤his.getD i 0:=by
     rw[hhis]
     simp only[List.getD_eq_getElem?_getD,List.getElem?_map,List.getElem?_range hlt,Option.map_some,Option.getD_some]
     refine List.countP_mono_left fun k hkm hk2=>?_
     simp only[Bool.and_eq_true,Bool.not_eq_true',beq_eq_false_iff_ne]
     refine⟨?_,fun e=>by rw[e,hil]at hk2;cases hk2⟩
     cases hah:aheadB (l++t0) (l++t0).length i k with
     | false=>rfl
     | true =>
      exfalso
      have hkl:k<(l++t0).length:=Nat.lt_of_lt_of_le (hkeys k hkm) hll
      have ho2:(l++t0)[k]? = some (l++t0)[k]:=List.getElem?_eq_getElem hkl
      have:=ahead_listed hcl _ _ _ hah _ ho2 (hcl k _ ho2 hk2)
      rw[hil]at this;cases this
    have hinc:incs.getD i 0=if keys.contains i then 1 else 0:=by
     rw[hincs]
     simp only[List.getD_eq_getElem?_getD,List.getElem?_map,List.getElem?_range hlt,Option.map_some,Option.getD_some]
    have hstep:=stepsKT_at l los his incs 0 hs (by rw[hlos];simp) (by rw[hhis];simp) (by rw[hincs];simp) i o hol (by simpa using hol') (doneK keys listed) vs w hlo hhi hw hph hknow
    rw[Nat.zero_add]at hstep
    refine hstep _ fun a' w' ⟨v,ha',hv,hw',hph'⟩=>?_
    subst ha'
    have e:=putAll_upd v l 0 vs a0 i o hol hd
    rw[Nat.zero_add]at e
    rw[←e]
    refine ih (listed.setIfInBounds i true) (upd vs i v) w' (by simpa using hsz) ?_ (hRt _ _ _ hw hw') ?_ ?_ ?_ ?_
    ·have e2:((List.range (l++t0).length).filter fun j=>!(listed.setIfInBounds i true).getD j true)=((List.range (l++t0).length).filter fun j=>!listed.getD j true).filter fun j=>j != i:=by
      rw[List.filter_filter]
      refine List.filter_congr fun j hj=>?_
      by_cases hji:j=i
      ·subst hji
       have hin:j<listed.size:=by omega
       simp[Array.getD_eq_getD_getElem?,hin]
      ·rw[getD_set_ne _ (Ne.symm hji)];simp[hji]
     rw[e2]
     have hmem:i∈(List.range (l++t0).length).filter fun j=>!listed.getD j true:=by
      rw[List.mem_filter];exact⟨List.mem_range.2 hlt',by simp[h1]⟩
     have:=(List.length_filter_lt_length_iff_exists (p:=fun j=>j != i) (l:=(List.range (l++t0).length).filter fun j=>!listed.getD j true)).2 ⟨i,hmem,by simp⟩
     omega
    ·rw[hinc]at hph'
     by_cases hik:i∈keys
     ·rw[doneK_more (by omega) hil hnod hik]
      rw[if_pos (by simpa using hik)]at hph'
      exact hph'
     ·rw[doneK_same hik]
      rw[if_neg (by simpa using hik)]at hph'
      exact hph'
    ·intro j p hp hjl x hx hbx
     by_cases hji:j=i
     ·subst hji
      have:=hol'.symm.trans hp;cases this
      exact getD_set_true (hpre x hx hbx)
     ·rw[getD_set_ne _ (Ne.symm hji)]at hjl
      exact getD_set_true (hcl j p hp hjl x hx hbx)
    ·intro j hj hlj
     by_cases hji:j=i
     ·subst hji;rw[upd_same];exact hv
     ·rw[upd_other _ _ hji]
      rw[getD_set_ne _ (Ne.symm hji)]at hlj
      exact hF _ _ _ _ (hk j hj hlj) hw'
    ·intro j hj hjl
     rw[getD_set_ne _ (by omega)]
     exact htl j hj hjl
end
theorem wp_region_keys_tail {P : Program} {Q : Exit→Act→World→Prop} {all:List Oper} {a0:Act} {w0:World} {id:Nat} (n:Nat) (keys los his incs:List Nat) (R:World→World→Prop) (Ph:Nat→World→Prop) (hRt:∀ a b c,R a b→R b c→R a c) (hRd:R w0 w0.drew) (hm:P.follows .mixedOrders=true)
  (hd:dstsApart (all.take n)=true) (hb:edgesBack all 0=true) (hf:forcedA all n=true) (hn:n≤all.length) (hbd:boundsKT all n keys los his incs=true) (Fs:List (Value→World→Prop)) (hF:∀ i v w w',nthF Fs i v w→R w w'→nthF Fs i v w') (hph:Ph 0 w0.drew)
  (hs:StepsKT R Ph P all.toArray (all.take n) Q (nthF Fs) a0 w0 (all.take n) los his incs 0)
  (he:∀ vs w,R w0 w→Ph keys.length w→KnowsAll (nthF Fs) vs w 0 n→wpList P all.toArray Q (all.drop n) (putAll (all.take n) 0 vs a0) w):(Code.region id all.toArray true).wp P Q a0 w0:=by
 refine wp_region_any hm ?_
 have hln:(all.take n).length=n:=by rw[List.length_take];omega
 have hcat:all.take n++all.drop n=all:=List.take_append_drop n all
 have e:=putAll_old (oldAt (all.take n) a0) a0 (all.take n) 0 (fun i o d hi hdst=>by simp only[oldAt,Nat.zero_add,hi,Option.bind_some,hdst])
 have h:=any_factsKT (l:=all.take n) (t0:=all.drop n) (P:=P) (Q:=Q) (F:=nthF Fs) (a0:=a0) (w0:=w0) (by rw[hcat,hln];exact hbd) hRt hF hd (by rw[hcat];exact hb) (by rw[hcat,hln];exact hf) (by rw[hcat];exact hs) (by rw[hcat,hln];exact he)
  all.length (Array.replicate all.length false) (oldAt (all.take n) a0) { w0 with drawn:=w0.drawn+1 } (by rw[hcat];simp) (by rw[hcat];exact Nat.le_trans (List.length_filter_le _ _) (by simp)) hRd
  (by
   have:doneK keys (Array.replicate all.length false)=0:=by
    unfold doneK
    rw[List.countP_eq_zero]
    intro k _
    simp[Array.getD_eq_getD_getElem?,Array.getElem?_replicate]
    split<;>rfl
   rw[this]
   exact hph)
  (fun i o ho hl=>by
   have hi:i<all.length:=by rw[←hcat];exact (List.getElem?_eq_some_iff.1 ho).1
   simp[Array.getD_eq_getD_getElem?,hi]at hl)
  (fun i hi hl=>by
   have:i<all.length:=by omega
   simp[Array.getD_eq_getD_getElem?,this]at hl)
  (fun i _ hi=>by
   rw[hcat]at hi
   simp[Array.getD_eq_getD_getElem?,hi])
 rw[e,hcat]at h
 simpa using h
theorem nthF_stableT {S : Nat→Prop}:∀ (l:List (Value→World→Prop)),AllStableT S l→∀ i v w w',nthF l i v w→Turn S w w'→nthF l i v w'
 | [],_,_,_,_,_,h,_=>h
 | _::_,hl,0,v,w,w',h,t=>hl.1 v w w' h t
 | _::r,hl,i+1,v,w,w',h,t=>nthF_stableT r hl.2 i v w w' h t
theorem wp_region_turn_tail {P : Program} {Q : Exit→Act→World→Prop} {all:List Oper} {a0:Act} {w0:World} {id:Nat} (n:Nat) (keys los his incs:List Nat) (S:Nat→Prop) (Ph:Nat→World→Prop) (hm:P.follows .mixedOrders=true)
  (hd:dstsApart (all.take n)=true) (hb:edgesBack all 0=true) (hf:forcedA all n=true) (hn:n≤all.length) (hbd:boundsKT all n keys los his incs=true) (Fs:List (Value→World→Prop)) (hF:AllStableT S Fs) (hph:Ph 0 w0.drew)
  (hs:StepsKT (Turn S) Ph P all.toArray (all.take n) Q (nthF Fs) a0 w0 (all.take n) los his incs 0)
  (he:∀ vs w,Turn S w0 w→Ph keys.length w→KnowsAll (nthF Fs) vs w 0 n→wpList P all.toArray Q (all.drop n) (putAll (all.take n) 0 vs a0) w):(Code.region id all.toArray true).wp P Q a0 w0:=
 wp_region_keys_tail n keys los his incs (Turn S) Ph (fun _ _ _=>Turn.trans) (Turn.since (Since.refl _).drew) hm hd hb hf hn hbd Fs (nthF_stableT Fs hF) hph hs he
theorem nums_caps {k : IntKind} {w : World} {a : Option Addr} {cap n:Nat} {l : List Int} (h:Nums k w (.slice a n cap) l):n=l.length∧n≤cap∧cap≤9223372036854775807:=by
 rcases h with ⟨_,h1,h2⟩|⟨b,off,cap',h1,h2,h3,hb,hc⟩
 ·cases h1;subst h2;exact⟨rfl,Nat.le_refl _,by omega⟩
 ·cases h1;unfold maxLen at h3;exact⟨rfl,h2,by omega⟩
def iv (i:InV):Value:=.agg #[i.argsv,i.memv,i.ansv,.int .i64 i.steps]
theorem row_own_in {α:Type} {f : α→List Value} {sz:Nat} (hf:∀ x,(f x).length=sz) {p : World→α→Prop} {e : TypeId} {base:Nat} {w : World} {v : Value} {l : List α} (h:OwnRow f sz e base w v l) (hp:∀ x∈l,p w x):RowIn f sz p w v l:=by
 rcases OwnRow.cells hf h with ⟨h1,h2⟩|⟨g,cap,h1,h2,h3,_,h4,h5⟩
 ·exact .inl ⟨none,h1,h2⟩
 ·exact .inr ⟨g,0,cap,h1,h2,h3,h4,fun j x hj=>⟨fun t ht=>by rw[show 0+j*sz+t=j*sz+t from by omega];exact h5 j t x hj ht,hp x (List.mem_of_getElem? hj)⟩⟩
def MkAt (w:World) (mb:Nat) (sv:Value) (at_:Nat) (rest:List Value):Prop:=HeapIs w mb (sv::.int .i64 at_::rest).toArray 101
theorem MkAt.keep {w w':World} {mb:Nat} {sv:Value} {at_:Nat} {rest:List Value} (h:MkAt w mb sv at_ rest) (s:Since w w'):MkAt w' mb sv at_ rest:=HeapIs.keep h s
def takeF (l:List Int) (at_:Nat) (n:Int):Int:=((l.getD at_ 0).tmod n+n) % n
theorem takeF_bounds (l:List Int) (at_:Nat) {n : Int} (hn:0<n):0≤takeF l at_ n∧takeF l at_ n<n:=by
 unfold takeF
 have h1:=Int.tmod_lt_of_pos (l.getD at_ 0) hn
 have h2 : -n<(l.getD at_ 0).tmod n:=by
  have:=Int.lt_tmod_of_pos (l.getD at_ 0) hn
  exact this
 exact⟨Int.emod_nonneg _ (by omega),Int.emod_lt_of_pos _ hn⟩
def TakeQ (w:World) (mb:Nat) (sv:Value) (at_ k:Nat) (rest:List Value) (r:Value) (e:Ending) (w':World):Prop:=e=.returned r∧MkAt w' mb sv (at_+k) rest∧Turn (fun q=>q=mb) w w'∧w'.heap.size=w.heap.size
theorem MkAt.next {w : World} {mb:Nat} {sv:Value} {at_:Nat} {rest:List Value} (h:MkAt w mb sv at_ rest):MkAt (w.setCell ⟨mb,1,none⟩ (.int .i64 (at_+1))) mb sv (at_+1) rest:=by
 have h1:=HeapIs.set (show HeapIs w mb _ _ from h) 1 (.int .i64 (at_+1))
 simpa [MkAt]using h1
theorem setCell_size (w:World) (a:Addr) (v:Value):(w.setCell a v).heap.size=w.heap.size:=by simp[World.setCell]
set_option maxHeartbeats 1000000 in
set_option maxRecDepth 100000 in
theorem take_any (sv:Value) (l:List Int) (w:World) (mb at_:Nat) (rest:List Value) (n:Int) (hm:MkAt w mb sv at_ rest) (hs:Ints w sv l) (hat:at_≤1000000) (hn:1≤n∧n≤1048576):Calls Tryz.prog 42 #[.pointer (some ⟨mb,0,none⟩),.int .i64 n] w (TakeQ w mb sv at_ 1 rest (.int .i64 (takeF l at_ n))):=by
 obtain⟨sa,sc,rfl⟩:=nums_lenI hs
 have hlen:=hs.len
 unfold maxLen at hlen
 obtain⟨x,hx⟩:∃ x,l.getD at_ 0=x:=⟨_,rfl⟩
 unfold takeF
 rw[hx]
 have hb1:=Int.tmod_lt_of_pos x (show 0<n by omega)
 have hb2 : -n<x.tmod n:=Int.lt_tmod_of_pos x (by omega)
 have HX:=Lib.hid hx
 have HM:=Lib.hid hm
 have HS:=Lib.hid hs
 have c0:w.cell? ⟨mb,0,none⟩=some (.slice sa l.length sc):=hm.cell 0
 have c1:w.cell? ⟨mb,1,none⟩=some (.int .i64 at_):=hm.cell 1
 have hl:=hm.lt
 have hfz:=hm.frozen
 clear hx hm hs
 by_cases hlt:at_<l.length
 ·obtain⟨_,hcc⟩:=nums_cell HS.out
  obtain⟨B,off,rfl,hB,hcell⟩:=hcc (by intro e;rw[e]at hlt;simp at hlt)
  have hxx:l[at_]? = some x:=by rw[←HX.out,List.getD_eq_getElem?_getD,List.getElem?_eq_getElem hlt];rfl
  have c2:=hcell at_ x hxx
  clear hcell hcc hxx
  go_enter Tryz.func42,Tryz.ntmps42
  go_wp2_with fail
  go_quiet (fail)
  go_wp2_with fail
  go_quiet (fail)
  go_wp2
  go_ret
  exact⟨rfl,(HM.out.keep (Since.drewN (Since.refl w) _)).next,(Turn.since (Since.drewN (Since.refl w) _)).trans ((Turn.refl (fun q=>q=mb) _).setCell (p:=⟨mb,1,none⟩) rfl _),by rw[setCell_size];rfl⟩
 ·obtain rfl:x=0:=by rw[←HX.out,List.getD_eq_getElem?_getD,List.getElem?_eq_none (by omega)];rfl
  rw[show ((0:Int).tmod n+n) % n=0 from by simp]
  go_enter Tryz.func42,Tryz.ntmps42
  go_wp2_with fail
  go_quiet (fail)
  go_wp2
  go_ret
  exact⟨rfl,(HM.out.keep (Since.drewN (Since.refl w) _)).next,(Turn.since (Since.drewN (Since.refl w) _)).trans ((Turn.refl (fun q=>q=mb) _).setCell (p:=⟨mb,1,none⟩) rfl _),by rw[setCell_size];rfl⟩
def wordF (l:List Int) (at_:Nat):Int:=
 if takeF l (at_+1) 8=0 then wrap32 (takeF l at_ 1048576*4099)
 else if takeF l (at_+1) 8=1 then -takeF l at_ 1048576
 else if takeF l (at_+1) 8=2 then -2147483648
 else if takeF l (at_+1) 8=3 then takeF l at_ 1048576 % 70000
 else takeF l at_ 1048576 % 20-4
theorem wrap32_in (x:Int):In32 (wrap32 x):=by
 unfold wrap32 In32
 omega
theorem wordF_32 (l:List Int) (at_:Nat):In32 (wordF l at_):=by
 have b1:=takeF_bounds l at_ (n:=1048576) (by decide)
 unfold wordF
 split
 ·exact wrap32_in _
 split
 ·unfold In32;omega
 split
 ·unfold In32;omega
 split
 ·unfold In32;omega
 ·unfold In32;omega
set_option maxHeartbeats 1000000 in
set_option maxRecDepth 100000 in
theorem word_any (sv:Value) (l:List Int) (w:World) (mb at_:Nat) (rest:List Value) (hm:MkAt w mb sv at_ rest) (hs:∀ w',Turn (fun q=>q=mb) w w'→Ints w' sv l) (hat:at_≤100000):Calls Tryz.prog 66 #[.pointer (some ⟨mb,0,none⟩)] w (TakeQ w mb sv at_ 2 rest (.int .i32 (wordF l at_))):=by
 have ht1:=take_any sv l w mb at_ rest 1048576 hm (hs w (Turn.refl _ _)) (by omega) (by decide)
 have ht2:=fun w1 (h:MkAt w1 mb sv (at_+1) rest) (h2:Ints w1 sv l)=>take_any sv l w1 mb (at_+1) rest 8 h h2 (by omega) (by decide)
 have b1:=takeF_bounds l at_ (n:=1048576) (by decide)
 have b2:=takeF_bounds l (at_+1) (n:=8) (by decide)
 obtain⟨r,hr⟩:∃ r,wordF l at_=r:=⟨_,rfl⟩
 rw[hr]
 unfold wordF at hr
 generalize takeF l at_ 1048576=x at *
 generalize takeF l (at_+1) 8=y at *
 have HR:=Lib.hid hr
 clear hr
 have HT1:=Lib.hid ht1
 have HT2:=Lib.hid ht2
 have HS:=Lib.hid hs
 clear ht1 ht2 hm hs
 have hy:y=0∨y=1∨y=2∨y=3∨(4≤y∧y<8):=by omega
 go_enter Tryz.func66,Tryz.ntmps66
 go_wp2_with fail
 refine HT1.out.mono ?_
 rintro e w1 ⟨rfl,hm1,t1,z1⟩
 have hs1:Ints w1 sv l:=HS.out w1 t1
 have HM1:=Lib.hid hm1
 have HS1:=Lib.hid hs1
 have HT1':=Lib.hid t1
 have HZ1:=Lib.hid z1
 clear hm1 hs1 t1 z1
 go_wp2_with fail
 refine (HT2.out w1 HM1.out HS1.out).mono ?_
 rintro e w2 ⟨rfl,hm2,t2,z2⟩
 have HQ:=Lib.hid (show MkAt w2 mb sv (at_+2) rest∧Turn (fun q=>q=mb) w w2∧w2.heap.size=w.heap.size from⟨hm2,HT1'.out.trans t2,z2.trans HZ1.out⟩)
 clear hm2 t2 z2
 rcases hy with rfl|rfl|rfl|rfl|hy
 ·obtain rfl:wrap32 (x*4099)=r:=HR.out
  go_wp2
  go_ret
  exact⟨rfl,HQ.out⟩
 ·obtain rfl : -x=r:=HR.out
  go_wp2
  go_ret
  exact⟨rfl,HQ.out⟩
 ·obtain rfl:(-2147483648:Int)=r:=HR.out
  go_wp2
  go_ret
  exact⟨rfl,HQ.out⟩
 ·obtain rfl:x % 70000=r:=HR.out
  go_wp2
  go_ret
  exact⟨rfl,HQ.out⟩
 ·have y0:(y==0)=false:=by simp;omega
  have y1:(y==1)=false:=by simp;omega
  have y2:(y==2)=false:=by simp;omega
  have y3:(y==3)=false:=by simp;omega
  have hr:=HR.out
  rw[if_neg (by omega),if_neg (by omega),if_neg (by omega),if_neg (by omega)]at hr
  subst hr
  go_wp2
  go_ret
  exact⟨rfl,HQ.out⟩
structure MkSt where
 at_:Nat
 params:Int
 bks:List FBlk
 next:Int
 live:List Int
 livev:Value
def MkSt.total (m:MkSt):Nat:=(m.bks.map fun b=>b.ins.length).sum
def Own (mb:Nat) (bv:Value) (m:MkSt) (q:Nat):Prop:=q=mb∨bv.ownBlock=some q∨m.livev.ownBlock=some q∨∃ b∈m.bks,b.inv.ownBlock=some q∨b.phv.ownBlock=some q
def OwnC (C:Nat→Prop) (mb:Nat) (bv:Value) (m:MkSt) (q:Nat):Prop:=Own mb bv m q∨C q
def InsGood (N:Int) (x:FIns):Prop:=
 In32 x.imm∧(∀ a∈x.args,0≤a∧a<N)∧(0≤x.dst∧x.dst<N)∧(0≤x.two∧x.two<N) ∧
 ((x.op=1∧x.args.length=0)∨((2≤x.op∧x.op≤14)∧x.args.length=2)∨(x.op=15∧x.args.length=1)∨(x.op=16∧x.args.length=2)∨(x.op=17∧x.args.length≤4)∨(x.op=18∧x.args.length=2∧x.dst≠x.two))
theorem InsGood.mono {N N':Int} {x : FIns} (h:InsGood N x) (hN:N≤N'):InsGood N' x:=
 ⟨h.1,fun a ha=>by have:=h.2.1 a ha;omega,by have:=h.2.2.1;omega,by have:=h.2.2.2.1;omega,h.2.2.2.2⟩
structure MkGood (m:MkSt):Prop where
 params:0≤m.params∧m.params≤4∧m.params≤m.next
 live:∀ v∈m.live,0≤v∧v<m.next
 ins:∀ b∈m.bks,∀ x∈b.ins,InsGood m.next x
def Sm (k:Nat) (m:MkSt):Prop:=m.at_≤1000*k∧m.next≤1000*k∧m.total≤1000*k∧m.live.length≤2000*k
structure BkOk (S:Nat→Prop) (w:World) (b:FBlk):Prop where
 phis:OwnRow fpcells 2 60 0 w b.phv b.phis
 ins:OwnRow ficells 5 51 0 w b.inv b.ins
 phi:∀ x∈b.phis,PairsIn w x.inv x.ins∧Stays S w x.inv
 arg:∀ x∈b.ins,Ints w x.av x.args∧Stays S w x.av
 term:FTermIn w b.term∧Stays S w b.term.argsv∧Stays S w b.term.tov
structure MkOk (C:Nat→Prop) (mb:Nat) (bv sv:Value) (l:List Int) (m:MkSt) (w:World):Prop where
 made:MkAt w mb sv m.at_ [.int .i64 m.params,bv,.int .i64 m.next,m.livev]
 src:Ints w sv l∧Stays (OwnC C mb bv m) w sv
 live:w.ownsRow 0 3 1 m.livev m.live.length (m.live.map (Value.int .i64))
 bks:(bv=.slice none 0 0∧m.bks=[])∨∃ bb,bv=.slice (some ⟨bb,0,none⟩) m.bks.length m.bks.length∧HeapIs w bb (m.bks.flatMap fbcells).toArray 57
 each:∀ b∈m.bks,BkOk (OwnC C mb bv m) w b
 apart:∀ (i j:Nat) (b c:FBlk),m.bks[i]? = some b→m.bks[j]? = some c→i≠j→(∀ q,b.inv.ownBlock=some q→c.inv.ownBlock≠some q)∧∀ q,b.phv.ownBlock=some q→c.phv.ownBlock≠some q
 few:m.bks.length≤512
 good:MkGood m
 aside:∀ q,C q→q<w.heap.size∧¬ Own mb bv m q
structure Mv (mb:Nat) (bv:Value) (w:World) (m:MkSt) (w':World) (m':MkSt) (a n i:Nat):Prop where
 turn:Turn (Own mb bv m) w w'
 new:∀ q,Own mb bv m' q→Own mb bv m q∨w.heap.size≤q
 at_:m'.at_≤m.at_+a
 next:m.next≤m'.next∧m'.next≤m.next+n
 total:m'.total≤m.total+i
 live:m'.live.length≤m.live.length+2*i
 same:m'.params=m.params∧(m'.bks.map fun b=>(b.phis,b.phv,b.term))=m.bks.map fun b=>(b.phis,b.phv,b.term)
section
variable {C : Nat→Prop} {mb:Nat} {bv sv:Value} {l : List Int} {m m' m'':MkSt} {w w' w'':World} {a n i a' n' i':Nat}
theorem Mv.refl (mb:Nat) (bv:Value) (w:World) (m:MkSt):Mv mb bv w m w m 0 0 0:=⟨Turn.refl _ _,fun _ h=>.inl h,by omega,by omega,by omega,by omega,rfl,rfl⟩
theorem Mv.trans (h:Mv mb bv w m w' m' a n i) (k:Mv mb bv w' m' w'' m'' a' n' i'):Mv mb bv w m w'' m'' (a+a') (n+n') (i+i'):=by
 have hz:=h.turn.size
 have h1:Turn (fun q=>Own mb bv m q∨w.heap.size≤q) w w':=h.turn.mono fun _ _ h=>.inl h
 have h2:Turn (fun q=>Own mb bv m q∨w.heap.size≤q) w' w'':=k.turn.mono fun q _ hq=>h.new q hq
 refine⟨(h1.trans h2).mono fun q hq hs=>?_,fun q hq=>?_,by have:=h.at_;have:=k.at_;omega,by have:=h.next;have:=k.next;omega,by have:=h.total;have:=k.total;omega,by have:=h.live;have:=k.live;omega,k.same.1.trans h.same.1,k.same.2.trans h.same.2⟩
 ·rcases hs with hs|hs
  ·exact hs
  ·omega
 ·rcases k.new q hq with h3|h3
  ·exact h.new q h3
  ·exact .inr (by omega)
theorem Mv.len (h:Mv mb bv w m w' m' a n i):m'.bks.length=m.bks.length:=by
 have:=congrArg List.length h.same.2
 simpa using this
theorem Mv.more (h:Mv mb bv w m w' m' a n i) (ha:a≤a') (hn:n≤n') (hi:i≤i'):Mv mb bv w m w' m' a' n' i':=
 ⟨h.turn,h.new,by have:=h.at_;omega,by have:=h.next;omega,by have:=h.total;omega,by have:=h.live;omega,h.same⟩
theorem Mv.since (s:Since w w') (h:Mv mb bv w' m w'' m'' a n i):Mv mb bv w m w'' m'' a n i:=
 ⟨(Turn.since s).trans h.turn,fun q hq=>by rcases h.new q hq with h1 | h1;exact .inl h1;exact .inr (Nat.le_trans s.size h1),h.at_,h.next,h.total,h.live,h.same⟩
theorem ownC_sub {mb:Nat} {bv:Value} {m m':MkSt} {w : World} (h:∀ q,Own mb bv m' q→Own mb bv m q∨w.heap.size≤q):∀ q,OwnC C mb bv m' q→OwnC C mb bv m q∨w.heap.size≤q:=by
 rintro q (hq|hq)
 ·rcases h q hq with h1|h1
  ·exact .inl (.inl h1)
  ·exact .inr h1
 ·exact .inl (.inr hq)
theorem Mv.stays {v : Value} (h:Mv mb bv w m w' m' a n i) (hv:Stays (OwnC C mb bv m) w v):Stays (OwnC C mb bv m') w' v:=hv.mono (ownC_sub h.new) h.turn.size
theorem Mv.nums {k : IntKind} {v : Value} {xs:List Int} (h:Mv mb bv w m w' m' a n i) (hx:Nums k w v xs) (hv:Stays (OwnC C mb bv m) w v):Nums k w' v xs:=hx.turn h.turn fun q hq e=>(hv q hq).1 (.inl e)
theorem Mv.heap {q : Nat} {cs:Array Value} {T : TypeId} (h:Mv mb bv w m w' m' a n i) (hb:HeapIs w q cs T) (hq:¬ Own mb bv m q):HeapIs w' q cs T:=hb.turn h.turn hq
theorem own_some_lt {base:Nat} {e : TypeId} {size n:Nat} {v : Value} {xs:List Value} (h:w.ownsRow base e size v n xs) {q : Nat} (hq:v.ownBlock=some q):q<w.heap.size:=(World.ownsRow.lt h q hq).2
theorem MkOk.ltOwn (h:MkOk C mb bv sv l m w) {q : Nat} (hq:Own mb bv m q):q<w.heap.size:=by
 rcases hq with rfl|hq|hq|⟨b,hb,hq|hq⟩
 ·exact HeapIs.lt h.made
 ·rcases h.bks with ⟨h1,_⟩|⟨bb,h1,h2⟩
  ·rw[h1]at hq;cases hq
  ·rw[h1]at hq;cases hq;exact h2.lt
 ·exact own_some_lt h.live hq
 ·exact own_some_lt (h.each b hb).ins hq
 ·exact own_some_lt (h.each b hb).phis hq
theorem MkOk.ltOwnC (h:MkOk C mb bv sv l m w) {q : Nat} (hq:OwnC C mb bv m q):q<w.heap.size:=by
 rcases hq with hq|hq
 ·exact h.ltOwn hq
 ·exact (h.aside q hq).1
theorem MkOk.newStays (h:MkOk C mb bv sv l m w) (o:Obj) (n c:Nat):Stays (OwnC C mb bv m) (w.alloc o) (.slice (some ⟨w.heap.size,0,none⟩) n c):=fun q hq=>by
 cases hq
 exact⟨fun h1=>absurd (h.ltOwnC h1) (Nat.lt_irrefl _),by simp⟩
theorem Stays.keep {S : Nat→Prop} {v : Value} (h:Stays S w v) (s:Since w w'):Stays S w' v:=h.mono (fun _ h=>.inl h) s.size
theorem BkOk.keep {S : Nat→Prop} {b : FBlk} (h:BkOk S w b) (s:Since w w'):BkOk S w' b:=
 ⟨OwnRow.keep h.phis s,OwnRow.keep h.ins s,fun x hx=>⟨(h.phi x hx).1.keep s,(h.phi x hx).2.keep s⟩,fun x hx=>⟨(h.arg x hx).1.keep s,(h.arg x hx).2.keep s⟩,h.term.1.keep s,h.term.2.1.keep s,h.term.2.2.keep s⟩
theorem MkOk.keep (h:MkOk C mb bv sv l m w) (s:Since w w'):MkOk C mb bv sv l m w':=by
 refine⟨h.made.keep s,⟨h.src.1.keep s,h.src.2.keep s⟩,own_keep h.live s,?_,fun b hb=>(h.each b hb).keep s,h.apart,h.few,h.good,fun q hq=>⟨Nat.lt_of_lt_of_le (h.aside q hq).1 s.size,(h.aside q hq).2⟩⟩
 rcases h.bks with h1|⟨bb,h1,h2⟩
 ·exact .inl h1
 ·exact .inr ⟨bb,h1,h2.keep s⟩
theorem BkOk.turn {S S' T:Nat→Prop} {b : FBlk} (h:BkOk S w b) (t:Turn T w w') (hT:∀ q,T q→S q) (hS:∀ q,S' q→S q∨w.heap.size≤q) (h1:∀ q,b.phv.ownBlock=some q→¬ T q) (h2:∀ q,b.inv.ownBlock=some q→¬ T q):BkOk S' w' b:=by
 have hz:=t.size
 refine⟨own_turn h.phis t h1,own_turn h.ins t h2,fun x hx=>?_,fun x hx=>?_,⟨h.term.1.1.turn t fun q hq e=>(h.term.2.1 q hq).1 (hT q e),h.term.1.2.turn t fun q hq e=>(h.term.2.2 q hq).1 (hT q e)⟩,h.term.2.1.mono hS hz,h.term.2.2.mono hS hz⟩
 ·obtain⟨h3,h4⟩:=h.phi x hx
  exact⟨RowIn.turn h3 t (fun q hq e=>(h4 q hq).1 (hT q e)) fun _ _ h=>h,h4.mono hS hz⟩
 ·obtain⟨h3,h4⟩:=h.arg x hx
  exact⟨h3.turn t fun q hq e=>(h4 q hq).1 (hT q e),h4.mono hS hz⟩
theorem MkOk.mb_bv (h:MkOk C mb bv sv l m w):¬ bv.ownBlock=some mb:=by
 rcases h.bks with ⟨h1,_⟩|⟨bb,h1,h2⟩
 ·rw[h1];intro h;cases h
 ·rw[h1];intro h3
  have h3:bb=mb:=Option.some.inj h3
  exact heap_ne (show HeapIs w mb _ _ from h.made) h2 (by decide) h3.symm
theorem MkOk.mb_live (h:MkOk C mb bv sv l m w):¬ m.livev.ownBlock=some mb:=own_not h.live (show HeapIs w mb _ _ from h.made) (by decide)
theorem MkOk.mb_ins (h:MkOk C mb bv sv l m w) {b : FBlk} (hb:b∈m.bks):¬ b.inv.ownBlock=some mb:=own_not (show w.ownsRow _ _ _ _ _ _ from (h.each b hb).ins) (show HeapIs w mb _ _ from h.made) (by decide)
theorem MkOk.mb_phis (h:MkOk C mb bv sv l m w) {b : FBlk} (hb:b∈m.bks):¬ b.phv.ownBlock=some mb:=own_not (show w.ownsRow _ _ _ _ _ _ from (h.each b hb).phis) (show HeapIs w mb _ _ from h.made) (by decide)
theorem MkOk.box {at':Nat} {next':Int} (h:MkOk C mb bv sv l m w) (hm:MkAt w' mb sv at' [.int .i64 m.params,bv,.int .i64 next',m.livev]) (t:Turn (fun q=>q=mb) w w') (hn:m.next≤next'):MkOk C mb bv sv l { m with at_:=at',next:=next' } w':=by
 have hz:=t.size
 have hS:∀ q,Own mb bv { m with at_:=at',next:=next' } q→Own mb bv m q∨w.heap.size≤q:=fun q hq=>.inl hq
 refine⟨hm,⟨h.src.1.turn t fun q hq e=>(h.src.2 q hq).1 (.inl (.inl e)),h.src.2.mono (ownC_sub hS) hz⟩,own_turn h.live t fun q hq e=>h.mb_live (e ▸ hq),?_,fun b hb=>(h.each b hb).turn t (fun q hq=>.inl (.inl hq)) (ownC_sub hS) (fun q hq e=>h.mb_phis hb (e ▸ hq)) (fun q hq e=>h.mb_ins hb (e ▸ hq)),h.apart,h.few,?_,fun q hq=>⟨Nat.lt_of_lt_of_le (h.aside q hq).1 hz,(h.aside q hq).2⟩⟩
 ·rcases h.bks with h1|⟨bb,h1,h2⟩
  ·exact .inl h1
  ·exact .inr ⟨bb,h1,h2.turn t fun e=>h.mb_bv (by rw[h1,←e];rfl)⟩
 ·exact⟨by have:=h.good.params;dsimp only;omega,fun v hv=>by have:=h.good.live v hv;dsimp only;omega,fun b hb x hx=>(h.good.ins b hb x hx).mono hn⟩
theorem Mv.box {at':Nat} {next':Int} (t:Turn (fun q=>q=mb) w w') (ha:at'≤m.at_+a) (hn:m.next≤next'∧next'≤m.next+n):Mv mb bv w m w' { m with at_:=at',next:=next' } a n 0:=
 ⟨t.mono fun q _ h=>.inl h,fun q hq=>.inl hq,ha,hn,Nat.le_refl _,by show m.live.length≤_;omega,rfl,rfl⟩
end
def MkQ (C:Nat→Prop) (mb:Nat) (bv sv:Value) (l:List Int) (w:World) (m:MkSt) (a n i:Nat) (R:MkSt→Ending→Prop) (e:Ending) (w':World):Prop:=
 ∃ m',R m' e∧MkOk C mb bv sv l m' w'∧Mv mb bv w m w' m' a n i
section
variable {C : Nat→Prop} {mb:Nat} {bv sv:Value} {l : List Int} {m : MkSt} {w : World}
theorem mk_take (h:MkOk C mb bv sv l m w) (n:Int) (hn:1≤n∧n≤1048576) (hs:m.at_≤100000) :
  Calls Tryz.prog 42 #[.pointer (some ⟨mb,0,none⟩),.int .i64 n] w (MkQ C mb bv sv l w m 1 0 0 fun m' e=>∃ x:Int,e=.returned (.int .i64 x)∧(0≤x∧x<n)∧m'={ m with at_:=m.at_+1 }):=by
 refine (take_any sv l w mb m.at_ _ n h.made h.src.1 (by omega) hn).mono ?_
 rintro e w' ⟨rfl,hm,t,hz⟩
 exact⟨_,⟨_,rfl,takeF_bounds _ _ (by omega),rfl⟩,h.box hm t (Int.le_refl _),Mv.box t (Nat.le_refl _) (by omega)⟩
theorem mk_word (h:MkOk C mb bv sv l m w) (hs:m.at_≤90000) :
  Calls Tryz.prog 66 #[.pointer (some ⟨mb,0,none⟩)] w (MkQ C mb bv sv l w m 2 0 0 fun m' e=>∃ x:Int,e=.returned (.int .i32 x)∧In32 x∧m'={ m with at_:=m.at_+2 }):=by
 refine (word_any sv l w mb m.at_ _ h.made (fun w' t=>h.src.1.turn t fun q hq e=>(h.src.2 q hq).1 (.inl (.inl e))) (by omega)).mono ?_
 rintro e w' ⟨rfl,hm,t,hz⟩
 exact⟨_,⟨_,rfl,wordF_32 _ _,rfl⟩,h.box hm t (Int.le_refl _),Mv.box t (Nat.le_refl _) (by omega)⟩
set_option maxHeartbeats 1000000 in
set_option maxRecDepth 100000 in
theorem mk_fresh0 (h:MkOk C mb bv sv l m w) (hs:0≤m.next∧m.next≤100000) :
  Calls Tryz.prog 59 #[.pointer (some ⟨mb,0,none⟩)] w fun e w'=>e=.returned (.int .i64 m.next)∧MkOk C mb bv sv l { m with next:=m.next+1 } w'∧Mv mb bv w m w' { m with next:=m.next+1 } 0 1 0∧Turn (fun q=>q=mb) w w':=by
 have H:=Lib.hid h
 have c4:w.cell? ⟨mb,4,none⟩=some (.int .i64 m.next):=HeapIs.cell (show HeapIs w mb _ _ from h.made) 4
 have hl:=HeapIs.lt (show HeapIs w mb _ _ from h.made)
 have hfz:=HeapIs.frozen (show HeapIs w mb _ _ from h.made)
 obtain⟨nx,hnx⟩:∃ x,m.next=x:=⟨_,rfl⟩
 rw[hnx]at c4 hs
 have HNX:=Lib.hid hnx
 have hm:MkAt (w.setCell ⟨mb,4,none⟩ (.int .i64 (nx+1))) mb sv m.at_ [.int .i64 m.params,bv,.int .i64 (nx+1),m.livev]:=by
  have h1:=HeapIs.set (show HeapIs w mb _ _ from h.made) 4 (.int .i64 (nx+1))
  simpa [MkAt]using h1
 have HM:=Lib.hid hm
 clear h hnx hm
 go_enter Tryz.func59,Tryz.ntmps59
 go_wp2
 go_ret
 refine⟨by rw[HNX.out];rfl,?_⟩
 rw[HNX.out]
 have t:Turn (fun q=>q=mb) w (w.setCell ⟨mb,4,none⟩ (.int .i64 (nx+1))):=(Turn.refl (fun q=>q=mb) w).setCell (p:=⟨mb,4,none⟩) rfl _
 exact⟨H.out.box HM.out t (by rw[HNX.out];omega),Mv.box t (Nat.le_refl _) (by rw[HNX.out];omega),t⟩
theorem mk_fresh (h:MkOk C mb bv sv l m w) (hs:0≤m.next∧m.next≤100000) :
  Calls Tryz.prog 59 #[.pointer (some ⟨mb,0,none⟩)] w (MkQ C mb bv sv l w m 0 1 0 fun m' e=>e=.returned (.int .i64 m.next)∧m'={ m with next:=m.next+1 }):=
 (mk_fresh0 h hs).mono fun e w' ⟨h1,h2,h3,_⟩=>⟨_,⟨h1,rfl⟩,h2,h3⟩
set_option maxHeartbeats 2000000 in
set_option maxRecDepth 100000 in
theorem mk_value (h:MkOk C mb bv sv l m w) (hs:Sm 80 m) :
  Calls Tryz.prog 116 #[.pointer (some ⟨mb,0,none⟩)] w (MkQ C mb bv sv l w m 2 0 0 fun m' e=>∃ (v:Int) (ok:Bool) (a:Nat),e=.returned (.tuple #[.int .i64 v,.bool ok])∧(ok=true→0≤v∧v<m.next)∧a≤m.at_+2∧m'={ m with at_:=a }):=by
 obtain⟨la,lc,hlv⟩:=own_shape h.live
 obtain⟨hs1,hs2,hs3,hs4⟩:=hs
 obtain⟨n,hn⟩:∃ n,m.live.length=n:=⟨_,rfl⟩
 rw[hn]at hlv hs4
 have H:=Lib.hid h
 have HN:=Lib.hid hn
 have HLV:=Lib.hid hlv
 have c5:w.cell? ⟨mb,5,none⟩=some (.slice la n lc):=by rw[←hlv];exact HeapIs.cell (show HeapIs w mb _ _ from h.made) 5
 have hl:=HeapIs.lt (show HeapIs w mb _ _ from h.made)
 clear h hn hlv
 by_cases h0:n=0
 ·subst h0
  go_enter Tryz.func116,Tryz.ntmps116
  go_wp2
  go_ret2
  exact⟨m,⟨0,false,m.at_,rfl,fun e=>(by cases e),by omega,rfl⟩,H.out,(Mv.refl _ _ _ _).more (by omega) (by omega) (by omega)⟩
 ·have hpos:0<n:=by omega
  have hne:((n:Int)==0)=false:=by simp;omega
  clear h0
  go_enter Tryz.func116,Tryz.ntmps116
  go_wp2_with fail
  refine (mk_take H.out n (by omega) (by omega)).mono ?_
  rintro e w1 ⟨m1,⟨x,rfl,hx,rfl⟩,h1,mv1⟩
  have H1:=Lib.hid h1
  have MV1:=Lib.hid mv1
  clear h1 mv1
  go_wp2_with fail
  refine (mk_take H1.out 3 (by omega) (by dsimp only;omega)).mono ?_
  rintro e w2 ⟨m2,⟨y,rfl,hy,rfl⟩,h2,mv2⟩
  have MV2:=Lib.hid (MV1.out.trans mv2)
  have H2:=Lib.hid h2
  have hlive:Nums .i64 w2 m.livev m.live:=nums_of_own h2.live
  rw[HLV.out]at hlive
  have c5:w2.cell? ⟨mb,5,none⟩=some (.slice la n lc):=by rw[←HLV.out];exact HeapIs.cell (show HeapIs w2 mb _ _ from h2.made) 5
  have hl:=HeapIs.lt (show HeapIs w2 mb _ _ from h2.made)
  obtain⟨hq,hcell⟩:=nums_cell hlive
  obtain⟨B,off,rfl,hB,hcell⟩:=hcell (by intro e;have:=HN.out;rw[e]at this;simp at this;omega)
  have key:∀ k:Nat,k<n→∃ v,w2.cell? ⟨B,off+k,none⟩=some (.int .i64 v)∧0≤v∧v<m.next:=fun k hk=>by
   have hk2:k<m.live.length:=by rw[HN.out];exact hk
   have hv:m.live[k]? = some m.live[k]:=List.getElem?_eq_getElem hk2
   exact⟨_,hcell k _ hv,H.out.good.live _ (List.mem_of_getElem? hv)⟩
  have KEY:=Lib.hid key
  clear hcell hlive hq h2 mv2 key
  by_cases hy0:y=0
  ·subst hy0
   obtain⟨v,hc,hv⟩:=KEY.out (n-1) (by omega)
   go_wp2
   go_ret2
   exact⟨_,⟨v,true,m.at_+1+1,rfl,fun _=>hv,by omega,rfl⟩,H2.out,MV2.out⟩
  ·have hyq:(y==0)=false:=by simpa using hy0
   obtain⟨v,hc,hv⟩:=KEY.out x.toNat (by omega)
   clear hy0
   go_wp2
   go_ret2
   exact⟨_,⟨v,true,m.at_+1+1,rfl,fun _=>hv,by omega,rfl⟩,H2.out,MV2.out⟩
end
end Go.Proofs.YtmhojfpidedjeaaGreatDoor
