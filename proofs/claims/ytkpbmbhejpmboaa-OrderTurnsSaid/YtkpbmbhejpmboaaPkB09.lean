/- Plain: Depends goes both ways. What order.Check accepts: rows that are one another's but for the order of those that do not depend on each other. -/
import Derived.Test.YtkpbmbhejpmboaaPkB01
import Derived.Test.YtkpbmbhejpmboaaPkB07
import Derived.Test.YtkpbmbhejpmboaaPkB08
namespace Go.Proofs.Ytkpbmbhejpmboaa
open Go.RowKit
theorem mb_comm (l a:List Int):meetB l a=meetB a l:=by
 unfold meetB
 rw[Bool.eq_iff_iff,List.any_eq_true,List.any_eq_true]
 constructor
 ·rintro⟨x,hx,h⟩
  obtain⟨y,hy,he⟩:=List.any_eq_true.1 h
  exact⟨y,hy,List.any_eq_true.2 ⟨x,hx,beq_iff_eq.2 (eq_of_beq he).symm⟩⟩
 ·rintro⟨x,hx,h⟩
  obtain⟨y,hy,he⟩:=List.any_eq_true.1 h
  exact⟨y,hy,List.any_eq_true.2 ⟨x,hx,beq_iff_eq.2 (eq_of_beq he).symm⟩⟩
theorem dep_comm (m n:Mach):dependsB m n=dependsB n m:=by
 unfold dependsB
 rw[mb_comm (changes m) (changes n),Bool.and_comm (strictB m.op),Bool.and_comm (loadB m.op)]
 generalize meetB (changes n) (changes m)=a
 generalize meetB (changes m) (takes n)=b
 generalize meetB (changes n) (takes m)=c
 generalize (strictB n.op&&strictB m.op)=d
 generalize (!(loadB n.op&&loadB m.op))=e
 cases a<;>cases b<;>cases c<;>cases d<;>cases e<;>rfl
set_option linter.unusedVariables false
abbrev Key:Type:=Mach × Int
def key (x:PlV):Key:=(x.m,x.src)
def kdep (a b:Key):Bool:=dependsB a.1 b.1
noncomputable instance keyEq:DecidableEq Key:=Classical.typeDecidableEq _
theorem sameM_iff (x y:Mach):sameM x y=true↔x=y:=by
 obtain⟨a1,a2,a3,a4,a5,a6,a7,a8⟩:=x
 obtain⟨b1,b2,b3,b4,b5,b6,b7,b8⟩:=y
 unfold sameM numsB
 simp only[Bool.and_eq_true,beq_iff_eq,decide_eq_true_eq,Mach.mk.injEq]
theorem sameB_iff (x y:PlV):sameB x y=true↔key x=key y:=by
 unfold sameB key
 rw[Bool.and_eq_true,beq_iff_eq,sameM_iff,Prod.mk.injEq]
 exact And.comm
theorem filterMap_same {α β:Type} {f g:α→Option β}:∀ l:List α,(∀ x∈l,f x=g x)→l.filterMap f=l.filterMap g
 | [],_=>rfl
 | x::r,h=>by rw[List.filterMap_cons,List.filterMap_cons,h x List.mem_cons_self,filterMap_same r fun y hy=>h y (List.mem_cons_of_mem _ hy)]
section
variable (l:List PlV)
def kk (k:Fin l.length):Key:=key (l.get k)
theorem findR_take (x:PlV):∀ ks:List (Fin l.length),(findR l x ks<0∧takeT kdep (ks.map (kk l)) (key x)=none)∨(∃ k∈ks,findR l x ks=(k.val:Int)∧sameB x (l.get k)=true∧takeT kdep (ks.map (kk l)) (key x)=some ((ks.erase k).map (kk l)))
 | []=>.inl ⟨by unfold findR;decide,rfl⟩
 | k0::r=>by
  unfold findR
  by_cases h1:sameB x (l.get k0)=true
  ·refine .inr ⟨k0,List.mem_cons_self,if_pos h1,h1,?_⟩
   rw[List.erase_cons_head,List.map_cons]
   unfold takeT
   rw[if_pos (show key x=kk l k0 from (sameB_iff _ _).1 h1)]
  ·rw[if_neg h1]
   have h1k:¬ key x=kk l k0:=fun e=>h1 ((sameB_iff _ _).2 e)
   by_cases h2:dependsB (l.get k0).m x.m=true
   ·rw[if_pos h2,List.map_cons]
    refine .inl ⟨by decide,?_⟩
    unfold takeT
    rw[if_neg h1k,if_pos (show kdep (kk l k0) (key x)=true from h2)]
   ·rw[if_neg h2,List.map_cons]
    unfold takeT
    rw[if_neg h1k,if_neg (show ¬ kdep (kk l k0) (key x)=true from h2)]
    rcases findR_take x r with ⟨h3,h4⟩|⟨k,hk,h3,h4,h5⟩
    ·exact .inl ⟨h3,by rw[h4];rfl⟩
    ·refine .inr ⟨k,List.mem_cons_of_mem _ hk,h3,h4,?_⟩
     have hne:k0≠k:=fun e=>h1 (by rw[e];exact h4)
     rw[h5,List.erase_cons_tail (by simpa using hne)]
     rfl
theorem leftsTo_has {found:List Bool} {n : Nat} {k : Fin l.length} (h:k∈leftsTo l found n):found.getD k.val true=false∧k.val<n:=by
 unfold leftsTo at h
 obtain⟨j,hj,h2⟩:=List.mem_filterMap.1 h
 split at h2
 ·split at h2
  ·cases h2
  ·rename_i h3
   rw[←Option.some.inj h2]
   exact⟨by simpa using h3,List.mem_range.1 hj⟩
 ·cases h2
theorem leftsTo_set_low {found:List Bool} {k : Nat}:∀ n,n≤k→leftsTo l (found.set k true) n=leftsTo l found n:=by
 intro n hn
 unfold leftsTo
 refine filterMap_same _ fun j hj=>?_
 have:=List.mem_range.1 hj
 rw[List.getD_eq_getElem?_getD,List.getElem?_set_ne (by omega),←List.getD_eq_getElem?_getD]
theorem leftsTo_set {found:List Bool} {k : Fin l.length} (hl:found.length=l.length) (hf:found.getD k.val true=false):∀ d,k.val+1+d≤l.length→leftsTo l (found.set k.val true) (k.val+1+d)=(leftsTo l found (k.val+1+d)).erase k
 | 0,_=>by
  rw[Nat.add_zero,leftsTo_succ k.isLt,leftsTo_succ k.isLt,leftsTo_set_low l k.val (Nat.le_refl _),hf]
  rw[List.getD_eq_getElem?_getD,List.getElem?_set_self (by rw[hl];exact k.isLt)]
  rw[List.erase_append_right _ (fun h=>absurd (leftsTo_has l h).2 (Nat.lt_irrefl _))]
  simp
 | d+1,h=>by
  have h1:k.val+1+d<l.length:=by omega
  rw[show k.val+1+(d+1)=(k.val+1+d)+1 from rfl,leftsTo_succ h1,leftsTo_succ h1,leftsTo_set hl hf d (by omega)]
  rw[List.getD_eq_getElem?_getD,List.getElem?_set_ne (by omega),←List.getD_eq_getElem?_getD]
  have hm:k∈leftsTo l found (k.val+1+d):=by
   have h2:k∈leftsTo l found (k.val+1):=by
    rw[leftsTo_succ k.isLt,hf]
    simp
   exact (leftsTo_pre l found (show k.val+1≤k.val+1+d by omega)).subset h2
  rw[List.erase_append_left _ hm]
theorem leftsTo_set_all {found:List Bool} {k : Fin l.length} (hl:found.length=l.length) (hf:found.getD k.val true=false):leftsTo l (found.set k.val true) l.length=(leftsTo l found l.length).erase k:=by
 have h:=leftsTo_set l hl hf (l.length-(k.val+1)) (by have:=k.isLt;omega)
 rwa [show k.val+1+(l.length-(k.val+1))=l.length from by have:=k.isLt;omega]at h
def rem (found:List Bool):List Key:=(leftsTo l found l.length).map (kk l)
theorem blockGo_iff:∀ (m:List PlV) (found:List Bool) (i:Nat),found.length=l.length→(rem l found).length=m.length→(blockGo l m found i=none↔okT kdep (rem l found) (m.map key)=true)
 | [],found,i,_,h=>by
  have h0:rem l found=[]:=List.length_eq_zero_iff.1 h
  rw[h0]
  exact⟨fun _=>rfl,fun _=>rfl⟩
 | x::m,found,i,hl,h=>by
  unfold blockGo
  rw[List.map_cons]
  unfold okT
  rcases findR_take l x (leftsTo l found l.length) with ⟨h1,h2⟩|⟨k,hk,h1,h2,h3⟩
  ·rw[if_pos (show findI l found x<0 from h1)]
   rw[show takeT kdep (rem l found) (key x)=none from h2]
   simp
  ·have e:findI l found x=(k.val:Int):=h1
   rw[e,if_neg (by omega),Int.toNat_natCast]
   rw[show takeT kdep (rem l found) (key x)=some (((leftsTo l found l.length).erase k).map (kk l)) from h3]
   dsimp only
   have hf:=(leftsTo_has l hk).1
   have hs:=leftsTo_set_all l hl hf
   rw[←hs]
   refine blockGo_iff m (found.set k.val true) (i+1) (by rw[List.length_set];exact hl) ?_
   unfold rem at h ⊢
   rw[hs,List.length_map,List.length_erase_of_mem hk]
   rw[List.length_map,List.length_cons]at h
   omega
theorem rem_all:rem l (List.replicate l.length false)=l.map key:=by
 have h:∀ k,k≤l.length→(leftsTo l (List.replicate l.length false) k).map (kk l)=(l.take k).map key:=by
  intro k
  induction k with
  | zero=>intro _;rfl
  | succ k ih =>
   intro hk
   have hk2:k<l.length:=hk
   rw[leftsTo_succ hk2,List.map_append,ih (by omega),List.take_add_one,List.map_append]
   congr 1
   rw[List.getD_eq_getElem?_getD,List.getElem?_replicate,if_pos hk2,List.getElem?_eq_getElem hk2]
   rfl
 have h1:=h l.length (Nat.le_refl _)
 rw[List.take_length]at h1
 exact h1
end
theorem blocks_iff (p q:BlkV):(blocksE p q).2=true↔q.ins.length=p.ins.length∧TE kdep (p.ins.map key) (q.ins.map key)∧sameEndB p.fin q.fin=true:=by
 have hs:∀ a b:Key,kdep a b=kdep b a:=fun a b=>dep_comm a.1 b.1
 unfold blocksE
 by_cases hl:q.ins.length=p.ins.length
 ·rw[if_pos hl]
  have h:=blockGo_iff p.ins q.ins (List.replicate p.ins.length false) 0 (by simp) (by rw[rem_all,List.length_map,hl])
  rw[rem_all,okT_iff hs]at h
  cases hg:blockGo p.ins q.ins (List.replicate p.ins.length false) 0 with
  | none=>exact⟨fun h1=>⟨hl,h.1 hg,h1⟩,fun h1=>h1.2.2⟩
  | some i =>
   refine⟨fun h1=>(by cases h1),fun h1=>?_⟩
   rw[h.2 h1.2.1]at hg
   cases hg
 ·rw[if_neg hl]
  exact⟨fun h=>(by cases h),fun h=>absurd h.1 hl⟩
theorem checkGo_none:∀ (ps qs:List BlkV) (j:Nat),(∀ (t:Nat) (p q:BlkV),ps[t]? = some p→qs[t]? = some q→(blocksE p q).2=true)→checkGo ps qs j=none
 | [],_,_,_=>by unfold checkGo;rfl
 | _::_,[],_,_=>by unfold checkGo;rfl
 | p::ps,q::qs,j,h=>by
  unfold checkGo
  rw[if_pos (h 0 p q rfl rfl)]
  exact checkGo_none ps qs (j+1) fun t p q hp hq=>h (t+1) p q hp hq
theorem checkGo_some:∀ (ps qs:List BlkV) (j:Nat) (t:Nat) (p q:BlkV),ps[t]? = some p→qs[t]? = some q→(blocksE p q).2=false→(∀ (s:Nat) (p q:BlkV),s<t→ps[s]? = some p→qs[s]? = some q→(blocksE p q).2=true)→checkGo ps qs j=some (j+t,(blocksE p q).1)
 | [],_,_,_,_,_,hp,_,_,_=>by cases hp
 | _::_,[],_,_,_,_,_,hq,_,_=>by cases hq
 | p::ps,q::qs,j,0,p',q',hp,hq,hb,_=>by
  cases hp;cases hq
  unfold checkGo
  rw[if_neg (by rw[hb];decide)]
  rfl
 | p::ps,q::qs,j,t+1,p',q',hp,hq,hb,h=>by
  unfold checkGo
  rw[if_pos (h 0 p q (by omega) rfl rfl),checkGo_some ps qs (j+1) t p' q' hp hq hb fun s p q hs hp hq=>h (s+1) p q (by omega) hp hq]
  congr 2
  omega
def Turns (p q:PrgV):Prop:=headB p q=true∧∀ (t:Nat) (a b:BlkV),p.blocks[t]? = some a→q.blocks[t]? = some b→(blocksE a b).2=true
theorem checkE_ok {p q:PrgV} (hp:rightB p=true) (hq:rightB q=true):(checkE p q).1=0↔Turns p q:=by
 unfold checkE Turns
 rw[hp,hq,Bool.and_self,if_pos rfl]
 cases hh:headB p q with
 | false=>exact⟨fun h=>(by simp at h),fun h=>absurd h.1 (by decide)⟩
 | true =>
  rw[if_pos rfl]
  have hl:p.blocks.length=q.blocks.length:=by
   unfold headB at hh
   simp only[Bool.and_eq_true,decide_eq_true_eq]at hh
   exact hh.2.2.2
  constructor
  ·intro h
   refine⟨rfl,fun t a b ha hb=>?_⟩
   by_cases hc:checkGo p.blocks q.blocks 0=none
   ·have key2:∀ (t:Nat),t≤p.blocks.length→∀ (s:Nat) (a b:BlkV),s<t→p.blocks[s]? = some a→q.blocks[s]? = some b→(blocksE a b).2=true:=by
     intro t
     induction t with
     | zero=>intro _ s a b hs;omega
     | succ t ih =>
      intro ht s a b hs ha hb
      by_cases e:s=t
      ·subst e
       cases hab:(blocksE a b).2 with
       | true=>rfl
       | false =>
        rw[checkGo_some _ _ 0 s a b ha hb hab (ih (by omega))]at hc
        cases hc
      ·exact ih (by omega) s a b (by omega) ha hb
    exact key2 p.blocks.length (Nat.le_refl _) t a b (List.getElem?_eq_some_iff.1 ha).1 ha hb
   ·obtain⟨x,hx⟩:=Option.ne_none_iff_exists'.1 hc
    rw[hx]at h
    obtain⟨j,i⟩:=x
    exact absurd h (show (50:Int)≠0 by decide)
  ·intro h
   rw[checkGo_none _ _ 0 h.2]
   rfl
theorem checkE_or {p q:PrgV} (hp:rightB p=true) (hq:rightB q=true):(checkE p q).1=0∨(checkE p q).1=50:=by
 unfold checkE
 rw[hp,hq,Bool.and_self,if_pos rfl]
 split
 ·cases checkGo p.blocks q.blocks 0 with
  | none=>exact .inl rfl
  | some x=>exact .inr rfl
 ·exact .inr rfl
end Go.Proofs.Ytkpbmbhejpmboaa
