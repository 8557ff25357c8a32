import Derived.Test.YtimpddecdodddaaGreatSt09
namespace Go.Proofs.YtimpddecdodddaaGreat
open Go.RowKit
set_option linter.unusedVariables false
abbrev Key:Type:=Mach × Int
def key (x:PlV):Key:=(x.m,x.src)
def Y5 (a b:Key):Bool:=Zw a.1 b.1
noncomputable instance keyEq:DecidableEq Key:=Classical.typeDecidableEq _
theorem ZcH (x y:Mach):Xu x y=true↔x=y:=by
 obtain⟨a1,a2,a3,a4,a5,a6,a7,a8⟩:=x;obtain⟨b1,b2,b3,b4,b5,b6,b7,b8⟩:=y;unfold Xu numsB;simp only[Bool.and_eq_true,beq_iff_eq,decide_eq_true_eq,Mach.mk.injEq]
theorem QH (x y:PlV):Y8 x y=true↔key x=key y:=by
 unfold Y8 key;rw[Bool.and_eq_true,beq_iff_eq,ZcH,Prod.mk.injEq];exact And.comm
theorem VH {α β:Type} {f g:α→Option β}:∀ l:List α,(∀ x∈l,f x=g x)→l.filterMap f=l.filterMap g
 | [],_=>rfl
 | x::r,h=>by rw[List.filterMap_cons,List.filterMap_cons,h x List.mem_cons_self,VH r fun y hy=>h y (List.mem_cons_of_mem _ hy)]
section
variable (l:List PlV)
def kk (k:Fin l.length):Key:=key (l.get k)
theorem KV (x:PlV):∀ ks:List (Fin l.length),(YR l x ks<0∧YQ Y5 (ks.map (kk l)) (key x)=none)∨(∃ k∈ks,YR l x ks=(k.val:Int)∧Y8 x (l.get k)=true∧YQ Y5 (ks.map (kk l)) (key x)=some ((ks.erase k).map (kk l)))
 | []=>.inl ⟨by unfold YR;decide,rfl⟩
 | k0::r=>by
  unfold YR
  by_cases h1:Y8 x (l.get k0)=true
  ·refine .inr ⟨k0,List.mem_cons_self,if_pos h1,h1,?_⟩
   rw[List.erase_cons_head,List.map_cons]
   unfold YQ
   rw[if_pos (show key x=kk l k0 from (QH _ _).1 h1)]
  ·rw[if_neg h1]
   have ha:¬ key x=kk l k0:=fun e=>h1 ((QH _ _).2 e)
   by_cases h2:Zw (l.get k0).m x.m=true
   ·rw[if_pos h2,List.map_cons]
    refine .inl ⟨zaJ,?_⟩
    unfold YQ
    rw[if_neg ha,if_pos (show Y5 (kk l k0) (key x)=true from h2)]
   ·rw[if_neg h2,List.map_cons]
    unfold YQ
    rw[if_neg ha,if_neg (show ¬ Y5 (kk l k0) (key x)=true from h2)]
    rcases KV x r with ⟨h3,h4⟩|⟨k,hk,h3,h4,h5⟩
    ·exact .inl ⟨h3,by rw[h4];rfl⟩
    ·refine .inr ⟨k,List.mem_cons_of_mem _ hk,h3,h4,?_⟩
     have hb:k0≠k:=fun e=>h1 (by rw[e];exact h4)
     rw[h5,List.erase_cons_tail (by simpa using hb)]
     rfl
theorem J5 {found:List Bool} {n : Nat} {k : Fin l.length} (h:k∈leftsTo l found n):found.getD k.val true=false∧k.val<n:=by
 unfold leftsTo at h;obtain⟨j,hj,h2⟩:=List.mem_filterMap.1 h;split at h2
 ·split at h2
  ·cases h2
  ·rename_i h3
   rw[←Option.some.inj h2];exact⟨by simpa using h3,List.mem_range.1 hj⟩
 ·cases h2
theorem KQ {found:List Bool} {k : Nat}:∀ n,n≤k→leftsTo l (found.set k true) n=leftsTo l found n:=by
 intro n hn;unfold leftsTo;refine VH _ fun j hj=>?_
 have:=List.mem_range.1 hj;rw[List.getD_eq_getElem?_getD,List.getElem?_set_ne zaK,←List.getD_eq_getElem?_getD]
theorem J4 {found:List Bool} {k : Fin l.length} (hl:found.length=l.length) (hf:found.getD k.val true=false):∀ d,k.val+1+d≤l.length→leftsTo l (found.set k.val true) (k.val+1+d)=(leftsTo l found (k.val+1+d)).erase k
 | 0,_=>by
  rw[Nat.add_zero,YU k.isLt,YU k.isLt,KQ l k.val (Nat.le_refl _),hf]
  rw[List.getD_eq_getElem?_getD,List.getElem?_set_self (by rw[hl];exact k.isLt)]
  rw[List.erase_append_right _ (fun h=>absurd (J5 l h).2 (Nat.lt_irrefl _))]
  simp
 | d+1,h=>by
  have h1:k.val+1+d<l.length:=zaK
  rw[show k.val+1+(d+1)=(k.val+1+d)+1 from rfl,YU h1,YU h1,J4 hl hf d zaK]
  rw[List.getD_eq_getElem?_getD,List.getElem?_set_ne zaK,←List.getD_eq_getElem?_getD]
  have hm:k∈leftsTo l found (k.val+1+d):=by
   have h2:k∈leftsTo l found (k.val+1):=by
    rw[YU k.isLt,hf];simp
   exact (Vz l found (show k.val+1≤k.val+1+d by omega)).subset h2
  rw[List.erase_append_left _ hm]
theorem KR {found:List Bool} {k : Fin l.length} (hl:found.length=l.length) (hf:found.getD k.val true=false):leftsTo l (found.set k.val true) l.length=(leftsTo l found l.length).erase k:=by
 have h:=J4 l hl hf (l.length-(k.val+1)) (by have:=k.isLt;omega)
 rwa [show k.val+1+(l.length-(k.val+1))=l.length from by have:=k.isLt;omega]at h
def rem (found:List Bool):List Key:=(leftsTo l found l.length).map (kk l)
theorem Kb:∀ (m:List PlV) (found:List Bool) (i:Nat),found.length=l.length→(rem l found).length=m.length→(Y4 l m found i=none↔okT Y5 (rem l found) (m.map key)=true)
 | [],found,i,_,h=>by
  have h0:rem l found=[]:=List.length_eq_zero_iff.1 h
  rw[h0]
  exact⟨fun _=>rfl,fun _=>rfl⟩
 | x::m,found,i,hl,h=>by
  unfold Y4
  rw[List.map_cons]
  unfold okT
  rcases KV l x (leftsTo l found l.length) with ⟨h1,h2⟩|⟨k,hk,h1,h2,h3⟩
  ·rw[if_pos (show findI l found x<0 from h1)]
   rw[show YQ Y5 (rem l found) (key x)=none from h2]
   simp
  ·have e:findI l found x=(k.val:Int):=h1
   rw[e,if_neg zaK,Int.toNat_natCast]
   rw[show YQ Y5 (rem l found) (key x)=some (((leftsTo l found l.length).erase k).map (kk l)) from h3]
   dsimp only
   have hf:=(J5 l hk).1
   have hs:=KR l hl hf
   rw[←hs]
   refine Kb m (found.set k.val true) (i+1) (by rw[List.length_set];exact hl) ?_
   unfold rem at h ⊢
   rw[hs,List.length_map,List.length_erase_of_mem hk]
   rw[List.length_map,List.length_cons]at h
   omega
theorem Zbp:rem l (List.replicate l.length false)=l.map key:=by
 have h:∀ k,k≤l.length→(leftsTo l (List.replicate l.length false) k).map (kk l)=(l.take k).map key:=by
  intro k;induction k with
  | zero=>intro _;rfl
  | succ k ih =>
   intro hk;have ha:k<l.length:=hk;rw[YU ha,List.map_append,ih zaK,List.take_add_one,List.map_append];congr 1
   rw[List.getD_eq_getElem?_getD,List.getElem?_replicate,if_pos ha,List.getElem?_eq_getElem ha];rfl
 have h1:=h l.length (Nat.le_refl _);rw[List.take_length]at h1;exact h1
end
theorem Zce (p q:Zx):(YD p q).2=true↔q.ins.length=p.ins.length∧TE Y5 (p.ins.map key) (q.ins.map key)∧YZ p.fin q.fin=true:=by
 have hs:∀ a b:Key,Y5 a b=Y5 b a:=fun a b=>ZaV a.1 b.1
 unfold YD;by_cases hl:q.ins.length=p.ins.length
 ·rw[if_pos hl];have h:=Kb p.ins q.ins (List.replicate p.ins.length false) 0 zaL (by rw[Zbp,List.length_map,hl]);rw[Zbp,Zen hs]at h
  cases hg:Y4 p.ins q.ins (List.replicate p.ins.length false) 0 with
  | none=>exact⟨fun h1=>⟨hl,h.1 hg,h1⟩,fun h1=>h1.2.2⟩
  | some i =>
   refine⟨fun h1=>(by cases h1),fun h1=>?_⟩;rw[h.2 h1.2.1]at hg
   cases hg
 ·rw[if_neg hl];exact⟨fun h=>(by cases h),fun h=>absurd h.1 hl⟩
def Zfs (p q:Z2):Prop:=Zah p q=true∧∀ (t:Nat) (a b:Zx),p.blocks[t]? = some a→q.blocks[t]? = some b→(YD a b).2=true
section
variable {p q:Z2} {ans:List Int}
end
theorem Za8 (a b:ZY):YZ a b=true↔a.op=b.op∧a.a=b.a∧a.b=b.b∧a.imm=b.imm∧a.to=b.to:=by
 unfold YZ numsB;simp only[Bool.and_eq_true,beq_iff_eq,decide_eq_true_eq]
section
variable {p q:Z2} {ans:List Int} {S : Nat}
end
end Go.Proofs.YtimpddecdodddaaGreat
