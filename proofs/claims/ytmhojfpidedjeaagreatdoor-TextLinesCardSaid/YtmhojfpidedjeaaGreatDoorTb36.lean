/- Plain: what is parsed of any text is printed as one that is parsed as the same. jacquardlaw25.TextAgain tells of any numbers that it is true. -/
import Derived.Test.YtmhojfpidedjeaaGreatDoorTb03
import Derived.Test.YtmhojfpidedjeaaGreatDoorTb09
import Derived.Test.YtmhojfpidedjeaaGreatDoorTb33
import Derived.Test.YtmhojfpidedjeaaGreatDoorTb35
namespace Go.Proofs.YtmhojfpidedjeaaGreatDoor
set_option linter.unusedVariables false
def jnT (l:List ByteArray):Bs:=l.flatMap fun x=>32::x.data.toList
def jn:List ByteArray→Bs
 | []=>[]
 | w::r=>w.data.toList++jnT r
def GoodW (w:Bs):Prop:=w≠[]∧∀ x∈w,isSep x=false∧x≠35∧x≠10
theorem fldGo_good:∀ (l cur:Bs),(∀ x∈l,x≠35∧x≠10)→(∀ x∈cur,isSep x=false∧x≠35∧x≠10)→∀ w∈fldGo cur l,GoodW w
 | [],cur,_,hc,w,hw=>by
  unfold fldGo at hw
  by_cases h:cur=[]
  ·rw[if_pos h]at hw;cases hw
  ·rw[if_neg h]at hw;rw[List.mem_singleton.1 hw];exact⟨h,hc⟩
 | x::r,cur,hl,hc,w,hw=>by
  unfold fldGo at hw
  have hr:∀ y∈r,y≠35∧y≠10:=fun y hy=>hl y (List.mem_cons_of_mem _ hy)
  by_cases hx:isSep x=true
  ·rw[if_pos hx]at hw
   by_cases h:cur=[]
   ·rw[if_pos h]at hw;exact fldGo_good r [] hr (fun y hy=>by cases hy) w hw
   ·rw[if_neg h]at hw
    rcases List.mem_cons.1 hw with rfl|hw
    ·exact⟨h,hc⟩
    ·exact fldGo_good r [] hr (fun y hy=>by cases hy) w hw
  ·rw[if_neg hx]at hw
   refine fldGo_good r (cur++[x]) hr (fun y hy=>?_) w hw
   rcases List.mem_append.1 hy with hy|hy
   ·exact hc y hy
   ·rw[List.mem_singleton.1 hy];exact⟨by simpa using hx,hl x (List.mem_cons_self ..)⟩
theorem ahead_no:∀ (l:Bs),∀ x∈ahead 35 l,x≠35
 | [],x,hx=>by cases hx
 | y::r,x,hx=>by
  unfold ahead at hx
  by_cases hy:y=35
  ·rw[List.takeWhile_cons_of_neg (by simp[hy])]at hx;cases hx
  ·rw[List.takeWhile_cons_of_pos (by simpa using hy)]at hx
   rcases List.mem_cons.1 hx with rfl|hx
   ·exact hy
   ·exact ahead_no r x hx
theorem ahead_mem (l:Bs):∀ x∈ahead 35 l,x∈l:=fun x hx=>(List.takeWhile_sublist _).subset hx
theorem spl_no (c:UInt8):∀ (s:Bs),∀ l∈spl c s,∀ x∈l,x≠c
 | [],l,hl,x,hx=>by simp[spl]at hl;subst hl;cases hx
 | y::r,l,hl,x,hx=>by
  rw[spl]at hl
  by_cases hy:y=c
  ·rw[if_pos hy]at hl
   rcases List.mem_cons.1 hl with rfl|hl
   ·cases hx
   ·exact spl_no c r l hl x hx
  ·rw[if_neg hy]at hl
   cases hs:spl c r with
   | nil=>exact absurd hs (spl_nonil c r)
   | cons a t =>
    rw[hs]at hl
    rcases List.mem_cons.1 hl with rfl|hl
    ·rcases List.mem_cons.1 hx with rfl|hx
     ·exact hy
     ·exact spl_no c r a (by rw[hs];exact List.mem_cons_self ..) x hx
    ·exact spl_no c r l (by rw[hs];exact List.mem_cons_of_mem _ hl) x hx
theorem lines_good (s:Bs):∀ l∈linesOf s,∀ w∈l,GoodW w.data.toList:=fun l hl w hw=>by
 obtain⟨x,hx,rfl⟩:=List.mem_map.1 hl
 obtain⟨y,hy,rfl⟩:=List.mem_map.1 hw
 refine fldGo_good (ahead 35 x) [] (fun z hz=>⟨ahead_no x z hz,spl_no 10 s x hx z (ahead_mem x z hz)⟩) (fun z hz=>by cases hz) y hy
theorem fldGo_word:∀ (w cur r:Bs),(∀ x∈w,isSep x=false)→fldGo cur (w++r)=fldGo (cur++w) r
 | [],cur,r,_=>by simp
 | x::w,cur,r,h=>by
  rw[List.cons_append,fldGo,if_neg (by rw[h x (List.mem_cons_self ..)];decide),fldGo_word w (cur++[x]) r fun y hy=>h y (List.mem_cons_of_mem _ hy)]
  simp
theorem fldGo_tail:∀ (l:List ByteArray) (cur:Bs),cur≠[]→(∀ w∈l,GoodW w.data.toList)→fldGo cur (jnT l)=cur::l.map fun x=>x.data.toList
 | [],cur,hc,_=>by
  show fldGo cur []=_
  unfold fldGo;rw[if_neg hc];rfl
 | w::r,cur,hc,h=>by
  have hw:=h w (List.mem_cons_self ..)
  show fldGo cur (32::w.data.toList++jnT r)=_
  rw[List.cons_append,fldGo,if_pos (by decide),if_neg hc,fldGo_word _ _ _ (fun x hx=>(hw.2 x hx).1),List.nil_append,fldGo_tail r _ hw.1 fun y hy=>h y (List.mem_cons_of_mem _ hy)]
  rfl
theorem ahead_all:∀ (l:Bs),(∀ x∈l,x≠35)→ahead 35 l=l
 | [],_=>rfl
 | y::r,h=>by
  have ih:=ahead_all r fun x hx=>h x (List.mem_cons_of_mem _ hx)
  unfold ahead at ih ⊢
  rw[List.takeWhile_cons_of_pos (by simpa using h y (List.mem_cons_self ..)),ih]
theorem jn_mem {l : List ByteArray} (h:∀ w∈l,GoodW w.data.toList):∀ x∈jn l,x≠35∧x≠10:=by
 have hT:∀ r:List ByteArray,(∀ w∈r,GoodW w.data.toList)→∀ x∈jnT r,x≠35∧x≠10:=fun r hr x hx=>by
  obtain⟨w,hw,hx⟩:=List.mem_flatMap.1 hx
  rcases List.mem_cons.1 hx with rfl|hx
  ·exact⟨by decide,by decide⟩
  ·exact ((hr w hw).2 x hx).2
 intro x hx
 cases l with
 | nil=>cases hx
 | cons w r =>
  rcases List.mem_append.1 hx with hx|hx
  ·exact ((h w (List.mem_cons_self ..)).2 x hx).2
  ·exact hT r (fun y hy=>h y (List.mem_cons_of_mem _ hy)) x hx
theorem words_jn (l:List ByteArray) (hl:l≠[]) (h:∀ w∈l,GoodW w.data.toList):wordsOf (jn l)=l:=by
 cases l with
 | nil=>exact absurd rfl hl
 | cons w r =>
  unfold wordsOf
  rw[ahead_all _ fun x hx=>(jn_mem h x hx).1]
  have hw:=h w (List.mem_cons_self ..)
  show (fldGo [] (w.data.toList++jnT r)).map _=_
  rw[fldGo_word _ _ _ fun x hx=>(hw.2 x hx).1,List.nil_append,fldGo_tail r _ hw.1 fun y hy=>h y (List.mem_cons_of_mem _ hy),List.map_cons,List.map_map]
  have e:∀ x:ByteArray,(⟨x.data.toList.toArray⟩:ByteArray)=x:=fun x=>by obtain⟨⟨d⟩⟩:=x;rfl
  rw[e]
  congr 1
  rw[show ((fun x=>(⟨x.toArray⟩:ByteArray)) ∘ fun x:ByteArray=>x.data.toList)=id from funext e,List.map_id]
theorem spl_one (c:UInt8):∀ (l:Bs),(∀ x∈l,x≠c)→spl c l=[l]
 | [],_=>rfl
 | x::r,h=>by rw[spl,if_neg (h x (List.mem_cons_self ..)),spl_one c r fun y hy=>h y (List.mem_cons_of_mem _ hy)]
def canonS (L:List (List ByteArray)):Bs:=L.flatMap fun l=>jn l++[10]
theorem lines_canon:∀ (L:List (List ByteArray)),(∀ l∈L,l≠[]∧∀ w∈l,GoodW w.data.toList)→linesOf (canonS L)=L++[[]]
 | [],_=>by decide +kernel
 | l::r,h=>by
  have hl:=h l (List.mem_cons_self ..)
  have e:canonS (l::r)=jn l++10::canonS r:=by
   show jn l++[10]++canonS r=_
   rw[List.append_assoc];rfl
  rw[e,linesOf_at,lines_canon r fun y hy=>h y (List.mem_cons_of_mem _ hy)]
  have e2:linesOf (jn l)=[l]:=by
   unfold linesOf
   rw[spl_one 10 _ fun x hx=>(jn_mem hl.2 x hx).2,List.map_singleton,words_jn l hl.1 hl.2]
  rw[e2];rfl
theorem jn_len (x:Bs):(jn (wordsOf x)).length≤x.length:=by
 have hT:∀ (l cur:Bs),(fldGo cur l).foldr (fun w n=>w.length+1+n) 0≤cur.length+l.length+1:=by
  intro l
  induction l with
  | nil=>intro cur;unfold fldGo;by_cases h:cur=[]<;>simp[h]
  | cons y r ih =>
   intro cur
   unfold fldGo
   by_cases hy:isSep y=true
   ·rw[if_pos hy]
    have:=ih []
    by_cases h:cur=[]
    ·rw[if_pos h];simp only[List.length_cons,List.length_nil]at this ⊢;omega
    ·rw[if_neg h];simp only[List.foldr_cons,List.length_cons,List.length_nil]at this ⊢;omega
   ·rw[if_neg hy]
    have:=ih (cur++[y])
    simp only[List.length_append,List.length_cons,List.length_nil]at this ⊢;omega
 have hJ:∀ l:List Bs,(jnT (l.map fun x=>(⟨x.toArray⟩:ByteArray))).length=l.foldr (fun w n=>w.length+1+n) 0:=by
  intro l
  induction l with
  | nil=>rfl
  | cons w r ih =>
   show (32::w++jnT (r.map fun x=>(⟨x.toArray⟩:ByteArray))).length=_
   rw[List.length_append,ih,List.length_cons];rfl
 have h1:=hT (ahead 35 x) []
 have h2:(ahead 35 x).length≤x.length:=by unfold ahead;exact (List.takeWhile_sublist _).length_le
 unfold wordsOf
 cases hf:fldGo [] (ahead 35 x) with
 | nil=>exact Nat.zero_le _
 | cons w r =>
  rw[hf]at h1
  show (w++jnT (r.map fun x=>(⟨x.toArray⟩:ByteArray))).length≤_
  rw[List.length_append,hJ]
  simp only[List.foldr_cons,List.length_nil]at h1
  omega
theorem canon_len (s:Bs):(canonS ((linesOf s).filter fun l=>!l.isEmpty)).length≤s.length+1:=by
 have hs:∀ c (s:Bs),(spl c s).foldr (fun w n=>w.length+1+n) 0=s.length+1:=by
  intro c s
  induction s with
  | nil=>rfl
  | cons y r ih =>
   rw[spl]
   by_cases hy:y=c
   ·rw[if_pos hy];simp only[List.foldr_cons,List.length_nil,List.length_cons];rw[ih];omega
   ·rw[if_neg hy]
    cases h:spl c r with
    | nil=>exact absurd h (spl_nonil c r)
    | cons a t =>
     rw[h]at ih
     simp only[List.foldr_cons,List.length_cons]at ih ⊢;omega
 rw[←hs 10 s]
 unfold linesOf
 generalize spl 10 s=L
 induction L with
 | nil=>exact Nat.le_refl _
 | cons x r ih =>
  have hx:=jn_len x
  rw[List.map_cons,List.filter_cons]
  simp only[List.foldr_cons]
  split
  ·show (jn (wordsOf x)++[10]++canonS _).length≤_
   rw[List.length_append,List.length_append,List.length_singleton];omega
  ·omega
theorem itoa_num {x : ByteArray} (h:isNum x=true):Lib.itoa (numW x)=x.data.toList:=by
 unfold isNum at h
 unfold numW
 obtain⟨v,hv⟩:=Option.isSome_iff_exists.1 h
 rw[hv]
 exact wparse_text hv
theorem dS_num {x : ByteArray} (h:isNum x=true):dS (numW x)=32::x.data.toList:=by unfold dS;rw[itoa_num h]
theorem allS_nums:∀ (r:List ByteArray),areNums r=true→allS (numsW r)=jnT r
 | [],_=>rfl
 | x::r,h=>by
  have h1:isNum x=true∧areNums r=true:=by simpa [areNums]using h
  show dS (numW x)++allS (numsW r)=32::x.data.toList++jnT r
  rw[dS_num h1.1,allS_nums r h1.2]
theorem idx_hit (x:ByteArray):∀ (zs:List ByteArray) (i:Nat),0≤Lib.idxFromS zs x i→(i:Int)≤Lib.idxFromS zs x i∧zs.getD (Lib.idxFromS zs x i-i).toNat ByteArray.empty=x∧Lib.idxFromS zs x i<i+zs.length
 | [],i,h=>by simp[Lib.idxFromS]at h
 | z::zs,i,h=>by
  unfold Lib.idxFromS at h ⊢
  split at h
  ·rename_i hz
   rw[if_pos hz]
   refine⟨by omega,?_,by simp only[List.length_cons];omega⟩
   rw[show ((i:Int)-i).toNat=0 from by omega]
   simpa using hz
  ·rename_i hz
   rw[if_neg hz]
   obtain⟨h1,h2,h3⟩:=idx_hit x zs (i+1) h
   refine⟨by omega,?_,by simp only[List.length_cons];omega⟩
   rw[show (Lib.idxFromS zs x (i+1)-(i:Int)).toNat=(Lib.idxFromS zs x (i+1)-((i+1:Nat):Int)).toNat+1 from by omega]
   simpa using h2
theorem opS_num {w : ByteArray} (h:0<numberF w):opS (numberF w)=w.data.toList∧numberF w≤18:=by
 have h0:0≤Lib.idxFromS opNames w 0:=by unfold numberF Lib.idxOfS at h;omega
 obtain⟨_,h2,h3⟩:=idx_hit w opNames 0 h0
 have h4:opNames.length=18:=rfl
 have hn:numberF w=1+Lib.idxFromS opNames w 0:=rfl
 refine⟨?_,by omega⟩
 unfold opS nameF
 rw[if_neg (by omega),hn,show (1+Lib.idxFromS opNames w 0-1).toNat=(Lib.idxFromS opNames w 0-((0:Nat):Int)).toNat from by omega,h2]
theorem termB_num {w : ByteArray} (h:0<kindF w):termB (kindF w)=w∧kindF w≤5:=by
 have h0:0≤Lib.idxFromS termNames w 0:=by unfold kindF Lib.idxOfS at h;omega
 obtain⟨_,h2,h3⟩:=idx_hit w termNames 0 h0
 have h4:termNames.length=5:=rfl
 have hn:kindF w=1+Lib.idxFromS termNames w 0:=rfl
 refine⟨?_,by omega⟩
 unfold termB
 rw[if_neg (by omega),hn,show (1+Lib.idxFromS termNames w 0-1).toNat=(Lib.idxFromS termNames w 0-((0:Nat):Int)).toNat from by omega,h2]
theorem allS_cons (a:Int) (l:List Int):allS (a::l)=dS a++allS l:=rfl
theorem allS_nil:allS []=[]:=rfl
theorem insS_of (op:Int) (h1:1≤op∧op≤18) (n:List Int) (h2:least op≤n.length∧n.length≤most op):insS (insOf op n)=opS op++allS n:=by
 unfold least most at h2
 by_cases a1:op=1
 ·subst a1
  match n,h2 with
  | [x,y],_=>simp[insOf,insS,allS_cons,allS_nil]
 by_cases a17:op=17
 ·subst a17
  match n,h2 with
  | x::y::r,_=>simp[insOf,insS,allS_cons]
 by_cases a18:op=18
 ·subst a18
  match n,h2 with
  | [x,y,z,u],_=>simp[insOf,insS,allS_cons,allS_nil]
 simp only[if_neg a1,if_neg a17,if_neg a18]at h2
 obtain⟨x,y,z,rfl⟩:∃ x y z,n=[x,y,z]:=by
  match n,h2 with
  | [x,y,z],_=>exact⟨x,y,z,rfl⟩
 by_cases a15:op=15
 ·subst a15;simp[insOf,insS,allS_cons,allS_nil]
 by_cases a16:op=16
 ·subst a16;simp[insOf,insS,allS_cons,allS_nil]
 have a2:2≤op∧op≤14:=by omega
 unfold insOf insS
 rw[if_neg a1,if_neg a15,if_neg a16,if_neg a17,if_neg a18]
 dsimp only
 rw[if_neg a1,if_pos a2]
 simp[allS_cons]
theorem termS_of (k:Int) (h1:1≤k∧k≤5) (n:List Int) (h2:tleast k≤n.length∧n.length≤tmost k n.length):termS (termOf k n)=(termB k).data.toList++allS n:=by
 unfold tleast tmost at h2
 have hk:¬ (k<1∨5<k):=by omega
 have h5:k=1∨k=2∨k=3∨k=4∨k=5:=by omega
 rcases h5 with rfl|rfl|rfl|rfl|rfl
 ·simp[termOf,termS,allS_nil]
 ·match n,h2 with
  | x::r,_=>simp[termOf,termS,allS_cons,allS_nil]
 ·match n,h2 with
  | x::r,_=>simp[termOf,termS,allS_cons,allS_nil]
 ·simp[termOf,termS,allS_nil]
 ·match n,h2 with
  | [x],_=>simp[termOf,termS,allS_cons,allS_nil]
theorem pair_text {x : ByteArray} (hc:colons x=1) (h:isPair x=true):pairS (pairW x)=32::x.data.toList:=by
 have h1:isNum (front x)=true∧isNum (behind x)=true:=by simpa [isPair]using h
 unfold pairS pairW
 dsimp only
 rw[dS_num h1.1,itoa_num h1.2]
 have hm:(58:UInt8)∈x.data.toList:=by
  unfold colons at hc
  exact List.count_pos_iff.1 (by omega)
 have e:x.data.toList=ahead 58 x.data.toList++58::x.data.toList.drop ((ahead 58 x.data.toList).length+1):=by
  generalize x.data.toList=l at hm
  unfold ahead
  induction l with
  | nil=>cases hm
  | cons y r ih =>
   by_cases hy:y=58
   ·subst hy;simp
   ·have hm2:(58:UInt8)∈r:=by
     rcases List.mem_cons.1 hm with e|e
     ·exact absurd e.symm hy
     ·exact e
    have:=ih hm2
    rw[List.takeWhile_cons_of_pos (by simpa using hy)]
    simp only[List.length_cons,List.drop_succ_cons,List.cons_append]
    rw[←this]
 show 32::(ahead 58 x.data.toList)++58::x.data.toList.drop ((ahead 58 x.data.toList).length+1)=32::x.data.toList
 rw[List.cons_append,←e]
theorem pairs_text:∀ (r:List ByteArray),r.all (fun w=>colons w==1)=true→r.all isPair=true→(r.map pairW).flatMap pairS=jnT r
 | [],_,_=>rfl
 | x::r,h1,h2=>by
  simp only[List.all_cons,Bool.and_eq_true,beq_iff_eq]at h1 h2
  show pairS (pairW x)++(r.map pairW).flatMap pairS=32::x.data.toList++jnT r
  rw[pair_text h1.1 h2.1,pairs_text r (by simpa using h1.2) (by simpa using h2.2)]
def prHead (p:Int):Bs:=[102,117,110,99]++(dS p++[10])
def openB (k:Nat) (b:DBlk):Bs:=[98,108,111,99,107]++(dS k++10::(b.phis.flatMap (fun p=>phiS p++[10])++b.ins.flatMap (fun i=>insS i++[10])))
def PrSt (s:PSt) (out:Bs):Prop:=
 (s.pl=0∧s.blocks=[]∧out=[])∨(s.pl=1∧out=prHead s.params++blksS s.blocks s.blocks.length) ∨
 (∃ init b,s.blocks=init++[b]∧(s.pl=2∧b.ins=[]∨s.pl=3)∧out=prHead s.params++(blksS init init.length++openB init.length b))
theorem modify_last {α:Type} (g:α→α):∀ (l:List α) (x:α),(l++[x]).modify ((l++[x]).length-1) g=l++[g x]
 | [],x=>rfl
 | y::r,x=>by
  have e:(y::r++[x]).length-1=((r++[x]).length-1)+1:=by simp
  rw[e,List.cons_append,List.modify_succ_cons,modify_last g r x];rfl
theorem blksS_init (init:List DBlk) (b:DBlk):blksS (init++[b]) init.length=blksS init init.length:=by
 unfold blksS
 refine congrArg List.flatten (List.map_congr_left fun k hk=>?_)
 have:=List.mem_range.1 hk
 unfold blkAt
 rw[List.getElem?_append_left this]
theorem blksS_last (init:List DBlk) (b:DBlk):blksS (init++[b]) (init++[b]).length=blksS init init.length++blkS init.length b:=by
 have e:(init++[b]).length=init.length+1:=by simp
 rw[e]
 have h:blksS (init++[b]) (init.length+1)=blksS (init++[b]) init.length++blkAt (init++[b]) init.length:=by unfold blksS;rw[List.range_succ,List.flatMap_append];simp
 rw[h,blksS_init]
 congr 1
 unfold blkAt
 simp
theorem pr_step {s t : PSt} {out : Bs} {l : List ByteArray} (h : PrSt s out) (hl : l ≠ []) (hs : stepSt s l = .ok t) : PrSt t (out ++ (jn l ++ [10])) := by
  cases l with
  | nil => exact absurd rfl hl
  | cons w r =>
  unfold stepSt at hs
  dsimp only at hs
  by_cases c1 : w = wFunc
  · rw [if_pos c1] at hs
    by_cases c2 : s.pl = 0 ∧ r.length = 1
    · rw [if_pos c2] at hs
      by_cases c3 : areNums r = true
      · rw [if_pos c3] at hs
        cases hs
        obtain ⟨x, rfl⟩ : ∃ x, r = [x] := List.length_eq_one_iff.1 c2.2
        have c4 : isNum x = true := by simpa [areNums] using c3
        rcases h with ⟨h1, h2, h3⟩ | ⟨h1, _⟩ | ⟨_, _, _, h1, _⟩
        · refine .inr (.inl ⟨rfl, ?_⟩)
          subst c1
          rw [h2, h3]
          show jn [wFunc, x] ++ [10] = prHead (numW x) ++ []
          unfold prHead
          rw [dS_num c4, List.append_nil]
          show ([102, 117, 110, 99] ++ (32 :: x.data.toList ++ [])) ++ [10] = _
          simp
        · omega
        · omega
      · rw [if_neg c3] at hs; cases hs
    · rw [if_neg c2] at hs; cases hs
  rw [if_neg c1] at hs
  by_cases c2 : w = wBlock
  · rw [if_pos c2] at hs
    by_cases c3 : s.pl = 1 ∧ r.length = 1
    · rw [if_pos c3] at hs
      by_cases c4 : areNums r = true
      · rw [if_pos c4] at hs
        by_cases c5 : (numsW r).getD 0 0 = s.blocks.length
        · rw [if_pos c5] at hs
          cases hs
          obtain ⟨x, rfl⟩ : ∃ x, r = [x] := List.length_eq_one_iff.1 c3.2
          have c6 : isNum x = true := by simpa [areNums] using c4
          have c7 : numW x = (s.blocks.length : Int) := c5
          rcases h with ⟨h1, _⟩ | ⟨h1, h3⟩ | ⟨_, _, _, h1, _⟩
          · omega
          · refine .inr (.inr ⟨s.blocks, zeroBlk, rfl, .inl ⟨rfl, rfl⟩, ?_⟩)
            subst c2
            rw [h3]
            show prHead s.params ++ blksS s.blocks s.blocks.length ++ (([98, 108, 111, 99, 107] ++ (32 :: x.data.toList ++ [])) ++ [10]) = _
            unfold openB
            rw [← c7, dS_num c6]
            simp [zeroBlk]
          · omega
        · rw [if_neg c5] at hs; cases hs
      · rw [if_neg c4] at hs; cases hs
    · rw [if_neg c3] at hs; cases hs
  rw [if_neg c2] at hs
  by_cases c3 : w = wPhi
  · rw [if_pos c3] at hs
    by_cases c4 : s.pl = 2
    · rw [if_pos c4] at hs
      cases r with
      | nil => cases hs
      | cons d r =>
      unfold phiSt at hs
      dsimp only at hs
      by_cases c5 : r.all (fun w => colons w == 1) = true
      · rw [if_pos c5] at hs
        by_cases c6 : (isNum d && r.all isPair) = true
        · rw [if_pos c6] at hs
          cases hs
          rw [Bool.and_eq_true] at c6
          rcases h with ⟨h1, _⟩ | ⟨h1, _⟩ | ⟨init, b, h1, h2, h3⟩
          · omega
          · omega
          · have hi : b.ins = [] := by rcases h2 with h2 | h2
                                       · exact h2.2
                                       · omega
            refine .inr (.inr ⟨init, ⟨b.phis ++ [⟨numW d, r.map pairW⟩], b.ins, b.term⟩, ?_, .inl ⟨c4, hi⟩, ?_⟩)
            · show onLast s _ = _
              unfold onLast; rw [h1]; exact modify_last _ _ _
            · subst c3
              rw [h3]
              show prHead s.params ++ (blksS init init.length ++ openB init.length b) ++ (([112, 104, 105] ++ (32 :: d.data.toList ++ jnT r)) ++ [10]) = _
              unfold openB
              dsimp only
              rw [hi, List.flatMap_append]
              simp [phiS, dS_num c6.1, pairs_text r c5 c6.2]
        · rw [if_neg c6] at hs; cases hs
      · rw [if_neg c5] at hs; cases hs
    · rw [if_neg c4] at hs; cases hs
  rw [if_neg c3] at hs
  by_cases c4 : 0 < numberF w
  · rw [if_pos c4] at hs
    by_cases c5 : 2 ≤ s.pl
    · rw [if_pos c5] at hs
      unfold insSt at hs
      by_cases c6 : least (numberF w) ≤ r.length ∧ r.length ≤ most (numberF w)
      · rw [if_pos c6] at hs
        by_cases c7 : areNums r = true
        · rw [if_pos c7] at hs
          cases hs
          obtain ⟨g1, g2⟩ := opS_num c4
          rcases h with ⟨h1, _⟩ | ⟨h1, _⟩ | ⟨init, b, h1, h2, h3⟩
          · omega
          · omega
          · refine .inr (.inr ⟨init, ⟨b.phis, b.ins ++ [insOf (numberF w) (numsW r)], b.term⟩, ?_, .inr rfl, ?_⟩)
            · show onLast s _ = _
              unfold onLast; rw [h1]; exact modify_last _ _ _
            · rw [h3]
              have e := insS_of (numberF w) ⟨by omega, g2⟩ (numsW r) (by unfold numsW; rw [List.length_map]; exact c6)
              show prHead s.params ++ (blksS init init.length ++ openB init.length b) ++ ((w.data.toList ++ jnT r) ++ [10]) = _
              unfold openB
              dsimp only
              rw [List.flatMap_append]
              simp [e, g1, allS_nums r c7]
        · rw [if_neg c7] at hs; cases hs
      · rw [if_neg c6] at hs; cases hs
    · rw [if_neg c5] at hs; cases hs
  rw [if_neg c4] at hs
  by_cases c5 : 0 < kindF w
  · rw [if_pos c5] at hs
    by_cases c6 : 2 ≤ s.pl
    · rw [if_pos c6] at hs
      unfold termSt at hs
      by_cases c7 : tleast (kindF w) ≤ r.length ∧ r.length ≤ tmost (kindF w) r.length
      · rw [if_pos c7] at hs
        by_cases c8 : areNums r = true
        · rw [if_pos c8] at hs
          cases hs
          obtain ⟨g1, g2⟩ := termB_num c5
          rcases h with ⟨h1, _⟩ | ⟨h1, _⟩ | ⟨init, b, h1, h2, h3⟩
          · omega
          · omega
          · refine .inr (.inl ⟨rfl, ?_⟩)
            have e0 : (onLast s fun b => ⟨b.phis, b.ins, termOf (kindF w) (numsW r)⟩) = init ++ [⟨b.phis, b.ins, termOf (kindF w) (numsW r)⟩] := by
              unfold onLast; rw [h1]; exact modify_last _ _ _
            have hl : (numsW r).length = r.length := by unfold numsW; rw [List.length_map]
            have e := termS_of (kindF w) ⟨by omega, g2⟩ (numsW r) (by rw [hl]; exact c7)
            show _ = prHead s.params ++ blksS (onLast s _) (onLast s _).length
            rw [e0, blksS_last, h3]
            show prHead s.params ++ (blksS init init.length ++ openB init.length b) ++ ((w.data.toList ++ jnT r) ++ [10]) = _
            unfold openB blkS bodyS
            simp [e, g1, allS_nums r c8]
        · rw [if_neg c8] at hs; cases hs
      · rw [if_neg c7] at hs; cases hs
    · rw [if_neg c6] at hs; cases hs
  rw [if_neg c5] at hs
  cases hs
theorem pr_go:∀ (L:List (List ByteArray)) (i:Nat) (s t:PSt) (out:Bs),PrSt s out→goSt stepSt i s L=.ok t→PrSt t (out++canonS (L.filter fun l=>!l.isEmpty))∧∀ j,goSt stepSt j s (L.filter fun l=>!l.isEmpty)=.ok t
 | [],i,s,t,out,h,hg=>by
  cases hg
  exact⟨by simpa [canonS]using h,fun j=>rfl⟩
 | l::r,i,s,t,out,h,hg=>by
  rw[goSt]at hg
  by_cases hl:l=[]
  ·rw[if_pos hl]at hg
   subst hl
   exact pr_go r (i+1) s t out h hg
  ·rw[if_neg hl]at hg
   have hf:(l::r).filter (fun l=>!l.isEmpty)=l::r.filter fun l=>!l.isEmpty:=by
    rw[List.filter_cons,if_pos (by cases l with | nil=>exact absurd rfl hl | cons _ _=>rfl)]
   cases hs:stepSt s l with
   | error e=>rw[hs]at hg;cases hg
   | ok u =>
    rw[hs]at hg
    obtain⟨g1,g2⟩:=pr_go r (i+1) u t _ (pr_step h hl hs) hg
    rw[hf]
    refine⟨?_,fun j=>?_⟩
    ·have e:out++canonS (l::r.filter fun l=>!l.isEmpty)=out++(jn l++[10])++canonS (r.filter fun l=>!l.isEmpty):=by
      show out++(jn l++[10]++canonS _)=_
      simp
     rw[e];exact g1
    ·rw[goSt,if_neg hl,hs];exact g2 (j+1)
theorem again_law (s:Bs) (h:(parseS s).e=0):(parseS s).line=0∧parseS (funcS (parseS s).f)=⟨(parseS s).f,0,0⟩∧(funcS (parseS s).f).length≤s.length+1:=by
 have hp:parseS s=(match goSt stepSt 0 ⟨0,[],0⟩ (linesOf s) with
  | .error x=>(⟨⟨0,[]⟩,x.1,x.2⟩:PRes)
  | .ok t=>if t.pl=1∧t.blocks≠[] then ⟨⟨t.params,t.blocks⟩,0,0⟩ else ⟨⟨0,[]⟩,((linesOf s).length:Int),70⟩):=rfl
 cases hg:goSt stepSt 0 ⟨0,[],0⟩ (linesOf s) with
 | error x =>
  rw[hg]at hp
  have:=goSt_err _ stepSt_err _ _ _ _ hg
  rw[hp]at h
  dsimp only at h
  omega
 | ok t =>
  rw[hg]at hp
  dsimp only at hp
  by_cases ht:t.pl=1∧t.blocks≠[]
  ·rw[if_pos ht]at hp
   obtain⟨g1,g2⟩:=pr_go (linesOf s) 0 ⟨0,[],0⟩ t [] (.inl ⟨rfl,rfl,rfl⟩) hg
   rw[List.nil_append]at g1
   have hf:funcS ⟨t.params,t.blocks⟩=canonS ((linesOf s).filter fun l=>!l.isEmpty):=by
    rcases g1 with ⟨k1,_⟩|⟨_,k2⟩|⟨_,_,_,k1,_⟩
    ·omega
    ·rw[k2];unfold funcS prHead;simp
    ·omega
   rw[hp]
   dsimp only
   rw[hf]
   refine⟨rfl,?_,canon_len s⟩
   have hL:linesOf (canonS ((linesOf s).filter fun l=>!l.isEmpty))=(linesOf s).filter (fun l=>!l.isEmpty)++[[]]:=by
    refine lines_canon _ fun l hl=>?_
    have:=List.mem_filter.1 hl
    refine⟨fun e=>?_,lines_good s l this.1⟩
    rw[e]at this;exact absurd this.2 (by decide)
   unfold parseS
   rw[hL,goSt_app,g2 0]
   dsimp only
   rw[goSt,if_pos rfl]
   show (if t.pl=1∧t.blocks≠[] then (⟨⟨t.params,t.blocks⟩,0,0⟩:PRes) else _)=_
   rw[if_pos ht]
  ·rw[if_neg ht]at hp
   rw[hp]at h
   cases h
theorem again_err (s:Bs) (h:(parseS s).e≠0):0<(parseS s).line∧(parseS s).f.blocks=[]:=by
 have hp:parseS s=(match goSt stepSt 0 ⟨0,[],0⟩ (linesOf s) with
  | .error x=>(⟨⟨0,[]⟩,x.1,x.2⟩:PRes)
  | .ok t=>if t.pl=1∧t.blocks≠[] then ⟨⟨t.params,t.blocks⟩,0,0⟩ else ⟨⟨0,[]⟩,((linesOf s).length:Int),70⟩):=rfl
 cases hg:goSt stepSt 0 ⟨0,[],0⟩ (linesOf s) with
 | error x =>
  rw[hg]at hp
  have:=goSt_line _ _ _ _ _ hg
  rw[hp]
  exact⟨by dsimp only;omega,rfl⟩
 | ok t =>
  rw[hg]at hp
  dsimp only at hp
  by_cases ht:t.pl=1∧t.blocks≠[]
  ·rw[if_pos ht]at hp
   rw[hp]at h
   exact absurd rfl h
  ·rw[if_neg ht]at hp
   rw[hp]
   refine⟨?_,rfl⟩
   have:=linesOf_count s
   dsimp only;omega
open Go.RowKit
abbrev TwosIn (w:World) (v:Value) (l:List (Int × Int)):Prop:=RowIn prcells 2 (fun _ y=>In64 y.1∧In64 y.2) w v l
theorem TwosIn.keep {w w':World} {v : Value} {l : List (Int × Int)} (h:TwosIn w v l) (s:Since w w'):TwosIn w' v l:=RowIn.keep (fun _ _ _ h _=>h) h s
set_option maxHeartbeats 8000000 in
set_option maxRecDepth 100000 in
theorem walk_again (lv qv:Value) (l:List Int) (ql:List (Int × Int)) (w:World) (hl:Ints w lv l) (hlq:∀ q,lv.ownBlock=some q→q<w.heap.size) (hq:TwosIn w qv ql) (hL:LaidT w):Calls Tryz.prog 6 #[lv,qv] w fun e w'=>e=.returned (.bool true)∧Since w w':=by
 obtain⟨qa,qc,eq,hqm⟩:=RowIn.shape hq
 obtain⟨qn,hqn⟩:∃ n,ql.length=n:=⟨_,rfl⟩
 rw[hqn]at eq hqm
 subst eq
 unfold maxLen at hqm
 have HLV:=Lib.hid hl
 have HLQ:=Lib.hid hlq
 have HL0:=Lib.hid hL
 have HQ:=Lib.hid hq
 have HQN:=Lib.hid hqn
 clear hl hlq hL hq hqn
 go_enter Tryz.func6,Tryz.ntmps6
 go_wp2_with fail
 refine (shown25_any w HL0.out).mono ?_
 rintro e w1 ⟨rfl,hs1⟩
 have HS1:=Lib.hid hs1
 clear hs1
 go_wp2_with fail
 refine (made25_any lv l w1 (HLV.out.keep HS1.out) (fun q hq=>Nat.lt_of_lt_of_le (HLQ.out q hq) HS1.out.size)).mono ?_
 rintro e w2 ⟨f,rfl,hf,hm,hs2⟩
 obtain⟨fp,fb,fa,fn,fc,rfl⟩:=fv_shape f w2 hf
 have HF:=Lib.hid hf
 have HM:=Lib.hid hm
 have HS12:=Lib.hid (HS1.out.trans hs2)
 clear hf hm hs2
 unfold fv
 dsimp only
 go_wp2_with fail
 refine (rfunc25_any ⟨fp,fb,.slice fa fn fc⟩ w2 HF.out (made_r HM.out) (Nat.le_trans (made_len HM.out) (by decide))).mono ?_
 rintro e w3 ⟨rfl,hs3⟩
 have HS2:=Lib.hid (HS12.out.trans hs3)
 have HT0:=Lib.hid (Txt.of HM.out)
 clear hs3
 obtain⟨t0,ht0⟩:∃ y:ByteArray,⟨(funcS (FnV.d ⟨fp,fb,.slice fa fn fc⟩)).toArray⟩=y:=⟨_,rfl⟩
 rw[ht0]at HT0 ⊢
 clear ht0
 go_wp2_with fail
 go_loopw [6,7] (fun so io wr=>∃ (i:Nat) (t:ByteArray),so=.string t∧io=.int .i64 i∧i≤qn∧i≤4∧Txt i t∧Since w3 wr) (fun _ io _=>qn-(intOf io).toNat)
 case atStart=>exact⟨0,t0,rfl,rfl,Nat.zero_le _,by decide,HT0.out,Since.refl _⟩
 case round =>
  obtain⟨i,t,rfl,rfl,hi,hi4,ht,hsr⟩:=hrel
  have HT:=Lib.hid ht
  have HSR:=Lib.hid hsr
  clear ht hsr
  by_cases hlt:i<qn
  ·by_cases h4:i<4
   ·obtain⟨b,off,y,rfl,hb,hy,hc,hyr⟩:=RowIn.at (HQ.out.keep (HS2.out.trans HSR.out)) (HQN.out ▸ hlt)
    obtain⟨x0,x1⟩:=y
    have hts:t.size≤40000:=by have:=HT.out.1;omega
    have HBL:=Lib.hid hb
    have HC0:=Lib.hid (show wr.cell? ⟨b,off+i*2,none⟩=some (.int .i64 x0) from hc 0 (by decide))
    have HC1:=Lib.hid (show wr.cell? ⟨b,off+i*2+1,none⟩=some (.int .i64 x1) from hc 1 (by decide))
    have HX0:=Lib.hid (show In64 x0 from hyr.1)
    have HX1:=Lib.hid (show In64 x1 from hyr.2)
    clear hb hy hc hyr
    go_upto_region 6 with fail
    try rw[show decide ((i:Int)<4)=true from decide_eq_true (by omega)]
    refine wp_region_since_tail 12 rfl (by decide +kernel) (by decide +kernel) (by decide +kernel) (by decide)
     [Is (.string t),Is (.slice (some ⟨b,off,none⟩) qn qc),Is (.int .i64 i),Is (.pointer (some ⟨b,off+i*2,none⟩)),Is (.pointer (some ⟨b,off+i*2,none⟩)),Is (.int .i64 x0),Is (.slice (some ⟨b,off,none⟩) qn qc),Is (.int .i64 i),Is (.pointer (some ⟨b,off+i*2,none⟩)),Is (.pointer (some ⟨b,off+i*2+1,none⟩)),Is (.int .i64 x1),TxtIs (i+1)]
     (by repeat (first | exact trivial | refine⟨Is.stable _,?_⟩ | refine⟨IsNums.stable _ _,?_⟩ | refine⟨IsRows.stable _ _,?_⟩ | refine⟨TxtIs.stable _,?_⟩)) ⟨?_,?_,?_,?_,?_,?_,?_,?_,?_,?_,?_,?_,trivial⟩ ?_
    all_goals
     intro vs w7 hs hk
     try intro _
     simp only[List.take,List.drop,putAll,Act.put,Knows,KnowsAll,nthF,Is,List.setIfInBounds_toArray,List.set_cons_zero,List.set_cons_succ,Nat.reduceAdd]at hk ⊢
     try simp only[hk]
    ·go_wp2
     exact⟨_,rfl,rfl,Since.refl _⟩
    ·go_wp2
     exact⟨_,rfl,rfl,Since.refl _⟩
    ·go_wp2
     exact⟨_,rfl,rfl,Since.refl _⟩
    ·go_wp2
     exact⟨_,rfl,rfl,Since.refl _⟩
    ·go_wp2
     exact⟨_,rfl,rfl,Since.refl _⟩
    ·have z9:w7.cell? ⟨b,off+i*2,none⟩=_:=(hs.cell (p:=⟨b,off+i*2,none⟩) HBL.out).trans HC0.out
     have z8:=Nat.lt_of_lt_of_le HBL.out hs.size
     go_wp2
     exact⟨_,rfl,rfl,Since.refl _⟩
    ·go_wp2
     exact⟨_,rfl,rfl,Since.refl _⟩
    ·go_wp2
     exact⟨_,rfl,rfl,Since.refl _⟩
    ·go_wp2
     exact⟨_,rfl,rfl,Since.refl _⟩
    ·go_wp2
     exact⟨_,rfl,rfl,Since.refl _⟩
    ·have z9:w7.cell? ⟨b,off+i*2+1,none⟩=_:=(hs.cell (p:=⟨b,off+i*2+1,none⟩) HBL.out).trans HC1.out
     have z8:=Nat.lt_of_lt_of_le HBL.out hs.size
     go_wp2
     exact⟨_,rfl,rfl,Since.refl _⟩
    ·go_wp2_with fail
     refine (turned_any t x0 x1 w7 (by omega) HX0.out HX1.out).mono ?_
     rintro e wN ⟨t2,rfl,ht2,hsN⟩
     have HT2:=Lib.hid (HT.out.turn ht2)
     clear ht2
     go_wp2
     exact⟨_,rfl,⟨_,rfl,HT2.out⟩,hsN⟩
    ·obtain⟨t2,hv,ht2⟩:=(show TxtIs (i+1) (vs 11) w7 from hk.2.2.2.2.2.2.2.2.2.2.2.1)
     simp only[hv]
     have HT2:=Lib.hid ht2
     have HS7:=Lib.hid (HSR.out.trans hs)
     clear hk hv ht2 hs
     go_wp2
     go_roundw
     case rel=>exact⟨i+1,t2,rfl,by go_num,by omega,by omega,HT2.out,HS7.out⟩
     case measure=>simp[intOf];omega
   ·obtain rfl:i=4:=by omega
    clear h4 hi4 hi
    have hts:t.size≤40000:=by have:=HT.out.1;omega
    have HRS:=Lib.hid (HS2.out.trans HSR.out)
    go_wp2_with fail
    refine (parse_any t wr (by omega) (HL0.out.keep HRS.out)).mono ?_
    rintro e w8 ⟨f1,line1,er1,rfl,hf1,hd1,hs8⟩
    obtain⟨p1,b1,a1,n1,c1,rfl⟩:=fv_shape f1 w8 hf1
    have HD1:=Lib.hid hd1
    have HF1:=Lib.hid hf1
    have HS8:=Lib.hid (HRS.out.trans hs8)
    clear hf1 hd1 hs8
    unfold fv
    dsimp only
    go_upto_region 8 with fail
    obtain⟨q9,hq9⟩:∃ q,w8.heap.size=q:=⟨_,rfl⟩
    obtain⟨w9,hw9⟩:∃ w9,w8.alloc (.cells #[.int .i64 p1,.slice a1 n1 c1] 24)=w9:=⟨_,rfl⟩
    have HS89:=Lib.hid (show Since w8 w9 from by rw[←hw9];exact (Since.refl w8).alloc _)
    have HB9:=Lib.hid (show HeapIs w9 q9 #[.int .i64 p1,.slice a1 n1 c1] 24 from by rw[←hw9,←hq9];exact HeapIs.new w8 _ _)
    rw[hw9]
    try rw[hq9]
    clear hw9 hq9
    have HS9:=Lib.hid (HS8.out.trans HS89.out)
    have z0:=HB9.out.cell 0
    have z1:=HB9.out.cell 1
    have zl:=HB9.out.lt
    by_cases he:er1=0
    ·subst he
     have he0:(parseS t.data.toList).e=0:=(congrArg PRes.e HD1.out).symm
     have hlw:=again_law t.data.toList he0
     have hl0:line1=0:=(congrArg PRes.line HD1.out).trans hlw.1
     subst hl0
     have hd3:DFn3 (parseS t.data.toList).f:=parsed3 _ (by show t.data.toList.length≤300000;rw[bytes_len];omega)
     have hdf:(FnV.d ⟨p1,b1,.slice a1 n1 c1⟩)=(parseS t.data.toList).f:=congrArg PRes.f HD1.out
     rw[←hdf]at hd3 hlw
     have hln:(funcS (FnV.d ⟨p1,b1,.slice a1 n1 c1⟩)).length≤40001:=by have h1:=hlw.2.2;have h2:=bytes_len t;omega
     obtain⟨y,hy⟩:∃ y:ByteArray,⟨(funcS (FnV.d ⟨p1,b1,.slice a1 n1 c1⟩)).toArray⟩=y:=⟨_,rfl⟩
     have hys:y.size≤40001:=by rw[←hy,bs_size];exact hln
     have hyd:parseS y.data.toList=⟨FnV.d ⟨p1,b1,.slice a1 n1 c1⟩,0,0⟩:=by rw[←hy];exact hlw.2.1
     have HYD:=Lib.hid hyd
     have H3:=Lib.hid hd3
     have HFT:=Lib.hid (fun (f:FnV) (W:World) (hf:FnIn W f) (hs:Since w9 W) (hd:f.d=FnV.d ⟨p1,b1,.slice a1 n1 c1⟩)=>(show Calls Tryz.prog 11 #[fv f] W (StrQ y W) from by
      have h:=text_func f W hf (fnR_of f (by rw[hd];exact hd3)) (HL0.out.keep (HS9.out.trans hs)) (by rw[hd];omega)
      rwa [hd,hy]at h))
     clear he0 hlw hd3 hdf hln hy hyd
     go_wp2_with fail
     refine (HFT.out ⟨p1,b1,.slice a1 n1 c1⟩ w9 (HF1.out.keep HS89.out) (Since.refl _) rfl).mono ?_
     rintro e wa ⟨rfl,hsa⟩
     have HSA:=Lib.hid (show Since w9 wa from hsa)
     clear hsa z0 z1 zl
     go_wp2_with fail
     refine (parse_any y wa (by omega) (HL0.out.keep (HS9.out.trans HSA.out))).mono ?_
     rintro e wb ⟨f2,line2,er2,rfl,hf2,hd2,hsb⟩
     obtain⟨p2,b2,a2,n2,c2,rfl⟩:=fv_shape f2 wb hf2
     rw[HYD.out]at hd2
     obtain rfl:line2=0:=congrArg PRes.line hd2
     obtain rfl:er2=0:=congrArg PRes.e hd2
     have HF2:=Lib.hid hf2
     have HD2:=Lib.hid (show FnV.d ⟨p2,b2,.slice a2 n2 c2⟩=FnV.d ⟨p1,b1,.slice a1 n1 c1⟩ from congrArg PRes.f hd2)
     have HSB:=Lib.hid (HSA.out.trans hsb)
     clear hf2 hd2 hsb
     unfold fv
     dsimp only
     go_upto_region 12 with fail
     obtain⟨qc9,hqc⟩:∃ q,wb.heap.size=q:=⟨_,rfl⟩
     obtain⟨wc,hwc⟩:∃ wc,wb.alloc (.cells #[.int .i64 p2,.slice a2 n2 c2] 24)=wc:=⟨_,rfl⟩
     have HSBC:=Lib.hid (show Since wb wc from by rw[←hwc];exact (Since.refl wb).alloc _)
     have HBC:=Lib.hid (show HeapIs wc qc9 #[.int .i64 p2,.slice a2 n2 c2] 24 from by rw[←hwc,←hqc];exact HeapIs.new wb _ _)
     rw[hwc]
     try rw[hqc]
     clear hwc hqc
     have HSC:=Lib.hid (HSB.out.trans HSBC.out)
     have g1:=HB9.out.keep HSC.out
     have z0:=g1.cell 0
     have z1:=g1.cell 1
     have zl:=g1.lt
     have y0:=HBC.out.cell 0
     have y1:=HBC.out.cell 1
     have yl:=HBC.out.lt
     clear g1
     go_wp2_with fail
     refine (same_any ⟨p1,b1,.slice a1 n1 c1⟩ ⟨p2,b2,.slice a2 n2 c2⟩ wc (HF1.out.keep (HS89.out.trans HSC.out)) (HF2.out.keep HSBC.out) HD2.out.symm (fn3_of _ H3.out) (fn3_of _ (by rw[HD2.out];exact H3.out)) (print3_len _ H3.out)).mono ?_
     rintro e wd ⟨rfl,hsd⟩
     have HSD:=Lib.hid (HSC.out.trans hsd)
     have g2:=HBC.out.keep hsd
     have x0':=g2.cell 0
     have x1':=g2.cell 1
     have xl:=g2.lt
     have HF3:=Lib.hid (HF2.out.keep (HSBC.out.trans hsd))
     clear g2 hsd z0 z1 zl y0 y1 yl
     go_wp2_with fail
     refine (HFT.out ⟨p2,b2,.slice a2 n2 c2⟩ wd HF3.out HSD.out HD2.out).mono ?_
     rintro e we ⟨rfl,hse⟩
     have HSE:=Lib.hid (HS9.out.trans (HSD.out.trans hse))
     clear hse x0' x1' xl
     go_wp2
     go_ret
     exact⟨rfl,HSE.out⟩
    ·have hlw:=again_err t.data.toList (fun h=>he ((congrArg PRes.e HD1.out).trans h))
     have hl1:0<line1:=by rw[show line1=_ from congrArg PRes.line HD1.out];exact hlw.1
     have hn1:n1=0:=by
      have h:(FnV.d ⟨p1,b1,.slice a1 n1 c1⟩).blocks=(parseS t.data.toList).f.blocks:=congrArg (fun r=>r.f.blocks) HD1.out
      rw[hlw.2]at h
      obtain⟨a2,c2,e2,_⟩:=RowIn.shape HF1.out
      have hb:b1.length=0:=by
       have:=congrArg List.length h
       simpa [FnV.d]using this
      have e3:n1=b1.length:=by injection e2
      omega
     subst hn1
     have n1:(er1 != 0)=true:=bne_iff_ne.2 he
     have n2:decide (0<line1)=true:=decide_eq_true hl1
     clear he hlw hl1
     go_wp2
     go_ret
     exact⟨rfl,HS9.out⟩
  ·obtain rfl:i=qn:=by omega
   clear hlt
   have hts:t.size≤40000:=by have:=HT.out.1;omega
   have HRS:=Lib.hid (HS2.out.trans HSR.out)
   go_wp2_with fail
   refine (parse_any t wr (by omega) (HL0.out.keep HRS.out)).mono ?_
   rintro e w8 ⟨f1,line1,er1,rfl,hf1,hd1,hs8⟩
   obtain⟨p1,b1,a1,n1,c1,rfl⟩:=fv_shape f1 w8 hf1
   have HD1:=Lib.hid hd1
   have HF1:=Lib.hid hf1
   have HS8:=Lib.hid (HRS.out.trans hs8)
   clear hf1 hd1 hs8
   unfold fv
   dsimp only
   go_upto_region 8 with fail
   obtain⟨q9,hq9⟩:∃ q,w8.heap.size=q:=⟨_,rfl⟩
   obtain⟨w9,hw9⟩:∃ w9,w8.alloc (.cells #[.int .i64 p1,.slice a1 n1 c1] 24)=w9:=⟨_,rfl⟩
   have HS89:=Lib.hid (show Since w8 w9 from by rw[←hw9];exact (Since.refl w8).alloc _)
   have HB9:=Lib.hid (show HeapIs w9 q9 #[.int .i64 p1,.slice a1 n1 c1] 24 from by rw[←hw9,←hq9];exact HeapIs.new w8 _ _)
   rw[hw9]
   try rw[hq9]
   clear hw9 hq9
   have HS9:=Lib.hid (HS8.out.trans HS89.out)
   have z0:=HB9.out.cell 0
   have z1:=HB9.out.cell 1
   have zl:=HB9.out.lt
   by_cases he:er1=0
   ·subst he
    have he0:(parseS t.data.toList).e=0:=(congrArg PRes.e HD1.out).symm
    have hlw:=again_law t.data.toList he0
    have hl0:line1=0:=(congrArg PRes.line HD1.out).trans hlw.1
    subst hl0
    have hd3:DFn3 (parseS t.data.toList).f:=parsed3 _ (by show t.data.toList.length≤300000;rw[bytes_len];omega)
    have hdf:(FnV.d ⟨p1,b1,.slice a1 n1 c1⟩)=(parseS t.data.toList).f:=congrArg PRes.f HD1.out
    rw[←hdf]at hd3 hlw
    have hln:(funcS (FnV.d ⟨p1,b1,.slice a1 n1 c1⟩)).length≤40001:=by have h1:=hlw.2.2;have h2:=bytes_len t;omega
    obtain⟨y,hy⟩:∃ y:ByteArray,⟨(funcS (FnV.d ⟨p1,b1,.slice a1 n1 c1⟩)).toArray⟩=y:=⟨_,rfl⟩
    have hys:y.size≤40001:=by rw[←hy,bs_size];exact hln
    have hyd:parseS y.data.toList=⟨FnV.d ⟨p1,b1,.slice a1 n1 c1⟩,0,0⟩:=by rw[←hy];exact hlw.2.1
    have HYD:=Lib.hid hyd
    have H3:=Lib.hid hd3
    have HFT:=Lib.hid (fun (f:FnV) (W:World) (hf:FnIn W f) (hs:Since w9 W) (hd:f.d=FnV.d ⟨p1,b1,.slice a1 n1 c1⟩)=>(show Calls Tryz.prog 11 #[fv f] W (StrQ y W) from by
     have h:=text_func f W hf (fnR_of f (by rw[hd];exact hd3)) (HL0.out.keep (HS9.out.trans hs)) (by rw[hd];omega)
     rwa [hd,hy]at h))
    clear he0 hlw hd3 hdf hln hy hyd
    go_wp2_with fail
    refine (HFT.out ⟨p1,b1,.slice a1 n1 c1⟩ w9 (HF1.out.keep HS89.out) (Since.refl _) rfl).mono ?_
    rintro e wa ⟨rfl,hsa⟩
    have HSA:=Lib.hid (show Since w9 wa from hsa)
    clear hsa z0 z1 zl
    go_wp2_with fail
    refine (parse_any y wa (by omega) (HL0.out.keep (HS9.out.trans HSA.out))).mono ?_
    rintro e wb ⟨f2,line2,er2,rfl,hf2,hd2,hsb⟩
    obtain⟨p2,b2,a2,n2,c2,rfl⟩:=fv_shape f2 wb hf2
    rw[HYD.out]at hd2
    obtain rfl:line2=0:=congrArg PRes.line hd2
    obtain rfl:er2=0:=congrArg PRes.e hd2
    have HF2:=Lib.hid hf2
    have HD2:=Lib.hid (show FnV.d ⟨p2,b2,.slice a2 n2 c2⟩=FnV.d ⟨p1,b1,.slice a1 n1 c1⟩ from congrArg PRes.f hd2)
    have HSB:=Lib.hid (HSA.out.trans hsb)
    clear hf2 hd2 hsb
    unfold fv
    dsimp only
    go_upto_region 12 with fail
    obtain⟨qc9,hqc⟩:∃ q,wb.heap.size=q:=⟨_,rfl⟩
    obtain⟨wc,hwc⟩:∃ wc,wb.alloc (.cells #[.int .i64 p2,.slice a2 n2 c2] 24)=wc:=⟨_,rfl⟩
    have HSBC:=Lib.hid (show Since wb wc from by rw[←hwc];exact (Since.refl wb).alloc _)
    have HBC:=Lib.hid (show HeapIs wc qc9 #[.int .i64 p2,.slice a2 n2 c2] 24 from by rw[←hwc,←hqc];exact HeapIs.new wb _ _)
    rw[hwc]
    try rw[hqc]
    clear hwc hqc
    have HSC:=Lib.hid (HSB.out.trans HSBC.out)
    have g1:=HB9.out.keep HSC.out
    have z0:=g1.cell 0
    have z1:=g1.cell 1
    have zl:=g1.lt
    have y0:=HBC.out.cell 0
    have y1:=HBC.out.cell 1
    have yl:=HBC.out.lt
    clear g1
    go_wp2_with fail
    refine (same_any ⟨p1,b1,.slice a1 n1 c1⟩ ⟨p2,b2,.slice a2 n2 c2⟩ wc (HF1.out.keep (HS89.out.trans HSC.out)) (HF2.out.keep HSBC.out) HD2.out.symm (fn3_of _ H3.out) (fn3_of _ (by rw[HD2.out];exact H3.out)) (print3_len _ H3.out)).mono ?_
    rintro e wd ⟨rfl,hsd⟩
    have HSD:=Lib.hid (HSC.out.trans hsd)
    have g2:=HBC.out.keep hsd
    have x0':=g2.cell 0
    have x1':=g2.cell 1
    have xl:=g2.lt
    have HF3:=Lib.hid (HF2.out.keep (HSBC.out.trans hsd))
    clear g2 hsd z0 z1 zl y0 y1 yl
    go_wp2_with fail
    refine (HFT.out ⟨p2,b2,.slice a2 n2 c2⟩ wd HF3.out HSD.out HD2.out).mono ?_
    rintro e we ⟨rfl,hse⟩
    have HSE:=Lib.hid (HS9.out.trans (HSD.out.trans hse))
    clear hse x0' x1' xl
    go_wp2
    go_ret
    exact⟨rfl,HSE.out⟩
   ·have hlw:=again_err t.data.toList (fun h=>he ((congrArg PRes.e HD1.out).trans h))
    have hl1:0<line1:=by rw[show line1=_ from congrArg PRes.line HD1.out];exact hlw.1
    have hn1:n1=0:=by
     have h:(FnV.d ⟨p1,b1,.slice a1 n1 c1⟩).blocks=(parseS t.data.toList).f.blocks:=congrArg (fun r=>r.f.blocks) HD1.out
     rw[hlw.2]at h
     obtain⟨a2,c2,e2,_⟩:=RowIn.shape HF1.out
     have hb:b1.length=0:=by
      have:=congrArg List.length h
      simpa [FnV.d]using this
     have e3:n1=b1.length:=by injection e2
     omega
    subst hn1
    have n1:(er1 != 0)=true:=bne_iff_ne.2 he
    have n2:decide (0<line1)=true:=decide_eq_true hl1
    clear he hlw hl1
    go_wp2
    go_ret
    exact⟨rfl,HS9.out⟩
end Go.Proofs.YtmhojfpidedjeaaGreatDoor
