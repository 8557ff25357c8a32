/- Plain: the steps over numbered lines; how much a parser has when so many lines are done. The document's Parse: the walk. Plain: what is parsed has words of 32 bits, and rows that are no longer than lines. The program's each: over a text's lines that have words. -/
import Derived.Test.YtmhojfpidedjeaaGreatDoorTq02
import Derived.Test.YtmhojfpidedjeaaGreatDoorTq16
import Derived.Test.YtmhojfpidedjeaaGreatDoorTq23
import Derived.Test.YtmhojfpidedjeaaGreatDoorTq24
namespace Go.Proofs.YtmhojfpidedjeaaGreatDoor
set_option linter.unusedVariables false
def runL {σ:Type} (step:σ→List ByteArray→Except Int σ):σ→List (List ByteArray × Int)→Except (Int × Int) σ
 | s,[]=>.ok s
 | s,x::r=>match step s x.1 with
  | .error e=>.error (x.2,e)
  | .ok t=>runL step t r
theorem goSt_runL {σ:Type} (step:σ→List ByteArray→Except Int σ):∀ (L:List (List ByteArray)) (i:Nat) (s:σ),goSt step i s L=runL step s (numd ((i:Int)+1) L)
 | [],i,s=>rfl
 | l::r,i,s=>by
  rw[goSt,numd]
  have e:(((i+1:Nat):Int)+1)=(i:Int)+1+1:=by omega
  by_cases h:l=[]
  ·rw[if_pos h,goSt_runL step r (i+1) s,emitL,if_pos h,List.nil_append,e]
  ·rw[if_neg h,emitL,if_neg h,List.singleton_append,runL]
   cases hs:step s l with
   | error n=>rfl
   | ok t =>
    simp only[]
    rw[goSt_runL step r (i+1) t,e]
theorem fldGo_len:∀ (l cur:Bs),(fldGo cur l).length≤l.length+(if cur=[] then 0 else 1)
 | [],cur=>by unfold fldGo;by_cases h:cur=[]<;>simp[h]
 | x::r,cur=>by
  unfold fldGo
  by_cases hx:isSep x=true
  ·rw[if_pos hx]
   have h0:=fldGo_len r []
   rw[if_pos rfl]at h0
   by_cases h:cur=[]
   ·rw[if_pos h,if_pos h];simp only[List.length_cons];omega
   ·rw[if_neg h,if_neg h];simp only[List.length_cons];omega
  ·rw[if_neg hx]
   have h0:=fldGo_len r (cur++[x])
   rw[if_neg (by simp)]at h0
   simp only[List.length_cons]
   omega
theorem wordsOf_len (l:Bs):(wordsOf l).length≤l.length:=by
 unfold wordsOf
 rw[List.length_map]
 have h:=fldGo_len (ahead 35 l) []
 rw[if_pos rfl]at h
 have h2:(ahead 35 l).length≤l.length:=by unfold ahead;exact (List.takeWhile_sublist _).length_le
 omega
theorem spl_mem_len (c:UInt8):∀ (s:Bs),∀ x∈spl c s,x.length≤s.length
 | [],x,hx=>by simp[spl]at hx;simp[hx]
 | y::r,x,hx=>by
  rw[spl]at hx
  by_cases hy:y=c
  ·rw[if_pos hy]at hx
   rcases List.mem_cons.1 hx with h|h
   ·subst h;simp
   ·have:=spl_mem_len c r x h;simp only[List.length_cons];omega
  ·rw[if_neg hy]at hx
   have ih:=spl_mem_len c r
   cases hs:spl c r with
   | nil=>rw[hs]at hx;simp at hx;simp[hx]
   | cons h t =>
    rw[hs]at hx ih
    rcases List.mem_cons.1 hx with h1|h1
    ·have:=ih h (by simp);subst h1;simp only[List.length_cons];omega
    ·have:=ih x (by simp[h1]);simp only[List.length_cons];omega
theorem spl_len (c:UInt8):∀ (s:Bs),(spl c s).length≤s.length+1
 | []=>by simp[spl]
 | y::r=>by
  rw[spl]
  have ih:=spl_len c r
  by_cases hy:y=c
  ·rw[if_pos hy];simp only[List.length_cons];omega
  ·rw[if_neg hy]
   cases hs:spl c r with
   | nil=>simp
   | cons h t=>rw[hs]at ih;simp only[List.length_cons]at ih ⊢;omega
theorem linesOf_len (s:Bs):(linesOf s).length≤s.length+1:=by unfold linesOf;rw[List.length_map];exact spl_len 10 s
theorem lines_words (s:Bs):∀ l∈linesOf s,l.length≤s.length:=fun l hl=>by
 obtain⟨x,hx,rfl⟩:=List.mem_map.1 hl
 have:=wordsOf_len x
 have:=spl_mem_len 10 s x hx
 omega
theorem numd_mem:∀ (L:List (List ByteArray)) (n:Int),∀ x∈numd n L,x.1∈L∧x.1≠[]
 | [],_,x,hx=>by cases hx
 | l::r,n,x,hx=>by
  rw[numd]at hx
  rcases List.mem_append.1 hx with h|h
  ·unfold emitL at h
   by_cases hl:l=[]
   ·rw[if_pos hl]at h;cases h
   ·rw[if_neg hl]at h
    rw[List.mem_singleton.1 h]
    exact⟨by simp,hl⟩
  ·have:=numd_mem r (n+1) x h
   exact⟨List.mem_cons_of_mem _ this.1,this.2⟩
theorem numd_len:∀ (L:List (List ByteArray)) (n:Int),(numd n L).length≤L.length
 | [],_=>Nat.le_refl _
 | l::r,n=>by
  rw[numd,List.length_append,List.length_cons]
  have:=numd_len r (n+1)
  have:(emitL n l).length≤1:=by unfold emitL;by_cases h:l=[]<;>simp[h]
  omega
structure FewSt (n:Nat) (s:PSt):Prop where
 bl:s.blocks.length≤n
 each:∀ b∈s.blocks,b.phis.length≤n∧b.ins.length≤n
 pl:0≤s.pl∧s.pl≤3∧(2≤s.pl→s.blocks≠[])
theorem mem_modify {α:Type} {g : α→α}:∀ (l:List α) (i:Nat) (x:α),x∈l.modify i g→x∈l∨∃ y∈l,x=g y
 | [],i,x,h=>by simp at h
 | y::r,0,x,h=>by
  simp only[List.modify_zero_cons,List.mem_cons]at h
  rcases h with h|h
  ·exact .inr ⟨y,by simp,h⟩
  ·exact .inl (by simp[h])
 | y::r,i+1,x,h=>by
  simp only[List.modify_succ_cons,List.mem_cons]at h
  rcases h with h|h
  ·exact .inl (by simp[h])
  ·rcases mem_modify r i x h with h|⟨z,hz,e⟩
   ·exact .inl (by simp[h])
   ·exact .inr ⟨z,by simp[hz],e⟩
theorem FewSt.more {n : Nat} {s : PSt} (h:FewSt n s):FewSt (n+1) s:=⟨by have:=h.bl;omega,fun b hb=>by have:=h.each b hb;omega,h.pl⟩
theorem FewSt.last {n : Nat} {s : PSt} (h:FewSt n s) (g:DBlk→DBlk) (hg:∀ b,(g b).phis.length≤b.phis.length+1∧(g b).ins.length≤b.ins.length+1) (k:Int) (hk:0≤k∧k≤3∧(2≤k→s.blocks≠[])) (p:Int):FewSt (n+1) ⟨p,onLast s g,k⟩:=by
 refine⟨?_,fun b hb=>?_,hk.1,hk.2.1,fun h2=>?_⟩
 ·show (onLast s g).length≤n+1
  unfold onLast;rw[List.length_modify];have:=h.bl;omega
 ·rcases mem_modify _ _ _ hb with h1|⟨y,hy,rfl⟩
  ·have:=h.each b h1;omega
  ·have:=h.each y hy
   have:=hg y
   omega
 ·show onLast s g≠[]
  have h3:=hk.2.2 h2
  unfold onLast
  intro e
  apply h3
  rw[←List.length_eq_zero_iff]at e ⊢
  rwa [List.length_modify]at e
theorem FewSt.step {n : Nat} {s t:PSt} {l : List ByteArray} (h:FewSt n s) (hs:stepSt s l=.ok t):FewSt (n+1) t:=by
 unfold stepSt at hs
 split at hs
 ·cases hs;exact h.more
 ·rename_i w r
  split at hs
  ·split at hs
   ·split at hs
    ·cases hs;exact⟨by have:=h.bl;show s.blocks.length≤n+1;omega,fun b hb=>(by have:=h.each b hb;omega),(show (0:Int)≤1 from by decide),(show (1:Int)≤3 from by decide),fun h=>absurd (show (2:Int)≤1 from h) (by decide)⟩
    ·cases hs
   ·cases hs
  ·split at hs
   ·split at hs
    ·split at hs
     ·split at hs
      ·cases hs
       refine⟨by have:=h.bl;show (s.blocks++[zeroBlk]).length≤n+1;simp;omega,fun b hb=>?_,(show (0:Int)≤2 from by decide),(show (2:Int)≤3 from by decide),fun _=>by simp⟩
       rcases List.mem_append.1 hb with h1|h1
       ·have:=h.each b h1;omega
       ·rw[List.mem_singleton.1 h1];simp[zeroBlk]
      ·cases hs
     ·cases hs
    ·cases hs
   ·split at hs
    ·split at hs
     ·rename_i hpl
      unfold phiSt at hs
      split at hs
      ·cases hs
      ·split at hs
       ·split at hs
        ·cases hs
         exact h.last _ (fun b=>by simp) _ h.pl _
        ·cases hs
       ·cases hs
     ·cases hs
    ·split at hs
     ·split at hs
      ·rename_i hpl
       unfold insSt at hs
       split at hs
       ·split at hs
        ·cases hs
         exact h.last _ (fun b=>by simp) _ ⟨by decide,by decide,fun _=>h.pl.2.2 hpl⟩ _
        ·cases hs
       ·cases hs
      ·cases hs
     ·split at hs
      ·split at hs
       ·rename_i hpl
        unfold termSt at hs
        split at hs
        ·split at hs
         ·cases hs
          exact h.last _ (fun b=>by simp) _ ⟨by decide,by decide,fun h=>absurd h (by decide)⟩ _
         ·cases hs
        ·cases hs
       ·cases hs
      ·cases hs
theorem FewSt.start:FewSt 0 ⟨0,[],0⟩:=⟨Nat.le_refl _,fun b hb=>(by cases hb),(show (0:Int)≤0 from by decide),(show (0:Int)≤3 from by decide),fun h=>absurd (show (2:Int)≤0 from h) (by decide)⟩
open Go.RowKit
theorem put_block {w : World} {g : Nat} {old:Array Value} {t : TypeId} (h:w.heap[g]? = some (.cells old t (0,0))) (cs:Array Value):(w.setRow g cs).heap[g]? = some (.cells cs t (0,0)):=by
 simp[World.setRow,Array.getElem?_modify,h]
theorem put_turn {S : Nat→Prop} {w : World} {g : Nat} (hg:S g) (cs:Array Value):Turn S w (w.setRow g cs):=by
 refine⟨rfl,rfl,rfl,by simp[World.setRow],fun k hk hs=>?_⟩
 have:g≠k:=fun e=>hs (e ▸ hg)
 simp[World.setRow,Array.getElem?_modify,this]
section
variable {T : TypeId} {w0 w:World} {pb:Nat} {tl:List Value} {params pl e:Int} {bv:Value} {bl:List FBlk}
theorem PaM.start (w:World) (T:TypeId) (tl:List Value) (hk:T≠57∧T≠60∧T≠51):PaM T w w.heap.size tl 0 0 0 (.slice none 0 0) [] (w.alloc (.cells (.int .i64 0::.slice none 0 0::.int .i64 0::.int .i64 0::tl).toArray T)):=
 ⟨HeapIs.new _ _ _,OwnRow.nil _ _ _ _ _,fun i b h=>(by simp at h),fun b h=>(by simp at h),(Since.refl w).alloc _,fun q hq=>(by
  rcases hq with h|h|⟨b,h,_⟩
  ·omega
  ·cases h
  ·simp at h),hk⟩
theorem RowIn.imp {α:Type} {f : α→List Value} {sz:Nat} {p p':World→α→Prop} {w : World} {v : Value} {l : List α} (h:RowIn f sz p w v l) (hp:∀ x,p w x→p' w x):RowIn f sz p' w v l:=by
 rcases h with h|⟨b,off,cap,h1,h2,h3,h4,h5⟩
 ·exact .inl h
 ·exact .inr ⟨b,off,cap,h1,h2,h3,h4,fun j x hj=>⟨(h5 j x hj).1,hp x (h5 j x hj).2⟩⟩
theorem BkStay.fn {S : Nat→Prop} {b : FBlk} (h:BkStay S w b):FBlkIn w b:=⟨RowIn.imp h.phis fun _ hx=>hx.1,RowIn.imp h.ins fun _ hx=>hx.1,h.term.read⟩
theorem PaM.fnTurn {R : Nat→Prop} {w':World} (h:PaM T w0 pb tl params pl e bv bl w) (t:Turn R w w') (hR:∀ q,R q→q<w0.heap.size):FnIn w' ⟨params,bl,bv⟩:=by
 have hn:∀ q,PaOwn pb bv bl q→¬ R q:=fun q hq hr=>by have:=h.new q hq;have:=hR q hr;omega
 have h1:∀ q,R q→PaS w0 pb bv bl q:=fun q hq=>.inr (hR q hq)
 have h2:∀ q,PaS w0 pb bv bl q→PaS w0 pb bv bl q∨w.heap.size≤q:=fun q hq=>.inl hq
 refine row_of_own fbcells_len (own_turn h.row t fun q hq=>hn q (.inr (.inl hq))) fun b hb=>?_
 obtain⟨i,hi⟩:=List.getElem?_of_mem hb
 have hlt:i<bl.length:=(List.getElem?_eq_some_iff.1 hi).1
 by_cases hl:i+1<bl.length
 ·exact ((h.early i b hi hl).turn t h1 h2).fn
 ·obtain rfl:i=bl.length-1:=by omega
  have hl:=h.last b hi
  exact⟨row_of_own fpcells_len (own_turn hl.phis t fun q hq=>hn q (.inr (.inr ⟨b,hi,.inl hq⟩))) fun p hp=>((hl.phi p hp).turn t h1 h2).1,row_of_own ficells_len (own_turn hl.ins t fun q hq=>hn q (.inr (.inr ⟨b,hi,.inr hq⟩))) fun x hx=>((hl.inx x hx).turn t h1 h2).1,(hl.term.turn t h1 h2).read⟩
end
theorem parse_runL (s:Bs):parseS s=match runL stepSt ⟨0,[],0⟩ (numd 1 (linesOf s)) with
  | .error x=>⟨⟨0,[]⟩,x.1,x.2⟩
  | .ok t=>if t.pl=1∧t.blocks≠[] then ⟨⟨t.params,t.blocks⟩,0,0⟩ else ⟨⟨0,[]⟩,((linesOf s).length:Int),70⟩:=by
 unfold parseS
 rw[goSt_runL stepSt (linesOf s) 0 ⟨0,[],0⟩]
 all_goals rfl
theorem fn_nil (w:World):FnIn w ⟨0,[],.slice none 0 0⟩:=.inl ⟨none,rfl,rfl⟩
def NumsD (l:List Int):Prop:=(∀ x∈l,In32W x)∧l.length≤300001
structure DIns3 (x:DIns):Prop where
 op:In32W x.op
 dst:In32W x.dst
 two:In32W x.two
 args:NumsD x.args
 imm:In32W x.imm
structure DTerm3 (t:DTerm):Prop where
 kd:In32W t.kd
 ar:NumsD t.ar
 tg:NumsD t.tg
 imm:In32W t.im
structure DBlk3 (b:DBlk):Prop where
 phis:∀ p∈b.phis,In32W p.dst∧(∀ x∈p.ins,In32W x.1∧In32W x.2)∧p.ins.length≤300001
 ins:∀ i∈b.ins,DIns3 i
 term:DTerm3 b.term
structure PSt3 (s:PSt):Prop where
 params:In32W s.params
 blocks:∀ b∈s.blocks,DBlk3 b
theorem in32_0:In32W 0:=⟨by decide,by decide⟩
theorem nums_32 (l:List ByteArray):∀ x∈numsW l,In32W x:=fun x hx=>by
 unfold numsW at hx;obtain⟨z,_,rfl⟩:=List.mem_map.1 hx;exact numW_32 z
theorem getD_32 {l : List Int} (h:∀ x∈l,In32W x) (i:Nat):In32W (l.getD i 0):=by
 rw[List.getD_eq_getElem?_getD]
 cases hi:l[i]? with
 | none=>exact in32_0
 | some x=>exact h x (List.mem_of_getElem? hi)
theorem NumsD.nil:NumsD []:=⟨fun x h=>(by cases h),Nat.zero_le _⟩
theorem NumsD.drop {l : List Int} (h:NumsD l) (k:Nat):NumsD (l.drop k):=⟨fun x hx=>h.1 x (List.mem_of_mem_drop hx),by rw[List.length_drop];have:=h.2;omega⟩
theorem NumsD.take {l : List Int} (h:NumsD l) (k:Nat):NumsD (l.take k):=⟨fun x hx=>h.1 x (List.mem_of_mem_take hx),by rw[List.length_take];have:=h.2;omega⟩
theorem onLast3 {s : PSt} (h:∀ b∈s.blocks,DBlk3 b) (g:DBlk→DBlk) (hg:∀ b,DBlk3 b→DBlk3 (g b)):∀ b∈onLast s g,DBlk3 b:=fun b hb=>by
 rcases mem_modify _ _ _ hb with h1|⟨y,hy,rfl⟩
 ·exact h b h1
 ·exact hg y (h y hy)
theorem insOf3 (op:Int) (hop:1≤op∧op≤18) {n : List Int} (h:NumsD n):DIns3 (insOf op n):=by
 have hop2:In32W op:=⟨by omega,by omega⟩
 have g:=fun i=>getD_32 h.1 i
 unfold insOf
 split
 ·exact⟨hop2,g 0,in32_0,.nil,g 1⟩
 ·split
  ·exact⟨hop2,g 0,in32_0,(h.drop 1).take 1,g 2⟩
  ·split
   ·exact⟨hop2,in32_0,in32_0,h.take 2,g 2⟩
   ·split
    ·exact⟨hop2,g 0,in32_0,h.drop 2,g 1⟩
    ·split
     ·exact⟨hop2,g 0,g 1,h.drop 2,in32_0⟩
     ·exact⟨hop2,g 0,in32_0,h.drop 1,in32_0⟩
theorem termOf3 (k:Int) (hk:1≤k∧k≤5) {n : List Int} (h:NumsD n):DTerm3 (termOf k n):=by
 have hk2:In32W k:=⟨by omega,by omega⟩
 unfold termOf
 split
 ·exact⟨hk2,.nil,h,in32_0⟩
 ·split
  ·exact⟨hk2,h,.nil,in32_0⟩
  ·split
   ·exact⟨hk2,.nil,.nil,getD_32 h.1 0⟩
   ·exact⟨hk2,h.take 1,h.drop 1,in32_0⟩
theorem step3 {s t:PSt} {l : List ByteArray} (h:PSt3 s) (hl:l.length≤300001) (hs:stepSt s l=.ok t):PSt3 t:=by
 unfold stepSt at hs
 split at hs
 ·cases hs;exact h
 ·rename_i w r
  rw[List.length_cons]at hl
  have hn:NumsD (numsW r):=⟨nums_32 r,by unfold numsW;rw[List.length_map];omega⟩
  split at hs
  ·split at hs
   ·split at hs
    ·cases hs;exact⟨getD_32 hn.1 0,h.blocks⟩
    ·cases hs
   ·cases hs
  ·split at hs
   ·split at hs
    ·split at hs
     ·split at hs
      ·cases hs
       refine⟨h.params,fun b hb=>?_⟩
       rcases List.mem_append.1 hb with h1|h1
       ·exact h.blocks b h1
       ·rw[List.mem_singleton.1 h1];exact⟨fun p hp=>(by cases hp),fun i hi=>(by cases hi),⟨in32_0,.nil,.nil,in32_0⟩⟩
      ·cases hs
     ·cases hs
    ·cases hs
   ·split at hs
    ·split at hs
     ·unfold phiSt at hs
      split at hs
      ·cases hs
      ·rename_i d r2
       split at hs
       ·split at hs
        ·cases hs
         refine⟨h.params,onLast3 h.blocks _ fun b hb=>⟨fun p hp=>?_,hb.ins,hb.term⟩⟩
         rcases List.mem_append.1 hp with h1|h1
         ·exact hb.phis p h1
         ·rw[List.mem_singleton.1 h1]
          refine⟨numW_32 _,fun x hx=>?_,by show (r2.map pairW).length≤300001;rw[List.length_map];rw[List.length_cons]at hl;omega⟩
          obtain⟨y,_,rfl⟩:=List.mem_map.1 hx
          exact⟨numW_32 _,numW_32 _⟩
        ·cases hs
       ·cases hs
     ·cases hs
    ·split at hs
     ·rename_i hop
      split at hs
      ·unfold insSt at hs
       split at hs
       ·split at hs
        ·cases hs
         refine⟨h.params,onLast3 h.blocks _ fun b hb=>⟨hb.phis,fun i hi=>?_,hb.term⟩⟩
         rcases List.mem_append.1 hi with h1|h1
         ·exact hb.ins i h1
         ·rw[List.mem_singleton.1 h1];exact insOf3 _ ⟨by omega,(number_le w).2⟩ hn
        ·cases hs
       ·cases hs
      ·cases hs
     ·split at hs
      ·rename_i hk
       split at hs
       ·unfold termSt at hs
        split at hs
        ·split at hs
         ·cases hs
          exact⟨h.params,onLast3 h.blocks _ fun b hb=>⟨hb.phis,hb.ins,termOf3 _ ⟨by omega,(kind_le w).2⟩ hn⟩⟩
         ·cases hs
        ·cases hs
       ·cases hs
      ·cases hs
theorem run3:∀ (D:List (List ByteArray × Int)) (n:Nat) (s t:PSt),(∀ x∈D,x.1.length≤300001)→PSt3 s→FewSt n s→runL stepSt s D=.ok t→PSt3 t∧FewSt (n+D.length) t
 | [],n,s,t,_,h,hf,hr=>by
  rw[runL]at hr;cases hr;exact⟨h,hf⟩
 | x::r,n,s,t,hx,h,hf,hr=>by
  rw[runL]at hr
  cases hs:stepSt s x.1 with
  | error e=>rw[hs]at hr;cases hr
  | ok u =>
   rw[hs]at hr
   have:=run3 r (n+1) u t (fun y hy=>hx y (by simp[hy])) (step3 h (hx x (by simp)) hs) (hf.step hs) hr
   rw[List.length_cons]
   exact⟨this.1,by have h2:=this.2;rwa [show n+1+r.length=n+(r.length+1) from by omega]at h2⟩
structure DFn3 (f:DFn):Prop where
 params:In32W f.params
 blocks:∀ b∈f.blocks,DBlk3 b
 many:f.blocks.length≤300001
 each:∀ b∈f.blocks,b.phis.length≤300001∧b.ins.length≤300001
theorem parsed3 (s:Bs) (hs:s.length≤300000):DFn3 (parseS s).f:=by
 rw[parse_runL]
 have h0:DFn3 ⟨0,[]⟩:=⟨in32_0,fun b hb=>(by cases hb),Nat.zero_le _,fun b hb=>(by cases hb)⟩
 cases hr:runL stepSt ⟨0,[],0⟩ (numd 1 (linesOf s)) with
 | error e=>exact h0
 | ok t =>
  show DFn3 (if t.pl=1∧t.blocks≠[] then (⟨⟨t.params,t.blocks⟩,0,0⟩:PRes) else ⟨⟨0,[]⟩,((linesOf s).length:Int),70⟩).f
  split
  ·obtain⟨h1,h2⟩:=run3 _ 0 _ t (fun x hx=>by
    have h3:=numd_mem (linesOf s) 1 x hx
    have h4:=lines_words s x.1 h3.1
    omega) ⟨in32_0,fun b hb=>(by cases hb)⟩ FewSt.start hr
   have h5:=numd_len (linesOf s) 1
   have h6:=linesOf_len s
   exact⟨h1.params,h1.blocks,(by have:=h2.bl;show t.blocks.length≤300001;omega),fun b hb=>(by have:=h2.each b hb;show b.phis.length≤300001∧b.ins.length≤300001;omega)⟩
  ·exact h0
theorem fn3_of (f:FnV) (h:DFn3 f.d):Fn3 f:=by
 have hrow:∀ l:List Int,NumsD l→Row3 l:=fun l hl=>⟨fun x hx=>in63_32 (hl.1 x hx),by have:=hl.2;omega⟩
 refine⟨in63_32 h.params,fun b hb=>?_⟩
 have hb3:=h.blocks b.d (List.mem_map_of_mem hb)
 refine⟨fun p hp=>?_,fun i hi=>?_,?_⟩
 ·obtain⟨h1,h2,_⟩:=hb3.phis p.d (List.mem_map_of_mem hp)
  exact⟨in63_32 h1,fun x hx=>⟨in63_32 (h2 x hx).1,in63_32 (h2 x hx).2⟩⟩
 ·have h1:=hb3.ins i.d (List.mem_map_of_mem hi)
  exact⟨in63_32 h1.op,in63_32 h1.dst,in63_32 h1.two,hrow _ h1.args,h1.imm⟩
 ·have h1:=hb3.term
  exact⟨in63_32 h1.kd,hrow _ h1.ar,hrow _ h1.tg,h1.imm⟩
theorem flat_bound {α:Type} (f:α→Bs) (k:Nat):∀ (l:List α),(∀ x∈l,(f x).length≤k)→(l.flatMap f).length≤l.length*k
 | [],_=>by simp
 | x::r,h=>by
  rw[List.flatMap_cons,List.length_append,List.length_cons,Nat.succ_mul]
  have:=h x (by simp)
  have:=flat_bound f k r (fun y hy=>h y (by simp[hy]))
  omega
theorem d3_32 {x : Int} (h:In32W x):(d3 x).length≤22:=d3_len x (in63_32 h)
theorem row3_bound {l : List Int} (h:NumsD l):(row3 l).length≤6600024:=by
 have h1:=d3s_len l (fun x hx=>in63_32 (h.1 x hx))
 have:=h.2
 unfold row3;simp only[List.length_cons,List.length_append,List.length_nil];omega
theorem print3_len (f:DFn) (h:DFn3 f):(print3 f).length≤4000000000000000000:=by
 have hb:∀ b∈f.blocks,(bl3 b).length≤6100000000000:=fun b hb=>by
  have h1:=h.blocks b hb
  have h2:=h.each b hb
  have e1:(b.phis.flatMap phi3).length≤b.phis.length*13500100:=flat_bound phi3 _ _ fun p hp=>by
   obtain⟨g1,g2,g3⟩:=h1.phis p hp
   have g4:(p.ins.flatMap pair3).length≤p.ins.length*45:=flat_bound pair3 _ _ fun x hx=>by
    have:=d3_32 (g2 x hx).1
    have:=d3_32 (g2 x hx).2
    unfold pair3;simp only[List.length_append,List.length_cons];omega
   have:=d3_32 g1
   unfold phi3;simp only[List.length_append,List.length_cons,List.length_nil];omega
  have e2:(b.ins.flatMap in3).length≤b.ins.length*6600200:=flat_bound in3 _ _ fun i hi=>by
   have g:=h1.ins i hi
   have:=d3_32 g.op
   have:=d3_32 g.dst
   have:=d3_32 g.two
   have:=d3_32 g.imm
   have:=row3_bound g.args
   unfold in3;simp only[List.length_append,List.length_cons];omega
  have e3:(tm3 b.term).length≤13300000:=by
   have:=d3_32 h1.term.kd
   have:=d3_32 h1.term.imm
   have:=row3_bound h1.term.ar
   have:=row3_bound h1.term.tg
   unfold tm3;simp only[List.length_append,List.length_cons];omega
  unfold bl3
  simp only[List.length_append,List.length_cons]
  omega
 have h1:(f.blocks.flatMap bl3).length≤f.blocks.length*6100000000000:=flat_bound bl3 _ _ hb
 have h2:=d3_32 h.params
 have h3:=h.many
 unfold print3
 rw[List.length_append]
 omega
theorem sep_enters (args:Array Value) (w:World):(callFunc 70 args).run Tryz.prog w=.ok (.enter 70 args) w:=by
 simp[callFunc,Tryz.func70]
 first | rfl | skip
set_option maxHeartbeats 400000 in
set_option maxRecDepth 100000 in
theorem sep_any (x:Nat) (hx:x≤1114111) (w:World):Calls Tryz.prog 70 #[.int .i32 (x:Int)] w fun e w'=>e=.returned (.bool (isSepR x))∧w'=w:=by
 have e:isSepR x=(((x:Int)==32)||((x:Int)==9)):=by
  unfold isSepR
  congr 1
  ·by_cases h:x=32
   ·subst h;rfl
   ·rw[beq_eq_false_iff_ne.2 h,beq_eq_false_iff_ne.2 (by omega)]
  ·by_cases h:x=9
   ·subst h;rfl
   ·rw[beq_eq_false_iff_ne.2 h,beq_eq_false_iff_ne.2 (by omega)]
 rw[e]
 clear e
 obtain⟨a,ha⟩:∃ a,((x:Int)==32)=a:=⟨_,rfl⟩
 obtain⟨b,hb⟩:∃ b,((x:Int)==9)=b:=⟨_,rfl⟩
 rw[ha,hb]
 cases a
 ·go_enter Tryz.func70,Tryz.ntmps70
  go_wp2
  go_ret
  exact⟨rfl,rfl⟩
 ·go_enter Tryz.func70,Tryz.ntmps70
  go_wp2
  go_ret
  exact⟨rfl,rfl⟩
theorem sep_pred (w:World):PredAtRunes Tryz.prog 70 #[] isSepR w:=fun W x hx _=>(sep_any x hx W).mono fun e w' ⟨h1,h2⟩=>⟨h1,0,by rw[h2];rfl⟩
theorem words_go (x:ByteArray):Lib.goFieldsP isSepR ⟨(ahead 35 x.data.toList).toArray⟩=wordsOf x.data.toList:=goFields_fld _
def cutLines (s:ByteArray):List ByteArray:=Lib.splitB ⟨#[10]⟩ 0 (Lib.countB s ⟨#[10]⟩) s
theorem cutLines_data (s:ByteArray):(cutLines s).map (·.data.toList)=spl 10 s.data.toList:=by
 rw[←split_spl]
 unfold cutLines
 rw[Lib.splitB_data]
 rfl
theorem cutLines_len (s:ByteArray):(cutLines s).length=Lib.countB s ⟨#[10]⟩+1:=Lib.splitB_all ⟨#[10]⟩ (by decide) 0 _ s rfl
theorem cutLines_words (s:ByteArray):(cutLines s).map (fun x=>wordsOf x.data.toList)=linesOf s.data.toList:=by
 unfold linesOf
 rw[←cutLines_data,List.map_map]
 rfl
theorem cutLines_small (s:ByteArray):∀ x∈cutLines s,x.size≤s.size:=fun x hx=>by
 have h:=spl_mem_len 10 s.data.toList x.data.toList (by rw[←cutLines_data];exact List.mem_map_of_mem hx)
 rwa [bytes_len,bytes_len]at h
theorem fldGo_small:∀ (l cur:Bs),∀ x∈fldGo cur l,x.length≤l.length+cur.length
 | [],cur,x,hx=>by
  unfold fldGo at hx
  by_cases h:cur=[]
  ·rw[if_pos h]at hx;cases hx
  ·rw[if_neg h]at hx;rw[List.mem_singleton.1 hx];simp
 | c::r,cur,x,hx=>by
  unfold fldGo at hx
  by_cases hs:isSep c=true
  ·rw[if_pos hs]at hx
   by_cases h:cur=[]
   ·rw[if_pos h]at hx
    have:=fldGo_small r [] x hx
    simp only[List.length_cons,List.length_nil]at *;omega
   ·rw[if_neg h]at hx
    rcases List.mem_cons.1 hx with h1|h1
    ·subst h1;simp only[List.length_cons];omega
    ·have:=fldGo_small r [] x h1
     simp only[List.length_cons,List.length_nil]at *;omega
  ·rw[if_neg hs]at hx
   have:=fldGo_small r (cur++[c]) x hx
   simp only[List.length_cons,List.length_append,List.length_nil]at *;omega
theorem words_small (l:Bs):∀ x∈wordsOf l,x.size≤l.length:=fun x hx=>by
 unfold wordsOf at hx
 obtain⟨y,hy,rfl⟩:=List.mem_map.1 hx
 have h:=fldGo_small (ahead 35 l) [] y hy
 have h2:(ahead 35 l).length≤l.length:=by unfold ahead;exact (List.takeWhile_sublist _).length_le
 show y.toArray.size≤_
 simp at h ⊢;omega
def NoText (w:World) (q:Nat):Prop:=∀ cs,¬ HeapIs w q cs 9
structure EachOk (fn:Nat) (pb:Nat) {σ:Type} (step:σ→List ByteArray→Except Int σ) (Inv:Nat→σ→World→Prop) (Bad:Int→World→Prop):Prop where
 e0:∀ i s w,Inv i s w→w.cell? ⟨pb,3,none⟩=some (.int .i64 0)∧pb<w.heap.size
 keep:∀ i s w w',Inv i s w→Since w w'→Inv i s w'
 laid:∀ i s w,Inv i s w→LaidT w
 more:∀ i s w,Inv i s w→Inv (i+1) s w
 enters:∀ (args:Array Value) (w:World),(callFunc fn args).run Tryz.prog w=.ok (.enter fn args) w
 call:∀ (i:Nat) (s:σ) (w:World) (v:Value) (f:ByteArray) (r:List ByteArray),Inv i s w→i≤400000→StrsIn w v (f::r)→(∀ q,v.ownBlock=some q→∃ cs,HeapIs w q cs 9)→r.length≤400000→Calls Tryz.prog fn #[.pointer (some ⟨pb,0,none⟩),v] w fun x w'=>x=.returned (.tuple #[])∧Turn (NoText w) w w'∧(match step s (f::r) with | .error n=>Bad n w' | .ok t=>Inv (i+1) t w')
 bad:∀ n w,Bad n w→w.cell? ⟨pb,3,none⟩=some (.int .i64 n)∧n≠0∧pb<w.heap.size
def EachQ {σ:Type} (step:σ→List ByteArray→Except Int σ) (Inv:Nat→σ→World→Prop) (Bad:Int→World→Prop) (s0:σ) (s:ByteArray) (x:Ending) (w':World):Prop:=
 ∃ wrong:Int,x=.returned (.tuple #[.int .i64 wrong,.int .i64 (linesOf s.data.toList).length])∧(match goSt step 0 s0 (linesOf s.data.toList) with | .error e=>wrong=e.1∧Bad e.2 w' | .ok t=>wrong=0∧∃ i,i≤s.size+1∧Inv i t w')
theorem goSt_next {σ:Type} {step:σ→List ByteArray→Except Int σ} {i : Nat} {s t:σ} {l : List ByteArray} {r : List (List ByteArray)} (hl:l≠[]) (hs:step s l=.ok t):goSt step i s (l::r)=goSt step (i+1) t r:=by
 rw[goSt,if_neg hl,hs]
theorem goSt_bad {σ:Type} {step:σ→List ByteArray→Except Int σ} {i : Nat} {s : σ} {n : Int} {l : List ByteArray} {r : List (List ByteArray)} (hl:l≠[]) (hs:step s l=.error n):goSt step i s (l::r)=.error ((i:Int)+1,n):=by
 rw[goSt,if_neg hl,hs]
theorem goSt_skip {σ:Type} {step:σ→List ByteArray→Except Int σ} {i : Nat} {s : σ} {r : List (List ByteArray)}:goSt step i s ([]::r)=goSt step (i+1) s r:=by
 rw[goSt,if_pos rfl]
section
variable {fn pb:Nat} {σ:Type} {step:σ→List ByteArray→Except Int σ} {Inv:Nat→σ→World→Prop} {Bad:Int→World→Prop}
set_option maxHeartbeats 4000000 in
set_option maxRecDepth 100000 in
theorem each_any (hE:EachOk fn pb step Inv Bad) (s0:σ) (s:ByteArray) (w:World) (h0:Inv 0 s0 w) (hs:s.size≤300000):Calls Tryz.prog 38 #[.pointer (some ⟨pb,0,none⟩),.string s,.func (.func fn) #[.pointer (some ⟨pb,0,none⟩)] #[]] w (fun x w'=>EachQ step Inv Bad s0 s x w'):=by
 obtain⟨N,hN⟩:∃ N,(cutLines s).length=N:=⟨_,rfl⟩
 have hNl:(linesOf s.data.toList).length=N:=by rw[←cutLines_words,List.length_map,hN]
 have hNs:N≤s.size+1:=by rw[←hNl,←bytes_len];exact linesOf_len _
 have HN:=Lib.hid hN
 have HNL:=Lib.hid hNl
 have HE:=Lib.hid hE
 have H0:=Lib.hid h0
 obtain⟨m0,hm0⟩:=(hE.laid 0 s0 w h0).mx
 have hsp:=Tryz.strings_Split s ⟨#[10]⟩ m0 w (by omega) hm0 (by decide)
 rw[←cutLines_len,hN]at hsp
 have HSP:=Lib.hid hsp
 have hent:=hE.enters
 have HENT:=Lib.hid hent
 clear hE h0 hm0 hsp hN hNl
 go_enter Tryz.func38,Tryz.ntmps38
 go_wp2_with fail
 refine HSP.out.mono ?_
 rintro e1 w1 ⟨rfl,hw1⟩
 obtain⟨lb,hlb⟩:∃ q,w.heap.size=q:=⟨_,rfl⟩
 rw[hlb]
 have hlines:HeapIs w1 lb ((cutLines s).map Value.string).toArray 9:=by rw[hw1,←hlb];exact HeapIs.new _ _ _
 have hs1:Since w w1:=by rw[hw1];exact (Since.refl _).alloc _
 have HL1:=Lib.hid hlines
 have HS1:=Lib.hid hs1
 clear hw1 hlines hs1 hlb
 go_wp2_with fail
 go_loopw [16] (fun io wr=>∃ (k:Nat) (t:σ),io=.int .i64 k∧k≤N∧Inv k t wr∧HeapIs wr lb ((cutLines s).map Value.string).toArray 9∧goSt step 0 s0 (linesOf s.data.toList)=goSt step k t ((linesOf s.data.toList).drop k)) (fun io _=>N-(intOf io).toNat)
 case atStart=>exact⟨0,s0,rfl,Nat.zero_le _,HE.out.keep _ _ _ _ H0.out HS1.out,HL1.out,rfl⟩
 case round =>
  obtain⟨k,t,rfl,hk,hinv,hlr,hgo⟩:=hrel
  have HINV:=Lib.hid hinv
  have HLR:=Lib.hid hlr
  have HGO:=Lib.hid hgo
  clear hinv hgo
  by_cases hlt:k<N
  ·obtain⟨x,hx⟩:∃ x,(cutLines s)[k]? = some x:=⟨_,List.getElem?_eq_getElem (by rw[HN.out];exact hlt)⟩
   have hcell:wr.cell? ⟨lb,k,none⟩=some (.string x):=by rw[hlr.cell,List.getElem?_toArray,List.getElem?_map,hx];rfl
   have hll:=hlr.lt
   have hxs:=cutLines_small s x (List.mem_of_getElem? hx)
   have hdrop:(linesOf s.data.toList).drop k=wordsOf x.data.toList::(linesOf s.data.toList).drop (k+1):=by
    have h9:(linesOf s.data.toList)[k]? = some (wordsOf x.data.toList):=by rw[←cutLines_words,List.getElem?_map,hx];rfl
    rw[List.drop_eq_getElem_cons (List.getElem?_eq_some_iff.1 h9).1,(List.getElem?_eq_some_iff.1 h9).2]
   have HDROP:=Lib.hid hdrop
   have HXS:=Lib.hid hxs
   obtain⟨m1,hm1⟩:=(HE.out.laid _ _ _ HINV.out).mx
   have hcut:=Tryz.strings_Cut x ⟨#[35]⟩ m1 wr (by omega) hm1
   have HCUT:=Lib.hid hcut
   obtain⟨y,hy⟩:∃ y:ByteArray,⟨(ahead 35 x.data.toList).toArray⟩=y:=⟨_,rfl⟩
   have HY:=Lib.hid hy
   have HYS:=Lib.hid (show y.size≤300000 from by
    have h2:(ahead 35 x.data.toList).length≤x.data.toList.length:=by unfold ahead;exact (List.takeWhile_sublist _).length_le
    rw[bytes_len]at h2
    rw[←hy];show (ahead 35 x.data.toList).toArray.size≤_;simp;omega)
   clear hlr hx hdrop hm1 hcut hy
   go_wp2_with fail
   refine HCUT.out.mono ?_
   rintro e2 w2 ⟨rfl,kk,hw2⟩
   rw[show (⟨(Lib.cut x.data.toList (⟨#[35]⟩:ByteArray).data.toList).1.toArray⟩:ByteArray)=y from by rw[←HY.out];exact congrArg (fun l:Bs=>(⟨l.toArray⟩:ByteArray)) (cut_ahead 35 x.data.toList).1]
   have hs2:Since wr w2:=by rw[hw2];exact drew_since wr kk
   have HS2:=Lib.hid hs2
   have HFF:=Lib.hid (Tryz.strings_FieldsFunc_runes 70 #[] sep_enters isSepR y w2 (by have:=HYS.out;omega) (sep_pred w2))
   clear hw2 hs2 hcell hll
   go_wp2_with fail
   refine HFF.out.mono ?_
   rintro e3 w3 ⟨wb,rfl,hwb,how,hs3⟩
   have hs3:Since w2 w3:=hs3
   rw[←HY.out,words_go x]at how ⊢
   obtain⟨wl,hwl⟩:∃ l,wordsOf x.data.toList=l:=⟨_,rfl⟩
   rw[hwl]at how ⊢
   obtain⟨wn,hwn⟩:∃ n,wl.length=n:=⟨_,rfl⟩
   rw[hwn]at how ⊢
   have HWL:=Lib.hid hwl
   have HWN:=Lib.hid hwn
   have HOW:=Lib.hid how
   have HS3:=Lib.hid (HS2.out.trans hs3)
   have HINV3:=Lib.hid (HE.out.keep _ _ _ _ HINV.out HS3.out)
   have HLR3:=Lib.hid (HLR.out.keep HS3.out)
   have hwnb:wn≤300000:=by
    have h9:=wordsOf_len x.data.toList
    rw[hwl,hwn,bytes_len]at h9;omega
   clear hwl hwn how hs3 hwb
   by_cases h0:wn=0
   ·subst h0
    have HNX:=Lib.hid (show goSt step 0 s0 (linesOf s.data.toList)=goSt step (k+1) t ((linesOf s.data.toList).drop (k+1)) from by
     rw[HGO.out,HDROP.out,HWL.out,List.length_eq_zero_iff.1 HWN.out,goSt_skip])
    go_wp2
    go_roundw
    case rel=>exact⟨k+1,t,by go_num,by omega,HE.out.more _ _ _ HINV3.out,HLR3.out,HNX.out⟩
    case measure=>simp[intOf];omega
   ·have hq0:((wn:Int)==0)=false:=by rw[beq_eq_false_iff_ne];omega
    obtain⟨f,r,hfr⟩:∃ f r,wl=f::r:=by
     match wl,HWN.out with
     | f::r,_=>exact⟨f,r,rfl⟩
     | [],h=>exact absurd h.symm h0
    subst hfr
    have hrow:StrsIn w3 (.slice (some ⟨wb,0,none⟩) wn wn) (f::r):=by
     have h9:OwnRow stc 1 9 w2.heap.size w3 (.slice (some ⟨wb,0,none⟩) wn wn) (f::r):=by
      unfold OwnRow
      rw[HWN.out]
      have e9:(f::r).flatMap stc=(f::r).map Value.string:=by
       have:∀ l:List ByteArray,l.flatMap stc=l.map Value.string:=fun l=>by induction l with | nil=>rfl | cons a l ih=>rw[List.flatMap_cons,ih];rfl
       exact this _
      rw[e9];exact HOW.out
     exact row_of_own stc_len h9 fun z hz=>by
      have:=words_small x.data.toList z (by rw[HWL.out];exact hz)
      rw[bytes_len]at this
      have:=HXS.out;omega
    have hown:∀ q,(Value.slice (some ⟨wb,0,none⟩) wn wn).ownBlock=some q→∃ cs,HeapIs w3 q cs 9:=fun q hq=>own_heap HOW.out hq
    have HCALL:=Lib.hid (HE.out.call k t w3 _ f r HINV3.out (by omega) hrow hown (by have:=HWN.out;rw[List.length_cons]at this;omega))
    have hent:=HENT.out
    clear h0 hrow hown
    go_wp2_with fail
    refine HCALL.out.mono ?_
    rintro e4 w4 ⟨rfl,ht4,hans⟩
    have hlr4:=HLR3.out.turn ht4 (fun h=>h _ HLR3.out)
    have HLR4:=Lib.hid hlr4
    clear hent
    cases hst:step t (f::r) with
    | error n =>
     rw[hst]at hans
     obtain⟨c3,hn0,hpl⟩:=HE.out.bad _ _ hans
     have hnq:(n==0)=false:=by rw[beq_eq_false_iff_ne];exact hn0
     have HRES:=Lib.hid (show goSt step 0 s0 (linesOf s.data.toList)=.error ((k:Int)+1,n) from by
      rw[HGO.out,HDROP.out,HWL.out,goSt_bad (by simp) hst])
     have HB:=Lib.hid hans
     clear hst hans ht4 hlr4
     go_wp2
     go_ret2
     refine⟨(k:Int)+1,by rw[HNL.out];rfl,?_⟩
     rw[HRES.out]
     exact⟨rfl,HB.out⟩
    | ok u =>
     rw[hst]at hans
     obtain⟨c3,hpl⟩:=HE.out.e0 _ _ _ hans
     have HNX:=Lib.hid (show goSt step 0 s0 (linesOf s.data.toList)=goSt step (k+1) u ((linesOf s.data.toList).drop (k+1)) from by
      rw[HGO.out,HDROP.out,HWL.out,goSt_next (by simp) hst])
     have HI:=Lib.hid hans
     clear hst hans ht4 hlr4
     go_wp2
     go_roundw
     case rel=>exact⟨k+1,u,by go_num,by omega,HI.out,HLR4.out,HNX.out⟩
     case measure=>simp[intOf];omega
  ·obtain rfl:N=k:=by omega
   have HNX:=Lib.hid (show goSt step 0 s0 (linesOf s.data.toList)=.ok t from by
    rw[HGO.out,List.drop_eq_nil_of_le (by rw[HNL.out];exact Nat.le_refl _)];rfl)
   go_wp2
   go_ret2
   refine⟨0,by rw[HNL.out];rfl,?_⟩
   rw[HNX.out]
   exact⟨rfl,N,hNs,HINV.out⟩
end
end Go.Proofs.YtmhojfpidedjeaaGreatDoor
