/- Plain: the steps over numbered lines; how much a parser has when so many lines are done. The document's Parse: the walk. Plain: what is parsed has words of 32 bits, and rows that are no longer than lines. -/
import Derived.Test.YtmhojfpidedjeaaGreatDoorRz14
import Derived.Test.YtmhojfpidedjeaaGreatDoorRz23
namespace Go.Proofs.YtmhojfpidedjeaaGreatDoor
set_option linter.unusedVariables false
def runL {σ:Type} (step:σ→List ByteArray→Except Int σ):σ→List (List ByteArray × Int)→Except (Int × Int) σ
 | s,[]=>.ok s
 | s,x::r=>match step s x.1 with
  | .error e=>.error (x.2,e)
  | .ok t=>runL step t r
theorem goSt_runL {σ:Type} (step:σ→List ByteArray→Except Int σ):∀ (L:List (List ByteArray)) (i:Nat) (s:σ),goSt step i s L=runL step s (numd ((i:Int)+1) L)
 | [],i,s=>rfl
 | l::r,i,s=>by
  rw[goSt,numd]
  have e:(((i+1:Nat):Int)+1)=(i:Int)+1+1:=by omega
  by_cases h:l=[]
  ·rw[if_pos h,goSt_runL step r (i+1) s,emitL,if_pos h,List.nil_append,e]
  ·rw[if_neg h,emitL,if_neg h,List.singleton_append,runL]
   cases hs:step s l with
   | error n=>rfl
   | ok t =>
    simp only[]
    rw[goSt_runL step r (i+1) t,e]
theorem runL_snoc {σ:Type} (step:σ→List ByteArray→Except Int σ):∀ (l:List (List ByteArray × Int)) (s:σ) (x:List ByteArray × Int),runL step s (l++[x])=match runL step s l with
  | .error e=>.error e
  | .ok t=>(match step t x.1 with | .error e=>.error (x.2,e) | .ok u=>.ok u)
 | [],s,x=>by
  simp only[List.nil_append,runL]
 | y::r,s,x=>by
  rw[List.cons_append,runL,runL]
  cases step s y.1 with
  | error e=>rfl
  | ok t=>exact runL_snoc step r t x
theorem runL_error {σ:Type} (step:σ→List ByteArray→Except Int σ):∀ (l r:List (List ByteArray × Int)) (s:σ) (e:Int × Int),runL step s l=.error e→runL step s (l++r)=.error e
 | [],_,_,_,h=>by cases h
 | x::l,r,s,e,h=>by
  rw[List.cons_append]
  rw[runL]at h ⊢
  cases hs:step s x.1 with
  | error n=>rw[hs]at h;exact h
  | ok t=>rw[hs]at h;exact runL_error step l r t e h
theorem fldGo_len:∀ (l cur:Bs),(fldGo cur l).length≤l.length+(if cur=[] then 0 else 1)
 | [],cur=>by unfold fldGo;by_cases h:cur=[]<;>simp[h]
 | x::r,cur=>by
  unfold fldGo
  by_cases hx:isSep x=true
  ·rw[if_pos hx]
   have h0:=fldGo_len r []
   rw[if_pos rfl]at h0
   by_cases h:cur=[]
   ·rw[if_pos h,if_pos h];simp only[List.length_cons];omega
   ·rw[if_neg h,if_neg h];simp only[List.length_cons];omega
  ·rw[if_neg hx]
   have h0:=fldGo_len r (cur++[x])
   rw[if_neg (by simp)]at h0
   simp only[List.length_cons]
   omega
theorem wordsOf_len (l:Bs):(wordsOf l).length≤l.length:=by
 unfold wordsOf
 rw[List.length_map]
 have h:=fldGo_len (ahead 35 l) []
 rw[if_pos rfl]at h
 have h2:(ahead 35 l).length≤l.length:=by unfold ahead;exact (List.takeWhile_sublist _).length_le
 omega
theorem spl_mem_len (c:UInt8):∀ (s:Bs),∀ x∈spl c s,x.length≤s.length
 | [],x,hx=>by simp[spl]at hx;simp[hx]
 | y::r,x,hx=>by
  rw[spl]at hx
  by_cases hy:y=c
  ·rw[if_pos hy]at hx
   rcases List.mem_cons.1 hx with h|h
   ·subst h;simp
   ·have:=spl_mem_len c r x h;simp only[List.length_cons];omega
  ·rw[if_neg hy]at hx
   have ih:=spl_mem_len c r
   cases hs:spl c r with
   | nil=>rw[hs]at hx;simp at hx;simp[hx]
   | cons h t =>
    rw[hs]at hx ih
    rcases List.mem_cons.1 hx with h1|h1
    ·have:=ih h (by simp);subst h1;simp only[List.length_cons];omega
    ·have:=ih x (by simp[h1]);simp only[List.length_cons];omega
theorem spl_len (c:UInt8):∀ (s:Bs),(spl c s).length≤s.length+1
 | []=>by simp[spl]
 | y::r=>by
  rw[spl]
  have ih:=spl_len c r
  by_cases hy:y=c
  ·rw[if_pos hy];simp only[List.length_cons];omega
  ·rw[if_neg hy]
   cases hs:spl c r with
   | nil=>simp
   | cons h t=>rw[hs]at ih;simp only[List.length_cons]at ih ⊢;omega
theorem linesOf_len (s:Bs):(linesOf s).length≤s.length+1:=by unfold linesOf;rw[List.length_map];exact spl_len 10 s
theorem lines_words (s:Bs):∀ l∈linesOf s,l.length≤s.length:=fun l hl=>by
 obtain⟨x,hx,rfl⟩:=List.mem_map.1 hl
 have:=wordsOf_len x
 have:=spl_mem_len 10 s x hx
 omega
theorem numd_mem:∀ (L:List (List ByteArray)) (n:Int),∀ x∈numd n L,x.1∈L∧x.1≠[]
 | [],_,x,hx=>by cases hx
 | l::r,n,x,hx=>by
  rw[numd]at hx
  rcases List.mem_append.1 hx with h|h
  ·unfold emitL at h
   by_cases hl:l=[]
   ·rw[if_pos hl]at h;cases h
   ·rw[if_neg hl]at h
    rw[List.mem_singleton.1 h]
    exact⟨by simp,hl⟩
  ·have:=numd_mem r (n+1) x h
   exact⟨List.mem_cons_of_mem _ this.1,this.2⟩
theorem numd_len:∀ (L:List (List ByteArray)) (n:Int),(numd n L).length≤L.length
 | [],_=>Nat.le_refl _
 | l::r,n=>by
  rw[numd,List.length_append,List.length_cons]
  have:=numd_len r (n+1)
  have:(emitL n l).length≤1:=by unfold emitL;by_cases h:l=[]<;>simp[h]
  omega
structure FewSt (n:Nat) (s:PSt):Prop where
 bl:s.blocks.length≤n
 each:∀ b∈s.blocks,b.phis.length≤n∧b.ins.length≤n
 pl:0≤s.pl∧s.pl≤3∧(2≤s.pl→s.blocks≠[])
theorem mem_modify {α:Type} {g : α→α}:∀ (l:List α) (i:Nat) (x:α),x∈l.modify i g→x∈l∨∃ y∈l,x=g y
 | [],i,x,h=>by simp at h
 | y::r,0,x,h=>by
  simp only[List.modify_zero_cons,List.mem_cons]at h
  rcases h with h|h
  ·exact .inr ⟨y,by simp,h⟩
  ·exact .inl (by simp[h])
 | y::r,i+1,x,h=>by
  simp only[List.modify_succ_cons,List.mem_cons]at h
  rcases h with h|h
  ·exact .inl (by simp[h])
  ·rcases mem_modify r i x h with h|⟨z,hz,e⟩
   ·exact .inl (by simp[h])
   ·exact .inr ⟨z,by simp[hz],e⟩
theorem FewSt.more {n : Nat} {s : PSt} (h:FewSt n s):FewSt (n+1) s:=⟨by have:=h.bl;omega,fun b hb=>by have:=h.each b hb;omega,h.pl⟩
theorem FewSt.last {n : Nat} {s : PSt} (h:FewSt n s) (g:DBlk→DBlk) (hg:∀ b,(g b).phis.length≤b.phis.length+1∧(g b).ins.length≤b.ins.length+1) (k:Int) (hk:0≤k∧k≤3∧(2≤k→s.blocks≠[])) (p:Int):FewSt (n+1) ⟨p,onLast s g,k⟩:=by
 refine⟨?_,fun b hb=>?_,hk.1,hk.2.1,fun h2=>?_⟩
 ·show (onLast s g).length≤n+1
  unfold onLast;rw[List.length_modify];have:=h.bl;omega
 ·rcases mem_modify _ _ _ hb with h1|⟨y,hy,rfl⟩
  ·have:=h.each b h1;omega
  ·have:=h.each y hy
   have:=hg y
   omega
 ·show onLast s g≠[]
  have h3:=hk.2.2 h2
  unfold onLast
  intro e
  apply h3
  rw[←List.length_eq_zero_iff]at e ⊢
  rwa [List.length_modify]at e
theorem FewSt.step {n : Nat} {s t:PSt} {l : List ByteArray} (h:FewSt n s) (hs:stepSt s l=.ok t):FewSt (n+1) t:=by
 unfold stepSt at hs
 split at hs
 ·cases hs;exact h.more
 ·rename_i w r
  split at hs
  ·split at hs
   ·split at hs
    ·cases hs;exact⟨by have:=h.bl;show s.blocks.length≤n+1;omega,fun b hb=>(by have:=h.each b hb;omega),(show (0:Int)≤1 from by decide),(show (1:Int)≤3 from by decide),fun h=>absurd (show (2:Int)≤1 from h) (by decide)⟩
    ·cases hs
   ·cases hs
  ·split at hs
   ·split at hs
    ·split at hs
     ·split at hs
      ·cases hs
       refine⟨by have:=h.bl;show (s.blocks++[zeroBlk]).length≤n+1;simp;omega,fun b hb=>?_,(show (0:Int)≤2 from by decide),(show (2:Int)≤3 from by decide),fun _=>by simp⟩
       rcases List.mem_append.1 hb with h1|h1
       ·have:=h.each b h1;omega
       ·rw[List.mem_singleton.1 h1];simp[zeroBlk]
      ·cases hs
     ·cases hs
    ·cases hs
   ·split at hs
    ·split at hs
     ·rename_i hpl
      unfold phiSt at hs
      split at hs
      ·cases hs
      ·split at hs
       ·split at hs
        ·cases hs
         exact h.last _ (fun b=>by simp) _ h.pl _
        ·cases hs
       ·cases hs
     ·cases hs
    ·split at hs
     ·split at hs
      ·rename_i hpl
       unfold insSt at hs
       split at hs
       ·split at hs
        ·cases hs
         exact h.last _ (fun b=>by simp) _ ⟨by decide,by decide,fun _=>h.pl.2.2 hpl⟩ _
        ·cases hs
       ·cases hs
      ·cases hs
     ·split at hs
      ·split at hs
       ·rename_i hpl
        unfold termSt at hs
        split at hs
        ·split at hs
         ·cases hs
          exact h.last _ (fun b=>by simp) _ ⟨by decide,by decide,fun h=>absurd h (by decide)⟩ _
         ·cases hs
        ·cases hs
       ·cases hs
      ·cases hs
theorem FewSt.start:FewSt 0 ⟨0,[],0⟩:=⟨Nat.le_refl _,fun b hb=>(by cases hb),(show (0:Int)≤0 from by decide),(show (0:Int)≤3 from by decide),fun h=>absurd (show (2:Int)≤0 from h) (by decide)⟩
open Go.RowKit
theorem put_block {w : World} {g : Nat} {old:Array Value} {t : TypeId} (h:w.heap[g]? = some (.cells old t (0,0))) (cs:Array Value):(w.setRow g cs).heap[g]? = some (.cells cs t (0,0)):=by
 simp[World.setRow,Array.getElem?_modify,h]
theorem put_turn {S : Nat→Prop} {w : World} {g : Nat} (hg:S g) (cs:Array Value):Turn S w (w.setRow g cs):=by
 refine⟨rfl,rfl,rfl,by simp[World.setRow],fun k hk hs=>?_⟩
 have:g≠k:=fun e=>hs (e ▸ hg)
 simp[World.setRow,Array.getElem?_modify,this]
section
variable {T : TypeId} {w0 w:World} {pb:Nat} {tl:List Value} {params pl e:Int} {bv:Value} {bl:List FBlk}
theorem PaM.start (w:World) (T:TypeId) (tl:List Value) (hk:T≠57∧T≠60∧T≠51):PaM T w w.heap.size tl 0 0 0 (.slice none 0 0) [] (w.alloc (.cells (.int .i64 0::.slice none 0 0::.int .i64 0::.int .i64 0::tl).toArray T)):=
 ⟨HeapIs.new _ _ _,OwnRow.nil _ _ _ _ _,fun i b h=>(by simp at h),fun b h=>(by simp at h),(Since.refl w).alloc _,fun q hq=>(by
  rcases hq with h|h|⟨b,h,_⟩
  ·omega
  ·cases h
  ·simp at h),hk⟩
theorem RowIn.imp {α:Type} {f : α→List Value} {sz:Nat} {p p':World→α→Prop} {w : World} {v : Value} {l : List α} (h:RowIn f sz p w v l) (hp:∀ x,p w x→p' w x):RowIn f sz p' w v l:=by
 rcases h with h|⟨b,off,cap,h1,h2,h3,h4,h5⟩
 ·exact .inl h
 ·exact .inr ⟨b,off,cap,h1,h2,h3,h4,fun j x hj=>⟨(h5 j x hj).1,hp x (h5 j x hj).2⟩⟩
theorem BkStay.fn {S : Nat→Prop} {b : FBlk} (h:BkStay S w b):FBlkIn w b:=⟨RowIn.imp h.phis fun _ hx=>hx.1,RowIn.imp h.ins fun _ hx=>hx.1,h.term.read⟩
theorem PaM.fnTurn {R : Nat→Prop} {w':World} (h:PaM T w0 pb tl params pl e bv bl w) (t:Turn R w w') (hR:∀ q,R q→q<w0.heap.size):FnIn w' ⟨params,bl,bv⟩:=by
 have hn:∀ q,PaOwn pb bv bl q→¬ R q:=fun q hq hr=>by have:=h.new q hq;have:=hR q hr;omega
 have h1:∀ q,R q→PaS w0 pb bv bl q:=fun q hq=>.inr (hR q hq)
 have h2:∀ q,PaS w0 pb bv bl q→PaS w0 pb bv bl q∨w.heap.size≤q:=fun q hq=>.inl hq
 refine row_of_own fbcells_len (own_turn h.row t fun q hq=>hn q (.inr (.inl hq))) fun b hb=>?_
 obtain⟨i,hi⟩:=List.getElem?_of_mem hb
 have hlt:i<bl.length:=(List.getElem?_eq_some_iff.1 hi).1
 by_cases hl:i+1<bl.length
 ·exact ((h.early i b hi hl).turn t h1 h2).fn
 ·obtain rfl:i=bl.length-1:=by omega
  have hl:=h.last b hi
  exact⟨row_of_own fpcells_len (own_turn hl.phis t fun q hq=>hn q (.inr (.inr ⟨b,hi,.inl hq⟩))) fun p hp=>((hl.phi p hp).turn t h1 h2).1,row_of_own ficells_len (own_turn hl.ins t fun q hq=>hn q (.inr (.inr ⟨b,hi,.inr hq⟩))) fun x hx=>((hl.inx x hx).turn t h1 h2).1,(hl.term.turn t h1 h2).read⟩
theorem LnOk.some {x : LnV} {f : ByteArray} {r : List ByteArray} (h:LnOk w x) (hx:x.ws=f::r) {q : Nat} (hq:x.wv.ownBlock=some q):q<w.heap.size:=by
 unfold LnOk at h
 rcases h with ⟨_,_,h2⟩|⟨b,off,cap,h1,_,_,h4,_⟩
 ·rw[hx]at h2;cases h2
 ·rw[h1]at hq;cases hq;exact h4
end
def ParsedV (f:FnV) (line e:Int):Value:=.agg #[.int .i64 f.params,f.bv,.int .i64 line,.int .i64 e]
def RParseQ (s:ByteArray) (w:World) (e:Ending) (w':World):Prop:=∃ f line er,e=.returned (ParsedV f line er)∧FnIn w' f∧(⟨f.d,line,er⟩:PRes)=parseS s.data.toList∧Since w w'
theorem parse_runL (s:Bs):parseS s=match runL stepSt ⟨0,[],0⟩ (numd 1 (linesOf s)) with
  | .error x=>⟨⟨0,[]⟩,x.1,x.2⟩
  | .ok t=>if t.pl=1∧t.blocks≠[] then ⟨⟨t.params,t.blocks⟩,0,0⟩ else ⟨⟨0,[]⟩,((linesOf s).length:Int),70⟩:=by
 unfold parseS
 rw[goSt_runL stepSt (linesOf s) 0 ⟨0,[],0⟩]
 all_goals rfl
theorem fn_nil (w:World):FnIn w ⟨0,[],.slice none 0 0⟩:=.inl ⟨none,rfl,rfl⟩
theorem runL_at {σ:Type} {step:σ→List ByteArray→Except Int σ} {s t:σ} {D : List (List ByteArray × Int)} {i : Nat} {x : List ByteArray × Int} (h:runL step s (D.take i)=.ok t) (hx:D[i]? = some x):runL step s (D.take (i+1))=match step t x.1 with | .error e=>.error (x.2,e) | .ok u=>.ok u:=by
 rw[List.take_add_one,hx]
 show runL step s (D.take i++[x])=_
 rw[runL_snoc,h]
 all_goals rfl
theorem runL_stop {σ:Type} {step:σ→List ByteArray→Except Int σ} {s : σ} {D : List (List ByteArray × Int)} {i : Nat} {e : Int × Int} (h:runL step s (D.take i)=.error e):runL step s D=.error e:=by
 have:=runL_error step (D.take i) (D.drop i) s e h
 rwa [List.take_append_drop]at this
set_option maxHeartbeats 8000000 in
set_option maxRecDepth 100000 in
theorem rparse25_any (s:ByteArray) (w:World) (hs:s.size≤300000):Calls Tryz.prog 32 #[.string s] w (RParseQ s w):=by
 go_enter Tryz.func32,Tryz.ntmps32
 go_wp2_with fail
 have HT1:=Lib.hid (HeapIs.new w #[.int .i64 0,.slice none 0 0,.int .i64 0,.int .i64 0] 81)
 have HS1:=Lib.hid ((Since.refl w).alloc (.cells #[.int .i64 0,.slice none 0 0,.int .i64 0,.int .i64 0] 81))
 refine (rlines_any s _ (by omega)).mono ?_
 rintro e1 w2 ⟨lv,outl,rfl,hli,hld,hs2⟩
 obtain⟨la,lc,hlv,_⟩:=RowIn.shape hli
 obtain⟨ln,hln⟩:∃ n,outl.length=n:=⟨_,rfl⟩
 rw[hln]at hlv
 subst hlv
 obtain⟨nn,hnn⟩:∃ n:Nat,(linesOf s.data.toList).length=n:=⟨_,rfl⟩
 rw[hnn]
 have HT2:=Lib.hid (HT1.out.keep hs2)
 have HS2:=Lib.hid (HS1.out.trans hs2)
 have hnb:nn≤300001:=by have:=linesOf_len s.data.toList;rw[hnn,bytes_len]at this;omega
 have hlb:ln≤300001:=by have:=numd_len (linesOf s.data.toList) 1;rw[←hld,List.length_map,hln,hnn]at this;omega
 have HLI:=Lib.hid hli
 have HLD:=Lib.hid hld
 have HLN:=Lib.hid hln
 have HNN:=Lib.hid hnn
 clear hli hld hs2 hln hnn
 obtain⟨pb,hpb⟩:∃ q,w2.heap.size=q:=⟨_,rfl⟩
 have hp0:=PaM.start w2 119 [] (by decide)
 rw[hpb]at hp0
 have HP0:=Lib.hid hp0
 have HPB:=Lib.hid hpb
 clear hp0
 go_wp2_with fail
 clear hpb
 go_loopw [6] (fun io wr=>∃ (i:Nat) (params pl:Int) (bv:Value) (bl:List FBlk),io=.int .i64 i∧i≤ln∧RPa w2 pb params pl 0 bv bl wr∧runL stepSt ⟨0,[],0⟩ ((outl.map LnV.d).take i)=.ok ⟨params,bl.map FBlk.d,pl⟩∧FewSt i ⟨params,bl.map FBlk.d,pl⟩) (fun io _=>ln-(intOf io).toNat)
 case atStart=>exact⟨0,0,0,_,[],rfl,Nat.zero_le _,HP0.out,rfl,FewSt.start⟩
 case round =>
  obtain⟨i,params,pl,bv,bl,rfl,hi,hp,hrun,hfew⟩:=hrel
  have HP:=Lib.hid hp
  have HRUN:=Lib.hid hrun
  have HFEW:=Lib.hid hfew
  have htb:=HT2.out.keep hp.old
  have HTB:=Lib.hid htb
  have hso:=HS2.out.trans hp.old
  have HSO:=Lib.hid hso
  clear hp hrun hfew htb hso
  by_cases hlt:i<ln
  ·obtain⟨b,off,x,rfl,hb,hx,hcell,hok⟩:=RowIn.at (RowIn.keep LnOk.keep HLI.out HP.out.old) (k:=i) (by rw[HLN.out];exact hlt)
   have c0:=hcell 0 (by decide)
   have c1:=hcell 1 (by decide)
   obtain⟨ws,wv,xn⟩:=x
   rw[show lncells ⟨ws,wv,xn⟩=[wv,.int .i64 xn] from rfl]at c0 c1
   rw[Nat.add_zero]at c0
   have c0:wr.cell? ⟨b,off+i*2,none⟩=some wv:=c0
   have hdx:(outl.map LnV.d)[i]? = some (ws,xn):=by rw[List.getElem?_map,hx];rfl
   have hmem:=numd_mem (linesOf s.data.toList) 1 (ws,xn) (by rw[←HLD.out];exact List.mem_of_getElem? hdx)
   have hwl:=lines_words s.data.toList ws hmem.1
   rw[bytes_len]at hwl
   obtain⟨f,r,hfr⟩:∃ f r,ws=f::r:=by
    match ws,hmem.2 with
    | f::r,_=>exact⟨f,r,rfl⟩
   subst hfr
   have hok2:LnOk w2 ⟨f::r,wv,xn⟩:=by
    obtain⟨b2,off2,x2,_,_,hx2,_,h3⟩:=RowIn.at HLI.out (k:=i) (by rw[HLN.out];exact hlt)
    rw[hx]at hx2
    cases hx2
    exact h3
   have hst:Stays (PaOwn pb bv bl) wr wv:=fun q hq=>by
    have h1:=LnOk.some hok2 rfl hq
    exact⟨fun h=>by have:=HP.out.new q h;omega,Nat.lt_of_lt_of_le h1 HP.out.old.size⟩
   have hline:=rline_any wr HP.out ⟨HFEW.out.pl.1,HFEW.out.pl.2.1,fun h e=>HFEW.out.pl.2.2 h (by rw[e];rfl)⟩ wv f r hok hst (by rw[List.length_cons]at hwl;omega) (by have:=HFEW.out.bl;simp only[List.length_map]at this;omega) (fun b hb=>by
    have:=HFEW.out.each b.d (List.mem_map_of_mem (List.mem_of_getElem? hb))
    have e1:b.d.phis.length=b.phis.length:=by simp[FBlk.d]
    have e2:b.d.ins.length=b.ins.length:=by simp[FBlk.d]
    omega)
   have HLINE:=Lib.hid hline
   have HDX:=Lib.hid hdx
   clear hx hcell hok hdx hmem hwl hok2 hst hline
   go_wp2_with fail
   refine HLINE.out.mono ?_
   rintro e3 w3 ⟨rfl,params2,pl2,E,bv2,bl2,hp3,ht3,hans⟩
   have hnx:=runL_at HRUN.out HDX.out
   have c3:w3.cell? ⟨pb,3,none⟩=some (.int .i64 E):=hp3.cell 3
   have hpl:=hp3.box.lt
   have hli3:=RowIn.keep LnOk.keep HLI.out hp3.old
   have c1b:w3.cell? ⟨b,off+i*2+1,none⟩=some (.int .i64 xn):=by
    obtain⟨b3,off3,x3,e1,_,hx3,h3,_⟩:=RowIn.at hli3 (k:=i) (by rw[HLN.out];exact hlt)
    cases e1
    have hx4:(outl.map LnV.d)[i]? = some x3.d:=by rw[List.getElem?_map,hx3];rfl
    rw[HDX.out]at hx4
    have h4:=h3 1 (by decide)
    have h5:x3.n=xn:=by have:=congrArg (Option.map Prod.snd) hx4;simp[LnV.d]at this;exact this.symm
    rw[show lncells x3=[x3.wv,.int .i64 x3.n] from rfl,h5]at h4
    exact h4
   have hb3:b<w3.heap.size:=by
    obtain⟨b3,off3,x3,e1,h3,_⟩:=RowIn.at hli3 (k:=i) (by rw[HLN.out];exact hlt)
    cases e1
    exact h3
   have HP3:=Lib.hid hp3
   have HANS:=Lib.hid hans
   have HNX:=Lib.hid hnx
   have HTB3:=Lib.hid (HT2.out.keep hp3.old)
   have HSO3:=Lib.hid (HS2.out.trans hp3.old)
   clear hp3 ht3 hans hnx hli3 c0 c1 hb
   cases hst:stepSt ⟨params,bl.map FBlk.d,pl⟩ (f::r) with
   | error m =>
    have hans:=HANS.out
    rw[hst]at hans
    obtain⟨he1,he2⟩:=hans
    have hE:(E==0)=false:=by rw[beq_eq_false_iff_ne,he1];exact he2
    have hres:=HNX.out
    rw[hst]at hres
    have HRES:=Lib.hid (runL_stop hres)
    have HE1:=Lib.hid he1
    clear hst he1 he2 hres
    go_wp2_with fail
    refine wp_region_since_tail 10 rfl (by decide +kernel) (by decide +kernel) (by decide +kernel) (by decide)
     [Is (.slice (some ⟨b,off,none⟩) ln lc),Is (.int .i64 i),Is (.pointer (some ⟨b,off+i*2,none⟩)),Is (.pointer (some ⟨b,off+i*2+1,none⟩)),Is (.int .i64 xn),Is (.pointer (some ⟨pb,0,none⟩)),Is (.pointer (some ⟨pb,0,none⟩)),Is (.pointer (some ⟨pb,3,none⟩)),Is (.int .i64 E),Is (.agg #[.int .i64 0,.slice none 0 0,.int .i64 xn,.int .i64 E])]
     (by repeat (first | exact trivial | refine⟨Is.stable _,?_⟩ | refine⟨Any.stable,?_⟩)) ⟨?_,?_,?_,?_,?_,?_,?_,?_,?_,?_,trivial⟩ ?_
    rotate_right
    ·intro vs w8 hs hk
     simp only[List.take,List.drop,putAll,Act.put,KnowsAll,nthF,Is,List.setIfInBounds_toArray,List.set_cons_zero,List.set_cons_succ,Nat.reduceAdd]at hk ⊢
     try simp only[hk]
     have HT8:=Lib.hid (HTB3.out.keep hs)
     have HS8:=Lib.hid (HSO3.out.trans hs)
     clear hs hk
     go_wp2_with (refine wpList_store_row rfl 81 _ _ rfl w.heap.size #[.int .i64 0,.slice none 0 0,.int .i64 xn,.int .i64 E] rfl rfl 81 _ HT8.out (by kernel_rfl) rfl (by rw[←Array.all_toList];rfl) ?_)
     have HRS:=Lib.hid (show (⟨(⟨0,[],.slice none 0 0⟩:FnV).d,xn,E⟩:PRes)=parseS s.data.toList from by rw[parse_runL,←HLD.out,HRES.out,HE1.out];rfl)
     have hb5:HeapIs (w8.setRow w.heap.size #[.int .i64 0,.slice none 0 0,.int .i64 xn,.int .i64 E]) w.heap.size #[.int .i64 0,.slice none 0 0,.int .i64 xn,.int .i64 E] 81:=put_block HT8.out _
     have hs5:Since w (w8.setRow w.heap.size #[.int .i64 0,.slice none 0 0,.int .i64 xn,.int .i64 E]):=since_setRow HS8.out (Nat.le_refl _) _
     have hs6:Since w2 (w8.setRow w.heap.size #[.int .i64 0,.slice none 0 0,.int .i64 xn,.int .i64 E])∨True:=.inr trivial
     have hfn:FnIn (w8.setRow w.heap.size #[.int .i64 0,.slice none 0 0,.int .i64 xn,.int .i64 E]) ⟨0,[],.slice none 0 0⟩:=fn_nil _
     generalize w8.setRow w.heap.size #[.int .i64 0,.slice none 0 0,.int .i64 xn,.int .i64 E]=w5 at *
     have d0:=hb5.cell 0
     have d1:=hb5.cell 1
     have d2:=hb5.cell 2
     have d3:=hb5.cell 3
     have hl5:=hb5.lt
     have HS5:=Lib.hid hs5
     have HFN:=Lib.hid hfn
     clear hb5 hs5 hs6 hfn
     go_wp2
     exact bodyPost_ret (v:=.agg #[.int .i64 0,.slice none 0 0,.int .i64 xn,.int .i64 E]) (by simp[results,Tryz.results32,go_sem,d0,d1,d2,d3]) rfl ⟨⟨0,[],.slice none 0 0⟩,xn,E,rfl,HFN.out,HRS.out,HS5.out⟩
    all_goals
     intro vs w8 hs hk _
     simp only[List.take,putAll,Act.put,Knows,nthF,Is,List.setIfInBounds_toArray,List.set_cons_zero,List.set_cons_succ,Nat.reduceAdd]at hk ⊢
     try simp only[hk]
    ·go_wp2
     exact⟨_,rfl,rfl,Since.refl _⟩
    ·go_wp2
     exact⟨_,rfl,rfl,Since.refl _⟩
    ·go_wp2
     exact⟨_,rfl,rfl,Since.refl _⟩
    ·go_wp2
     exact⟨_,rfl,rfl,Since.refl _⟩
    ·have hz:=hs.cell (p:=⟨b,off+i*2+1,none⟩) hb3
     rw[c1b]at hz
     have hlz:=Nat.lt_of_lt_of_le hb3 hs.size
     go_wp2
     exact⟨_,rfl,rfl,Since.refl _⟩
    ·go_wp2
     exact⟨_,rfl,rfl,Since.refl _⟩
    ·go_wp2
     exact⟨_,rfl,rfl,Since.refl _⟩
    ·go_wp2
     exact⟨_,rfl,rfl,Since.refl _⟩
    ·have hz:=hs.cell (p:=⟨pb,3,none⟩) hpl
     rw[c3]at hz
     have hlz:=Nat.lt_of_lt_of_le hpl hs.size
     go_wp2
     exact⟨_,rfl,rfl,Since.refl _⟩
    ·go_wp2
     exact⟨_,rfl,rfl,Since.refl _⟩
   | ok t =>
    have hans:=HANS.out
    rw[hst]at hans
    obtain⟨he1,ht⟩:=hans
    have hres:=HNX.out
    rw[hst]at hres
    subst ht
    have HF3:=Lib.hid (HFEW.out.step hst)
    have HRES:=Lib.hid hres
    subst he1
    clear hst hres
    go_wp2
    go_roundw
    case rel=>exact⟨i+1,params2,pl2,bv2,bl2,by go_num,by omega,HP3.out,HRES.out,HF3.out⟩
    case measure=>simp[intOf];omega
  ·obtain rfl:ln=i:=by omega
   have hrun:=HRUN.out
   rw[List.take_of_length_le (by rw[List.length_map,HLN.out];exact Nat.le_refl _),HLD.out]at hrun
   have HR:=Lib.hid hrun
   have HPS:=Lib.hid (parse_runL s.data.toList)
   have c2:wr.cell? ⟨pb,2,none⟩=some (.int .i64 pl):=HP.out.cell 2
   have c1:wr.cell? ⟨pb,1,none⟩=some bv:=HP.out.cell 1
   have c0:wr.cell? ⟨pb,0,none⟩=some (.int .i64 params):=HP.out.cell 0
   have hpl:=HP.out.box.lt
   obtain⟨va,vc,hv⟩:=own_shape HP.out.row
   obtain⟨bn,hbn⟩:∃ n,bl.length=n:=⟨_,rfl⟩
   rw[hbn]at hv
   subst hv
   have HBN:=Lib.hid hbn
   have hbb:bn≤300001:=by have:=HFEW.out.bl;simp only[List.length_map]at this;omega
   clear hrun hbn
   by_cases hp1:pl=1
   ·subst hp1
    by_cases hb0:bn=0
    ·subst hb0
     have HBL:=Lib.hid (List.length_eq_zero_iff.1 HBN.out)
     have HRS:=Lib.hid (show (⟨(⟨0,[],.slice none 0 0⟩:FnV).d,nn,70⟩:PRes)=parseS s.data.toList from by rw[HPS.out,HR.out,HBL.out];simp[FnV.d,HNN.out])
     go_wp2_with (refine wpList_store_row rfl 81 _ _ rfl w.heap.size #[.int .i64 0,.slice none 0 0,.int .i64 nn,.int .i64 70] rfl rfl 81 _ HTB.out (by kernel_rfl) rfl (by rw[←Array.all_toList];rfl) ?_)
     have hb5:HeapIs (wr.setRow w.heap.size #[.int .i64 0,.slice none 0 0,.int .i64 nn,.int .i64 70]) w.heap.size #[.int .i64 0,.slice none 0 0,.int .i64 nn,.int .i64 70] 81:=put_block HTB.out _
     have hs5:Since w (wr.setRow w.heap.size #[.int .i64 0,.slice none 0 0,.int .i64 nn,.int .i64 70]):=since_setRow HSO.out (Nat.le_refl _) _
     have hs6:Since w2 (wr.setRow w.heap.size #[.int .i64 0,.slice none 0 0,.int .i64 nn,.int .i64 70])∨True:=.inr trivial
     have hfn:FnIn (wr.setRow w.heap.size #[.int .i64 0,.slice none 0 0,.int .i64 nn,.int .i64 70]) ⟨0,[],.slice none 0 0⟩:=fn_nil _
     generalize wr.setRow w.heap.size #[.int .i64 0,.slice none 0 0,.int .i64 nn,.int .i64 70]=w5 at *
     have d0:=hb5.cell 0
     have d1:=hb5.cell 1
     have d2:=hb5.cell 2
     have d3:=hb5.cell 3
     have hl5:=hb5.lt
     have HS5:=Lib.hid hs5
     have HFN:=Lib.hid hfn
     clear hb5 hs5 hs6 hfn
     go_wp2
     exact bodyPost_ret (v:=.agg #[.int .i64 0,.slice none 0 0,.int .i64 nn,.int .i64 70]) (by simp[results,Tryz.results32,go_sem,d0,d1,d2,d3]) rfl ⟨⟨0,[],.slice none 0 0⟩,nn,70,rfl,HFN.out,HRS.out,HS5.out⟩
    ·have hq0:((bn:Int)==0)=false:=by rw[beq_eq_false_iff_ne];omega
     have HRS:=Lib.hid (show (⟨(⟨params,bl,.slice va bn vc⟩:FnV).d,0,0⟩:PRes)=parseS s.data.toList from by
      have hne:bl.map FBlk.d≠[]:=fun e=>by rw[List.map_eq_nil_iff]at e;rw[e]at HBN;exact hb0 HBN.out.symm
      rw[HPS.out,HR.out];show _=(if (1:Int)=1∧bl.map FBlk.d≠[] then _ else _);rw[if_pos ⟨rfl,hne⟩];rfl)
     clear hb0
     go_wp2_with (refine wpList_store_row rfl 81 _ _ rfl w.heap.size #[.int .i64 params,.slice va bn vc,.int .i64 0,.int .i64 0] rfl rfl 81 _ HTB.out (by kernel_rfl) rfl (by rw[←Array.all_toList];rfl) ?_)
     have hb5:HeapIs (wr.setRow w.heap.size #[.int .i64 params,.slice va bn vc,.int .i64 0,.int .i64 0]) w.heap.size #[.int .i64 params,.slice va bn vc,.int .i64 0,.int .i64 0] 81:=put_block HTB.out _
     have hs5:Since w (wr.setRow w.heap.size #[.int .i64 params,.slice va bn vc,.int .i64 0,.int .i64 0]):=since_setRow HSO.out (Nat.le_refl _) _
     have hs6:Since w2 (wr.setRow w.heap.size #[.int .i64 params,.slice va bn vc,.int .i64 0,.int .i64 0])∨True:=.inr trivial
     have hfn:FnIn (wr.setRow w.heap.size #[.int .i64 params,.slice va bn vc,.int .i64 0,.int .i64 0]) ⟨params,bl,.slice va bn vc⟩:=HP.out.fnTurn (R:=fun q=>q=w.heap.size) (put_turn (S:=fun q=>q=w.heap.size) rfl _) (fun q hq=>by rw[hq];exact HT2.out.lt)
     generalize wr.setRow w.heap.size #[.int .i64 params,.slice va bn vc,.int .i64 0,.int .i64 0]=w5 at *
     have d0:=hb5.cell 0
     have d1:=hb5.cell 1
     have d2:=hb5.cell 2
     have d3:=hb5.cell 3
     have hl5:=hb5.lt
     have HS5:=Lib.hid hs5
     have HFN:=Lib.hid hfn
     clear hb5 hs5 hs6 hfn
     go_wp2
     exact bodyPost_ret (v:=.agg #[.int .i64 params,.slice va bn vc,.int .i64 0,.int .i64 0]) (by simp[results,Tryz.results32,go_sem,d0,d1,d2,d3]) rfl ⟨⟨params,bl,.slice va bn vc⟩,0,0,rfl,HFN.out,HRS.out,HS5.out⟩
   ·have hq1:(pl==1)=false:=by rw[beq_eq_false_iff_ne];exact hp1
    have HRS:=Lib.hid (show (⟨(⟨0,[],.slice none 0 0⟩:FnV).d,nn,70⟩:PRes)=parseS s.data.toList from by rw[HPS.out,HR.out];simp only[];rw[if_neg (fun h=>hp1 h.1)];simp[FnV.d,HNN.out])
    clear hp1
    go_wp2_with (refine wpList_store_row rfl 81 _ _ rfl w.heap.size #[.int .i64 0,.slice none 0 0,.int .i64 nn,.int .i64 70] rfl rfl 81 _ HTB.out (by kernel_rfl) rfl (by rw[←Array.all_toList];rfl) ?_)
    have hb5:HeapIs (wr.setRow w.heap.size #[.int .i64 0,.slice none 0 0,.int .i64 nn,.int .i64 70]) w.heap.size #[.int .i64 0,.slice none 0 0,.int .i64 nn,.int .i64 70] 81:=put_block HTB.out _
    have hs5:Since w (wr.setRow w.heap.size #[.int .i64 0,.slice none 0 0,.int .i64 nn,.int .i64 70]):=since_setRow HSO.out (Nat.le_refl _) _
    have hs6:Since w2 (wr.setRow w.heap.size #[.int .i64 0,.slice none 0 0,.int .i64 nn,.int .i64 70])∨True:=.inr trivial
    have hfn:FnIn (wr.setRow w.heap.size #[.int .i64 0,.slice none 0 0,.int .i64 nn,.int .i64 70]) ⟨0,[],.slice none 0 0⟩:=fn_nil _
    generalize wr.setRow w.heap.size #[.int .i64 0,.slice none 0 0,.int .i64 nn,.int .i64 70]=w5 at *
    have d0:=hb5.cell 0
    have d1:=hb5.cell 1
    have d2:=hb5.cell 2
    have d3:=hb5.cell 3
    have hl5:=hb5.lt
    have HS5:=Lib.hid hs5
    have HFN:=Lib.hid hfn
    clear hb5 hs5 hs6 hfn
    go_wp2
    exact bodyPost_ret (v:=.agg #[.int .i64 0,.slice none 0 0,.int .i64 nn,.int .i64 70]) (by simp[results,Tryz.results32,go_sem,d0,d1,d2,d3]) rfl ⟨⟨0,[],.slice none 0 0⟩,nn,70,rfl,HFN.out,HRS.out,HS5.out⟩
def NumsD (l:List Int):Prop:=(∀ x∈l,In32W x)∧l.length≤300001
structure DIns3 (x:DIns):Prop where
 op:In32W x.op
 dst:In32W x.dst
 two:In32W x.two
 args:NumsD x.args
 imm:In32W x.imm
structure DTerm3 (t:DTerm):Prop where
 kd:In32W t.kd
 ar:NumsD t.ar
 tg:NumsD t.tg
 imm:In32W t.im
structure DBlk3 (b:DBlk):Prop where
 phis:∀ p∈b.phis,In32W p.dst∧(∀ x∈p.ins,In32W x.1∧In32W x.2)∧p.ins.length≤300001
 ins:∀ i∈b.ins,DIns3 i
 term:DTerm3 b.term
structure PSt3 (s:PSt):Prop where
 params:In32W s.params
 blocks:∀ b∈s.blocks,DBlk3 b
theorem in32_0:In32W 0:=⟨by decide,by decide⟩
theorem nums_32 (l:List ByteArray):∀ x∈numsW l,In32W x:=fun x hx=>by
 unfold numsW at hx;obtain⟨z,_,rfl⟩:=List.mem_map.1 hx;exact numW_32 z
theorem getD_32 {l : List Int} (h:∀ x∈l,In32W x) (i:Nat):In32W (l.getD i 0):=by
 rw[List.getD_eq_getElem?_getD]
 cases hi:l[i]? with
 | none=>exact in32_0
 | some x=>exact h x (List.mem_of_getElem? hi)
theorem NumsD.nil:NumsD []:=⟨fun x h=>(by cases h),Nat.zero_le _⟩
theorem NumsD.drop {l : List Int} (h:NumsD l) (k:Nat):NumsD (l.drop k):=⟨fun x hx=>h.1 x (List.mem_of_mem_drop hx),by rw[List.length_drop];have:=h.2;omega⟩
theorem NumsD.take {l : List Int} (h:NumsD l) (k:Nat):NumsD (l.take k):=⟨fun x hx=>h.1 x (List.mem_of_mem_take hx),by rw[List.length_take];have:=h.2;omega⟩
theorem onLast3 {s : PSt} (h:∀ b∈s.blocks,DBlk3 b) (g:DBlk→DBlk) (hg:∀ b,DBlk3 b→DBlk3 (g b)):∀ b∈onLast s g,DBlk3 b:=fun b hb=>by
 rcases mem_modify _ _ _ hb with h1|⟨y,hy,rfl⟩
 ·exact h b h1
 ·exact hg y (h y hy)
theorem insOf3 (op:Int) (hop:1≤op∧op≤18) {n : List Int} (h:NumsD n):DIns3 (insOf op n):=by
 have hop2:In32W op:=⟨by omega,by omega⟩
 have g:=fun i=>getD_32 h.1 i
 unfold insOf
 split
 ·exact⟨hop2,g 0,in32_0,.nil,g 1⟩
 ·split
  ·exact⟨hop2,g 0,in32_0,(h.drop 1).take 1,g 2⟩
  ·split
   ·exact⟨hop2,in32_0,in32_0,h.take 2,g 2⟩
   ·split
    ·exact⟨hop2,g 0,in32_0,h.drop 2,g 1⟩
    ·split
     ·exact⟨hop2,g 0,g 1,h.drop 2,in32_0⟩
     ·exact⟨hop2,g 0,in32_0,h.drop 1,in32_0⟩
theorem termOf3 (k:Int) (hk:1≤k∧k≤5) {n : List Int} (h:NumsD n):DTerm3 (termOf k n):=by
 have hk2:In32W k:=⟨by omega,by omega⟩
 unfold termOf
 split
 ·exact⟨hk2,.nil,h,in32_0⟩
 ·split
  ·exact⟨hk2,h,.nil,in32_0⟩
  ·split
   ·exact⟨hk2,.nil,.nil,getD_32 h.1 0⟩
   ·exact⟨hk2,h.take 1,h.drop 1,in32_0⟩
theorem step3 {s t:PSt} {l : List ByteArray} (h:PSt3 s) (hl:l.length≤300001) (hs:stepSt s l=.ok t):PSt3 t:=by
 unfold stepSt at hs
 split at hs
 ·cases hs;exact h
 ·rename_i w r
  rw[List.length_cons]at hl
  have hn:NumsD (numsW r):=⟨nums_32 r,by unfold numsW;rw[List.length_map];omega⟩
  split at hs
  ·split at hs
   ·split at hs
    ·cases hs;exact⟨getD_32 hn.1 0,h.blocks⟩
    ·cases hs
   ·cases hs
  ·split at hs
   ·split at hs
    ·split at hs
     ·split at hs
      ·cases hs
       refine⟨h.params,fun b hb=>?_⟩
       rcases List.mem_append.1 hb with h1|h1
       ·exact h.blocks b h1
       ·rw[List.mem_singleton.1 h1];exact⟨fun p hp=>(by cases hp),fun i hi=>(by cases hi),⟨in32_0,.nil,.nil,in32_0⟩⟩
      ·cases hs
     ·cases hs
    ·cases hs
   ·split at hs
    ·split at hs
     ·unfold phiSt at hs
      split at hs
      ·cases hs
      ·rename_i d r2
       split at hs
       ·split at hs
        ·cases hs
         refine⟨h.params,onLast3 h.blocks _ fun b hb=>⟨fun p hp=>?_,hb.ins,hb.term⟩⟩
         rcases List.mem_append.1 hp with h1|h1
         ·exact hb.phis p h1
         ·rw[List.mem_singleton.1 h1]
          refine⟨numW_32 _,fun x hx=>?_,by show (r2.map pairW).length≤300001;rw[List.length_map];rw[List.length_cons]at hl;omega⟩
          obtain⟨y,_,rfl⟩:=List.mem_map.1 hx
          exact⟨numW_32 _,numW_32 _⟩
        ·cases hs
       ·cases hs
     ·cases hs
    ·split at hs
     ·rename_i hop
      split at hs
      ·unfold insSt at hs
       split at hs
       ·split at hs
        ·cases hs
         refine⟨h.params,onLast3 h.blocks _ fun b hb=>⟨hb.phis,fun i hi=>?_,hb.term⟩⟩
         rcases List.mem_append.1 hi with h1|h1
         ·exact hb.ins i h1
         ·rw[List.mem_singleton.1 h1];exact insOf3 _ ⟨by omega,(number_le w).2⟩ hn
        ·cases hs
       ·cases hs
      ·cases hs
     ·split at hs
      ·rename_i hk
       split at hs
       ·unfold termSt at hs
        split at hs
        ·split at hs
         ·cases hs
          exact⟨h.params,onLast3 h.blocks _ fun b hb=>⟨hb.phis,hb.ins,termOf3 _ ⟨by omega,(kind_le w).2⟩ hn⟩⟩
         ·cases hs
        ·cases hs
       ·cases hs
      ·cases hs
theorem run3:∀ (D:List (List ByteArray × Int)) (n:Nat) (s t:PSt),(∀ x∈D,x.1.length≤300001)→PSt3 s→FewSt n s→runL stepSt s D=.ok t→PSt3 t∧FewSt (n+D.length) t
 | [],n,s,t,_,h,hf,hr=>by
  rw[runL]at hr;cases hr;exact⟨h,hf⟩
 | x::r,n,s,t,hx,h,hf,hr=>by
  rw[runL]at hr
  cases hs:stepSt s x.1 with
  | error e=>rw[hs]at hr;cases hr
  | ok u =>
   rw[hs]at hr
   have:=run3 r (n+1) u t (fun y hy=>hx y (by simp[hy])) (step3 h (hx x (by simp)) hs) (hf.step hs) hr
   rw[List.length_cons]
   exact⟨this.1,by have h2:=this.2;rwa [show n+1+r.length=n+(r.length+1) from by omega]at h2⟩
structure DFn3 (f:DFn):Prop where
 params:In32W f.params
 blocks:∀ b∈f.blocks,DBlk3 b
 many:f.blocks.length≤300001
 each:∀ b∈f.blocks,b.phis.length≤300001∧b.ins.length≤300001
theorem parsed3 (s:Bs) (hs:s.length≤300000):DFn3 (parseS s).f:=by
 rw[parse_runL]
 have h0:DFn3 ⟨0,[]⟩:=⟨in32_0,fun b hb=>(by cases hb),Nat.zero_le _,fun b hb=>(by cases hb)⟩
 cases hr:runL stepSt ⟨0,[],0⟩ (numd 1 (linesOf s)) with
 | error e=>exact h0
 | ok t =>
  show DFn3 (if t.pl=1∧t.blocks≠[] then (⟨⟨t.params,t.blocks⟩,0,0⟩:PRes) else ⟨⟨0,[]⟩,((linesOf s).length:Int),70⟩).f
  split
  ·obtain⟨h1,h2⟩:=run3 _ 0 _ t (fun x hx=>by
    have h3:=numd_mem (linesOf s) 1 x hx
    have h4:=lines_words s x.1 h3.1
    omega) ⟨in32_0,fun b hb=>(by cases hb)⟩ FewSt.start hr
   have h5:=numd_len (linesOf s) 1
   have h6:=linesOf_len s
   exact⟨h1.params,h1.blocks,(by have:=h2.bl;show t.blocks.length≤300001;omega),fun b hb=>(by have:=h2.each b hb;show b.phis.length≤300001∧b.ins.length≤300001;omega)⟩
  ·exact h0
theorem fn3_of (f:FnV) (h:DFn3 f.d):Fn3 f:=by
 have hrow:∀ l:List Int,NumsD l→Row3 l:=fun l hl=>⟨fun x hx=>in63_32 (hl.1 x hx),by have:=hl.2;omega⟩
 refine⟨in63_32 h.params,fun b hb=>?_⟩
 have hb3:=h.blocks b.d (List.mem_map_of_mem hb)
 refine⟨fun p hp=>?_,fun i hi=>?_,?_⟩
 ·obtain⟨h1,h2,_⟩:=hb3.phis p.d (List.mem_map_of_mem hp)
  exact⟨in63_32 h1,fun x hx=>⟨in63_32 (h2 x hx).1,in63_32 (h2 x hx).2⟩⟩
 ·have h1:=hb3.ins i.d (List.mem_map_of_mem hi)
  exact⟨in63_32 h1.op,in63_32 h1.dst,in63_32 h1.two,hrow _ h1.args,h1.imm⟩
 ·have h1:=hb3.term
  exact⟨in63_32 h1.kd,hrow _ h1.ar,hrow _ h1.tg,h1.imm⟩
theorem flat_bound {α:Type} (f:α→Bs) (k:Nat):∀ (l:List α),(∀ x∈l,(f x).length≤k)→(l.flatMap f).length≤l.length*k
 | [],_=>by simp
 | x::r,h=>by
  rw[List.flatMap_cons,List.length_append,List.length_cons,Nat.succ_mul]
  have:=h x (by simp)
  have:=flat_bound f k r (fun y hy=>h y (by simp[hy]))
  omega
theorem d3_32 {x : Int} (h:In32W x):(d3 x).length≤22:=d3_len x (in63_32 h)
theorem row3_bound {l : List Int} (h:NumsD l):(row3 l).length≤6600024:=by
 have h1:=d3s_len l (fun x hx=>in63_32 (h.1 x hx))
 have:=h.2
 unfold row3;simp only[List.length_cons,List.length_append,List.length_nil];omega
theorem print3_len (f:DFn) (h:DFn3 f):(print3 f).length≤4000000000000000000:=by
 have hb:∀ b∈f.blocks,(bl3 b).length≤6100000000000:=fun b hb=>by
  have h1:=h.blocks b hb
  have h2:=h.each b hb
  have e1:(b.phis.flatMap phi3).length≤b.phis.length*13500100:=flat_bound phi3 _ _ fun p hp=>by
   obtain⟨g1,g2,g3⟩:=h1.phis p hp
   have g4:(p.ins.flatMap pair3).length≤p.ins.length*45:=flat_bound pair3 _ _ fun x hx=>by
    have:=d3_32 (g2 x hx).1
    have:=d3_32 (g2 x hx).2
    unfold pair3;simp only[List.length_append,List.length_cons];omega
   have:=d3_32 g1
   unfold phi3;simp only[List.length_append,List.length_cons,List.length_nil];omega
  have e2:(b.ins.flatMap in3).length≤b.ins.length*6600200:=flat_bound in3 _ _ fun i hi=>by
   have g:=h1.ins i hi
   have:=d3_32 g.op
   have:=d3_32 g.dst
   have:=d3_32 g.two
   have:=d3_32 g.imm
   have:=row3_bound g.args
   unfold in3;simp only[List.length_append,List.length_cons];omega
  have e3:(tm3 b.term).length≤13300000:=by
   have:=d3_32 h1.term.kd
   have:=d3_32 h1.term.imm
   have:=row3_bound h1.term.ar
   have:=row3_bound h1.term.tg
   unfold tm3;simp only[List.length_append,List.length_cons];omega
  unfold bl3
  simp only[List.length_append,List.length_cons]
  omega
 have h1:(f.blocks.flatMap bl3).length≤f.blocks.length*6100000000000:=flat_bound bl3 _ _ hb
 have h2:=d3_32 h.params
 have h3:=h.many
 unfold print3
 rw[List.length_append]
 omega
end Go.Proofs.YtmhojfpidedjeaaGreatDoor
