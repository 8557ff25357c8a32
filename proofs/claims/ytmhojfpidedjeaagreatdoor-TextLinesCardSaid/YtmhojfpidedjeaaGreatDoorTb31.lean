/- Plain: what is parsed has words of 32 bits, and rows that are no longer than lines. -/
import Derived.Test.YtmhojfpidedjeaaGreatDoorTb11
import Derived.Test.YtmhojfpidedjeaaGreatDoorTb16
namespace Go.Proofs.YtmhojfpidedjeaaGreatDoor
open Go.RowKit
set_option linter.unusedVariables false
def NumsD (l:List Int):Prop:=(∀ x∈l,In32W x)∧l.length≤300001
structure DIns3 (x:DIns):Prop where
 op:In32W x.op
 dst:In32W x.dst
 two:In32W x.two
 args:NumsD x.args
 imm:In32W x.imm
structure DTerm3 (t:DTerm):Prop where
 kd:In32W t.kd
 ar:NumsD t.ar
 tg:NumsD t.tg
 imm:In32W t.im
structure DBlk3 (b:DBlk):Prop where
 phis:∀ p∈b.phis,In32W p.dst∧(∀ x∈p.ins,In32W x.1∧In32W x.2)∧p.ins.length≤300001
 ins:∀ i∈b.ins,DIns3 i
 term:DTerm3 b.term
structure PSt3 (s:PSt):Prop where
 params:In32W s.params
 blocks:∀ b∈s.blocks,DBlk3 b
theorem in32_0:In32W 0:=⟨by decide,by decide⟩
theorem nums_32 (l:List ByteArray):∀ x∈numsW l,In32W x:=fun x hx=>by
 unfold numsW at hx;obtain⟨z,_,rfl⟩:=List.mem_map.1 hx;exact numW_32 z
theorem getD_32 {l : List Int} (h:∀ x∈l,In32W x) (i:Nat):In32W (l.getD i 0):=by
 rw[List.getD_eq_getElem?_getD]
 cases hi:l[i]? with
 | none=>exact in32_0
 | some x=>exact h x (List.mem_of_getElem? hi)
theorem NumsD.nil:NumsD []:=⟨fun x h=>(by cases h),Nat.zero_le _⟩
theorem NumsD.drop {l : List Int} (h:NumsD l) (k:Nat):NumsD (l.drop k):=⟨fun x hx=>h.1 x (List.mem_of_mem_drop hx),by rw[List.length_drop];have:=h.2;omega⟩
theorem NumsD.take {l : List Int} (h:NumsD l) (k:Nat):NumsD (l.take k):=⟨fun x hx=>h.1 x (List.mem_of_mem_take hx),by rw[List.length_take];have:=h.2;omega⟩
theorem onLast3 {s : PSt} (h:∀ b∈s.blocks,DBlk3 b) (g:DBlk→DBlk) (hg:∀ b,DBlk3 b→DBlk3 (g b)):∀ b∈onLast s g,DBlk3 b:=fun b hb=>by
 rcases mem_modify _ _ _ hb with h1|⟨y,hy,rfl⟩
 ·exact h b h1
 ·exact hg y (h y hy)
theorem insOf3 (op:Int) (hop:1≤op∧op≤18) {n : List Int} (h:NumsD n):DIns3 (insOf op n):=by
 have hop2:In32W op:=⟨by omega,by omega⟩
 have g:=fun i=>getD_32 h.1 i
 unfold insOf
 split
 ·exact⟨hop2,g 0,in32_0,.nil,g 1⟩
 ·split
  ·exact⟨hop2,g 0,in32_0,(h.drop 1).take 1,g 2⟩
  ·split
   ·exact⟨hop2,in32_0,in32_0,h.take 2,g 2⟩
   ·split
    ·exact⟨hop2,g 0,in32_0,h.drop 2,g 1⟩
    ·split
     ·exact⟨hop2,g 0,g 1,h.drop 2,in32_0⟩
     ·exact⟨hop2,g 0,in32_0,h.drop 1,in32_0⟩
theorem termOf3 (k:Int) (hk:1≤k∧k≤5) {n : List Int} (h:NumsD n):DTerm3 (termOf k n):=by
 have hk2:In32W k:=⟨by omega,by omega⟩
 unfold termOf
 split
 ·exact⟨hk2,.nil,h,in32_0⟩
 ·split
  ·exact⟨hk2,h,.nil,in32_0⟩
  ·split
   ·exact⟨hk2,.nil,.nil,getD_32 h.1 0⟩
   ·exact⟨hk2,h.take 1,h.drop 1,in32_0⟩
theorem step3 {s t:PSt} {l : List ByteArray} (h:PSt3 s) (hl:l.length≤300001) (hs:stepSt s l=.ok t):PSt3 t:=by
 unfold stepSt at hs
 split at hs
 ·cases hs;exact h
 ·rename_i w r
  rw[List.length_cons]at hl
  have hn:NumsD (numsW r):=⟨nums_32 r,by unfold numsW;rw[List.length_map];omega⟩
  split at hs
  ·split at hs
   ·split at hs
    ·cases hs;exact⟨getD_32 hn.1 0,h.blocks⟩
    ·cases hs
   ·cases hs
  ·split at hs
   ·split at hs
    ·split at hs
     ·split at hs
      ·cases hs
       refine⟨h.params,fun b hb=>?_⟩
       rcases List.mem_append.1 hb with h1|h1
       ·exact h.blocks b h1
       ·rw[List.mem_singleton.1 h1];exact⟨fun p hp=>(by cases hp),fun i hi=>(by cases hi),⟨in32_0,.nil,.nil,in32_0⟩⟩
      ·cases hs
     ·cases hs
    ·cases hs
   ·split at hs
    ·split at hs
     ·unfold phiSt at hs
      split at hs
      ·cases hs
      ·rename_i d r2
       split at hs
       ·split at hs
        ·cases hs
         refine⟨h.params,onLast3 h.blocks _ fun b hb=>⟨fun p hp=>?_,hb.ins,hb.term⟩⟩
         rcases List.mem_append.1 hp with h1|h1
         ·exact hb.phis p h1
         ·rw[List.mem_singleton.1 h1]
          refine⟨numW_32 _,fun x hx=>?_,by show (r2.map pairW).length≤300001;rw[List.length_map];rw[List.length_cons]at hl;omega⟩
          obtain⟨y,_,rfl⟩:=List.mem_map.1 hx
          exact⟨numW_32 _,numW_32 _⟩
        ·cases hs
       ·cases hs
     ·cases hs
    ·split at hs
     ·rename_i hop
      split at hs
      ·unfold insSt at hs
       split at hs
       ·split at hs
        ·cases hs
         refine⟨h.params,onLast3 h.blocks _ fun b hb=>⟨hb.phis,fun i hi=>?_,hb.term⟩⟩
         rcases List.mem_append.1 hi with h1|h1
         ·exact hb.ins i h1
         ·rw[List.mem_singleton.1 h1];exact insOf3 _ ⟨by omega,(number_le w).2⟩ hn
        ·cases hs
       ·cases hs
      ·cases hs
     ·split at hs
      ·rename_i hk
       split at hs
       ·unfold termSt at hs
        split at hs
        ·split at hs
         ·cases hs
          exact⟨h.params,onLast3 h.blocks _ fun b hb=>⟨hb.phis,hb.ins,termOf3 _ ⟨by omega,(kind_le w).2⟩ hn⟩⟩
         ·cases hs
        ·cases hs
       ·cases hs
      ·cases hs
theorem run3:∀ (D:List (List ByteArray × Int)) (n:Nat) (s t:PSt),(∀ x∈D,x.1.length≤300001)→PSt3 s→FewSt n s→runL stepSt s D=.ok t→PSt3 t∧FewSt (n+D.length) t
 | [],n,s,t,_,h,hf,hr=>by
  rw[runL]at hr;cases hr;exact⟨h,hf⟩
 | x::r,n,s,t,hx,h,hf,hr=>by
  rw[runL]at hr
  cases hs:stepSt s x.1 with
  | error e=>rw[hs]at hr;cases hr
  | ok u =>
   rw[hs]at hr
   have:=run3 r (n+1) u t (fun y hy=>hx y (by simp[hy])) (step3 h (hx x (by simp)) hs) (hf.step hs) hr
   rw[List.length_cons]
   exact⟨this.1,by have h2:=this.2;rwa [show n+1+r.length=n+(r.length+1) from by omega]at h2⟩
structure DFn3 (f:DFn):Prop where
 params:In32W f.params
 blocks:∀ b∈f.blocks,DBlk3 b
 many:f.blocks.length≤300001
 each:∀ b∈f.blocks,b.phis.length≤300001∧b.ins.length≤300001
theorem parsed3 (s:Bs) (hs:s.length≤300000):DFn3 (parseS s).f:=by
 rw[parse_runL]
 have h0:DFn3 ⟨0,[]⟩:=⟨in32_0,fun b hb=>(by cases hb),Nat.zero_le _,fun b hb=>(by cases hb)⟩
 cases hr:runL stepSt ⟨0,[],0⟩ (numd 1 (linesOf s)) with
 | error e=>exact h0
 | ok t =>
  show DFn3 (if t.pl=1∧t.blocks≠[] then (⟨⟨t.params,t.blocks⟩,0,0⟩:PRes) else ⟨⟨0,[]⟩,((linesOf s).length:Int),70⟩).f
  split
  ·obtain⟨h1,h2⟩:=run3 _ 0 _ t (fun x hx=>by
    have h3:=numd_mem (linesOf s) 1 x hx
    have h4:=lines_words s x.1 h3.1
    omega) ⟨in32_0,fun b hb=>(by cases hb)⟩ FewSt.start hr
   have h5:=numd_len (linesOf s) 1
   have h6:=linesOf_len s
   exact⟨h1.params,h1.blocks,(by have:=h2.bl;show t.blocks.length≤300001;omega),fun b hb=>(by have:=h2.each b hb;show b.phis.length≤300001∧b.ins.length≤300001;omega)⟩
  ·exact h0
theorem fn3_of (f:FnV) (h:DFn3 f.d):Fn3 f:=by
 have hrow:∀ l:List Int,NumsD l→Row3 l:=fun l hl=>⟨fun x hx=>in63_32 (hl.1 x hx),by have:=hl.2;omega⟩
 refine⟨in63_32 h.params,fun b hb=>?_⟩
 have hb3:=h.blocks b.d (List.mem_map_of_mem hb)
 refine⟨fun p hp=>?_,fun i hi=>?_,?_⟩
 ·obtain⟨h1,h2,_⟩:=hb3.phis p.d (List.mem_map_of_mem hp)
  exact⟨in63_32 h1,fun x hx=>⟨in63_32 (h2 x hx).1,in63_32 (h2 x hx).2⟩⟩
 ·have h1:=hb3.ins i.d (List.mem_map_of_mem hi)
  exact⟨in63_32 h1.op,in63_32 h1.dst,in63_32 h1.two,hrow _ h1.args,h1.imm⟩
 ·have h1:=hb3.term
  exact⟨in63_32 h1.kd,hrow _ h1.ar,hrow _ h1.tg,h1.imm⟩
theorem flat_bound {α:Type} (f:α→Bs) (k:Nat):∀ (l:List α),(∀ x∈l,(f x).length≤k)→(l.flatMap f).length≤l.length*k
 | [],_=>by simp
 | x::r,h=>by
  rw[List.flatMap_cons,List.length_append,List.length_cons,Nat.succ_mul]
  have:=h x (by simp)
  have:=flat_bound f k r (fun y hy=>h y (by simp[hy]))
  omega
theorem d3_32 {x : Int} (h:In32W x):(d3 x).length≤22:=d3_len x (in63_32 h)
theorem row3_bound {l : List Int} (h:NumsD l):(row3 l).length≤6600024:=by
 have h1:=d3s_len l (fun x hx=>in63_32 (h.1 x hx))
 have:=h.2
 unfold row3;simp only[List.length_cons,List.length_append,List.length_nil];omega
theorem print3_len (f:DFn) (h:DFn3 f):(print3 f).length≤4000000000000000000:=by
 have hb:∀ b∈f.blocks,(bl3 b).length≤6100000000000:=fun b hb=>by
  have h1:=h.blocks b hb
  have h2:=h.each b hb
  have e1:(b.phis.flatMap phi3).length≤b.phis.length*13500100:=flat_bound phi3 _ _ fun p hp=>by
   obtain⟨g1,g2,g3⟩:=h1.phis p hp
   have g4:(p.ins.flatMap pair3).length≤p.ins.length*45:=flat_bound pair3 _ _ fun x hx=>by
    have:=d3_32 (g2 x hx).1
    have:=d3_32 (g2 x hx).2
    unfold pair3;simp only[List.length_append,List.length_cons];omega
   have:=d3_32 g1
   unfold phi3;simp only[List.length_append,List.length_cons,List.length_nil];omega
  have e2:(b.ins.flatMap in3).length≤b.ins.length*6600200:=flat_bound in3 _ _ fun i hi=>by
   have g:=h1.ins i hi
   have:=d3_32 g.op
   have:=d3_32 g.dst
   have:=d3_32 g.two
   have:=d3_32 g.imm
   have:=row3_bound g.args
   unfold in3;simp only[List.length_append,List.length_cons];omega
  have e3:(tm3 b.term).length≤13300000:=by
   have:=d3_32 h1.term.kd
   have:=d3_32 h1.term.imm
   have:=row3_bound h1.term.ar
   have:=row3_bound h1.term.tg
   unfold tm3;simp only[List.length_append,List.length_cons];omega
  unfold bl3
  simp only[List.length_append,List.length_cons]
  omega
 have h1:(f.blocks.flatMap bl3).length≤f.blocks.length*6100000000000:=flat_bound bl3 _ _ hb
 have h2:=d3_32 h.params
 have h3:=h.many
 unfold print3
 rw[List.length_append]
 omega
end Go.Proofs.YtmhojfpidedjeaaGreatDoor
