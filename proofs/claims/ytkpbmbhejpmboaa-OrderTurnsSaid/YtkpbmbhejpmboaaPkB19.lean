/- jacquardref07's maker: ins. -/
import Derived.Test.YtkpbmbhejpmboaaPkB10
import Derived.Test.YtkpbmbhejpmboaaPkB18
namespace Go.Proofs.Ytkpbmbhejpmboaa
open Go.RowKit
set_option linter.unusedVariables false
def NewCall (w0:World) (dst imm:Int) (xs:List Int) (v:Value) (w:World):Prop:=∃ v8,v=.agg #[.int .i64 28,.int .i64 dst,.int .i64 0,.int .i64 0,.int .i64 0,.int .i64 0,.int .i32 imm,v8]∧NewNums 3 w0 xs v8 w
theorem NewCall.stable (w0:World) (dst imm:Int) (xs:List Int):Stable (NewCall w0 dst imm xs):=fun v w w' ⟨v8,h1,h2⟩ s=>⟨v8,h1,NewNums.stable _ _ _ v8 w w' h2 s⟩
theorem mgood_call {d imm:Int} {args:List Int} (hi:In32 imm) (hd:0≤d∧d<10000) (hl:args.length≤4) (ha:∀ a∈args,0≤a∧a<10000):MGood ⟨28,d,0,0,0,0,imm,args⟩:=
 have h0:(0:Int)≤0∧(0:Int)<10000:=by decide
 ⟨hi,hl,ha,hd,h0,h0,h0,h0,.inr (.inr (.inr (.inr (.inr (.inr (.inr (.inr (.inr (.inr (.inl rfl)))))))))),.inl rfl⟩
section
variable {C : Nat→Prop} {kb:Nat} {sv:Value} {l : List Int} {m : K7} {w : World}
set_option maxHeartbeats 1000000 in
set_option maxRecDepth 100000 in
theorem k7_ins (h:K7Ok C kb sv l m w) (hs:Sm7 40 m) (x:FIns) (hx:Ints w x.av x.args∧Stays (OwnC7 C kb m) w x.av) (hg:InsGood 700 x) :
  Calls Try.prog 118 #[.pointer (some ⟨kb,0,none⟩),fiv x] w (K7Q C kb sv l w m 4 4 5 fun m' e=>e=.returned (.tuple #[])):=by
 obtain⟨op,dst,tw,args,av,imm⟩:=x
 dsimp only at hx hg
 have himm:In32 imm:=hg.1
 have hdst:0≤dst∧dst<10000:=by have h9:=hg.2.2.1;dsimp only at h9;omega
 have htw:0≤tw∧tw<10000:=by have h9:=hg.2.2.2.1;dsimp only at h9;omega
 have hargs:∀ a∈args,0≤a∧a<700:=hg.2.1
 have HG:=Lib.hid hg
 have hops:=hg.2.2.2.2
 dsimp only at hops
 clear hg
 unfold fiv
 dsimp only
 obtain⟨m0,hm0⟩:∃ x,x=m:=⟨_,rfl⟩
 subst hm0
 obtain⟨w1,hw1⟩:∃ z,z=w.alloc (.cells (ficells ⟨op,dst,tw,args,av,imm⟩).toArray 181):=⟨_,rfl⟩
 have hs1:Since w w1:=by rw[hw1];exact (Since.refl w).alloc _
 have H1:=Lib.hid (h.keep hs1)
 have MV1:=Lib.hid ((Mv7.refl kb w m0).keep hs1)
 have SM1:=Lib.hid hs
 obtain⟨xb,hxb⟩:∃ z,z=w.heap.size:=⟨_,rfl⟩
 have A1:=Lib.hid (show Arg7 C kb xb ⟨op,dst,tw,args,av,imm⟩ m0 w1 from⟨by rw[hw1,hxb];exact HeapIs.new _ _ _,fun hq=>by have:=h.ltOwn hq;omega,hx.1.keep hs1,hx.2.keep hs1⟩)
 clear h hs hx hs1
 go_enter Try.func118,Try.ntmps118
 go_upto_region 1 with fail
 rw[show (.cells #[.int .i64 op,.int .i64 dst,.int .i64 tw,av,.int .i32 imm] 181:Obj)=.cells (ficells ⟨op,dst,tw,args,av,imm⟩).toArray 181 from rfl,←hw1,←hxb]
 clear hw1 hxb
 have hbx:HeapIs w1 xb #[_,_,_,_,_] 181:=A1.out.box
 dsimp only at hbx
 have hc0:=hbx.cell 0
 have hbl:=hbx.lt
 clear hbx
 rcases hops with o|o|o|o|o|o
 ·skip
  obtain⟨o,_⟩:=o
  subst o
  have hbx:HeapIs w1 xb #[_,_,_,_,_] 181:=A1.out.box
  dsimp only at hbx
  have hc1:=hbx.cell 1
  have hc4:=hbx.cell 4
  clear hbx
  go_wp2_with fail
  clear hc0 hc1 hc4 hbl
  refine (k7_word H1.out (SM1.out.mono (by decide)) (dst) hdst (imm) himm).mono ?_
  rintro e w2 ⟨m2,rfl,h2,mv2⟩
  have H2:=Lib.hid h2
  have MV2:=Lib.hid (MV1.out.trans mv2)
  have SM2:=Lib.hid (SM1.out.mv mv2 (by decide) (by decide) (by decide))
  have A2:=Lib.hid (A1.out.mv mv2)
  clear h2 mv2
  go_wp2_with fail
  go_end0
  refine⟨_,?_,H2.out,MV2.out.more (by decide) (by decide) (by decide)⟩
  exact rfl
 ·skip
  obtain⟨⟨o1,o2⟩,hlen⟩:=o
  have hr1:(op==1)=false:=by simp;omega
  have hr15:(op==15)=false:=by simp;omega
  have hr16:(op==16)=false:=by simp;omega
  have hr17:(op==17)=false:=by simp;omega
  have hr18:(op==18)=false:=by simp;omega
  go_wp2_with (refine wpList_load_row rfl _ _ rfl xb rfl 181 _ (0,0) _ A1.out.box Try.underlying181 rfl (by kernel_rfl) ?_)
  clear hc0 hbl
  refine (k7_two H1.out (SM1.out.mono (by decide)) ⟨op,dst,tw,args,av,imm⟩ A1.out.args HG.out hlen ⟨o1,o2⟩).mono ?_
  rintro e w2 ⟨m2,rfl,h2,mv2⟩
  have H2:=Lib.hid h2
  have MV2:=Lib.hid (MV1.out.trans mv2)
  have SM2:=Lib.hid (SM1.out.mv mv2 (by decide) (by decide) (by decide))
  have A2:=Lib.hid (A1.out.mv mv2)
  clear h2 mv2
  go_wp2_with fail
  go_end0
  refine⟨_,?_,H2.out,MV2.out.more (by decide) (by decide) (by decide)⟩
  exact rfl
 ·skip
  obtain⟨o,hlen⟩:=o
  subst o
  go_wp2_with (refine wpList_load_row rfl _ _ rfl xb rfl 181 _ (0,0) _ A1.out.box Try.underlying181 rfl (by kernel_rfl) ?_)
  clear hc0 hbl
  refine (k7_memory_ld H1.out (SM1.out.mono (by decide)) ⟨15,dst,tw,args,av,imm⟩ A1.out.args HG.out hlen rfl).mono ?_
  rintro e w2 ⟨m2,rfl,h2,mv2⟩
  have H2:=Lib.hid h2
  have MV2:=Lib.hid (MV1.out.trans mv2)
  have SM2:=Lib.hid (SM1.out.mv mv2 (by decide) (by decide) (by decide))
  have A2:=Lib.hid (A1.out.mv mv2)
  clear h2 mv2
  go_wp2_with fail
  go_end0
  refine⟨_,?_,H2.out,MV2.out.more (by decide) (by decide) (by decide)⟩
  exact rfl
 ·skip
  obtain⟨o,hlen⟩:=o
  subst o
  go_wp2_with (refine wpList_load_row rfl _ _ rfl xb rfl 181 _ (0,0) _ A1.out.box Try.underlying181 rfl (by kernel_rfl) ?_)
  clear hc0 hbl
  refine (k7_memory_st H1.out (SM1.out.mono (by decide)) ⟨16,dst,tw,args,av,imm⟩ A1.out.args HG.out hlen rfl).mono ?_
  rintro e w2 ⟨m2,rfl,h2,mv2⟩
  have H2:=Lib.hid h2
  have MV2:=Lib.hid (MV1.out.trans mv2)
  have SM2:=Lib.hid (SM1.out.mv mv2 (by decide) (by decide) (by decide))
  have A2:=Lib.hid (A1.out.mv mv2)
  clear h2 mv2
  go_wp2_with fail
  go_end0
  refine⟨_,?_,H2.out,MV2.out.more (by decide) (by decide) (by decide)⟩
  exact rfl
 ·skip
  obtain⟨o,hlen⟩:=o
  subst o
  have HL:=Lib.hid hlen
  go_upto_region 9 with fail
  clear hc0 hbl
  refine wp_region_since_tail 10 rfl (by decide +kernel) (by decide +kernel) (by decide +kernel) (by decide)
   [Is (.pointer (some ⟨kb,0,none⟩)),Is (.pointer (some ⟨xb,1,none⟩)),Is (.int .i64 dst),Is (.pointer (some ⟨xb,4,none⟩)),Is (.int .i32 imm),IsNilOf 3 w1,Is (.pointer (some ⟨xb,3,none⟩)),Is av,NewNums 3 w1 args,NewCall w1 dst imm args]
   (by repeat (first | exact trivial | refine⟨Is.stable _,?_⟩ | refine⟨IsNilOf.stable _ _,?_⟩ | refine⟨NewNums.stable _ _ _,?_⟩ | refine⟨NewCall.stable _ _ _ _,?_⟩)) ⟨?_,?_,?_,?_,?_,?_,?_,?_,?_,?_,trivial⟩ ?_
  rotate_right
  ·intro vs w2 hs hk
   simp only[List.take,List.drop,putAll,Act.put,KnowsAll,nthF,Is,List.setIfInBounds_toArray,List.set_cons_zero,List.set_cons_succ,Nat.reduceAdd]at hk ⊢
   try simp only[hk]
   obtain⟨v8,h9,hv8⟩:NewCall w1 dst imm args (vs 9) w2:=by exact hk.2.2.2.2.2.2.2.2.2.1
   simp only[h9]
   obtain⟨m2,hm2⟩:∃ x,x=m0:=⟨_,rfl⟩
   have H2:=Lib.hid (H1.out.keep hs)
   have MV2:=Lib.hid (MV1.out.keep hs)
   have SM2:=SM1
   have A2:=Lib.hid (A1.out.keep hs)
   have MV2:=mv7_eq hm2 MV2
   rw[←hm2]at H2 SM2 A2
   clear hs hk
   have hst:Stays (OwnC7 C kb m2) w2 v8:=fun q hq=>⟨fun h1=>by have h3:=H1.out.ltOwnC (by rwa [hm2]at h1);have:=(World.ownsRow.lt hv8 q hq).1;omega,(World.ownsRow.lt hv8 q hq).2⟩
   go_wp2_with fail
   refine (k7_put H2.out (SM2.out.mono (by decide)) ⟨⟨28,dst,0,0,0,0,imm,args⟩,v8⟩ ⟨nums_of_own hv8,hst⟩ (fun q hq=>Nat.le_trans (by rw[hm2];exact H1.out.low) (World.ownsRow.lt hv8 q hq).1) (mgood_call himm hdst HL.out fun a ha=>(by have:=hargs a ha;omega))).mono ?_
   rintro e w3 ⟨m3,⟨rfl,hm3,hn3⟩,h3,mv3⟩
   have H3:=Lib.hid h3
   have MV3:=Lib.hid (MV2.out.trans mv3)
   have SM3:=Lib.hid (SM2.out.mv mv3 (by decide) (by decide) (by decide))
   have A3:=Lib.hid (A2.out.mv mv3)
   clear h3 mv3 hm3 hn3
   go_wp2_with fail
   go_end0
   refine⟨_,?_,H3.out,MV3.out.more (by decide) (by decide) (by decide)⟩
   exact rfl
  all_goals
   intro vs w2 hs hk _
   simp only[List.take,putAll,Act.put,Knows,nthF,Is,List.setIfInBounds_toArray,List.set_cons_zero,List.set_cons_succ,Nat.reduceAdd]at hk ⊢
   try simp only[hk]
  ·go_wp2
   exact⟨_,rfl,rfl,Since.refl _⟩
  ·go_wp2
   exact⟨_,rfl,rfl,Since.refl _⟩
  ·have hbx:HeapIs w2 xb #[_,_,_,_,_] 181:=(A1.out.keep hs).box
   dsimp only at hbx
   have hc:=hbx.cell 1
   have hl:=hbx.lt
   clear hbx
   go_wp2
   exact⟨_,rfl,rfl,Since.refl _⟩
  ·go_wp2
   exact⟨_,rfl,rfl,Since.refl _⟩
  ·have hbx:HeapIs w2 xb #[_,_,_,_,_] 181:=(A1.out.keep hs).box
   dsimp only at hbx
   have hc:=hbx.cell 4
   have hl:=hbx.lt
   clear hbx
   go_wp2
   exact⟨_,rfl,rfl,Since.refl _⟩
  ·have hz:=hs.size
   clear hk
   go_wp2
   exact⟨_,rfl,IsNilOf.new hz,(Since.refl _).alloc _⟩
  ·go_wp2
   exact⟨_,rfl,rfl,Since.refl _⟩
  ·have hbx:HeapIs w2 xb #[_,_,_,_,_] 181:=(A1.out.keep hs).box
   dsimp only at hbx
   have hc:=hbx.cell 3
   have hl:=hbx.lt
   clear hbx
   go_wp2
   exact⟨_,rfl,rfl,Since.refl _⟩
  ·have hz:=hs.size
   have hnil:IsNilOf 3 w1 (vs 5) w2:=hk.1
   have hav:vs 7=av:=hk.2.1
   have hsrc:=srcInts (A1.out.keep hs).args.1
   have hl4:=HL.out
   generalize vs 5=v5 at *
   generalize vs 7=v7 at *
   subst hav
   clear hk
   refine wpList_append_clone (w0:=w1) rfl _ _ 25 rfl 3 (.int .i64 0) 1 8 Try.underlying25 Try.info3 rfl (by decide) (by decide) v5 v7 args.length (args.map (Value.int .i64)) rfl rfl hnil hsrc (by simp) (by omega) (fun u hu=>by obtain⟨z,_,rfl⟩:=List.mem_map.1 hu;rfl) hz ?_
   intro v' w3 hown hs3
   go_wp2
   exact⟨_,rfl,hown,hs3⟩
  ·have h8:NewNums 3 w1 args (vs 8) w2:=by exact hk.2.2.1
   have h2:vs 2=.int .i64 dst:=by exact hk.1
   have h4:vs 4=.int .i32 imm:=by exact hk.2.1
   generalize vs 8=v8 at *
   obtain⟨na,nc,hv8⟩:=own_shape (show w2.ownsRow _ _ _ _ _ _ from h8)
   subst hv8
   clear hk
   go_wp2
   exact⟨_,rfl,⟨_,rfl,h8⟩,Since.refl _⟩
 ·skip
  obtain⟨o,hlen,_⟩:=o
  subst o
  obtain⟨a,b,hab⟩:∃ a b,args=[a,b]:=by
   match args,hlen with
   | [a,b],_=>exact⟨a,b,rfl⟩
  subst hab
  have ha:=hargs a (by simp)
  have hb:=hargs b (by simp)
  obtain⟨B,off,ac,hav⟩:=args_at A1.out.args.1 (Nat.succ_pos _)
  dsimp only[List.length_cons,List.length_nil,Nat.reduceAdd]at hav
  subst hav
  go_upto_region 11 with fail
  clear hc0 hbl
  refine wp_region_since_tail 14 rfl (by decide +kernel) (by decide +kernel) (by decide +kernel) (by decide)
   [Is (.pointer (some ⟨kb,0,none⟩)),Is (.pointer (some ⟨xb,1,none⟩)),Is (.int .i64 dst),Is (.pointer (some ⟨xb,2,none⟩)),Is (.int .i64 tw),Is (.pointer (some ⟨xb,3,none⟩)),Is (.slice (some ⟨B,off,none⟩) 2 ac),Is (.pointer (some ⟨B,off,none⟩)),Is (.int .i64 a),Is (.pointer (some ⟨xb,3,none⟩)),Is (.slice (some ⟨B,off,none⟩) 2 ac),Is (.pointer (some ⟨B,off+1,none⟩)),Is (.int .i64 b),Is (.agg #[.int .i64 29,.int .i64 dst,.int .i64 tw,.int .i64 a,.int .i64 b,.int .i64 0,.int .i32 0,.slice none 0 0])]
   (by repeat (first | exact trivial | refine⟨Is.stable _,?_⟩ | refine⟨Any.stable,?_⟩ | refine⟨IsNums.stable _ _,?_⟩)) ⟨?_,?_,?_,?_,?_,?_,?_,?_,?_,?_,?_,?_,?_,?_,trivial⟩ ?_
  rotate_right
  ·intro vs w2 hs hk
   simp only[List.take,List.drop,putAll,Act.put,KnowsAll,nthF,Is,List.setIfInBounds_toArray,List.set_cons_zero,List.set_cons_succ,Nat.reduceAdd]at hk ⊢
   try simp only[hk]
   obtain⟨m2,hm2⟩:∃ x,x=m0:=⟨_,rfl⟩
   have H2:=Lib.hid (H1.out.keep hs)
   have MV2:=Lib.hid (MV1.out.keep hs)
   have SM2:=SM1
   have A2:=Lib.hid (A1.out.keep hs)
   have MV2:=mv7_eq hm2 MV2
   rw[←hm2]at H2 SM2 A2
   clear hs hk hm2
   go_wp2_with fail
   refine (k7_put H2.out (SM2.out.mono (by decide)) ⟨⟨29,dst,tw,a,b,0,0,[]⟩,.slice none 0 0⟩ ⟨.nil _ _,Stays.nil _ _⟩ (fun q hq=>by cases hq) (mgood (by unfold In32;omega) hdst (by omega) (by omega) (by omega) (by omega) (by omega))).mono ?_
   rintro e w3 ⟨m3,⟨rfl,hm3,hn3⟩,h3,mv3⟩
   have H3:=Lib.hid h3
   have MV3:=Lib.hid (MV2.out.trans mv3)
   have SM3:=Lib.hid (SM2.out.mv mv3 (by decide) (by decide) (by decide))
   have A3:=Lib.hid (A2.out.mv mv3)
   clear h3 mv3 hm3 hn3
   go_wp2_with fail
   go_end0
   refine⟨_,?_,H3.out,MV3.out.more (by decide) (by decide) (by decide)⟩
   exact rfl
  all_goals
   intro vs w2 hs hk _
   simp only[List.take,putAll,Act.put,Knows,nthF,Is,List.setIfInBounds_toArray,List.set_cons_zero,List.set_cons_succ,Nat.reduceAdd]at hk ⊢
   try simp only[hk]
  ·go_wp2
   exact⟨_,rfl,rfl,Since.refl _⟩
  ·go_wp2
   exact⟨_,rfl,rfl,Since.refl _⟩
  ·have hbx:HeapIs w2 xb #[_,_,_,_,_] 181:=(A1.out.keep hs).box
   dsimp only at hbx
   have hc:=hbx.cell 1
   have hl:=hbx.lt
   clear hbx
   go_wp2
   exact⟨_,rfl,rfl,Since.refl _⟩
  ·go_wp2
   exact⟨_,rfl,rfl,Since.refl _⟩
  ·have hbx:HeapIs w2 xb #[_,_,_,_,_] 181:=(A1.out.keep hs).box
   dsimp only at hbx
   have hc:=hbx.cell 2
   have hl:=hbx.lt
   clear hbx
   go_wp2
   exact⟨_,rfl,rfl,Since.refl _⟩
  ·go_wp2
   exact⟨_,rfl,rfl,Since.refl _⟩
  ·have hbx:HeapIs w2 xb #[_,_,_,_,_] 181:=(A1.out.keep hs).box
   dsimp only at hbx
   have hc:=hbx.cell 3
   have hl:=hbx.lt
   clear hbx
   go_wp2
   exact⟨_,rfl,rfl,Since.refl _⟩
  ·go_wp2
   exact⟨_,rfl,rfl,Since.refl _⟩
  ·obtain⟨hc,hl⟩:=(A1.out.keep hs).at (j:=0) rfl (show _=some a from rfl)
   rw[Nat.add_zero]at hc
   go_wp2
   exact⟨_,rfl,rfl,Since.refl _⟩
  ·go_wp2
   exact⟨_,rfl,rfl,Since.refl _⟩
  ·have hbx:HeapIs w2 xb #[_,_,_,_,_] 181:=(A1.out.keep hs).box
   dsimp only at hbx
   have hc:=hbx.cell 3
   have hl:=hbx.lt
   clear hbx
   go_wp2
   exact⟨_,rfl,rfl,Since.refl _⟩
  ·go_wp2
   exact⟨_,rfl,rfl,Since.refl _⟩
  ·obtain⟨hc,hl⟩:=(A1.out.keep hs).at (j:=1) rfl (show _=some b from rfl)
   go_wp2
   exact⟨_,rfl,rfl,Since.refl _⟩
  ·go_wp2
   exact⟨_,rfl,rfl,Since.refl _⟩
end
end Go.Proofs.Ytkpbmbhejpmboaa
