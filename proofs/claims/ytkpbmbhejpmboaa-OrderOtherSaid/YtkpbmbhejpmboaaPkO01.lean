/- OrderOther: the walk. jacquardlaw17.OrderOther, of all values that may come in. -/
import Derived.Test.YtkpbmbhejpmboaaPkO00
import Derived.Test.YtkpbmbhejpmboaaPkB03
import Derived.Test.YtkpbmbhejpmboaaRows
import Derived.WalkKit
import Derived.WalkSpells
import Derived.WalkLawsBesides
import Derived.Lib.Hide
import Derived.Laws.AppendOwnNone
import Derived.Deep.Slices
import Derived.WideShapes
import Derived.RegionTactic
import Derived.OpenShut
namespace Go.Proofs.Ytkpbmbhejpmboaa
open Go.RowKit
set_option linter.unusedVariables false
structure OthK (p:PrgV) (n b:Nat) (X:BlkV) (c S2:Int) (tb tp:Nat):Prop where
 lt:tb<n
 two:c=2→S2=p.slots+1∧tb=0∧tp=0
 oth:c≠2→S2=p.slots∧tb=b∧∀ v,rightB ⟨p.params,p.k,p.slots,p.blocks.set b X,v⟩=true∧checkE p ⟨p.params,p.k,p.slots,p.blocks.set b X,v⟩=(50,b,tp)
structure OthS (w3:World) (p:PrgV) (qb xq:Nat) (S2:Int) (qv:Value) (X:BlkV) (w:World):Prop where
 q:HeapIs w qb #[.int .i64 p.params,.int .i64 p.k,.int .i64 S2,qv] 24
 row:OwnRow blcells 6 56 w3.heap.size w qv p.blocks
 x:HeapIs w xq #[X.insv,.int .i64 X.fin.op,.int .i64 X.fin.a,.int .i64 X.fin.b,X.fin.tov,.int .i32 X.fin.imm] 56
 xok:∀ w',Turn (fun q=>qv.ownBlock=some q) w w'→BlkOk w' X
 old:Since w3 w
 low:w3.heap.size≤qb∧w3.heap.size≤xq
 apart:∀ q,qv.ownBlock=some q→¬ q=xq
section
variable {w3 w w':World} {p : PrgV} {qb xq:Nat} {S2:Int} {qv:Value} {X : BlkV}
theorem OthS.since (h:OthS w3 p qb xq S2 qv X w) (s:Since w w') (hok:∀ w2,Turn (fun q=>qv.ownBlock=some q) w' w2→BlkOk w2 X):OthS w3 p qb xq S2 qv X w':=⟨h.q.keep s,h.row.keep s,h.x.keep s,hok,h.old.trans s,h.low,h.apart⟩
theorem OthS.turn {T : Nat→Prop} {U : TypeId} (h:OthS w3 p qb xq S2 qv X w) (t:Turn T w w') (k:Kin w U T) (h1:24≠U) (h2:56≠U) (hl:∀ q,q<w3.heap.size→¬ T q) (hok:∀ w2,Turn (fun q=>qv.ownBlock=some q) w' w2→BlkOk w2 X):OthS w3 p qb xq S2 qv X w':=
 ⟨h.q.turn t (k.heap h.q h1),own_turn (show w.ownsRow _ _ _ _ _ _ from h.row) t (k.apart (show w.ownsRow _ _ _ _ _ _ from h.row) h2),h.x.turn t (k.heap h.x h2),hok,t.toSince h.old fun q hq e=>hl q hq e,h.low,h.apart⟩
theorem OthS.newX {Y : BlkV} (h:OthS w3 p qb xq S2 qv X w) (t:Turn (fun q=>q=xq) w w') (hx:HeapIs w' xq #[Y.insv,.int .i64 Y.fin.op,.int .i64 Y.fin.a,.int .i64 Y.fin.b,Y.fin.tov,.int .i32 Y.fin.imm] 56) (hok:∀ w2,Turn (fun q=>qv.ownBlock=some q) w' w2→BlkOk w2 Y):OthS w3 p qb xq S2 qv Y w':=
 ⟨h.q.turn t ((Kin.box h.x).heap h.q (by decide)),own_turn (show w.ownsRow _ _ _ _ _ _ from h.row) t h.apart,hx,hok,t.toSince h.old fun q hq e=>by have:=h.low.2;omega,h.low,h.apart⟩
end
theorem xor1_ne (x:Int):bits .xor .i32 x 1≠x:=by
 intro h
 have h2:bits .xor .i32 x 1=IntKind.i32.wrap ((BitVec.ofInt 32 x ^^^ BitVec.ofInt 32 1).toNat:Nat):=rfl
 rw[h2,BitVec.toNat_xor,BitVec.toNat_ofInt,BitVec.toNat_ofInt,IntKind.wrap_i32]at h
 obtain⟨a,ha⟩:∃ a,(x % ((2 ^ 32:Nat):Int)).toNat=a:=⟨_,rfl⟩
 have h1:((1:Int) % ((2 ^ 32:Nat):Int)).toNat=1:=by decide
 rw[ha,h1]at h
 have h3:=Nat.testBit_xor a 1 0
 simp only[Nat.testBit_zero]at h3
 have hax:(a:Int)=x % 4294967296:=by rw[←ha];have:=Int.emod_nonneg x (show ((2 ^ 32:Nat):Int)≠0 by decide);omega
 by_cases h4:a % 2=1
 ·have h5:(a ^^^ 1) % 2=0:=by
   simp only[h4]at h3
   have:¬ (a ^^^ 1) % 2=1:=by simpa using h3
   omega
  omega
 ·have h5:(a ^^^ 1) % 2=1:=by
   simp only[h4]at h3
   simpa using h3
  omega
theorem set_last {l : List PlV} {n : Nat} {y : PlV} (hl:l.length=n+1) (hy:l[n]? = some y) (z:PlV):∃ a,l=a++[y]∧a.length=n∧l.set n z=a++[z]:=by
 rcases List.eq_nil_or_concat l with rfl|⟨a,b,rfl⟩
 ·simp at hl
 ·have hn:a.length=n:=by simpa using hl
  subst hn
  simp at hy
  subst hy
  exact⟨a,by simp,rfl,by simp⟩
theorem sameEnd_imm {e f:EndV} (h:e.imm≠f.imm):sameEndB e f=false:=by
 cases h9:sameEndB e f with
 | false=>rfl
 | true =>
  unfold sameEndB at h9
  simp at h9
  exact absurd h9.2.2.2.1 h
theorem b0_good {S : Int} {n : Nat} {il:List PlV} {iv v:Value} {e : EndV} (h:BGood S n ⟨il,iv,e⟩):BGood S n ⟨il++[⟨{ op:=3,d:=2,e:=0,a:=0,b:=0,c:=0,imm:=0,args:=[] },.slice none 0 0,-1⟩],v,e⟩:=⟨fun x hx=>by
 rcases List.mem_append.1 hx with hx|hx
 ·exact h.ins x hx
 ·rw[List.mem_singleton.1 hx];exact li_good S,h.fin⟩
set_option maxHeartbeats 8000000 in
set_option maxRecDepth 1000000 in
theorem walk_other (sv:Value) (s:List Int) (what nn:Int) (w:World) (h:Ints w sv s) (hsv:∀ q,sv.ownBlock=some q→q<w.heap.size):Calls Try.prog 10 #[sv,.int .i64 what,.int .i64 nn] w (TellsS true w):=by
 obtain⟨sa,sc,hv⟩:=nums_lenI h
 obtain⟨sl,hsl⟩:∃ x,s.length=x:=⟨_,rfl⟩
 rw[hsl]at hv
 subst hv
 have H:=Lib.hid h
 have HSV:=Lib.hid hsv
 clear h hsv hsl
 go_enter Try.func10,Try.ntmps10
 go_wp2_with fail
 refine (awake_any _).mono ?_
 rintro e w1 ⟨rfl,hs1⟩
 have HS1:=Lib.hid hs1
 clear hs1
 go_wp2_with fail
 refine (seed17_any (.slice sa sl sc) s w1 (H.out.keep HS1.out) fun q hq=>Nat.lt_of_lt_of_le (HSV.out q hq) HS1.out.size).mono ?_
 rintro e w1b ⟨v,rfl,hw,hv,hvl⟩
 have e9:=hw.symm
 clear hw
 subst e9
 have HV:=Lib.hid hv
 have HVL:=Lib.hid hvl
 clear hv hvl
 go_wp2_with fail
 refine (made12_any v (s.take 300) w1 HV.out HVL.out (by rw[List.length_take];omega)).mono ?_
 rintro e w2 ⟨p,rfl,hk,hmp,hs2⟩
 have HS2:=Lib.hid (HS1.out.trans hs2)
 have HGP:=Lib.hid (hmp.good hk)
 have HMP:=Lib.hid hmp
 have HBL:=Lib.hid hmp.blocks
 obtain⟨pp,pk,ps,pbl,pbv⟩:=p
 obtain⟨pa,pc,hpv⟩:=OwnRow.shape hmp.row
 obtain⟨n,hn⟩:∃ z,pbl.length=z:=⟨_,rfl⟩
 dsimp only at hpv HBL
 rw[hn]at hpv HBL
 subst hpv
 have HN:=Lib.hid hn
 have hn9:=HBL.out
 have hps:0≤ps∧ps≤16000:=HGP.out.slots
 unfold pv
 dsimp only
 clear hk hmp hs2 hn
 go_upto_region 3 with fail
 obtain⟨pb,hpb⟩:∃ z,z=w2.heap.size:=⟨_,rfl⟩
 obtain⟨w3,hw3⟩:∃ z,z=w2.alloc (.cells #[.int .i64 pp,.int .i64 pk,.int .i64 ps,.slice pa n pc] 24):=⟨_,rfl⟩
 have HPB:=Lib.hid (show HeapIs w3 pb #[.int .i64 pp,.int .i64 pk,.int .i64 ps,.slice pa n pc] 24 from by rw[hw3,hpb];exact HeapIs.new _ _ _)
 have HS23:=Lib.hid (show Since w2 w3 from by rw[hw3];exact (Since.refl _).alloc _)
 have HMP3:=Lib.hid (HMP.out.keep HS23.out)
 rw[←hw3,←hpb]
 clear hw3 hpb HMP
 have hp0:=HPB.out.cell 0
 have hp1:=HPB.out.cell 1
 have hp2:=HPB.out.cell 2
 have hp3:=HPB.out.cell 3
 have hpl:=HPB.out.lt
 go_wp2_with fail
 refine (rest_any nn n w3 (by omega) (by omega)).mono ?_
 rintro e w3b ⟨rfl,hw⟩
 have e9:=hw
 clear hw
 subst e9
 obtain⟨b,hb⟩:∃ b:Nat,restI nn n=b:=⟨(restI nn n).toNat,by have:=restI_bd nn n (by omega);omega⟩
 have hbn:b<n:=by have:=restI_bd nn n (by omega);omega
 rw[hb]
 clear hb
 obtain⟨blk,hblk⟩:∃ k,pbl[b]? = some k:=⟨_,List.getElem?_eq_getElem (by rw[HN.out];exact hbn)⟩
 have HBLK:=Lib.hid hblk
 clear hblk
 obtain⟨il,iv,eop,ea,eb,eto,etov,eimm⟩:=blk
 have hbin:=HMP3.out.each _ (List.mem_of_getElem? HBLK.out)
 have hbsrc:=HGP.out.src _ (List.mem_of_getElem? HBLK.out)
 have hbgood:=HGP.out.each _ (List.mem_of_getElem? HBLK.out)
 obtain⟨ia,ic,hiv⟩:=own_shape (show w3.ownsRow _ _ _ _ _ _ from hbin.ins)
 obtain⟨ta,tc,htv⟩:=own_shape hbin.goals
 dsimp only at hiv htv
 obtain⟨kl,hkl⟩:∃ z,il.length=z:=⟨_,rfl⟩
 obtain⟨tl,htl⟩:∃ z,eto.length=z:=⟨_,rfl⟩
 rw[hkl]at hiv
 rw[htl]at htv
 subst hiv htv
 have HKL:=Lib.hid hkl
 have HTL:=Lib.hid htl
 have HBSRC:=Lib.hid hbsrc
 have HBGOOD:=Lib.hid hbgood
 have HPLS:=Lib.hid (show Pls w3 (.slice ia kl ic) il from row_own_in plcells_len hbin.ins fun y hy=>by
  have h2:=hbin.each y hy
  exact⟨nums_of_own h2.args,h2.good.fine,fun q hq=>(World.ownsRow.lt h2.args q hq).2⟩)
 have HTO:=Lib.hid (show Ints w3 (.slice ta tl tc) eto from nums_of_own hbin.goals)
 have HKB:=Lib.hid (show kl≤40000 from by have h1:=ptotal_mem (List.mem_of_getElem? HBLK.out);have h2:=HGP.out.total;dsimp only at h1 h2;omega)
 have HIMM:=Lib.hid (show True from trivial)
 clear hbin hbsrc hbgood hkl htl
 have HNB:=Lib.hid (show n≤9 from by omega)
 go_upto_region 5 with fail
 obtain⟨qb,hqb⟩:∃ z,z=w3.heap.size:=⟨_,rfl⟩
 obtain⟨w4,hw4⟩:∃ z,z=w3.alloc (.cells #[.int .i64 pp,.int .i64 pk,.int .i64 ps,.slice pa n pc] 24):=⟨_,rfl⟩
 have HQB:=Lib.hid (show HeapIs w4 qb #[.int .i64 pp,.int .i64 pk,.int .i64 ps,.slice pa n pc] 24 from by rw[hw4,hqb];exact HeapIs.new _ _ _)
 have HS34:=Lib.hid (show Since w3 w4 from by rw[hw4];exact (Since.refl _).alloc _)
 have HQL:=Lib.hid (show w3.heap.size≤qb from by omega)
 rw[←hw4,←hqb]
 clear hw4 hqb
 have HNW:=Lib.hid (show w4.heap.size≤(w4.alloc (.cells #[] 56)).heap.size from by simp)
 have HPB4:=Lib.hid (HPB.out.keep (HS34.out.alloc (.cells #[] 56)))
 have HSRC:=Lib.hid (show SrcIs (w4.alloc (.cells #[] 56)) (.slice pa n pc) n (pbl.flatMap blcells) from by
  have h9:=blks_src (HMP3.out.keep (HS34.out.alloc (.cells #[] 56))).ok.1
  dsimp only at h9
  rw[HN.out]at h9
  exact h9)
 have HLN:=Lib.hid (show (pbl.flatMap blcells).length=n*6 from by rw[blks_flat,HN.out])
 have HON:=Lib.hid (blks_one HMP3.out.ok.1)
 clear hp0 hp1 hp2 hp3 hpl
 have hp3:=HPB4.out.cell 3
 have hpl:=HPB4.out.lt
 go_upto_region 6 with (refine wpList_append_clone (w0:=w4) rfl _ _ 22 rfl 56 (.agg #[.slice none 0 0,.int .i64 0,.int .i64 0,.int .i64 0,.slice none 0 0,.int .i32 0]) 6 80 Try.underlying22 (by kernel_rfl) rfl (by decide) (by decide) (.slice (some ⟨w4.heap.size,0,none⟩) 0 0) (.slice pa n pc) n (pbl.flatMap blcells) rfl rfl (IsNilOf.new (Nat.le_refl _)) HSRC.out HLN.out (by omega) HON.out HNW.out ?_;intro v6 w6 hown6 hs6;obtain⟨g6,c6,hv6,hg6,hg6b,hrow6⟩:=own_blks_at hown6 HN.out (by omega);subst hv6;have HROW6:=Lib.hid hrow6;have HS6:=Lib.hid ((HS34.out.alloc _).trans hs6);have HG6:=Lib.hid (And.intro hg6 hg6b);have hq6:=HQB.out.keep (((Since.refl _).alloc _).trans hs6);have HQ6:=Lib.hid hq6;have hqc:=hq6.cell 3;have hql:=hq6.lt;have hqf:=hq6.frozen;clear hown6 hs6 hg6 hg6b hrow6 hq6 hp3 hpl)
 obtain⟨w7,hw7⟩:∃ z,z=w6.setCell ⟨qb,3,none⟩ (.slice (some ⟨g6,0,none⟩) n c6):=⟨_,rfl⟩
 have ht7:Turn (fun q=>q=qb) w6 w7:=by rw[hw7];exact (Turn.refl (fun q=>q=qb) w6).setCell (p:=⟨qb,3,none⟩) rfl _
 have HQ7:=Lib.hid (show HeapIs w7 qb #[.int .i64 pp,.int .i64 pk,.int .i64 ps,.slice (some ⟨g6,0,none⟩) n c6] 24 from by rw[hw7];exact HQ6.out.set 3 _)
 have HROW7:=Lib.hid (show OwnRow blcells 6 56 w3.heap.size w7 (.slice (some ⟨g6,0,none⟩) n c6) pbl from own_low (own_turn (show w6.ownsRow _ _ _ _ _ _ from HROW6.out) ht7 (Kin.apart (Kin.box HQ6.out) (show w6.ownsRow _ _ _ _ _ _ from HROW6.out) (by decide))) HS34.out.size)
 have HS7:=Lib.hid (show Since w3 w7 from ht7.toSince HS6.out fun q hq e=>by have:=HQL.out;omega)
 rw[←hw7]
 clear hw7 ht7 hqc hql hqf HQ6 HROW6 HPB4 HSRC
 have hcb:=own_cellAt blcells_len HROW7.out HBLK.out
 have c0:w7.cell? ⟨g6,b*6,none⟩=some (.slice ia kl ic):=hcb.1 0 (by decide)
 have c1:w7.cell? ⟨g6,b*6+1,none⟩=some (.int .i64 eop):=hcb.1 1 (by decide)
 have c2:w7.cell? ⟨g6,b*6+2,none⟩=some (.int .i64 ea):=hcb.1 2 (by decide)
 have c3:w7.cell? ⟨g6,b*6+3,none⟩=some (.int .i64 eb):=hcb.1 3 (by decide)
 have c4:w7.cell? ⟨g6,b*6+4,none⟩=some (.slice ta tl tc):=hcb.1 4 (by decide)
 have c5:w7.cell? ⟨g6,b*6+5,none⟩=some (.int .i32 eimm):=hcb.1 5 (by decide)
 have cl:=hcb.2.1
 have hq3:=HQ7.out.cell 3
 have hql:=HQ7.out.lt
 clear hcb
 go_upto_region 7 with fail
 obtain⟨xq,hxq⟩:∃ z,z=w7.heap.size:=⟨_,rfl⟩
 obtain⟨w8,hw8⟩:∃ z,z=w7.alloc (.cells #[.slice ia kl ic,.int .i64 eop,.int .i64 ea,.int .i64 eb,.slice ta tl tc,.int .i32 eimm] 56):=⟨_,rfl⟩
 have HX8:=Lib.hid (show HeapIs w8 xq #[.slice ia kl ic,.int .i64 eop,.int .i64 ea,.int .i64 eb,.slice ta tl tc,.int .i32 eimm] 56 from by rw[hw8,hxq];exact HeapIs.new _ _ _)
 have HS78:=Lib.hid (show Since w7 w8 from by rw[hw8];exact (Since.refl _).alloc _)
 have HXL:=Lib.hid (show w3.heap.size≤xq∧g6<xq∧qb<xq from⟨by rw[hxq];exact HS7.out.size,by rw[hxq];exact cl,by rw[hxq];exact hql⟩)
 rw[←hw8,←hxq]
 clear hw8 hxq c0 c1 c2 c3 c4 c5 cl hq3 hql
 have hx0:=HX8.out.cell 0
 have hxl:=HX8.out.lt
 go_wp2_with fail
 refine (rest_any what 4 w8 (by omega) (by omega)).mono ?_
 rintro e w8b ⟨rfl,hw⟩
 have e9:=hw
 clear hw
 subst e9
 have HR4:=Lib.hid (restI_bd what 4 (by omega))
 obtain⟨R,hR⟩:∃ r,restI what 4=r:=⟨_,rfl⟩
 rw[hR]
 rw[hR]at HR4
 have HRR:=Lib.hid hR
 clear hR hx0 hxl
 have HST:=Lib.hid (show OthS w3 ⟨pp,pk,ps,pbl,.slice pa n pc⟩ qb xq ps (.slice (some ⟨g6,0,none⟩) n c6) ⟨il,.slice ia kl ic,⟨eop,ea,eb,eto,.slice ta tl tc,eimm⟩⟩ w8 from⟨HQ7.out.keep HS78.out,HROW7.out.keep HS78.out,HX8.out,fun w2 t2=>BlkOk.keep _ _ _ (show BlkOk w3 ⟨il,.slice ia kl ic,⟨eop,ea,eb,eto,.slice ta tl tc,eimm⟩⟩ from⟨HPLS.out,HTO.out,by rw[HKL.out];have:=HKB.out;omega⟩) (t2.toSince (HS7.out.trans HS78.out) fun q hq e=>by have h9:=(World.ownsRow.lt (show w7.ownsRow _ _ _ _ _ _ from HROW7.out) q e).1;omega),HS7.out.trans HS78.out,⟨HQL.out,HXL.out.1⟩,fun q hq e=>by have h1:g6=q:=Option.some.inj hq;have:=HXL.out.2.1;omega⟩)
 have HP8:=Lib.hid (HPB.out.keep HST.out.old)
 clear HQ7 HROW7 HX8
 go_upto_block 0 with fail
 refine wp_cut (fun a9 wz=>∃ (S2:Int) (tb tp:Nat),FrT [(1,.int .i64 what),(7,.bool true),(8,.pointer (some ⟨pb,0,none⟩)),(9,.int .i64 tb),(10,.pointer (some ⟨qb,0,none⟩)),(11,.pointer (some ⟨xq,0,none⟩)),(13,.int .i64 tp)] a9∧∃ X,OthS w3 ⟨pp,pk,ps,pbl,.slice pa n pc⟩ qb xq S2 (.slice (some ⟨g6,0,none⟩) n c6) X wz∧OthK ⟨pp,pk,ps,pbl,.slice pa n pc⟩ n b X R S2 tb tp) ?_ ?_
 case refine_2 =>
  intro J K' hJ hK'
  have HJJ:=Lib.hid hJ
  have HKK:=Lib.hid hK'
  clear hJ hK'
  have HPO:=Lib.hid (fun (y:PlV) (hy:y∈il)=>show PlOk w3 y from RowIn.each_of HPLS.out y hy)
  have HBOK3:=Lib.hid (show BlkOk w3 ⟨il,.slice ia kl ic,⟨eop,ea,eb,eto,.slice ta tl tc,eimm⟩⟩ from⟨HPLS.out,HTO.out,by rw[HKL.out];have:=HKB.out;omega⟩)
  have HBGOODN:=Lib.hid (show BGood ps n ⟨il,.slice ia kl ic,⟨eop,ea,eb,eto,.slice ta tl tc,eimm⟩⟩ from by have h9:=HBGOOD.out;rw[HN.out]at h9;exact h9)
  have HGL:=Lib.hid (show w3.heap.size≤g6 from (World.ownsRow.lt (show w8.ownsRow _ _ _ _ _ _ from HST.out.row) g6 rfl).1)
  rcases (by have:=HR4.out;omega:R=0∨R=1∨R=2∨R=3) with rfl|rfl|rfl|rfl
  ·
   have hx0:=HST.out.x.cell 0
   have hxl:=HST.out.x.lt
   have HNW2:=Lib.hid (show w8.heap.size≤(w8.alloc (.cells #[] 58)).heap.size from by simp)
   have HSR2:=Lib.hid (show SrcIs (w8.alloc (.cells #[] 58)) (.slice ia kl ic) kl (il.flatMap plcells) from by
    have h9:=pls_src (RowIn.keep PlOk.keep HPLS.out (HST.out.old.alloc (.cells #[] 58)))
    rw[HKL.out]at h9
    exact h9)
   have HLN2:=Lib.hid (show (il.flatMap plcells).length=kl*9 from by rw[pls_flat,HKL.out])
   have HON2:=Lib.hid (pls_one HPLS.out)
   have HKB2:=Lib.hid (show kl≤100000 from by have:=HKB.out;omega)
   go_wp2_with (first | (refine wpList_append_clone (w0:=w8) rfl _ _ 54 rfl 58 (.agg #[.int .i64 0,.int .i64 0,.int .i64 0,.int .i64 0,.int .i64 0,.int .i64 0,.int .i32 0,.slice none 0 0,.int .i64 0]) 9 88 Try.underlying54 (by kernel_rfl) rfl (by decide) (by decide) (.slice (some ⟨w8.heap.size,0,none⟩) 0 0) (.slice ia kl ic) kl (il.flatMap plcells) rfl rfl (IsNilOf.new (Nat.le_refl _)) HSR2.out HLN2.out HKB2.out HON2.out HNW2.out ?_;intro v9 w9 hown9 hs9;obtain⟨xa,xc,hx9⟩:=own_shape hown9;subst hx9;have HOWN9:=Lib.hid (show OwnRow plcells 9 58 w8.heap.size (w9.alloc (.cells #[.int .i64 3,.int .i64 2,.int .i64 0,.int .i64 0,.int .i64 0,.int .i64 0,.int .i32 0,.slice none 0 0,.int .i64 (-1)] 58)) (.slice xa kl xc) il from by have e8:=HKL.out;unfold OwnRow;rw[e8];exact own_keep hown9 ((Since.refl _).alloc _));have HS9:=Lib.hid ((((Since.refl w8).alloc _).trans hs9).alloc (.cells #[.int .i64 3,.int .i64 2,.int .i64 0,.int .i64 0,.int .i64 0,.int .i64 0,.int .i32 0,.slice none 0 0,.int .i64 (-1)] 58));have K2:=Lib.hid (show il.length+1≤100001 from by rw[HKL.out];have:=HKB2.out;omega);have K3:=Lib.hid (show w8.heap.size≤(w9.alloc (.cells #[.int .i64 3,.int .i64 2,.int .i64 0,.int .i64 0,.int .i64 0,.int .i64 0,.int .i32 0,.slice none 0 0,.int .i64 (-1)] 58)).heap.size from HS9.out.size);clear hown9 hs9 hx0 hxl) | (refine wpList_append_one2 (base:=w8.heap.size) plcells 9 plcells_len (by decide) rfl _ _ 54 rfl 58 (.agg #[.int .i64 0,.int .i64 0,.int .i64 0,.int .i64 0,.int .i64 0,.int .i64 0,.int .i32 0,.slice none 0 0,.int .i64 0]) 88 Try.underlying54 (by kernel_rfl) rfl (.slice xa kl xc) il ⟨{ op:=3,d:=2,e:=0,a:=0,b:=0,c:=0,imm:=0,args:=[] },.slice none 0 0,-1⟩ w9.heap.size 1 58 rfl rfl HOWN9.out (HeapIs.new _ _ _) (by simp[plcells,Value.oneCell']) (by have:=K2.out;unfold maxLen;omega) (by have:=K2.out;omega) K3.out ?_;intro v11 w11 hown11 ht11 hnew11;obtain⟨ya,yc,hy11⟩:=OwnRow.shape hown11;rw[List.length_append,HKL.out]at hy11;subst hy11;have HOWN11:=Lib.hid hown11;have HT11:=Lib.hid ht11;have HSW11:=Lib.hid (ht11.toSince (HST.out.old.trans HS9.out) fun q hq e=>by have h1:=(World.ownsRow.lt (show World.ownsRow _ _ _ _ _ _ _ from HOWN9.out) q e).1;have:=HST.out.old.size;omega);have HST11:=Lib.hid ((HST.out.since HS9.out (fun w2 t2=>BlkOk.keep _ _ _ HBOK3.out (t2.toSince (HST.out.old.trans HS9.out) fun q hq e=>by have h1:g6=q:=Option.some.inj e;have:=HGL.out;omega))).turn ht11 (Kin.row (show World.ownsRow _ _ _ _ _ _ _ from HOWN9.out)) (by decide) (by decide) (fun q hq e=>by have h1:=(World.ownsRow.lt (show World.ownsRow _ _ _ _ _ _ _ from HOWN9.out) q e).1;have:=HST.out.old.size;omega) (fun w2 t2=>BlkOk.keep _ _ _ HBOK3.out (t2.toSince HSW11.out fun q hq e=>by have h1:g6=q:=Option.some.inj e;have:=HGL.out;omega)));have hx0:=HST11.out.x.cell 0;have hxl:=HST11.out.x.lt;have hxf:=HST11.out.x.frozen;clear hown11 ht11 hnew11))
   have HT12:=Lib.hid (show Turn (fun q=>q=xq) w11 (w11.setCell ⟨xq,0,none⟩ (.slice ya (kl+1) yc)) from (Turn.refl (fun q=>q=xq) w11).setCell (p:=⟨xq,0,none⟩) rfl _)
   have HX12:=HST11.out.x.set 0 (.slice ya (kl+1) yc)
   have HS12:=Lib.hid (show Since w3 (w11.setCell ⟨xq,0,none⟩ (.slice ya (kl+1) yc)) from HT12.out.toSince HSW11.out fun q hq e=>by have:=HST11.out.low.2;omega)
   have HOW12:=Lib.hid (own_turn (show World.ownsRow _ _ _ _ _ _ _ from HOWN11.out) HT12.out ((Kin.box HST11.out.x).apart (show World.ownsRow _ _ _ _ _ _ _ from HOWN11.out) (by decide)))
   have HRW12:=own_turn (show World.ownsRow _ _ _ _ _ _ _ from HST11.out.row) HT12.out HST11.out.apart
   refine HKK.out _ _ (Met.intro (HJJ.out _ _ ⟨ps,b,kl,(frT_mk rfl rfl (sl_cons rfl (sl_cons rfl (sl_cons rfl (sl_cons rfl (sl_cons rfl (sl_cons rfl (sl_cons rfl (sl_nil _))))))))),⟨il++[⟨{ op:=3,d:=2,e:=0,a:=0,b:=0,c:=0,imm:=0,args:=[] },.slice none 0 0,-1⟩],.slice ya (kl+1) yc,⟨eop,ea,eb,eto,.slice ta tl tc,eimm⟩⟩,HST11.out.newX HT12.out HX12 fun w2 t2=>?_,⟨hbn,fun h=>absurd h (by decide),fun _=>⟨rfl,rfl,fun v=>⟨HGP.out.set (y:=⟨il++[⟨{ op:=3,d:=2,e:=0,a:=0,b:=0,c:=0,imm:=0,args:=[] },.slice none 0 0,-1⟩],.slice ya (kl+1) yc,⟨eop,ea,eb,eto,.slice ta tl tc,eimm⟩⟩) rfl rfl rfl rfl HBLK.out (b0_good HBGOOD.out) (by simp),check_set HGP.out.right (HGP.out.set (y:=⟨il++[⟨{ op:=3,d:=2,e:=0,a:=0,b:=0,c:=0,imm:=0,args:=[] },.slice none 0 0,-1⟩],.slice ya (kl+1) yc,⟨eop,ea,eb,eto,.slice ta tl tc,eimm⟩⟩) rfl rfl rfl rfl HBLK.out (b0_good HBGOOD.out) (by simp)) rfl rfl rfl rfl HBLK.out (by have h9:=block_more (l:=il) (y:=⟨{ op:=3,d:=2,e:=0,a:=0,b:=0,c:=0,imm:=0,args:=[] },.slice none 0 0,-1⟩) (v:=.slice ia kl ic) (v':=.slice ya (kl+1) yc) (e:=⟨eop,ea,eb,eto,.slice ta tl tc,eimm⟩) (e':=⟨eop,ea,eb,eto,.slice ta tl tc,eimm⟩);rw[HKL.out]at h9;exact h9)⟩⟩⟩⟩))
   have HS2w:=t2.toSince HS12.out fun q hq e=>by have h1:g6=q:=Option.some.inj e;have:=HGL.out;omega
   have hrow2:=own_turn HOW12.out t2 ((Kin.row HRW12).apart HOW12.out (by decide))
   refine⟨row_own_in plcells_len hrow2 fun y hy=>?_,HTO.out.keep HS2w,by show (il++[_]).length≤100000;rw[List.length_append,HKL.out];have:=HKB.out;simp;omega⟩
   rcases List.mem_append.1 hy with hy|hy
   ·exact PlOk.keep _ _ _ (HPO.out y hy) HS2w
   ·rw[List.mem_singleton.1 hy]
    exact⟨Nums.nil _ _,⟨by decide,by decide,by decide⟩,fun q hq=>by cases hq⟩
  ·
   obtain⟨PB,pc2,hpv2,_,hPB,hrowp⟩:=own_blks_at (show w3.ownsRow _ _ _ _ pbl.length _ from HMP3.out.row) rfl (by rw[HN.out];omega)
   have hcb:=own_cellAt blcells_len (hrowp.keep HST.out.old) HBLK.out
   have hpv3:pa=some ⟨PB,0,none⟩:=by injection hpv2
   subst hpv3
   have c5:w8.cell? ⟨PB,b*6+5,none⟩=some (.int .i32 eimm):=hcb.1 5 (by decide)
   have cl:=hcb.2.1
   have hp3:=HP8.out.cell 3
   have hpl:=HP8.out.lt
   have hx1:=HST.out.x.cell 1
   have hx2:=HST.out.x.cell 2
   have hx3:=HST.out.x.cell 3
   have hx4:=HST.out.x.cell 4
   have hx5:=HST.out.x.cell 5
   have hxl:=HST.out.x.lt
   have hxf:=HST.out.x.frozen
   clear hcb hrowp hpv2 hPB
   go_wp2_with fail
   have HT12:=Lib.hid (show Turn (fun q=>q=xq) w8 (((((w8.setCell ⟨xq,1,none⟩ (.int .i64 8)).setCell ⟨xq,2,none⟩ (.int .i64 0)).setCell ⟨xq,3,none⟩ (.int .i64 0)).setCell ⟨xq,4,none⟩ (.slice none 0 0)).setCell ⟨xq,5,none⟩ (.int .i32 (bits .xor .i32 eimm 1))) from ((((((Turn.refl (fun q=>q=xq) w8).setCell (p:=⟨xq,1,none⟩) rfl _).setCell (p:=⟨xq,2,none⟩) rfl _).setCell (p:=⟨xq,3,none⟩) rfl _).setCell (p:=⟨xq,4,none⟩) rfl _).setCell (p:=⟨xq,5,none⟩) rfl _))
   have HX12:=(((((HST.out.x.set 1 (.int .i64 8)).set 2 (.int .i64 0)).set 3 (.int .i64 0)).set 4 (.slice none 0 0)).set 5 (.int .i32 (bits .xor .i32 eimm 1)))
   have HS12:=Lib.hid (show Since w3 (((((w8.setCell ⟨xq,1,none⟩ (.int .i64 8)).setCell ⟨xq,2,none⟩ (.int .i64 0)).setCell ⟨xq,3,none⟩ (.int .i64 0)).setCell ⟨xq,4,none⟩ (.slice none 0 0)).setCell ⟨xq,5,none⟩ (.int .i32 (bits .xor .i32 eimm 1))) from HT12.out.toSince HST.out.old fun q hq e=>by have:=HST.out.low.2;omega)
   have hse:sameEndB ⟨eop,ea,eb,eto,.slice ta tl tc,eimm⟩ ⟨8,0,0,[],.slice none 0 0,bits .xor .i32 eimm 1⟩=false:=by
    exact sameEnd_imm (fun h=>xor1_ne eimm h.symm)
   refine HKK.out _ _ (Met.intro (HJJ.out _ _ ⟨ps,b,kl,(frT_mk rfl rfl (sl_cons rfl (sl_cons rfl (sl_cons rfl (sl_cons rfl (sl_cons rfl (sl_cons rfl (sl_cons rfl (sl_nil _))))))))),⟨il,.slice ia kl ic,⟨8,0,0,[],.slice none 0 0,bits .xor .i32 eimm 1⟩⟩,HST.out.newX HT12.out HX12 fun w2 t2=>?_,⟨hbn,fun h=>absurd h (by decide),fun _=>⟨rfl,rfl,fun v=>⟨HGP.out.set (y:=⟨il,.slice ia kl ic,⟨8,0,0,[],.slice none 0 0,bits .xor .i32 eimm 1⟩⟩) rfl rfl rfl rfl HBLK.out ⟨HBGOOD.out.ins,trap_good _ _ _⟩ (Nat.le_succ _),check_set HGP.out.right (HGP.out.set (y:=⟨il,.slice ia kl ic,⟨8,0,0,[],.slice none 0 0,bits .xor .i32 eimm 1⟩⟩) rfl rfl rfl rfl HBLK.out ⟨HBGOOD.out.ins,trap_good _ _ _⟩ (Nat.le_succ _)) rfl rfl rfl rfl HBLK.out (by have h9:=block_end (l:=il) (v:=.slice ia kl ic) (v':=.slice ia kl ic) hse;rw[HKL.out]at h9;exact h9)⟩⟩⟩⟩))
   have HS2w:=t2.toSince HS12.out fun q hq e=>by have h1:g6=q:=Option.some.inj e;have:=HGL.out;omega
   exact⟨RowIn.keep PlOk.keep HPLS.out HS2w,Nums.nil _ _,by rw[HKL.out];have:=HKB.out;omega⟩
  ·
   have hp2:=HP8.out.cell 2
   have hpl:=HP8.out.lt
   have hq2:=HST.out.q.cell 2
   have hql:=HST.out.q.lt
   have hqf:=HST.out.q.frozen
   have hw9:wrap64 (ps+1)=ps+1:=by unfold wrap64;omega
   go_wp2_with fail
   have HT12:=Lib.hid (show Turn (fun q=>q=qb) w8 (w8.setCell ⟨qb,2,none⟩ (.int .i64 (ps+1))) from (Turn.refl (fun q=>q=qb) w8).setCell (p:=⟨qb,2,none⟩) rfl _)
   have HS12:=Lib.hid (show Since w3 (w8.setCell ⟨qb,2,none⟩ (.int .i64 (ps+1))) from HT12.out.toSince HST.out.old fun q hq e=>by have:=HST.out.low.1;omega)
   have k:=Kin.box HST.out.q
   refine HKK.out _ _ (Met.intro (HJJ.out _ _ ⟨ps+1,0,0,(frT_mk rfl rfl (sl_cons rfl (sl_cons rfl (sl_cons rfl (sl_cons rfl (sl_cons rfl (sl_cons rfl (sl_cons rfl (sl_nil _))))))))),⟨il,.slice ia kl ic,⟨eop,ea,eb,eto,.slice ta tl tc,eimm⟩⟩,⟨HST.out.q.set 2 (.int .i64 (ps+1)),own_turn (show w8.ownsRow _ _ _ _ _ _ from HST.out.row) HT12.out (k.apart (show w8.ownsRow _ _ _ _ _ _ from HST.out.row) (by decide)),HST.out.x.turn HT12.out (k.heap HST.out.x (by decide)),fun w2 t2=>BlkOk.keep _ _ _ HBOK3.out (t2.toSince HS12.out fun q hq e=>by have h1:g6=q:=Option.some.inj e;have:=HGL.out;omega),HS12.out,HST.out.low,HST.out.apart⟩,⟨by omega,fun _=>⟨rfl,rfl,rfl⟩,fun h=>absurd rfl h⟩⟩))
  ·
   by_cases hk0:kl=0
   ·subst hk0
    go_wp2_with fail
    go_ret
    exact⟨rfl,(HS2.out.trans HS23.out).trans HST.out.old⟩
   ·obtain⟨kn,rfl⟩:∃ kn,kl=kn+1:=⟨kl-1,by omega⟩
    have hkz:(((kn+1:Nat):Int)==0)=false:=by rw[beq_eq_false_iff_ne];omega
    have hx0:=HST.out.x.cell 0
    have hxl:=HST.out.x.lt
    have HNW2:=Lib.hid (show w8.heap.size≤(w8.alloc (.cells #[] 58)).heap.size from by simp)
    have HSR2:=Lib.hid (show SrcIs (w8.alloc (.cells #[] 58)) (.slice ia (kn+1) ic) (kn+1) (il.flatMap plcells) from by
     have h9:=pls_src (RowIn.keep PlOk.keep HPLS.out (HST.out.old.alloc (.cells #[] 58)))
     rw[HKL.out]at h9
     exact h9)
    have HLN2:=Lib.hid (show (il.flatMap plcells).length=(kn+1)*9 from by rw[pls_flat,HKL.out])
    have HON2:=Lib.hid (pls_one HPLS.out)
    have HKB2:=Lib.hid (show kn+1≤100000 from by have:=HKB.out;omega)
    go_upto_region 13 with (refine wpList_append_clone (w0:=w8) rfl _ _ 54 rfl 58 (.agg #[.int .i64 0,.int .i64 0,.int .i64 0,.int .i64 0,.int .i64 0,.int .i64 0,.int .i32 0,.slice none 0 0,.int .i64 0]) 9 88 Try.underlying54 (by kernel_rfl) rfl (by decide) (by decide) (.slice (some ⟨w8.heap.size,0,none⟩) 0 0) (.slice ia (kn+1) ic) (kn+1) (il.flatMap plcells) rfl rfl (IsNilOf.new (Nat.le_refl _)) HSR2.out HLN2.out HKB2.out HON2.out HNW2.out ?_;intro v9 w9 hown9 hs9;obtain⟨g9,c9,hv9,hg9,hg9b,hrow9⟩:=own_pls_at hown9 HKL.out (by omega);subst hv9;have HROW9:=Lib.hid hrow9;have HS89:=Lib.hid (((Since.refl w8).alloc _).trans hs9);have HG9:=Lib.hid (And.intro hg9 hg9b);clear hown9 hs9 hg9 hg9b hrow9 hx0 hxl)
    obtain⟨y,hy⟩:∃ y,il[kn]? = some y:=⟨_,List.getElem?_eq_getElem (by rw[HKL.out];omega)⟩
    have hks:((kn+1:Nat):Int)-1=(kn:Int):=by omega
    have hr9:=own_cellAt plcells_len HROW9.out hy
    have c8:w9.cell? ⟨g9,kn*9+8,none⟩=some (.int .i64 y.src):=hr9.1 8 (by decide)
    have cl:=hr9.2.1
    have cf:=hr9.2.2
    have HY:=Lib.hid hy
    have hkb9:kn+1≤40000:=HKB.out
    clear hr9 hy
    go_upto_region 14 with fail
    clear c8 cl cf
    obtain⟨w10,hw10⟩:∃ z,z=w9.setCell ⟨g9,kn*9+8,none⟩ (.int .i64 77777):=⟨_,rfl⟩
    have HT10:=Lib.hid (show Turn (fun q=>q=g9) w9 w10 from by rw[hw10];exact (Turn.refl (fun q=>q=g9) w9).setCell (p:=⟨g9,kn*9+8,none⟩) rfl _)
    have HROW10:=Lib.hid (show OwnRow plcells 9 58 w8.heap.size w10 (.slice (some ⟨g9,0,none⟩) (kn+1) c9) (il.set kn ⟨y.m,y.av,77777⟩) from by rw[hw10];exact row_setSrc 77777 HROW9.out HY.out)
    rw[←hw10]
    clear hw10
    have HK9:=Lib.hid (show Kin w9 58 (fun q=>q=g9) from fun q e=>by
     obtain⟨cur,hc⟩:=own_heap (show w9.ownsRow _ _ _ _ _ _ from HROW9.out) (q:=g9) rfl
     exact⟨cur,by rw[e];exact hc⟩)
    have HS38:=Lib.hid (HST.out.old.trans HS89.out)
    have HSW10:=Lib.hid (show Since w3 w10 from HT10.out.toSince HS38.out fun q hq e=>by have:=HG9.out.1;have:=HST.out.old.size;omega)
    have HST10:=Lib.hid ((HST.out.since HS89.out (fun w2 t2=>BlkOk.keep _ _ _ HBOK3.out (t2.toSince HS38.out fun q hq e=>by have h1:g6=q:=Option.some.inj e;have:=HGL.out;omega))).turn HT10.out HK9.out (by decide) (by decide) (fun q hq e=>by have:=HG9.out.1;have:=HST.out.old.size;omega) (fun w2 t2=>BlkOk.keep _ _ _ HBOK3.out (t2.toSince HSW10.out fun q hq e=>by have h1:g6=q:=Option.some.inj e;have:=HGL.out;omega)))
    have hx0:=HST10.out.x.cell 0
    have hxl:=HST10.out.x.lt
    have hxf:=HST10.out.x.frozen
    go_wp2_with fail
    have HT12:=Lib.hid (show Turn (fun q=>q=xq) w10 (w10.setCell ⟨xq,0,none⟩ (.slice (some ⟨g9,0,none⟩) (kn+1) c9)) from (Turn.refl (fun q=>q=xq) w10).setCell (p:=⟨xq,0,none⟩) rfl _)
    have HX12:=HST10.out.x.set 0 (.slice (some ⟨g9,0,none⟩) (kn+1) c9)
    have HS12:=Lib.hid (show Since w3 (w10.setCell ⟨xq,0,none⟩ (.slice (some ⟨g9,0,none⟩) (kn+1) c9)) from HT12.out.toSince HSW10.out fun q hq e=>by have:=HST10.out.low.2;omega)
    have HOW12:=Lib.hid (own_turn (show World.ownsRow _ _ _ _ _ _ _ from HROW10.out) HT12.out ((Kin.box HST10.out.x).apart (show World.ownsRow _ _ _ _ _ _ _ from HROW10.out) (by decide)))
    have HRW12:=own_turn (show World.ownsRow _ _ _ _ _ _ _ from HST10.out.row) HT12.out HST10.out.apart
    obtain⟨il0,hi1,hi2,hi3⟩:=set_last HKL.out HY.out ⟨y.m,y.av,77777⟩
    have hbe:blocksE ⟨il,.slice ia (kn+1) ic,⟨eop,ea,eb,eto,.slice ta tl tc,eimm⟩⟩ ⟨il.set kn ⟨y.m,y.av,77777⟩,.slice (some ⟨g9,0,none⟩) (kn+1) c9,⟨eop,ea,eb,eto,.slice ta tl tc,eimm⟩⟩=(kn,false):=by
     have h9:=block_src (a:=il0) (y:=y) (y':=⟨y.m,y.av,77777⟩) (v:=.slice ia (kn+1) ic) (v':=.slice (some ⟨g9,0,none⟩) (kn+1) c9) (e:=⟨eop,ea,eb,eto,.slice ta tl tc,eimm⟩) (by
      intro z hz h
      rw[←hi1]at hz
      have h1:=HBSRC.out z hz
      have h2:z.src=77777:=h
      omega)
     rw[←hi1,←hi3,hi2]at h9
     exact h9
    have hbg:BGood ps n ⟨il.set kn ⟨y.m,y.av,77777⟩,.slice (some ⟨g9,0,none⟩) (kn+1) c9,⟨eop,ea,eb,eto,.slice ta tl tc,eimm⟩⟩:=⟨fun x hx=>by
     rcases List.mem_or_eq_of_mem_set hx with hx|rfl
     ·exact HBGOODN.out.ins x hx
     ·exact HBGOODN.out.ins y (List.mem_of_getElem? HY.out),HBGOODN.out.fin⟩
    refine HKK.out _ _ (Met.intro (HJJ.out _ _ ⟨ps,b,kn,(frT_mk rfl rfl (sl_cons rfl (sl_cons rfl (sl_cons rfl (sl_cons rfl (sl_cons rfl (sl_cons rfl (sl_cons rfl (sl_nil _))))))))),⟨il.set kn ⟨y.m,y.av,77777⟩,.slice (some ⟨g9,0,none⟩) (kn+1) c9,⟨eop,ea,eb,eto,.slice ta tl tc,eimm⟩⟩,HST10.out.newX HT12.out HX12 fun w2 t2=>?_,⟨hbn,fun h=>absurd h (by decide),fun _=>⟨rfl,rfl,fun v=>⟨HGP.out.set (y:=⟨il.set kn ⟨y.m,y.av,77777⟩,.slice (some ⟨g9,0,none⟩) (kn+1) c9,⟨eop,ea,eb,eto,.slice ta tl tc,eimm⟩⟩) rfl rfl rfl rfl HBLK.out (by have h9:=hbg;rw[←HN.out]at h9;exact h9) (by show (il.set kn _).length≤_;rw[List.length_set];exact Nat.le_succ _),check_set HGP.out.right (HGP.out.set (y:=⟨il.set kn ⟨y.m,y.av,77777⟩,.slice (some ⟨g9,0,none⟩) (kn+1) c9,⟨eop,ea,eb,eto,.slice ta tl tc,eimm⟩⟩) rfl rfl rfl rfl HBLK.out (by have h9:=hbg;rw[←HN.out]at h9;exact h9) (by show (il.set kn _).length≤_;rw[List.length_set];exact Nat.le_succ _)) rfl rfl rfl rfl HBLK.out hbe⟩⟩⟩⟩))
    have HS2w:=t2.toSince HS12.out fun q hq e=>by have h1:g6=q:=Option.some.inj e;have:=HGL.out;omega
    have hrow2:=own_turn HOW12.out t2 ((Kin.row HRW12).apart HOW12.out (by decide))
    refine⟨row_own_in plcells_len hrow2 fun z hz=>?_,HTO.out.keep HS2w,by show (il.set kn _).length≤100000;rw[List.length_set,HKL.out];omega⟩
    rcases List.mem_or_eq_of_mem_set hz with hz|rfl
    ·exact PlOk.keep _ _ _ (HPO.out z hz) HS2w
    ·exact PlOk.keep _ _ _ (HPO.out y (List.mem_of_getElem? HY.out)) HS2w
 clear HST HP8
 intro a1 wc hcut
 obtain⟨S2,tb,tp,hf,X,hS,hK⟩:=hcut
 obtain⟨u,ha0,hu⟩:=frameT_ex hf
 obtain⟨g1,g2,s1,s7,s8,s9,s10,s11,s13,g3⟩:=hf
 have e1:=hu 1 _ s1
 have e7:=hu 7 _ s7
 have e8:=hu 8 _ s8
 have e9:=hu 9 _ s9
 have e10:=hu 10 _ s10
 have e11:=hu 11 _ s11
 have e13:=hu 13 _ s13
 rw[e1,e7,e8,e9,e10,e11,e13]at ha0
 subst ha0
 clear hu g1 g2 g3 e1 s1 e7 s7 e8 s8 e9 s9 e10 s10 e11 s11 e13 s13
 obtain⟨XI,XV,⟨fo,fa,fb,ft,fv,fi⟩⟩:=X
 have HS:=Lib.hid hS
 have HK:=Lib.hid hK
 have hbtn:tb<n:=hK.lt
 have hxo:=hS.xok wc (Turn.refl _ _)
 obtain⟨xia,xic,hxv,_⟩:=RowIn.shape hxo.1
 obtain⟨fta,ftc,hfv⟩:=nums_lenI hxo.2.1
 obtain⟨xil,hxil⟩:∃ z,XI.length=z:=⟨_,rfl⟩
 obtain⟨ftl,hftl⟩:∃ z,ft.length=z:=⟨_,rfl⟩
 dsimp only at hxv hfv
 rw[hxil]at hxv
 rw[hftl]at hfv
 subst hxv hfv
 obtain⟨bt,hbt⟩:∃ k,pbl[tb]? = some k:=⟨_,List.getElem?_eq_getElem (by rw[HN.out];exact hbtn)⟩
 have hcb:=own_cellAt blcells_len hS.row hbt
 have c0:=hcb.1 0 (by decide)
 have c1:=hcb.1 1 (by decide)
 have c2:=hcb.1 2 (by decide)
 have c3:=hcb.1 3 (by decide)
 have c4:=hcb.1 4 (by decide)
 have c5:=hcb.1 5 (by decide)
 simp only[blcells,List.getElem?_cons_zero,List.getElem?_cons_succ,Nat.add_zero]at c0 c1 c2 c3 c4 c5
 have cl:=hcb.2.1
 have cf:=hcb.2.2
 have hq3:=hS.q.cell 3
 have hql:=hS.q.lt
 have hx0:=hS.x.cell 0
 have hx1:=hS.x.cell 1
 have hx2:=hS.x.cell 2
 have hx3:=hS.x.cell 3
 have hx4:=hS.x.cell 4
 have hx5:=hS.x.cell 5
 have hxl:=hS.x.lt
 clear hS hK hxo hcb hbt hxil hftl
 go_upto_region 25 with fail
 clear c0 c1 c2 c3 c4 c5 cl cf hq3 hql hx0 hx1 hx2 hx3 hx4 hx5 hxl
 obtain⟨wd,hwd⟩:∃ z,z=((((((wc.setCell ⟨g6,tb*6,none⟩ (.slice xia xil xic)).setCell ⟨g6,tb*6+1,none⟩ (.int .i64 fo)).setCell ⟨g6,tb*6+2,none⟩ (.int .i64 fa)).setCell ⟨g6,tb*6+3,none⟩ (.int .i64 fb)).setCell ⟨g6,tb*6+4,none⟩ (.slice fta ftl ftc)).setCell ⟨g6,tb*6+5,none⟩ (.int .i32 fi)):=⟨_,rfl⟩
 have HGL:=Lib.hid (show w3.heap.size≤g6 from (World.ownsRow.lt (show wc.ownsRow _ _ _ _ _ _ from HS.out.row) g6 rfl).1)
 have HTD:=Lib.hid (show Turn (fun q=>q=g6) wc wd from by rw[hwd];exact (((((((Turn.refl (fun q=>q=g6) wc).setCell (p:=⟨g6,tb*6,none⟩) rfl _).setCell (p:=⟨g6,tb*6+1,none⟩) rfl _).setCell (p:=⟨g6,tb*6+2,none⟩) rfl _).setCell (p:=⟨g6,tb*6+3,none⟩) rfl _).setCell (p:=⟨g6,tb*6+4,none⟩) rfl _).setCell (p:=⟨g6,tb*6+5,none⟩) rfl _))
 have HTE:=Lib.hid (show Turn (fun q=>(Value.slice (some ⟨g6,0,none⟩) n c6).ownBlock=some q) wc wd from by rw[hwd];exact (((((((Turn.refl (fun q=>(Value.slice (some ⟨g6,0,none⟩) n c6).ownBlock=some q) wc).setCell (p:=⟨g6,tb*6,none⟩) rfl _).setCell (p:=⟨g6,tb*6+1,none⟩) rfl _).setCell (p:=⟨g6,tb*6+2,none⟩) rfl _).setCell (p:=⟨g6,tb*6+3,none⟩) rfl _).setCell (p:=⟨g6,tb*6+4,none⟩) rfl _).setCell (p:=⟨g6,tb*6+5,none⟩) rfl _))
 have HRD:=Lib.hid (show OwnRow blcells 6 56 w3.heap.size wd (.slice (some ⟨g6,0,none⟩) n c6) (pbl.set tb ⟨XI,.slice xia xil xic,⟨fo,fa,fb,ft,.slice fta ftl ftc,fi⟩⟩) from by rw[hwd];exact row_setBlk ⟨XI,.slice xia xil xic,⟨fo,fa,fb,ft,.slice fta ftl ftc,fi⟩⟩ HS.out.row (by show tb<pbl.length;rw[HN.out];exact hbtn))
 rw[←hwd]
 clear hwd
 have HKD:=Lib.hid (show Kin wc 56 (fun q=>q=g6) from fun q e=>by
  obtain⟨cur,hc⟩:=own_heap (show wc.ownsRow _ _ _ _ _ _ from HS.out.row) (q:=g6) rfl
  exact⟨cur,by rw[e];exact hc⟩)
 have HSD:=Lib.hid (show Since w3 wd from HTD.out.toSince HS.out.old fun q hq e=>by have:=HGL.out;omega)
 have HXO:=Lib.hid (show BlkOk wd ⟨XI,.slice xia xil xic,⟨fo,fa,fb,ft,.slice fta ftl ftc,fi⟩⟩ from HS.out.xok wd HTE.out)
 have HQD:=Lib.hid (HS.out.q.turn HTD.out (HKD.out.heap HS.out.q (by decide)))
 have HPD:=Lib.hid (HPB.out.keep HSD.out)
 have HOKP:=Lib.hid (show PrgOk w3 ⟨pp,pk,ps,pbl,.slice pa n pc⟩ from HMP3.out.ok)
 go_wp2_with fail
 refine (rest_any what 4 wd (by omega) (by omega)).mono ?_
 rintro e wd2 ⟨rfl,hw⟩
 have e9:=hw
 clear hw
 subst e9
 rw[HRR.out]
 by_cases hR2:R=2
 ·subst hR2
  obtain⟨e1,e2,e3⟩:=HK.out.two rfl
  dsimp only at e1
  subst e1 e2 e3
  clear HK HS
  have hp3:=HPD.out.cell 3
  have hpl:=HPD.out.lt
  have hq3:=HQD.out.cell 3
  have hql:=HQD.out.lt
  have hqf:=HQD.out.frozen
  go_upto_region 27 with fail
  clear hp3 hpl hq3 hql hqf
  obtain⟨we,hwe⟩:∃ z,z=wd.setCell ⟨qb,3,none⟩ (.slice pa n pc):=⟨_,rfl⟩
  have HQE:=Lib.hid (show HeapIs we qb #[.int .i64 pp,.int .i64 pk,.int .i64 (ps+1),.slice pa n pc] 24 from by rw[hwe];exact HQD.out.set 3 _)
  have HSE:=Lib.hid (show Since w3 we from by rw[hwe];exact ((Turn.refl (fun q=>q=qb) wd).setCell (p:=⟨qb,3,none⟩) rfl _).toSince HSD.out fun q hq e=>by have:=HQL.out;omega)
  have HPE:=Lib.hid (HPB.out.keep HSE.out)
  rw[←hwe]
  clear hwe
  have p0:=HPE.out.cell 0
  have p1:=HPE.out.cell 1
  have p2:=HPE.out.cell 2
  have p3:=HPE.out.cell 3
  have pl:=HPE.out.lt
  have q0:=HQE.out.cell 0
  have q1:=HQE.out.cell 1
  have q2:=HQE.out.cell 2
  have q3:=HQE.out.cell 3
  have ql:=HQE.out.lt
  have HC:=check_any ⟨pp,pk,ps,pbl,.slice pa n pc⟩ ⟨pp,pk,ps+1,pbl,.slice pa n pc⟩ we (HOKP.out.keep HSE.out) (HOKP.out.keep HSE.out)
  rw[show checkE ⟨pp,pk,ps,pbl,.slice pa n pc⟩ ⟨pp,pk,ps+1,pbl,.slice pa n pc⟩=(50,0,0) from check_slots HGP.out.right (HGP.out.more rfl rfl rfl rfl) (by show ps+1≠ps;omega)]at HC
  unfold pv at HC
  dsimp only at HC
  have HCC:=Lib.hid HC
  clear HC
  go_wp2_with fail
  refine HCC.out.mono ?_
  clear HCC p0 p1 p2 p3 pl q0 q1 q2 q3 ql
  rintro e w9 ⟨rfl,hs9⟩
  have HS9:=Lib.hid hs9
  clear hs9
  go_wp2_with fail
  go_ret
  exact⟨rfl,(HS2.out.trans HS23.out).trans (HSE.out.trans HS9.out)⟩
 ·obtain⟨e1,e2,hck⟩:=HK.out.oth hR2
  dsimp only at e1 hck
  subst e1 e2
  have HCK:=Lib.hid (hck (.slice (some ⟨g6,0,none⟩) n c6))
  have HRN:=Lib.hid hR2
  have hb2:(R==2)=false:=by rw[beq_eq_false_iff_ne];exact hR2
  clear HK HS hck
  have HOKQ:=Lib.hid (show PrgOk wd ⟨pp,pk,S2,pbl.set tb ⟨XI,.slice xia xil xic,⟨fo,fa,fb,ft,.slice fta ftl ftc,fi⟩⟩,.slice (some ⟨g6,0,none⟩) n c6⟩ from⟨row_own_in blcells_len HRD.out fun y hy=>by
   rcases List.mem_or_eq_of_mem_set hy with hy|rfl
   ·exact BlkOk.keep _ _ _ (RowIn.each_of HOKP.out.1 y hy) HSD.out
   ·exact HXO.out,by show (pbl.set _ _).length≤100000;rw[List.length_set,HN.out];omega⟩)
  have p0:=HPD.out.cell 0
  have p1:=HPD.out.cell 1
  have p2:=HPD.out.cell 2
  have p3:=HPD.out.cell 3
  have pl:=HPD.out.lt
  have q0:=HQD.out.cell 0
  have q1:=HQD.out.cell 1
  have q2:=HQD.out.cell 2
  have q3:=HQD.out.cell 3
  have ql:=HQD.out.lt
  have HC:=check_any ⟨pp,pk,S2,pbl,.slice pa n pc⟩ ⟨pp,pk,S2,pbl.set tb ⟨XI,.slice xia xil xic,⟨fo,fa,fb,ft,.slice fta ftl ftc,fi⟩⟩,.slice (some ⟨g6,0,none⟩) n c6⟩ wd (HOKP.out.keep HSD.out) HOKQ.out
  rw[show checkE ⟨pp,pk,S2,pbl,.slice pa n pc⟩ ⟨pp,pk,S2,pbl.set tb ⟨XI,.slice xia xil xic,⟨fo,fa,fb,ft,.slice fta ftl ftc,fi⟩⟩,.slice (some ⟨g6,0,none⟩) n c6⟩=(50,tb,tp) from HCK.out.2]at HC
  unfold pv at HC
  dsimp only at HC
  have HCC:=Lib.hid HC
  clear HC
  go_wp2_with fail
  refine HCC.out.mono ?_
  clear HCC p0 p1 p2 p3 pl q0 q1 q2 q3 ql
  rintro e w9 ⟨rfl,hs9⟩
  have HS9:=Lib.hid hs9
  clear hs9
  go_wp2_with fail
  go_ret
  exact⟨rfl,(HS2.out.trans HS23.out).trans (HSD.out.trans HS9.out)⟩
open Go.RowKit Go.ChangeShapes Go.WideShapes
set_option maxRecDepth 100000 in
theorem law_other {H : Type} {enc:TypeId × Value→H} {W : World} {base:Nat} {held:Bool} {r : Reach} {b0:Nat} {d0:DataW H} {p0:List MemPlace} (v0:Value) (what n:Int)
  (k0:Value.okWide Try.prog W r b0 25 v0) (h0:DataW.Trod enc Try.prog W base (fun _=>true) held 25 v0 d0 p0) (h1:(Lit.int .i64 what).wf=true) (h2:(Lit.int .i64 n).wf=true) :
  Calls Try.prog 10 #[v0,.int .i64 what,.int .i64 n] W (TellsS true W):=by
 obtain⟨l,hl,_⟩:=ints_open k0 h0
 exact walk_other v0 l what n W hl (okWide_lt Try.underlying25 k0)
end Go.Proofs.Ytkpbmbhejpmboaa
