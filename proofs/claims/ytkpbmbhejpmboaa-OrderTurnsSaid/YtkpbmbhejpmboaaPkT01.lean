/- jacquardref17.Moved: a program, all its blocks in other orders. jacquardlaw17.OrderTurns walked. An array of two rows of numbers that came in. -/
import Derived.Test.YtkpbmbhejpmboaaPkT00
import Derived.Test.YtkpbmbhejpmboaaPkB03
import Derived.Test.YtkpbmbhejpmboaaPkB07
import Derived.Test.YtkpbmbhejpmboaaPkB34
import Derived.Test.YtkpbmbhejpmboaaPkB41
import Derived.Test.YtkpbmbhejpmboaaPkB44
import Derived.WalkKit
import Derived.WalkSpells
import Derived.WalkLawsBesides
import Derived.Test.YtkpbmbhejpmboaaRows
import Derived.Lib.Hide
import Derived.Laws.AppendOwnNone
import Derived.Laws.EntriesVeiled
import Derived.Lib.AppendZeros
import Derived.Deep.QuietTactic
import Derived.BigQuiet
import Derived.Laws.CopyOwn
import Derived.Laws.BitsLemmas
import Derived.Laws.Rows
import Derived.Deep.CutBlock
import Derived.Deep.MidRow
import Derived.OwnWalk
import Derived.Deep.CutRange
import Derived.RegionTactic
import Derived.ChangeAlike
import Derived.RangeFuncNested
import Derived.RangeFuncBound
import Derived.RangeFuncCalls
import Derived.RangeFuncLeaves
import Derived.Shelf.Abstract
import Derived.Shelf.RegionOpen
import Derived.OwnWalkIn
import Derived.TacticsInMore
import Derived.LoopNIn
import Derived.LoopIn
import Derived.OpenShut
namespace Go.Proofs.Ytkpbmbhejpmboaa
open Go.RowKit Lib Go.ChangeShapes Go.WideShapes
set_option linter.unusedVariables false
set_option maxHeartbeats 16000000
set_option maxRecDepth 1000000
def PutV (l:List PlV) (B:Nat) (v:Value) (w:World):Prop:=∃ m,OwnRow plcells 9 58 B w v m∧TE kdep (l.map key) (m.map key)∧∀ x∈m,x∈l
theorem PutV.stable (l:List PlV) (B:Nat):Stable (PutV l B):=fun v w w' ⟨m,h1,h2⟩ s=>⟨m,h1.keep s,h2⟩
def BlkV1 (l:List PlV) (e:EndV) (B:Nat) (v:Value) (w:World):Prop:=∃ iv m,v=.agg #[iv,.int .i64 e.op,.int .i64 e.a,.int .i64 e.b,e.tov,.int .i32 e.imm]∧OwnRow plcells 9 58 B w iv m∧TE kdep (l.map key) (m.map key)∧∀ x∈m,x∈l
theorem BlkV1.stable (l:List PlV) (e:EndV) (B:Nat):Stable (BlkV1 l e B):=fun v w w' ⟨iv,m,h0,h1,h2⟩ s=>⟨iv,m,h0,h1.keep s,h2⟩
def BlkR (l:List PlV) (e:EndV) (B:Nat) (v:Value) (w:World):Prop:=∃ iv m,OwnRow blcells 6 56 B w v [⟨m,iv,e⟩]∧OwnRow plcells 9 58 B w iv m∧TE kdep (l.map key) (m.map key)∧∀ x∈m,x∈l
theorem BlkR.stable (l:List PlV) (e:EndV) (B:Nat):Stable (BlkR l e B):=fun v w w' ⟨iv,m,h0,h1,h2⟩ s=>⟨iv,m,h0.keep s,h1.keep s,h2⟩
theorem blk_one {B : Nat} {w : World} {ta:Option Addr} {tl tc:Nat} {y : BlkV} (h:OwnRow plcells 9 58 B w y.insv y.ins):y.fin.tov=.slice ta tl tc→∀ u∈[y].flatMap blcells,u.oneCell'=true:=by
 intro ht u hu;obtain⟨a1,c1,e1⟩:=OwnRow.shape h;simp only[List.flatMap_cons,List.flatMap_nil,List.append_nil,blcells,List.mem_cons,List.not_mem_nil,or_false]at hu;rcases hu with rfl|rfl|rfl|rfl|rfl|rfl<;>first|rfl|(rw[e1];rfl)|(rw[ht];rfl)
structure MovW (w0:World) (pb rb ob:Nat) (P:Array Value) (pp pk ps:Int) (pbl:List BlkV) (ov:Value) (out:List BlkV) (w:World):Prop where
 p:HeapIs w pb P 24
 r:HeapIs w rb #[.int .i64 0,.int .i64 0,.int .i64 0,.slice none 0 0] 24
 o:HeapIs w ob #[.int .i64 pp,.int .i64 pk,.int .i64 ps,ov] 24
 row:OwnRow blcells 6 56 w0.heap.size w ov out
 each:∀ (t:Nat) (x:BlkV),out[t]? = some x→∃ a,pbl[t]? = some a∧x.fin=a.fin∧OwnRow plcells 9 58 w0.heap.size w x.insv x.ins∧TE kdep (a.ins.map key) (x.ins.map key)∧∀ z∈x.ins,z∈a.ins
 low:w0.heap.size≤rb∧w0.heap.size≤ob∧rb≠ob∧pb≠ob∧pb≠rb
 old:Since w0 w
theorem MovW.keep {w0 w w':World} {pb rb ob:Nat} {P : Array Value} {pp pk ps:Int} {pbl out:List BlkV} {ov:Value} (h:MovW w0 pb rb ob P pp pk ps pbl ov out w) (s:Since w w'):MovW w0 pb rb ob P pp pk ps pbl ov out w':=
 ⟨h.p.keep s,h.r.keep s,h.o.keep s,h.row.keep s,fun t x hx=>by obtain⟨a,h1,h2,h3,h4⟩:=h.each t x hx;exact⟨a,h1,h2,h3.keep s,h4⟩,h.low,h.old.trans s⟩
theorem MovW.put {w0 w w6:World} {pb rb ob:Nat} {P : Array Value} {pp pk ps:Int} {pbl out:List BlkV} {ov v':Value} {a y:BlkV} (h:MovW w0 pb rb ob P pp pk ps pbl ov out w) (hown:OwnRow blcells 6 56 w0.heap.size w6 v' (out++[y])) (t:Turn (fun q=>ov.ownBlock=some q) w w6) (ha:pbl[out.length]? = some a)
  (hf:y.fin=a.fin) (hr:OwnRow plcells 9 58 w0.heap.size w y.insv y.ins) (hte:TE kdep (a.ins.map key) (y.ins.map key)∧∀ z∈y.ins,z∈a.ins):MovW w0 pb rb ob P pp pk ps pbl v' (out++[y]) (w6.setCell ⟨ob,3,none⟩ v'):=by
 have k:=Kin.row (show w.ownsRow _ _ _ _ _ _ from h.row);have hlo:∀ q,ov.ownBlock=some q→w0.heap.size≤q:=fun q hq=>(World.ownsRow.lt (show w.ownsRow _ _ _ _ _ _ from h.row) q hq).1
 have hb:=h.o.turn t (k.heap h.o (by decide));have t2:Turn (fun q=>q=ob) w6 (w6.setCell ⟨ob,3,none⟩ v'):=(Turn.refl (fun q=>q=ob) w6).setCell (p:=⟨ob,3,none⟩) rfl _;have k2:=Kin.box hb;have hp:∀ x:BlkV,OwnRow plcells 9 58 w0.heap.size w x.insv x.ins→OwnRow plcells 9 58 w0.heap.size (w6.setCell ⟨ob,3,none⟩ v') x.insv x.ins:=fun x hx=>by
  have h1:=own_turn (show w.ownsRow _ _ _ _ _ _ from hx) t (k.apart (show w.ownsRow _ _ _ _ _ _ from hx) (by decide));exact own_turn h1 t2 (k2.apart h1 (by decide))
 refine⟨(h.p.turn t (k.heap h.p (by decide))).turn t2 (fun e=>h.low.2.2.2.1 e),(h.r.turn t (k.heap h.r (by decide))).turn t2 (fun e=>h.low.2.2.1 e),hb.set 3 v',own_turn (show w6.ownsRow _ _ _ _ _ _ from hown) t2 (k2.apart (show w6.ownsRow _ _ _ _ _ _ from hown) (by decide)),fun s x hx=>?_,h.low,t2.toSince (t.toSince h.old fun q hq e=>by have:=hlo q e;omega) fun q hq e=>by have:=h.low.2.1;omega⟩;by_cases hs:s<out.length
 ·rw[List.getElem?_append_left hs]at hx;obtain⟨a,h1,h2,h3,h4⟩:=h.each s x hx;exact⟨a,h1,h2,hp x h3,h4⟩
 ·have hs2:s=out.length:=by
   have:=(List.getElem?_eq_some_iff.1 hx).1;rw[List.length_append]at this;simp at this;omega
  subst hs2;rw[List.getElem?_append_right (Nat.le_refl _),Nat.sub_self]at hx
  cases hx
  exact⟨a,ha,hf,hp _ hr,hte⟩
def MovedQ (p:PrgV) (w:World) (e:Ending) (w':World):Prop:=∃ q:PrgV,e=.returned (pv q)∧(PrgOk w' q∧OwnRow blcells 6 56 w.heap.size w' q.bv q.blocks∧∀ x∈q.blocks,OwnRow plcells 9 58 w.heap.size w' x.insv x.ins)∧MovedP p q∧Since w w'
theorem moved_any (p:PrgV) (s:List Int) (sv:Value) (w:World) (hp:PrgOk w p) (hs:Ints w sv s) (hn:p.blocks.length≤1000) (hi:∀ b∈p.blocks,b.ins.length≤50000):Calls Try.prog 34 #[pv p,sv] w (MovedQ p w):=by
 obtain⟨pp,pk,ps,pbl,pbv⟩:=p;obtain⟨pa,pc,hpv,_⟩:=RowIn.shape hp.1;obtain⟨sa,sc,hsv⟩:=nums_lenI hs;obtain⟨n,hnn⟩:∃ z,pbl.length=z:=⟨_,rfl⟩
 obtain⟨sl,hsl⟩:∃ z,s.length=z:=⟨_,rfl⟩
 dsimp only at hpv hn hi;rw[hnn]at hpv hn;rw[hsl]at hsv;subst hpv hsv;have HP:=hid (show Blks w (.slice pa n pc) pbl from hp.1)
 have HSV:=hid hs;have HN:=hid hnn;have HI:=hid hi;clear hp hs hnn hsl hi;unfold pv;dsimp only;go_enter Try.func34,Try.ntmps34
 go_upto_region 3 with fail
 obtain⟨wa,hwa⟩:∃ z,z=w.alloc (.cells #[.int .i64 pp,.int .i64 pk,.int .i64 ps,.slice pa n pc] 24):=⟨_,rfl⟩
 obtain⟨wb,hwb⟩:∃ z,z=wa.alloc (.cells #[.int .i64 0,.int .i64 0,.int .i64 0,.slice none 0 0] 24):=⟨_,rfl⟩
 obtain⟨w1,hw1⟩:∃ z,z=wb.alloc (.cells #[.int .i64 pp,.int .i64 pk,.int .i64 ps,.slice none 0 0] 24):=⟨_,rfl⟩
 have za:wa.heap.size=w.heap.size+1:=by rw[hwa];simp
 have zb:wb.heap.size=w.heap.size+1+1:=by rw[hwb];simp[za]
 have sa':Since w wa:=by rw[hwa];exact (Since.refl _).alloc _
 have sb':Since wa wb:=by rw[hwb];exact (Since.refl _).alloc _
 have se':Since wb w1:=by rw[hw1];exact (Since.refl _).alloc _
 obtain⟨pb,hpb⟩:∃ z,z=w.heap.size:=⟨_,rfl⟩
 obtain⟨rb,hrb⟩:∃ z,z=w.heap.size+1:=⟨_,rfl⟩
 obtain⟨ob,hob⟩:∃ z,z=w.heap.size+1+1:=⟨_,rfl⟩
 have HB:=hid (show MovW w pb rb ob #[.int .i64 pp,.int .i64 pk,.int .i64 ps,.slice pa n pc] pp pk ps pbl (.slice none 0 0) [] w1 from by
  have k1:HeapIs wa pb #[.int .i64 pp,.int .i64 pk,.int .i64 ps,.slice pa n pc] 24:=by rw[hwa,hpb];exact HeapIs.new _ _ _
  have k2:HeapIs wb rb #[.int .i64 0,.int .i64 0,.int .i64 0,.slice none 0 0] 24:=by rw[hwb,hrb,←za];exact HeapIs.new _ _ _
  have k3:HeapIs w1 ob #[.int .i64 pp,.int .i64 pk,.int .i64 ps,.slice none 0 0] 24:=by rw[hw1,hob,←zb];exact HeapIs.new _ _ _
  exact⟨k1.keep (sb'.trans se'),k2.keep se',k3,OwnRow.nil _ _ _ _ _,fun t x h=>(by cases h),by omega,(sa'.trans sb').trans se'⟩)
 rw[←hwa,←hwb,←hw1,←hob,←hrb,←hpb];clear hwa hwb hw1 hob hrb hpb za zb sa' sb' se';go_wp2_with fail
 go_loopw [6] (fun iv wr=>∃ (i:Nat) (v:Value) (out:List BlkV),iv=.int .i64 i∧i≤n∧out.length=i∧MovW w pb rb ob #[.int .i64 pp,.int .i64 pk,.int .i64 ps,.slice pa n pc] pp pk ps pbl v out wr) (fun iv _=>n-(intOf iv).toNat)
 case atStart=>exact⟨0,_,[],rfl,Nat.zero_le _,rfl,HB.out⟩
 case round =>
  clear HB;obtain⟨i,v,out,rfl,hi,hol,hst⟩:=hrel;obtain⟨va,vc,hv⟩:=OwnRow.shape hst.row;rw[hol]at hv;subst hv;have HST:=hid hst;have HOL:=hid hol;have hp3:=hst.p.cell 3;have hpl:=hst.p.lt;clear hst hol;by_cases hlt:i<n
  ·obtain⟨PB,poff,y,he,hB,hy,hcy,hyin⟩:=RowIn.at (RowIn.keep BlkOk.keep HP.out HST.out.old) (show i<pbl.length by rw[HN.out];exact hlt)
   cases he
   obtain⟨il,iv,⟨eop,ea,eb,eto,etov,eimm⟩⟩:=y;obtain⟨ia,ic,hiv,_⟩:=RowIn.shape hyin.1;obtain⟨ta,tc,htv⟩:=nums_lenI hyin.2.1;obtain⟨kl,hkl⟩:∃ z,il.length=z:=⟨_,rfl⟩
   obtain⟨tl,htl⟩:∃ z,eto.length=z:=⟨_,rfl⟩
   dsimp only at hiv htv;rw[hkl]at hiv;rw[htl]at htv;subst hiv htv;have HC0:=hid (show wr.cell? ⟨PB,poff+i*6,none⟩=some (.slice ia kl ic) from hcy 0 (by decide))
   have HLT:=hid hB;have HC1:=hid (fun (w5:World) (s5:Since wr w5)=>show w5.cell? ⟨PB,poff+i*6+1,none⟩=some (.int .i64 eop)∧w5.cell? ⟨PB,poff+i*6+2,none⟩=some (.int .i64 ea)∧w5.cell? ⟨PB,poff+i*6+3,none⟩=some (.int .i64 eb)∧w5.cell? ⟨PB,poff+i*6+4,none⟩=some (.slice ta tl tc)∧w5.cell? ⟨PB,poff+i*6+5,none⟩=some (.int .i32 eimm) from
    ⟨(s5.cell (p:=⟨PB,_,none⟩) HLT.out).trans (hcy 1 (by decide)),(s5.cell (p:=⟨PB,_,none⟩) HLT.out).trans (hcy 2 (by decide)),(s5.cell (p:=⟨PB,_,none⟩) HLT.out).trans (hcy 3 (by decide)),(s5.cell (p:=⟨PB,_,none⟩) HLT.out).trans (hcy 4 (by decide)),(s5.cell (p:=⟨PB,_,none⟩) HLT.out).trans (hcy 5 (by decide))⟩)
   have HKY:=hid hy;have HYIN:=hid hyin;have HPUT:=hid (fun (w5:World) (s5:Since wr w5)=>put_any il s (.slice ia kl ic) (.slice sa sl sc) w5 (RowIn.keep PlOk.keep (show Pls wr (.slice ia kl ic) il from hyin.1) s5) (HSV.out.keep (HST.out.old.trans s5)) (by have h9:=HI.out _ (List.mem_of_getElem? hy);exact h9))
   clear hy hcy hyin hB hkl htl;go_wp2_with fail
   clear hp3 hpl;refine wp_region_since_tail 18 rfl (by decide +kernel) (by decide +kernel) (by decide +kernel) (by decide)
    [Is (.pointer (some ⟨ob,3,none⟩)),Is (.slice va i vc),Is (.pointer (some ⟨pb,3,none⟩)),Is (.slice (some ⟨PB,poff,none⟩) n pc),Is (.int .i64 i),Is (.pointer (some ⟨PB,poff+i*6,none⟩)),Is (.pointer (some ⟨PB,poff+i*6,none⟩)),Is (.slice ia kl ic),Is (.slice sa sl sc),PutV il w.heap.size,Is (.pointer (some ⟨pb,3,none⟩)),Is (.slice (some ⟨PB,poff,none⟩) n pc),Is (.int .i64 i),Is (.pointer (some ⟨PB,poff+i*6,none⟩)),Is (.pointer (some ⟨PB,poff+i*6+1,none⟩)),Is (.agg #[.int .i64 eop,.int .i64 ea,.int .i64 eb,.slice ta tl tc,.int .i32 eimm]),BlkV1 il ⟨eop,ea,eb,eto,.slice ta tl tc,eimm⟩ w.heap.size,BlkR il ⟨eop,ea,eb,eto,.slice ta tl tc,eimm⟩ w.heap.size]
    (by repeat (first|exact trivial|refine⟨Is.stable _,?_⟩|refine⟨PutV.stable _ _,?_⟩|refine⟨BlkV1.stable _ _ _,?_⟩|refine⟨BlkR.stable _ _ _,?_⟩)) ⟨?_,?_,?_,?_,?_,?_,?_,?_,?_,?_,?_,?_,?_,?_,?_,?_,?_,?_,trivial⟩ ?_
   rotate_right
   ·intro vs w5 hs hk;simp only[List.take,List.drop,putAll,Act.put,KnowsAll,nthF,Is,List.setIfInBounds_toArray,List.set_cons_zero,List.set_cons_succ,Nat.reduceAdd]at hk ⊢;try simp only[hk]
    obtain⟨iv,m,hor,hrow,hte⟩:BlkR il ⟨eop,ea,eb,eto,.slice ta tl tc,eimm⟩ w.heap.size (vs 17) w5:=by exact hk.2.2.2.2.2.2.2.2.2.2.2.2.2.2.2.2.2.1
    generalize vs 17=xv at *;have HS5:=hid (HST.out.keep hs);have HOR:=hid hor;have HRW:=hid hrow;have HTE:=hid hte;have HLE:=hid (show out.length + [(⟨m,iv,⟨eop,ea,eb,eto,.slice ta tl tc,eimm⟩⟩:BlkV)].length≤1000000 from by rw[HOL.out];simp;omega);have HONE:=hid (blk_one (y:=⟨m,iv,⟨eop,ea,eb,eto,.slice ta tl tc,eimm⟩⟩) hrow rfl);clear hk hs hor hrow hte;go_wp2_with (refine wpList_append_rows (base:=w.heap.size) blcells 6 blcells_len (by decide) rfl _ _ 22 rfl 56 (.agg #[.slice none 0 0,.int .i64 0,.int .i64 0,.int .i64 0,.slice none 0 0,.int .i32 0]) 80 Try.underlying22 (by kernel_rfl) rfl (by decide) (.slice va i vc) xv out [⟨m,iv,⟨eop,ea,eb,eto,.slice ta tl tc,eimm⟩⟩] rfl rfl HS5.out.row (srcRow (p:=fun _ _=>True) blcells_len (by decide) (row_own_in (p:=fun _ _=>True) blcells_len HOR.out fun _ _=>trivial)) HONE.out HLE.out HS5.out.old.size ?_;intro v' w6 hown ht hnew;obtain⟨va2,vc2,hv2⟩:=own_shape (show w6.ownsRow _ _ _ _ _ _ from hown);rw[List.length_append,HOL.out]at hv2;subst hv2;have HOWN:=hid hown;have HT6:=hid ht;have hb6:=HS5.out.o.turn ht ((Kin.row (show w5.ownsRow _ _ _ _ _ _ from HS5.out.row)).heap HS5.out.o (by decide));have h6l:=hb6.lt;have h6f:=hb6.frozen;have h6c:=hb6.cell 3;clear hown ht hnew hb6)
    go_roundw
    case rel=>exact⟨i+1,_,_,by go_num,by omega,by rw[List.length_append,HOL.out];rfl,HS5.out.put (a:=⟨il,.slice ia kl ic,⟨eop,ea,eb,eto,.slice ta tl tc,eimm⟩⟩) (y:=⟨m,iv,⟨eop,ea,eb,eto,.slice ta tl tc,eimm⟩⟩) HOWN.out HT6.out (by rw[HOL.out];exact HKY.out) rfl HRW.out HTE.out⟩
    case measure=>simp[intOf];omega
   all_goals
    intro vs w5 hs hk _;simp only[List.take,putAll,Act.put,Knows,nthF,Is,List.setIfInBounds_toArray,List.set_cons_zero,List.set_cons_succ,Nat.reduceAdd]at hk ⊢;try simp only[hk]
   ·go_wp2
    exact⟨_,rfl,rfl,Since.refl _⟩
   ·have hbx:=(HST.out.o.keep hs);have hc:=hbx.cell 3;have hl:=hbx.lt;clear hbx;go_wp2
    exact⟨_,rfl,rfl,Since.refl _⟩
   ·go_wp2
    exact⟨_,rfl,rfl,Since.refl _⟩
   ·have hbx:=(HST.out.p.keep hs);have hc:=hbx.cell 3;have hl:=hbx.lt;clear hbx;go_wp2
    exact⟨_,rfl,rfl,Since.refl _⟩
   iterate 3
    ·go_wp2
     exact⟨_,rfl,rfl,Since.refl _⟩
   ·have c0:=(hs.cell (p:=⟨PB,poff+i*6,none⟩) HLT.out).trans HC0.out;have hl:PB<w5.heap.size:=Nat.lt_of_lt_of_le HLT.out hs.size;go_wp2
    exact⟨_,rfl,rfl,Since.refl _⟩
   ·go_wp2
    exact⟨_,rfl,rfl,Since.refl _⟩
   ·have HC:=hid (HPUT.out w5 hs);have HZ:=hid (Nat.le_trans HST.out.old.size hs.size);clear hk hs;go_wp2_with fail
    refine HC.out.mono ?_;rintro e w6 ⟨v,m,rfl,hrow,hte,hsub,hs6⟩;have HRW:=hid (own_low (show w6.ownsRow _ _ _ _ _ _ from hrow) HZ.out);have HTE:=hid (And.intro hte hsub);have HS6:=hid hs6;obtain⟨xa,xc,hx⟩:=OwnRow.shape hrow;obtain⟨xl,hxl⟩:∃ z,m.length=z:=⟨_,rfl⟩
    rw[hxl]at hx;subst hx;clear hrow hte hsub hs6 hxl;go_wp2
    exact⟨_,rfl,⟨m,HRW.out,HTE.out⟩,HS6.out⟩
   ·go_wp2
    exact⟨_,rfl,rfl,Since.refl _⟩
   ·have hbx:=(HST.out.p.keep hs);have hc:=hbx.cell 3;have hl:=hbx.lt;clear hbx;go_wp2
    exact⟨_,rfl,rfl,Since.refl _⟩
   iterate 3
    ·go_wp2
     exact⟨_,rfl,rfl,Since.refl _⟩
   ·obtain⟨k1,k2,k3,k4,k5⟩:=HC1.out w5 hs;have hl:PB<w5.heap.size:=Nat.lt_of_lt_of_le HLT.out hs.size;go_wp2
    exact⟨_,rfl,rfl,Since.refl _⟩
   ·obtain⟨m,hrow,hte⟩:PutV il w.heap.size (vs 9) w5:=by exact hk.1
    obtain⟨xa,xc,hx⟩:=OwnRow.shape hrow;obtain⟨xl,hxl⟩:∃ z,m.length=z:=⟨_,rfl⟩
    rw[hxl]at hx;have HRW:=hid hrow;have HTE:=hid hte;have e15:=hk.2.1;generalize vs 9=v9 at *;generalize vs 15=v15 at *;subst hx e15;clear hk hrow hte hxl;go_wp2
    exact⟨_,rfl,⟨_,m,rfl,HRW.out,HTE.out⟩,Since.refl _⟩
   ·obtain⟨iv,m,e16,hrow,hte⟩:BlkV1 il ⟨eop,ea,eb,eto,.slice ta tl tc,eimm⟩ w.heap.size (vs 16) w5:=by exact hk.1
    have HZ:=hid (Nat.le_trans HST.out.old.size hs.size);have HRW:=hid hrow;have HTE:=hid hte;generalize vs 16=v16 at *;subst e16;clear hk hs hrow hte;go_wp2
    exact⟨_,rfl,⟨iv,m,⟨rfl,.inr ⟨_,1,_,rfl,HZ.out,HeapIs.new _ _ _,Nat.le_refl 1,by show 1≤maxLen;unfold maxLen;omega,rfl,rfl⟩⟩,HRW.out.keep ((Since.refl _).alloc _),HTE.out⟩,(Since.refl _).alloc _⟩
  ·obtain rfl:n=i:=by omega
   have hb:=HST.out.o;have k0:=hb.cell 0;have k1:=hb.cell 1;have k2:=hb.cell 2;have k3:=hb.cell 3;have kl:=hb.lt;clear hb;go_wp2_with (refine wpList_store_row rfl 24 _ _ rfl rb #[.int .i64 pp,.int .i64 pk,.int .i64 ps,.slice va n vc] rfl rfl 24 _ HST.out.r (by kernel_rfl) rfl (by rw[←Array.all_toList];rfl) ?_)
   try simp only[Exit.inBlock,Exit.then]
   have t4:Turn (fun q=>q=rb) wr (wr.setRow rb #[.int .i64 pp,.int .i64 pk,.int .i64 ps,.slice va n vc]):=setRow_turn (S:=fun q=>q=rb) rfl _;have hso:Since w (wr.setRow rb #[.int .i64 pp,.int .i64 pk,.int .i64 ps,.slice va n vc]):=t4.toSince HST.out.old fun q hq e=>by have:=HST.out.low;omega
   refine bodyPost_ret (results_cell_row rfl _ _ rb 24 #[.int .i64 pp,.int .i64 pk,.int .i64 ps,.slice va n vc] (0,0) _ rfl (setRow_block HST.out.r _) Try.underlying24 rfl (by kernel_rfl)) rfl ?_;have k:=Kin.box HST.out.r;have hrow:=own_turn (show wr.ownsRow _ _ _ _ _ _ from HST.out.row) t4 (k.apart (show wr.ownsRow _ _ _ _ _ _ from HST.out.row) (by decide));refine⟨⟨pp,pk,ps,out,.slice va n vc⟩,rfl,⟨⟨row_own_in blcells_len hrow fun x hx=>?_,by show out.length≤100000;rw[HOL.out];omega⟩,hrow,fun x hx=>?_⟩,⟨rfl,rfl,rfl,by show out.length=pbl.length;rw[HOL.out,HN.out],fun t a c ha hc=>?_⟩,hso⟩
   ·obtain⟨t,ht⟩:=List.getElem?_of_mem hx;obtain⟨a,h1,h2,h3,h4,h5⟩:=HST.out.each t x ht;have hbw:=RowIn.each_of HP.out a (List.mem_of_getElem? h1);refine⟨row_own_in plcells_len (own_turn (show wr.ownsRow _ _ _ _ _ _ from h3) t4 (k.apart (show wr.ownsRow _ _ _ _ _ _ from h3) (by decide))) fun y hy=>PlOk.keep _ _ _ (RowIn.each_of hbw.1 y (h5 y hy)) hso,?_,?_⟩
    ·rw[h2];exact hbw.2.1.keep hso
    ·rw[te_len h4];exact hbw.2.2
   ·obtain⟨t,ht⟩:=List.getElem?_of_mem hx;obtain⟨a,h1,h2,h3,h4,h5⟩:=HST.out.each t x ht;exact own_turn (show wr.ownsRow _ _ _ _ _ _ from h3) t4 (k.apart (show wr.ownsRow _ _ _ _ _ _ from h3) (by decide))
   ·obtain⟨a',h1,h2,h3,h4,h5⟩:=HST.out.each t c hc;rw[show pbl[t]? = some a from ha]at h1
    cases h1
    exact⟨h2,h4,h5⟩
theorem moved_ok {w3 w':World} {p q:PrgV} {B : Nat} (hp:PrgOk w3 p) (s:Since w3 w') (hm:MovedP p q) (hrow:OwnRow blcells 6 56 B w' q.bv q.blocks) (hea:∀ x∈q.blocks,OwnRow plcells 9 58 B w' x.insv x.ins):PrgOk w' q:=by
 refine⟨row_own_in blcells_len hrow fun x hx=>?_,by rw[hm.len];exact hp.2⟩;obtain⟨t,ht⟩:=List.getElem?_of_mem hx;have hlt:=(List.getElem?_eq_some_iff.1 ht).1;obtain⟨a,ha⟩:∃ a,p.blocks[t]? = some a:=⟨_,List.getElem?_eq_getElem (by rw[←hm.len];exact hlt)⟩
 obtain⟨h1,h2,h3⟩:=hm.each t a x ha ht;have hb:=RowIn.each_of hp.1 a (List.mem_of_getElem? ha);exact⟨row_own_in plcells_len (hea x hx) fun y hy=>PlOk.keep _ _ _ (RowIn.each_of hb.1 y (h3 y hy)) s,by rw[h1];exact hb.2.1.keep s,by rw[te_len h2];exact hb.2.2⟩
open Go.RowKit
theorem OwnRow.low0 {α:Type} {f : α→List Value} {sz:Nat} {e : TypeId} {B : Nat} {w : World} {v : Value} {l : List α} (h:OwnRow f sz e B w v l):OwnRow f sz e 0 w v l:=own_low h (Nat.zero_le _)
def SeedV (l:List Int) (v:Value) (w:World):Prop:=Ints w v (l.take 300)
theorem SeedV.stable (l:List Int):Stable (SeedV l):=fun v w w' h s=>Nums.keep h s
def MovV (p:PrgV) (v:Value) (w:World):Prop:=∃ q:PrgV,v=pv q∧OwnRow blcells 6 56 0 w q.bv q.blocks∧(∀ x∈q.blocks,OwnRow plcells 9 58 0 w x.insv x.ins)∧MovedP p q
theorem MovV.stable (p:PrgV):Stable (MovV p):=fun v w w' ⟨q,h1,h2,h3,h4⟩ s=>⟨q,h1,h2.keep s,fun x hx=>(h3 x hx).keep s,h4⟩
def BoxV (B:Nat) (v:Value) (w:World):Prop:=∃ b,v=.pointer (some ⟨b,0,none⟩)∧B≤b∧HeapIs w b #[.int .i64 0,.int .i64 0,.int .i64 0,.slice none 0 0] 24
theorem BoxV.stable (B:Nat):Stable (BoxV B):=fun v w w' ⟨b,h1,h2,h3⟩ s=>⟨b,h1,h2,h3.keep s⟩
theorem seed17_ints (sv:Value) (l:List Int) (w:World) (h:Ints w sv l) :
  Calls Try.prog 29 #[sv] w (fun e w'=>∃ v,e=.returned v∧w'=w∧Ints w v (l.take 300)):=by
 obtain⟨sa,sc,hv⟩:=nums_lenI h;obtain⟨sl,hsl⟩:∃ x,l.length=x:=⟨_,rfl⟩
 rw[hsl]at hv;subst hv;have H:=hid h;have HSL:=hid hsl;have hcap:sl≤sc∧sc≤maxLen:=by
  rcases h with ⟨_,h1,_⟩|⟨b,off,cap,h1,h2,h3,_,_⟩
  ·cases h1;exact⟨Nat.zero_le _,Nat.zero_le _⟩
  ·cases h1;omega
 clear h hsl;by_cases hlt:300<sl
 ·obtain⟨b,off,rfl⟩:∃ b off,sa=some ⟨b,off,none⟩:=by
   rcases H.out with ⟨_,h1,_⟩|⟨b,off,cap,h1,_⟩
   ·cases h1;omega
   ·cases h1;exact⟨_,_,rfl⟩
  go_enter Try.func29,Try.ntmps29
  go_wp2_with fail
  go_ret
  exact⟨.slice (some ⟨b,off,none⟩) 300 sc,rfl,rfl,nums_take (by rw[HSL.out];exact H.out) 300 (by rw[HSL.out];omega)⟩
 ·go_enter Try.func29,Try.ntmps29
  go_wp2_with fail
  go_ret
  exact⟨_,rfl,rfl,by rw[List.take_of_length_le (by rw[HSL.out];omega)];exact H.out⟩
theorem walk_turns (sv:Value) (s l1 l2:List Int) (by1 by2:Value) (w:World) (h:Ints w sv s) (hsv:∀ q,sv.ownBlock=some q→q<w.heap.size) (h1:Ints w by1 l1) (h2:Ints w by2 l2):Calls Try.prog 8 #[sv,.agg #[by1,by2]] w (TellsS true w):=by
 obtain⟨s1a,s1c,hb1⟩:=nums_lenI h1;obtain⟨s2a,s2c,hb2⟩:=nums_lenI h2;obtain⟨s1n,hs1n⟩:∃ z,l1.length=z:=⟨_,rfl⟩
 obtain⟨s2n,hs2n⟩:∃ z,l2.length=z:=⟨_,rfl⟩
 rw[hs1n]at hb1;rw[hs2n]at hb2;subst hb1 hb2;have HL1w:=hid h1;have HL2w:=hid h2;clear h1 h2 hs1n hs2n;obtain⟨sa,sc,hv⟩:=nums_lenI h;obtain⟨sl,hsl⟩:∃ x,s.length=x:=⟨_,rfl⟩
 rw[hsl]at hv;subst hv;have H:=hid h;have HSV:=hid hsv;clear h hsv hsl;go_enter Try.func8,Try.ntmps8
 go_upto_region 1 with fail
 obtain⟨qb,hqb⟩:∃ z,z=w.heap.size:=⟨_,rfl⟩
 obtain⟨w0,hw0⟩:∃ z,z=w.alloc (.cells #[.slice s1a s1n s1c,.slice s2a s2n s2c] 73):=⟨_,rfl⟩
 have HQB:=hid (show HeapIs w0 qb #[.slice s1a s1n s1c,.slice s2a s2n s2c] 73 from by rw[hw0,hqb];exact HeapIs.new _ _ _);have HS0:=hid (show Since w w0 from by rw[hw0];exact (Since.refl _).alloc _)
 rw[←hw0,←hqb];clear hw0 hqb;go_wp2_with fail
 refine (awake_any _).mono ?_;rintro e w1 ⟨rfl,hs1⟩;have HS1:=hid hs1;clear hs1;go_wp2_with fail
 refine (seed17_any (.slice sa sl sc) s w1 (H.out.keep (HS0.out.trans HS1.out)) fun q hq=>Nat.lt_of_lt_of_le (HSV.out q hq) (HS0.out.trans HS1.out).size).mono ?_
 rintro e w1b ⟨v,rfl,hw,hv,hvl⟩;have e9:=hw.symm;clear hw;subst e9;have HV:=hid hv;have HVL:=hid hvl;clear hv hvl;go_wp2_with fail
 refine (made12_any v (s.take 300) w1 HV.out HVL.out (by rw[List.length_take];omega)).mono ?_;rintro e w2 ⟨p,rfl,hk,hmp,hs2⟩;have HS2:=hid ((HS0.out.trans HS1.out).trans hs2);have HS02:=hid (HS1.out.trans hs2);have HGP:=hid (hmp.good hk);have HOK:=hid hmp.ok;obtain⟨pp,pk,ps,pbl,pbv⟩:=p;obtain⟨pa,pc,hpv⟩:=OwnRow.shape hmp.row;obtain⟨n,hn⟩:∃ z,pbl.length=z:=⟨_,rfl⟩
 dsimp only at hpv;rw[hn]at hpv;subst hpv;have HN9:=hid (show pbl.length≤9 from hmp.blocks.2);unfold pv;dsimp only;clear hk hmp hs2 hn HV HVL H HSV;go_upto_region 3 with fail
 obtain⟨pb,hpb⟩:∃ z,z=w2.heap.size:=⟨_,rfl⟩
 obtain⟨w3,hw3⟩:∃ z,z=w2.alloc (.cells #[.int .i64 pp,.int .i64 pk,.int .i64 ps,.slice pa n pc] 24):=⟨_,rfl⟩
 have HPB:=hid (show HeapIs w3 pb #[.int .i64 pp,.int .i64 pk,.int .i64 ps,.slice pa n pc] 24 from by rw[hw3,hpb];exact HeapIs.new _ _ _);have HS23:=hid (show Since w2 w3 from by rw[hw3];exact (Since.refl _).alloc _)
 have HS3:=hid (HS2.out.trans HS23.out);have HQ3:=hid (HQB.out.keep (HS02.out.trans HS23.out));have HOK3:=hid (HOK.out.keep HS23.out);rw[←hw3,←hpb];clear hw3 hpb HQB HS02 HOK;have Pn:=hid (show pbl.length≤1000 from by have:=HN9.out;omega);have Pi:=hid (fun (x:BlkV) (hx:x∈pbl)=>show x.ins.length≤50000 from by have h1:=ptotal_mem hx;have h2:=HGP.out.total;dsimp only at h2;omega)
 refine wp_region_since_tail 6 rfl (by decide +kernel) (by decide +kernel) (by decide +kernel) (by decide)
  [Is (.agg #[.int .i64 pp,.int .i64 pk,.int .i64 ps,.slice pa n pc]),Is (.pointer (some ⟨qb,0,none⟩)),Is (.slice s1a s1n s1c),SeedV l1,MovV ⟨pp,pk,ps,pbl,.slice pa n pc⟩,BoxV w3.heap.size]
  (by repeat (first|exact trivial|refine⟨Is.stable _,?_⟩|refine⟨SeedV.stable _,?_⟩|refine⟨MovV.stable _,?_⟩|refine⟨BoxV.stable _,?_⟩)) ⟨?_,?_,?_,?_,?_,?_,trivial⟩ ?_
 rotate_right
 ·intro vs w5 hs hk;simp only[List.take,List.drop,putAll,Act.put,KnowsAll,nthF,Is,List.setIfInBounds_toArray,List.set_cons_zero,List.set_cons_succ,Nat.reduceAdd]at hk ⊢;try simp only[hk]
  obtain⟨⟨fp,fk,fs,fbl,fbv⟩,hv4,r4,hea4,hmv4⟩:MovV ⟨pp,pk,ps,pbl,.slice pa n pc⟩ (vs 4) w5:=by exact hk.2.2.2.2.1
  obtain⟨fb,hv5,o5,hbx5⟩:BoxV w3.heap.size (vs 5) w5:=by exact hk.2.2.2.2.2.1
  obtain⟨fa,fc,hqv⟩:=OwnRow.shape r4;obtain⟨fn,hqn⟩:∃ z,fbl.length=z:=⟨_,rfl⟩
  dsimp only at hqv;rw[hqn]at hqv;subst hqv;unfold pv at hv4;dsimp only at hv4;generalize vs 4=v4 at *;generalize vs 5=v5 at *;subst hv4 hv5;have Rf:=hid r4;have Ef:=hid hea4;have Mf:=hid hmv4;have Xf:=hid hbx5;have Wf:=hid o5;have Yf:=hid hs;clear hk hs r4 hea4 hmv4 hbx5 o5 hqn;go_upto_region 4 with (refine wpList_store_row rfl 24 _ _ rfl fb #[.int .i64 fp,.int .i64 fk,.int .i64 fs,.slice fa fn fc] rfl rfl 24 _ Xf.out (by kernel_rfl) rfl (by rw[←Array.all_toList];rfl) ?_)
  obtain⟨w6,hwn⟩:∃ z,z=w5.setRow fb #[.int .i64 fp,.int .i64 fk,.int .i64 fs,.slice fa fn fc]:=⟨_,rfl⟩
  have Bf:=hid (show HeapIs w6 fb #[.int .i64 fp,.int .i64 fk,.int .i64 fs,.slice fa fn fc] 24 from by rw[hwn];exact setRow_block Xf.out _);have Tf:=hid (show Turn (fun q=>q=fb) w5 w6 from by rw[hwn];exact setRow_turn (S:=fun q=>q=fb) rfl _)
  rw[←hwn];clear hwn;have Sf:=hid (show Since w3 w6 from Tf.out.toSince Yf.out fun q hq e=>by have:=Wf.out;omega);have Of:=hid (show PrgOk w6 ⟨fp,fk,fs,fbl,.slice fa fn fc⟩ from moved_ok HOK3.out Sf.out Mf.out (own_turn (show w5.ownsRow _ _ _ _ _ _ from Rf.out) Tf.out ((Kin.box Xf.out).apart (show w5.ownsRow _ _ _ _ _ _ from Rf.out) (by decide))) fun x hx=>own_turn (show w5.ownsRow _ _ _ _ _ _ from Ef.out x hx) Tf.out ((Kin.box Xf.out).apart (show w5.ownsRow _ _ _ _ _ _ from Ef.out x hx) (by decide)))
  clear Rf Ef Xf Tf Wf Yf;have HQ6:=hid (HQ3.out.keep Sf.out);have HS6w:=hid (HS3.out.trans Sf.out);have On:=hid (show fbl.length≤1000 from by have h1:fbl.length=pbl.length:=Mf.out.len;have:=HN9.out;omega);have Oi:=hid (fun (x:BlkV) (hx:x∈fbl)=>show x.ins.length≤50000 from by have h1:=ptotal_mem hx;have h2:=(HGP.out.moved Mf.out).total;dsimp only at h2;omega)
  refine wp_region_since_tail 6 rfl (by decide +kernel) (by decide +kernel) (by decide +kernel) (by decide)
   [Is (.agg #[.int .i64 fp,.int .i64 fk,.int .i64 fs,.slice fa fn fc]),Is (.pointer (some ⟨qb,1,none⟩)),Is (.slice s2a s2n s2c),SeedV l2,MovV ⟨fp,fk,fs,fbl,.slice fa fn fc⟩,BoxV w6.heap.size]
   (by repeat (first|exact trivial|refine⟨Is.stable _,?_⟩|refine⟨SeedV.stable _,?_⟩|refine⟨MovV.stable _,?_⟩|refine⟨BoxV.stable _,?_⟩)) ⟨?_,?_,?_,?_,?_,?_,trivial⟩ ?_
  rotate_right
  ·intro vs w5 hs hk;simp only[List.take,List.drop,putAll,Act.put,KnowsAll,nthF,Is,List.setIfInBounds_toArray,List.set_cons_zero,List.set_cons_succ,Nat.reduceAdd]at hk ⊢;try simp only[hk]
   obtain⟨⟨gp,gk,gs,gbl,gbv⟩,hv4,r4,hea4,hmv4⟩:MovV ⟨fp,fk,fs,fbl,.slice fa fn fc⟩ (vs 4) w5:=by exact hk.2.2.2.2.1
   obtain⟨gb,hv5,o5,hbx5⟩:BoxV w6.heap.size (vs 5) w5:=by exact hk.2.2.2.2.2.1
   obtain⟨ga,gc,hqv⟩:=OwnRow.shape r4;obtain⟨gn,hqn⟩:∃ z,gbl.length=z:=⟨_,rfl⟩
   dsimp only at hqv;rw[hqn]at hqv;subst hqv;unfold pv at hv4;dsimp only at hv4;generalize vs 4=v4 at *;generalize vs 5=v5 at *;subst hv4 hv5;have Rg:=hid r4;have Eg:=hid hea4;have Mg:=hid hmv4;have Xg:=hid hbx5;have Wg:=hid o5;have Yg:=hid hs;clear hk hs r4 hea4 hmv4 hbx5 o5 hqn;go_upto_region 5 with (refine wpList_store_row rfl 24 _ _ rfl gb #[.int .i64 gp,.int .i64 gk,.int .i64 gs,.slice ga gn gc] rfl rfl 24 _ Xg.out (by kernel_rfl) rfl (by rw[←Array.all_toList];rfl) ?_)
   obtain⟨w7,hwn⟩:∃ z,z=w5.setRow gb #[.int .i64 gp,.int .i64 gk,.int .i64 gs,.slice ga gn gc]:=⟨_,rfl⟩
   have Bg:=hid (show HeapIs w7 gb #[.int .i64 gp,.int .i64 gk,.int .i64 gs,.slice ga gn gc] 24 from by rw[hwn];exact setRow_block Xg.out _);have Tg:=hid (show Turn (fun q=>q=gb) w5 w7 from by rw[hwn];exact setRow_turn (S:=fun q=>q=gb) rfl _)
   rw[←hwn];clear hwn;have Sg:=hid (show Since w6 w7 from Tg.out.toSince Yg.out fun q hq e=>by have:=Wg.out;omega);have Og:=hid (show PrgOk w7 ⟨gp,gk,gs,gbl,.slice ga gn gc⟩ from moved_ok Of.out Sg.out Mg.out (own_turn (show w5.ownsRow _ _ _ _ _ _ from Rg.out) Tg.out ((Kin.box Xg.out).apart (show w5.ownsRow _ _ _ _ _ _ from Rg.out) (by decide))) fun x hx=>own_turn (show w5.ownsRow _ _ _ _ _ _ from Eg.out x hx) Tg.out ((Kin.box Xg.out).apart (show w5.ownsRow _ _ _ _ _ _ from Eg.out x hx) (by decide)))
   clear Rg Eg Xg Tg Wg Yg;have HK0:=hid (Since.refl w7);have HLAW:=turns_law HGP.out Mf.out Mg.out;have HL0:=hid HLAW.1;have HL1:=hid HLAW.2.1;have HL2:=hid HLAW.2.2.1;have HL3:=hid HLAW.2.2.2;clear HLAW;have k0:=(HPB.out.keep (Sf.out.trans (Sg.out.trans HK0.out))).cell 0;have k1:=(HPB.out.keep (Sf.out.trans (Sg.out.trans HK0.out))).cell 1;have k2:=(HPB.out.keep (Sf.out.trans (Sg.out.trans HK0.out))).cell 2;have k3:=(HPB.out.keep (Sf.out.trans (Sg.out.trans HK0.out))).cell 3;have kl:=(HPB.out.keep (Sf.out.trans (Sg.out.trans HK0.out))).lt;have m0:=(Bf.out.keep (Sg.out.trans HK0.out)).cell 0;have m1:=(Bf.out.keep (Sg.out.trans HK0.out)).cell 1;have m2:=(Bf.out.keep (Sg.out.trans HK0.out)).cell 2;have m3:=(Bf.out.keep (Sg.out.trans HK0.out)).cell 3;have ml:=(Bf.out.keep (Sg.out.trans HK0.out)).lt;have HC:=hid (check_any ⟨pp,pk,ps,pbl,.slice pa n pc⟩ ⟨fp,fk,fs,fbl,.slice fa fn fc⟩ w7 (HOK3.out.keep (Sf.out.trans (Sg.out.trans HK0.out))) (Of.out.keep (Sg.out.trans HK0.out)))
   obtain⟨cb0,hcb⟩:∃ z,(checkE ⟨pp,pk,ps,pbl,.slice pa n pc⟩ ⟨fp,fk,fs,fbl,.slice fa fn fc⟩).2.1=z:=⟨_,rfl⟩
   obtain⟨ci0,hci⟩:∃ z,(checkE ⟨pp,pk,ps,pbl,.slice pa n pc⟩ ⟨fp,fk,fs,fbl,.slice fa fn fc⟩).2.2=z:=⟨_,rfl⟩
   rw[HL0.out,hcb,hci]at HC;unfold pv at HC;dsimp only at HC;clear hcb hci;go_wp2_with fail
   refine HC.out.mono ?_;clear HC k0 k1 k2 k3 kl m0 m1 m2 m3 ml;rintro e w8 ⟨rfl,hs9⟩;have HK1:=hid (HK0.out.trans hs9);clear hs9;have k0:=(Bf.out.keep (Sg.out.trans HK1.out)).cell 0;have k1:=(Bf.out.keep (Sg.out.trans HK1.out)).cell 1;have k2:=(Bf.out.keep (Sg.out.trans HK1.out)).cell 2;have k3:=(Bf.out.keep (Sg.out.trans HK1.out)).cell 3;have kl:=(Bf.out.keep (Sg.out.trans HK1.out)).lt;have m0:=(HPB.out.keep (Sf.out.trans (Sg.out.trans HK1.out))).cell 0;have m1:=(HPB.out.keep (Sf.out.trans (Sg.out.trans HK1.out))).cell 1;have m2:=(HPB.out.keep (Sf.out.trans (Sg.out.trans HK1.out))).cell 2;have m3:=(HPB.out.keep (Sf.out.trans (Sg.out.trans HK1.out))).cell 3;have ml:=(HPB.out.keep (Sf.out.trans (Sg.out.trans HK1.out))).lt;have HC:=hid (check_any ⟨fp,fk,fs,fbl,.slice fa fn fc⟩ ⟨pp,pk,ps,pbl,.slice pa n pc⟩ w8 (Of.out.keep (Sg.out.trans HK1.out)) (HOK3.out.keep (Sf.out.trans (Sg.out.trans HK1.out))))
   obtain⟨cb1,hcb⟩:∃ z,(checkE ⟨fp,fk,fs,fbl,.slice fa fn fc⟩ ⟨pp,pk,ps,pbl,.slice pa n pc⟩).2.1=z:=⟨_,rfl⟩
   obtain⟨ci1,hci⟩:∃ z,(checkE ⟨fp,fk,fs,fbl,.slice fa fn fc⟩ ⟨pp,pk,ps,pbl,.slice pa n pc⟩).2.2=z:=⟨_,rfl⟩
   rw[HL1.out,hcb,hci]at HC;unfold pv at HC;dsimp only at HC;clear hcb hci;go_wp2_with fail
   refine HC.out.mono ?_;clear HC k0 k1 k2 k3 kl m0 m1 m2 m3 ml;rintro e w9 ⟨rfl,hs9⟩;have HK2:=hid (HK1.out.trans hs9);clear hs9;have k0:=(HPB.out.keep (Sf.out.trans (Sg.out.trans HK2.out))).cell 0;have k1:=(HPB.out.keep (Sf.out.trans (Sg.out.trans HK2.out))).cell 1;have k2:=(HPB.out.keep (Sf.out.trans (Sg.out.trans HK2.out))).cell 2;have k3:=(HPB.out.keep (Sf.out.trans (Sg.out.trans HK2.out))).cell 3;have kl:=(HPB.out.keep (Sf.out.trans (Sg.out.trans HK2.out))).lt;have m0:=(Bg.out.keep HK2.out).cell 0;have m1:=(Bg.out.keep HK2.out).cell 1;have m2:=(Bg.out.keep HK2.out).cell 2;have m3:=(Bg.out.keep HK2.out).cell 3;have ml:=(Bg.out.keep HK2.out).lt;have HC:=hid (check_any ⟨pp,pk,ps,pbl,.slice pa n pc⟩ ⟨gp,gk,gs,gbl,.slice ga gn gc⟩ w9 (HOK3.out.keep (Sf.out.trans (Sg.out.trans HK2.out))) (Og.out.keep HK2.out));obtain⟨cb2,hcb⟩:∃ z,(checkE ⟨pp,pk,ps,pbl,.slice pa n pc⟩ ⟨gp,gk,gs,gbl,.slice ga gn gc⟩).2.1=z:=⟨_,rfl⟩
   obtain⟨ci2,hci⟩:∃ z,(checkE ⟨pp,pk,ps,pbl,.slice pa n pc⟩ ⟨gp,gk,gs,gbl,.slice ga gn gc⟩).2.2=z:=⟨_,rfl⟩
   rw[HL2.out,hcb,hci]at HC;unfold pv at HC;dsimp only at HC;clear hcb hci;go_wp2_with fail
   refine HC.out.mono ?_;clear HC k0 k1 k2 k3 kl m0 m1 m2 m3 ml;rintro e w10 ⟨rfl,hs9⟩;have HK3:=hid (HK2.out.trans hs9);clear hs9;have k0:=(Bg.out.keep HK3.out).cell 0;have k1:=(Bg.out.keep HK3.out).cell 1;have k2:=(Bg.out.keep HK3.out).cell 2;have k3:=(Bg.out.keep HK3.out).cell 3;have kl:=(Bg.out.keep HK3.out).lt;have m0:=(HPB.out.keep (Sf.out.trans (Sg.out.trans HK3.out))).cell 0;have m1:=(HPB.out.keep (Sf.out.trans (Sg.out.trans HK3.out))).cell 1;have m2:=(HPB.out.keep (Sf.out.trans (Sg.out.trans HK3.out))).cell 2;have m3:=(HPB.out.keep (Sf.out.trans (Sg.out.trans HK3.out))).cell 3;have ml:=(HPB.out.keep (Sf.out.trans (Sg.out.trans HK3.out))).lt;have HC:=hid (check_any ⟨gp,gk,gs,gbl,.slice ga gn gc⟩ ⟨pp,pk,ps,pbl,.slice pa n pc⟩ w10 (Og.out.keep HK3.out) (HOK3.out.keep (Sf.out.trans (Sg.out.trans HK3.out))));obtain⟨cb3,hcb⟩:∃ z,(checkE ⟨gp,gk,gs,gbl,.slice ga gn gc⟩ ⟨pp,pk,ps,pbl,.slice pa n pc⟩).2.1=z:=⟨_,rfl⟩
   obtain⟨ci3,hci⟩:∃ z,(checkE ⟨gp,gk,gs,gbl,.slice ga gn gc⟩ ⟨pp,pk,ps,pbl,.slice pa n pc⟩).2.2=z:=⟨_,rfl⟩
   rw[HL3.out,hcb,hci]at HC;unfold pv at HC;dsimp only at HC;clear hcb hci;go_wp2_with fail
   refine HC.out.mono ?_;clear HC k0 k1 k2 k3 kl m0 m1 m2 m3 ml;rintro e w11 ⟨rfl,hs9⟩;have HK4:=hid (HK3.out.trans hs9);clear hs9;have HFIN:=hid (HS3.out.trans (Sf.out.trans (Sg.out.trans HK4.out)));go_wp2_with fail
   go_ret
   exact⟨rfl,HFIN.out⟩
  all_goals
   intro vs w5 hs hk _;simp only[List.take,putAll,Act.put,Knows,nthF,Is,List.setIfInBounds_toArray,List.set_cons_zero,List.set_cons_succ,Nat.reduceAdd]at hk ⊢;try simp only[hk]
  ·have hbx:=Bf.out.keep hs;have k0:=hbx.cell 0;have k1:=hbx.cell 1;have k2:=hbx.cell 2;have k3:=hbx.cell 3;have kl:=hbx.lt;clear hbx;go_wp2
   exact⟨_,rfl,rfl,Since.refl _⟩
  ·go_wp2
   exact⟨_,rfl,rfl,Since.refl _⟩
  ·have hbx:=HQ6.out.keep hs;have kk:=hbx.cell 1;have kl:=hbx.lt;clear hbx;go_wp2
   exact⟨_,rfl,rfl,Since.refl _⟩
  ·have HC:=hid (seed17_ints (.slice s2a s2n s2c) l2 w5 (HL2w.out.keep (HS6w.out.trans hs)));clear hk;go_wp2_with fail
   refine HC.out.mono ?_;rintro e w6 ⟨v,rfl,hw,hv⟩;have e9:=hw.symm;clear hw;subst e9;have HV:=hid hv;obtain⟨za,zc,hz⟩:=nums_lenI hv;obtain⟨zn,hzn⟩:∃ z,(l2.take 300).length=z:=⟨_,rfl⟩
   rw[hzn]at hz;subst hz;clear hv hzn;go_wp2
   exact⟨_,rfl,HV.out,Since.refl _⟩
  ·have e0:=hk.1;have hsd:SeedV l2 (vs 3) w5:=by exact hk.2.1
   obtain⟨za,zc,hz⟩:=nums_lenI hsd;obtain⟨zn,hzn⟩:∃ z,(l2.take 300).length=z:=⟨_,rfl⟩
   rw[hzn]at hz;have HSD:=hid hsd;generalize vs 0=v0 at *;generalize vs 3=v3 at *;subst e0 hz;have HC:=hid (moved_any ⟨fp,fk,fs,fbl,.slice fa fn fc⟩ (l2.take 300) (.slice za zn zc) w5 (Of.out.keep hs) HSD.out On.out Oi.out);unfold pv at HC;dsimp only at HC;clear hk hsd hzn hs;go_wp2_with fail
   refine HC.out.mono ?_;rintro e w6 ⟨⟨qp,qk,qs,qbl,qbv⟩,rfl,hqok,hmv,hs6⟩;obtain⟨qa,qc,hqv,_⟩:=RowIn.shape hqok.1.1;obtain⟨qn,hqn⟩:∃ z,qbl.length=z:=⟨_,rfl⟩
   dsimp only at hqv;rw[hqn]at hqv;subst hqv;have HQO:=hid (And.intro hqok hmv);have HS6:=hid hs6;clear hqok hmv hs6 hqn;unfold pv;dsimp only;go_wp2
   exact⟨_,rfl,⟨_,rfl,HQO.out.1.2.1.low0,fun x hx=>(HQO.out.1.2.2 x hx).low0,HQO.out.2⟩,HS6.out⟩
  ·have HZ:=hid hs.size;clear hk hs;go_wp2
   exact⟨_,rfl,⟨_,rfl,HZ.out,HeapIs.new _ _ _⟩,(Since.refl _).alloc _⟩
 all_goals
  intro vs w5 hs hk _;simp only[List.take,putAll,Act.put,Knows,nthF,Is,List.setIfInBounds_toArray,List.set_cons_zero,List.set_cons_succ,Nat.reduceAdd]at hk ⊢;try simp only[hk]
 ·have hbx:=HPB.out.keep hs;have k0:=hbx.cell 0;have k1:=hbx.cell 1;have k2:=hbx.cell 2;have k3:=hbx.cell 3;have kl:=hbx.lt;clear hbx;go_wp2
  exact⟨_,rfl,rfl,Since.refl _⟩
 ·go_wp2
  exact⟨_,rfl,rfl,Since.refl _⟩
 ·have hbx:=HQ3.out.keep hs;have kk:=hbx.cell 0;have kl:=hbx.lt;clear hbx;go_wp2
  exact⟨_,rfl,rfl,Since.refl _⟩
 ·have HC:=hid (seed17_ints (.slice s1a s1n s1c) l1 w5 (HL1w.out.keep (HS3.out.trans hs)));clear hk;go_wp2_with fail
  refine HC.out.mono ?_;rintro e w6 ⟨v,rfl,hw,hv⟩;have e9:=hw.symm;clear hw;subst e9;have HV:=hid hv;obtain⟨za,zc,hz⟩:=nums_lenI hv;obtain⟨zn,hzn⟩:∃ z,(l1.take 300).length=z:=⟨_,rfl⟩
  rw[hzn]at hz;subst hz;clear hv hzn;go_wp2
  exact⟨_,rfl,HV.out,Since.refl _⟩
 ·have e0:=hk.1;have hsd:SeedV l1 (vs 3) w5:=by exact hk.2.1
  obtain⟨za,zc,hz⟩:=nums_lenI hsd;obtain⟨zn,hzn⟩:∃ z,(l1.take 300).length=z:=⟨_,rfl⟩
  rw[hzn]at hz;have HSD:=hid hsd;generalize vs 0=v0 at *;generalize vs 3=v3 at *;subst e0 hz;have HC:=hid (moved_any ⟨pp,pk,ps,pbl,.slice pa n pc⟩ (l1.take 300) (.slice za zn zc) w5 (HOK3.out.keep hs) HSD.out Pn.out Pi.out);unfold pv at HC;dsimp only at HC;clear hk hsd hzn hs;go_wp2_with fail
  refine HC.out.mono ?_;rintro e w6 ⟨⟨qp,qk,qs,qbl,qbv⟩,rfl,hqok,hmv,hs6⟩;obtain⟨qa,qc,hqv,_⟩:=RowIn.shape hqok.1.1;obtain⟨qn,hqn⟩:∃ z,qbl.length=z:=⟨_,rfl⟩
  dsimp only at hqv;rw[hqn]at hqv;subst hqv;have HQO:=hid (And.intro hqok hmv);have HS6:=hid hs6;clear hqok hmv hs6 hqn;unfold pv;dsimp only;go_wp2
  exact⟨_,rfl,⟨_,rfl,HQO.out.1.2.1.low0,fun x hx=>(HQO.out.1.2.2 x hx).low0,HQO.out.2⟩,HS6.out⟩
 ·have HZ:=hid hs.size;clear hk hs;go_wp2
  exact⟨_,rfl,⟨_,rfl,HZ.out,HeapIs.new _ _ _⟩,(Since.refl _).alloc _⟩
theorem list2b {α:Type} {l : List α} (h:l.length=2):∃ a b,l=[a,b]:=by
 match l,h with
 | [a,b],_=>exact⟨a,b,rfl⟩
theorem Try.cells2b:Try.prog.cellsOf 73=2:=by kernel_rfl
theorem by_open {H : Type} {enc:TypeId × Value→H} {w : World} {base:Nat} {held:Bool} {r : Reach} {b0:Nat} {v : Value} {d : DataW H} {p : List MemPlace} (hv:Value.okWide Try.prog w r b0 73 v)
  (h:DataW.Trod enc Try.prog w base (fun _=>true) held 73 v d p):∃ (x0 x1:Value) (l0 l1:List Int),v=.agg #[x0,x1]∧Ints w x0 l0∧Ints w x1 l1:=by
 have hv':=hv;simp only[Value.okWide,Try.underlying73]at hv';obtain⟨cs,rfl,hsz,_⟩:=hv';obtain⟨fuel,hf⟩:=h;obtain⟨xs,m,_,_,hlen,hxs,hel⟩:=DataW.trod_array Try.underlying73 hf;rw[Try.cells2b]at hlen;obtain⟨c0,c1,hc⟩:=list2b hlen;have h0:=hel 0 (by decide);have h1:=hel 1 (by decide);rw[Try.cellsInts,hc]at h0 h1;simp only[Nat.mul_one,List.drop_succ_cons,List.drop_zero,List.take_succ_cons,List.take_zero]at h0 h1;obtain⟨y0,hy0⟩:=Option.isSome_iff_exists.1 (show (xs[0]?).isSome=true by simp[hxs])
 obtain⟨y1,hy1⟩:=Option.isSome_iff_exists.1 (show (xs[1]?).isSome=true by simp[hxs])
 rw[hy0]at h0;rw[hy1]at h1;obtain⟨l0,g0,_⟩:=nums_trod Try.underlying25 Try.underlying3 Try.cellsInt h0;obtain⟨l1,g1,_⟩:=nums_trod Try.underlying25 Try.underlying3 Try.cellsInt h1;refine⟨c0,c1,l0,l1,?_,g0,g1⟩;have:cs=#[c0,c1]:=by
  apply Array.ext'
  simpa [Value.cells]using hc
 rw[this]
end Go.Proofs.Ytkpbmbhejpmboaa
