/- jacquardref17.Swapped: two beside one another change places. -/
import Derived.Test.YtkpbmbhejpmboaaPkB13
import Derived.Test.YtkpbmbhejpmboaaPkB15
namespace Go.Proofs.Ytkpbmbhejpmboaa
open Go.RowKit Go.ChangeShapes Go.WideShapes
set_option linter.unusedVariables false
theorem results_cells3 {P : Program} {fn:Func} {p q r:Tmp} {ty tz tu:TypeId} (h:fn.results=#[.cell p ty,.cell q tz,.cell r tu]) (tmps:Array Value) (w:World) (g1 g2 g3:Nat) (t1 t2 t3:TypeId) (c1 c2 c3:Array Value) (f1 f2 f3:Nat × Nat) (d1 d2 d3:TypeDesc)
  (hp:tmps.getD p undef=.pointer (some ⟨g1,0,none⟩)) (hg:w.heap[g1]? = some (.cells c1 t1 f1)) (hu:P.underlying ty=some d1) (hd:(match d1 with | .struct _ | .array _ _=>true | _=>false)=true) (hi:(P.info? ty).map (·.size)=some c1.size)
  (hp2:tmps.getD q undef=.pointer (some ⟨g2,0,none⟩)) (hg2:w.heap[g2]? = some (.cells c2 t2 f2)) (hu2:P.underlying tz=some d2) (hd2:(match d2 with | .struct _ | .array _ _=>true | _=>false)=true) (hi2:(P.info? tz).map (·.size)=some c2.size)
  (hp3:tmps.getD r undef=.pointer (some ⟨g3,0,none⟩)) (hg3:w.heap[g3]? = some (.cells c3 t3 f3)) (hu3:P.underlying tu=some d3) (hd3:(match d3 with | .struct _ | .array _ _=>true | _=>false)=true) (hi3:(P.info? tu).map (·.size)=some c3.size) :
  (results fn tmps).run P w=.ok (.tuple #[.agg c1,.agg c2,.agg c3]) w:=by
 have hp':tmps[p]?.getD undef=.pointer (some ⟨g1,0,none⟩):=by simpa using hp
 have hq':tmps[q]?.getD undef=.pointer (some ⟨g2,0,none⟩):=by simpa using hp2
 have hr':tmps[r]?.getD undef=.pointer (some ⟨g3,0,none⟩):=by simpa using hp3
 simp[results,h,hp',hq',hr',asAddr,run_loadVar_row w g1 t1 ty c1 f1 d1 hg hu hd hi,run_loadVar_row w g2 t2 tz c2 f2 d2 hg2 hu2 hd2 hi2,run_loadVar_row w g3 t3 tu c3 f3 d3 hg3 hu3 hd3 hi3]
theorem tmod_bd2 (x n:Int) (hn:0<n) : -n<x.tmod n∧x.tmod n<n:=by
 have h1:=Int.tmod_lt_of_pos x hn
 have h2:=Int.tmod_lt_of_pos (-x) hn
 rw[Int.neg_tmod]at h2
 omega
def bl0:BlkV:=⟨[],.slice none 0 0,⟨0,0,0,[],.slice none 0 0,0⟩⟩
def withs (bl:List BlkV) (i:Nat):List Int:=((List.range i).filter fun j=>decide (1<(bl.getD j bl0).ins.length)).map fun (j:Nat)=>(j:Int)
theorem withs_yes {bl:List BlkV} {i : Nat} {b : BlkV} (h:bl[i]? = some b) (h1:1<b.ins.length):withs bl (i+1)=withs bl i++[(i:Int)]:=by
 unfold withs
 rw[List.range_succ,List.filter_append,List.map_append]
 congr 1
 have h2:decide (1<(bl.getD i bl0).ins.length)=true:=by rw[getD_some h];simpa using h1
 simp only[List.filter,h2]
 rfl
theorem withs_no {bl:List BlkV} {i : Nat} {b : BlkV} (h:bl[i]? = some b) (h1:¬ 1<b.ins.length):withs bl (i+1)=withs bl i:=by
 unfold withs
 rw[List.range_succ,List.filter_append,List.map_append]
 have h2:decide (1<(bl.getD i bl0).ins.length)=false:=by rw[getD_some h];simpa using h1
 simp only[List.filter,h2]
 rw[List.map_nil,List.append_nil]
theorem withs_len (bl:List BlkV) (i:Nat):(withs bl i).length≤i:=by
 unfold withs
 rw[List.length_map]
 exact Nat.le_trans (List.length_filter_le _ _) (by simp)
theorem withs_at {bl:List BlkV} {k : Nat} {x : Int} (h:(withs bl bl.length)[k]? = some x):∃ (b:Nat) (blk:BlkV),x=b∧bl[b]? = some blk∧1<blk.ins.length:=by
 have h1:=List.mem_of_getElem? h
 unfold withs at h1
 obtain⟨i,hi,rfl⟩:=List.mem_map.1 h1
 rw[List.mem_filter]at hi
 have hlt:=List.mem_range.1 hi.1
 have hb:bl[i]? = some bl[i]:=List.getElem?_eq_getElem hlt
 refine⟨i,_,rfl,hb,?_⟩
 have h2:=hi.2
 rw[getD_some hb]at h2
 simpa using h2
structure SwB (w0:World) (pb qb r4 r5 r6:Nat) (P Q:Array Value) (w:World):Prop where
 p:HeapIs w pb P 24
 q:HeapIs w qb Q 65
 z4:HeapIs w r4 #[.int .i64 0,.int .i64 0,.int .i64 0,.slice none 0 0] 24
 z5:HeapIs w r5 #[.int .i64 0,.int .i64 0,.int .i64 0,.int .i64 0,.int .i64 0,.int .i64 0,.int .i32 0,.slice none 0 0] 46
 z6:HeapIs w r6 #[.int .i64 0,.int .i64 0,.int .i64 0,.int .i64 0,.int .i64 0,.int .i64 0,.int .i32 0,.slice none 0 0] 46
 old:Since w0 w
 low:w0.heap.size≤r4∧w0.heap.size≤r5∧w0.heap.size≤r6∧r4≠r5∧r4≠r6∧r5≠r6
theorem SwB.keep {w0 w w':World} {pb qb r4 r5 r6:Nat} {P Q:Array Value} (h:SwB w0 pb qb r4 r5 r6 P Q w) (s:Since w w'):SwB w0 pb qb r4 r5 r6 P Q w':=⟨h.p.keep s,h.q.keep s,h.z4.keep s,h.z5.keep s,h.z6.keep s,h.old.trans s,h.low⟩
theorem SwB.turn {w0 w w':World} {pb qb r4 r5 r6:Nat} {P Q:Array Value} {T : Nat→Prop} {U : TypeId} (h:SwB w0 pb qb r4 r5 r6 P Q w) (t:Turn T w w') (k:Kin w U T) (h1:24≠U) (h2:65≠U) (h3:46≠U) (hl:∀ q,q<w0.heap.size→¬ T q):SwB w0 pb qb r4 r5 r6 P Q w':=
 ⟨h.p.turn t (k.heap h.p h1),h.q.turn t (k.heap h.q h2),h.z4.turn t (k.heap h.z4 h1),h.z5.turn t (k.heap h.z5 h3),h.z6.turn t (k.heap h.z6 h3),t.toSince h.old fun q hq e=>hl q hq e,h.low⟩
theorem SwB.done {w0 w:World} {pb qb r4 r5 r6:Nat} {P Q:Array Value} (h:SwB w0 pb qb r4 r5 r6 P Q w) (c4 c5 c6:Array Value):HeapIs (((w.setRow r4 c4).setRow r5 c5).setRow r6 c6) r4 c4 24∧HeapIs (((w.setRow r4 c4).setRow r5 c5).setRow r6 c6) r5 c5 46∧HeapIs (((w.setRow r4 c4).setRow r5 c5).setRow r6 c6) r6 c6 46∧Since w0 (((w.setRow r4 c4).setRow r5 c5).setRow r6 c6):=by
 have t4:Turn (fun q=>q=r4) w (w.setRow r4 c4):=setRow_turn (S:=fun q=>q=r4) rfl c4
 have t5:Turn (fun q=>q=r5) (w.setRow r4 c4) ((w.setRow r4 c4).setRow r5 c5):=setRow_turn (S:=fun q=>q=r5) rfl c5
 have t6:Turn (fun q=>q=r6) ((w.setRow r4 c4).setRow r5 c5) (((w.setRow r4 c4).setRow r5 c5).setRow r6 c6):=setRow_turn (S:=fun q=>q=r6) rfl c6
 obtain⟨l4,l5,l6,n1,n2,n3⟩:=h.low
 have k4:HeapIs (w.setRow r4 c4) r4 c4 24:=setRow_block h.z4 c4
 have k5:HeapIs ((w.setRow r4 c4).setRow r5 c5) r5 c5 46:=setRow_block (h.z5.turn t4 fun e=>n1 e.symm) c5
 have k6:HeapIs (((w.setRow r4 c4).setRow r5 c5).setRow r6 c6) r6 c6 46:=setRow_block ((h.z6.turn t4 fun e=>n2 e.symm).turn t5 fun e=>n3 e.symm) c6
 exact⟨(k4.turn t5 n1).turn t6 n2,k5.turn t6 n3,k6,t6.toSince (t5.toSince (t4.toSince h.old fun q hq e=>by omega) fun q hq e=>by omega) fun q hq e=>by omega⟩
theorem flat_ins:∀ (l:List BlkV) (b:Nat) (y:BlkV) (ins:List PlV) (v:Value),l[b]? = some y→(l.flatMap blcells).set (b*6) v=(l.set b ⟨ins,v,y.fin⟩).flatMap blcells
 | [],b,y,ins,v,h=>by cases h
 | a::r,0,y,ins,v,h=>by
  cases h
  rw[List.flatMap_cons,List.set_cons_zero,List.flatMap_cons]
  simp only[blcells,List.cons_append,List.nil_append,Nat.zero_mul,List.set_cons_zero]
 | a::r,b+1,y,ins,v,h=>by
  rw[List.flatMap_cons,List.set_append_right _ _ (by rw[blcells_len];omega),blcells_len,show (b+1)*6-6=b*6 from by omega,flat_ins r b y ins v h]
  rfl
theorem row_setIns {B : Nat} {w : World} {g cap n:Nat} {l : List BlkV} {b : Nat} {y : BlkV} (ins:List PlV) (v:Value) (h:OwnRow blcells 6 56 B w (.slice (some ⟨g,0,none⟩) n cap) l) (hb:l[b]? = some y) :
  OwnRow blcells 6 56 B (w.setCell ⟨g,b*6,none⟩ v) (.slice (some ⟨g,0,none⟩) n cap) (l.set b ⟨ins,v,y.fin⟩):=by
 obtain⟨a',c',e⟩:=own_shape (show w.ownsRow _ _ _ _ _ _ from h)
 have hn:n=l.length:=by cases e;rfl
 subst hn
 have h1:=own_setCell (show w.ownsRow _ _ _ _ _ _ from h) (b*6) v
 rw[flat_ins l b y ins v hb]at h1
 unfold OwnRow
 rw[List.length_set]
 exact h1
structure SwF (w0:World) (B r4 r5 r6 ob xb:Nat) (O X9 c4 c5 c6:Array Value) (lv bv:Value) (l:List PlV) (bl:List BlkV) (w:World):Prop where
 out:HeapIs w ob O 24
 x:HeapIs w xb X9 58
 row:OwnRow plcells 9 58 B w lv l
 blks:OwnRow blcells 6 56 B w bv bl
 z4:HeapIs w r4 c4 24
 z5:HeapIs w r5 c5 46
 z6:HeapIs w r6 c6 46
 old:Since w0 w
 low:w0.heap.size≤r4∧w0.heap.size≤r5∧w0.heap.size≤r6∧ob≠r4∧r5≠r6
section
variable {w0 w w':World} {B r4 r5 r6 ob xb:Nat} {O X9 c4 c5 c6:Array Value} {lv bv:Value} {l : List PlV} {bl:List BlkV}
theorem SwF.keep (h:SwF w0 B r4 r5 r6 ob xb O X9 c4 c5 c6 lv bv l bl w) (s:Since w w'):SwF w0 B r4 r5 r6 ob xb O X9 c4 c5 c6 lv bv l bl w':=⟨h.out.keep s,h.x.keep s,h.row.keep s,h.blks.keep s,h.z4.keep s,h.z5.keep s,h.z6.keep s,h.old.trans s,h.low⟩
theorem SwF.set4 (h:SwF w0 B r4 r5 r6 ob xb O X9 c4 c5 c6 lv bv l bl w) (d:Array Value):SwF w0 B r4 r5 r6 ob xb O X9 d c5 c6 lv bv l bl (w.setRow r4 d):=by
 have t:Turn (fun q=>q=r4) w (w.setRow r4 d):=setRow_turn (S:=fun q=>q=r4) rfl d
 have k:=Kin.box h.z4
 exact⟨h.out.turn t h.low.2.2.2.1,h.x.turn t (k.heap h.x (by decide)),own_turn (show w.ownsRow _ _ _ _ _ _ from h.row) t (k.apart (show w.ownsRow _ _ _ _ _ _ from h.row) (by decide)),own_turn (show w.ownsRow _ _ _ _ _ _ from h.blks) t (k.apart (show w.ownsRow _ _ _ _ _ _ from h.blks) (by decide)),setRow_block h.z4 d,h.z5.turn t (k.heap h.z5 (by decide)),h.z6.turn t (k.heap h.z6 (by decide)),t.toSince h.old fun q hq e=>by have:=h.low;omega,h.low⟩
theorem SwF.set5 (h:SwF w0 B r4 r5 r6 ob xb O X9 c4 c5 c6 lv bv l bl w) (d:Array Value):SwF w0 B r4 r5 r6 ob xb O X9 c4 d c6 lv bv l bl (w.setRow r5 d):=by
 have t:Turn (fun q=>q=r5) w (w.setRow r5 d):=setRow_turn (S:=fun q=>q=r5) rfl d
 have k:=Kin.box h.z5
 exact⟨h.out.turn t (k.heap h.out (by decide)),h.x.turn t (k.heap h.x (by decide)),own_turn (show w.ownsRow _ _ _ _ _ _ from h.row) t (k.apart (show w.ownsRow _ _ _ _ _ _ from h.row) (by decide)),own_turn (show w.ownsRow _ _ _ _ _ _ from h.blks) t (k.apart (show w.ownsRow _ _ _ _ _ _ from h.blks) (by decide)),h.z4.turn t (k.heap h.z4 (by decide)),setRow_block h.z5 d,h.z6.turn t (fun e=>h.low.2.2.2.2 e.symm),t.toSince h.old fun q hq e=>by have:=h.low;omega,h.low⟩
theorem SwF.set6 (h:SwF w0 B r4 r5 r6 ob xb O X9 c4 c5 c6 lv bv l bl w) (d:Array Value):SwF w0 B r4 r5 r6 ob xb O X9 c4 c5 d lv bv l bl (w.setRow r6 d):=by
 have t:Turn (fun q=>q=r6) w (w.setRow r6 d):=setRow_turn (S:=fun q=>q=r6) rfl d
 have k:=Kin.box h.z6
 exact⟨h.out.turn t (k.heap h.out (by decide)),h.x.turn t (k.heap h.x (by decide)),own_turn (show w.ownsRow _ _ _ _ _ _ from h.row) t (k.apart (show w.ownsRow _ _ _ _ _ _ from h.row) (by decide)),own_turn (show w.ownsRow _ _ _ _ _ _ from h.blks) t (k.apart (show w.ownsRow _ _ _ _ _ _ from h.blks) (by decide)),h.z4.turn t (k.heap h.z4 (by decide)),h.z5.turn t h.low.2.2.2.2,setRow_block h.z6 d,t.toSince h.old fun q hq e=>by have:=h.low;omega,h.low⟩
end
theorem split2:∀ {l : List PlV} {i : Nat} {x y:PlV},l[i]? = some x→l[i+1]? = some y→∃ u v,l=u++x::y::v∧(l.set i y).set (i+1) x=u++y::x::v
 | [],_,_,_,h,_=>by cases h
 | [_],0,_,_,_,h=>by cases h
 | a::b::r,0,x,y,h1,h2=>by
  cases h1;cases h2
  exact⟨[],r,rfl,rfl⟩
 | a::r,i+1,x,y,h1,h2=>by
  obtain⟨u,v,e1,e2⟩:=split2 (l:=r) (i:=i) h1 h2
  exact⟨a::u,v,by rw[e1];rfl,by rw[List.set_cons_succ,List.set_cons_succ,e2];rfl⟩
def Swap17Q (p:PrgV) (w:World) (e:Ending) (w':World):Prop:=∃ (q:PrgV) (x y:Mach) (xv yv:Value),e=.returned (.tuple #[pv q,mv x xv,mv y yv])∧PrgOk w' q∧SwapP p q x y∧(Ints w' xv x.args∧Fine x)∧(Ints w' yv y.args∧Fine y)∧Since w w'
set_option maxHeartbeats 16000000 in
set_option maxRecDepth 1000000 in
theorem swapped17_any (p:PrgV) (a0 a1:Int) (w:World) (hp:PrgOk w p) (hn:p.blocks.length≤1000):Calls Try.prog 30 #[pv p,.agg #[.int .i64 a0,.int .i64 a1]] w (Swap17Q p w):=by
 obtain⟨pp,pk,ps,pbl,pbv⟩:=p
 obtain⟨pa,pc,hpv,_⟩:=RowIn.shape hp.1
 obtain⟨n,hnn⟩:∃ z,pbl.length=z:=⟨_,rfl⟩
 dsimp only at hpv hn
 rw[hnn]at hpv hn
 subst hpv
 have HP:=Lib.hid (show Blks w (.slice pa n pc) pbl from hp.1)
 have HN:=Lib.hid hnn
 clear hp hnn
 unfold pv
 dsimp only
 go_enter Try.func30,Try.ntmps30
 go_upto_region 1 with fail
 obtain⟨wa,hwa⟩:∃ z,z=w.alloc (.cells #[.int .i64 pp,.int .i64 pk,.int .i64 ps,.slice pa n pc] 24):=⟨_,rfl⟩
 obtain⟨wb,hwb⟩:∃ z,z=wa.alloc (.cells #[.int .i64 a0,.int .i64 a1] 65):=⟨_,rfl⟩
 obtain⟨wc,hwc⟩:∃ z,z=wb.alloc (.cells #[.int .i64 0,.int .i64 0,.int .i64 0,.slice none 0 0] 24):=⟨_,rfl⟩
 obtain⟨wd,hwd⟩:∃ z,z=wc.alloc (.cells #[.int .i64 0,.int .i64 0,.int .i64 0,.int .i64 0,.int .i64 0,.int .i64 0,.int .i32 0,.slice none 0 0] 46):=⟨_,rfl⟩
 obtain⟨w1,hw1⟩:∃ z,z=wd.alloc (.cells #[.int .i64 0,.int .i64 0,.int .i64 0,.int .i64 0,.int .i64 0,.int .i64 0,.int .i32 0,.slice none 0 0] 46):=⟨_,rfl⟩
 have za:wa.heap.size=w.heap.size+1:=by rw[hwa];simp
 have zb:wb.heap.size=w.heap.size+2:=by rw[hwb];simp[za]
 have zc:wc.heap.size=w.heap.size+3:=by rw[hwc];simp[zb]
 have zd:wd.heap.size=w.heap.size+4:=by rw[hwd];simp[zc]
 have sa:Since w wa:=by rw[hwa];exact (Since.refl _).alloc _
 have sb:Since wa wb:=by rw[hwb];exact (Since.refl _).alloc _
 have sc:Since wb wc:=by rw[hwc];exact (Since.refl _).alloc _
 have sd:Since wc wd:=by rw[hwd];exact (Since.refl _).alloc _
 have se:Since wd w1:=by rw[hw1];exact (Since.refl _).alloc _
 obtain⟨pb,hpb⟩:∃ z,z=w.heap.size:=⟨_,rfl⟩
 obtain⟨qb,hqb⟩:∃ z,z=w.heap.size+1:=⟨_,rfl⟩
 obtain⟨r4,hr4⟩:∃ z,z=w.heap.size+2:=⟨_,rfl⟩
 obtain⟨r5,hr5⟩:∃ z,z=w.heap.size+3:=⟨_,rfl⟩
 obtain⟨r6,hr6⟩:∃ z,z=w.heap.size+4:=⟨_,rfl⟩
 have hB:SwB w pb qb r4 r5 r6 #[.int .i64 pp,.int .i64 pk,.int .i64 ps,.slice pa n pc] #[.int .i64 a0,.int .i64 a1] w1:=by
  have k1:HeapIs wa pb #[.int .i64 pp,.int .i64 pk,.int .i64 ps,.slice pa n pc] 24:=by rw[hwa,hpb];exact HeapIs.new _ _ _
  have k2:HeapIs wb qb #[.int .i64 a0,.int .i64 a1] 65:=by rw[hwb,hqb,←za];exact HeapIs.new _ _ _
  have k3:HeapIs wc r4 #[.int .i64 0,.int .i64 0,.int .i64 0,.slice none 0 0] 24:=by rw[hwc,hr4,←zb];exact HeapIs.new _ _ _
  have k4:HeapIs wd r5 #[.int .i64 0,.int .i64 0,.int .i64 0,.int .i64 0,.int .i64 0,.int .i64 0,.int .i32 0,.slice none 0 0] 46:=by rw[hwd,hr5,←zc];exact HeapIs.new _ _ _
  have k5:HeapIs w1 r6 #[.int .i64 0,.int .i64 0,.int .i64 0,.int .i64 0,.int .i64 0,.int .i64 0,.int .i32 0,.slice none 0 0] 46:=by rw[hw1,hr6,←zd];exact HeapIs.new _ _ _
  exact⟨k1.keep (((sb.trans sc).trans sd).trans se),k2.keep ((sc.trans sd).trans se),k3.keep (sd.trans se),k4.keep se,k5,(((sa.trans sb).trans sc).trans sd).trans se,by omega⟩
 have HB:=Lib.hid hB
 rw[←hwa,←hwb,←hwc,←hwd,←hw1,←hr6,←hr5,←hr4,←hqb,←hpb]
 clear hwa hwb hwc hwd hw1 hr6 hr5 hr4 hqb hpb za zb zc zd sa sb sc sd se hB
 go_wp2_with fail
 go_loopw [7,8] (fun wv iv wr=>∃ (i m:Nat) (v:Value),wv=v∧iv=.int .i64 i∧i≤n∧(withs pbl i).length=m∧SwB w pb qb r4 r5 r6 #[.int .i64 pp,.int .i64 pk,.int .i64 ps,.slice pa n pc] #[.int .i64 a0,.int .i64 a1] wr∧wr.ownsRow w.heap.size 3 1 v m ((withs pbl i).map (Value.int .i64))) (fun _ iv _=>n-(intOf iv).toNat)
 case atStart=>exact⟨0,0,_,rfl,rfl,Nat.zero_le _,rfl,HB.out,⟨rfl,.inl ⟨rfl,rfl⟩⟩⟩
 case round =>
  obtain⟨i,m,v,rfl,rfl,hi,hm,hst,hown⟩:=hrel
  obtain⟨va,vc,hv⟩:=own_shape hown
  subst hv
  have HST:=Lib.hid hst
  have HOW:=Lib.hid hown
  have HM:=Lib.hid hm
  have hm9:m≤i:=by rw[←hm];exact withs_len _ _
  have hp3:=hst.p.cell 3
  have hpl:=hst.p.lt
  clear hst hown hm
  by_cases hlt:i<n
  ·obtain⟨B1,o1,y,he,hB,hy,hcy,hyin⟩:=RowIn.at (RowIn.keep BlkOk.keep HP.out HST.out.old) (show i<pbl.length by rw[HN.out];exact hlt)
   cases he
   have HKY:=Lib.hid hy
   obtain⟨il,iv,fin⟩:=y
   obtain⟨ia,ic,hiv,_⟩:=RowIn.shape hyin.1
   obtain⟨kl,hkl⟩:∃ z,il.length=z:=⟨_,rfl⟩
   dsimp only at hiv
   rw[hkl]at hiv
   subst hiv
   have c0:wr.cell? ⟨B1,o1+i*6,none⟩=some (.slice ia kl ic):=hcy 0 (by decide)
   have HKL:=Lib.hid hkl
   clear hy hcy hyin hkl
   by_cases h2:1<kl
   ·have K1:=Lib.hid (show (wr.alloc (.cells #[.int .i64 i] 3)).ownsRow w.heap.size 3 1 (.slice va m vc) (withs pbl i).length ((withs pbl i).map (Value.int .i64)) from by rw[HM.out];exact own_keep HOW.out ((Since.refl _).alloc _))
    have K2:=Lib.hid (show (withs pbl i).length + [(i:Int)].length≤1000000 from by rw[HM.out];simp;omega)
    have K3:=Lib.hid (show w.heap.size≤(wr.alloc (.cells #[.int .i64 i] 3)).heap.size from by have:=HST.out.old.size;simp;omega)
    go_wp2_with (refine wpList_append_nums2 (base:=w.heap.size) .i64 rfl _ _ 25 rfl 3 (.int .i64 0) 8 Try.underlying25 (by kernel_rfl) rfl (by decide) (.slice va m vc) _ (withs pbl i) [(i:Int)] rfl rfl K1.out (one_nums _ _ _) K2.out K3.out ?_;intro v6 w6 hown6 ht6 hnew6;rw[List.length_append,HM.out]at hown6;have HN6:=Lib.hid ((HST.out.keep ((Since.refl _).alloc _)).turn ht6 (Kin.row K1.out) (by decide) (by decide) (by decide) (fun q hq e=>by have:=(World.ownsRow.lt K1.out q e).1;omega));have HO6:=Lib.hid hown6;obtain⟨v6a,v6c,hv6⟩:=own_shape hown6;subst hv6;clear hown6 ht6 hnew6)
    go_roundw
    case rel=>exact⟨i+1,m+1,_,by trivial,by go_num,by omega,by rw[withs_yes HKY.out (by show 1<il.length;rw[HKL.out];exact h2),List.length_append,HM.out];rfl,HN6.out,by rw[withs_yes HKY.out (by show 1<il.length;rw[HKL.out];exact h2)];exact HO6.out⟩
    case measure=>simp[intOf];omega
   ·go_wp2_with fail
    go_roundw
    case rel=>exact⟨i+1,m,_,by trivial,by go_num,by omega,by rw[withs_no HKY.out (by show ¬ 1<il.length;rw[HKL.out];exact h2)];exact HM.out,HST.out,by rw[withs_no HKY.out (by show ¬ 1<il.length;rw[HKL.out];exact h2)];exact HOW.out⟩
    case measure=>simp[intOf];omega
  ·obtain rfl:n=i:=by omega
   by_cases hm0:m=0
   ·subst hm0
    have hp0:=HST.out.p.cell 0
    have hp1:=HST.out.p.cell 1
    have hp2:=HST.out.p.cell 2
    have HZ4:=Lib.hid HST.out.z4
    have HZ5:=Lib.hid (HST.out.z5.turn (setRow_turn (S:=fun q=>q=r4) rfl #[.int .i64 pp,.int .i64 pk,.int .i64 ps,.slice pa n pc]) (fun e=>HST.out.low.2.2.2.1 e.symm))
    have HZ6:=Lib.hid ((HST.out.z6.turn (setRow_turn (S:=fun q=>q=r4) rfl #[.int .i64 pp,.int .i64 pk,.int .i64 ps,.slice pa n pc]) (fun e=>HST.out.low.2.2.2.2.1 e.symm)).turn (setRow_turn (S:=fun q=>q=r5) rfl #[.int .i64 0,.int .i64 0,.int .i64 0,.int .i64 0,.int .i64 0,.int .i64 0,.int .i32 0,.slice none 0 0]) (fun e=>HST.out.low.2.2.2.2.2 e.symm))
    go_upto_region 8 with fail
    go_wp2_with (first | refine wpList_store_row rfl 24 _ _ rfl r4 #[.int .i64 pp,.int .i64 pk,.int .i64 ps,.slice pa n pc] rfl rfl 24 _ HZ4.out (by kernel_rfl) rfl (by rw[←Array.all_toList];rfl) ?_ | refine wpList_store_row rfl 46 _ _ rfl r5 #[.int .i64 0,.int .i64 0,.int .i64 0,.int .i64 0,.int .i64 0,.int .i64 0,.int .i32 0,.slice none 0 0] rfl rfl 46 _ HZ5.out (by kernel_rfl) rfl (by rw[←Array.all_toList];rfl) ?_ | refine wpList_store_row rfl 46 _ _ rfl r6 #[.int .i64 0,.int .i64 0,.int .i64 0,.int .i64 0,.int .i64 0,.int .i64 0,.int .i32 0,.slice none 0 0] rfl rfl 46 _ HZ6.out (by kernel_rfl) rfl (by rw[←Array.all_toList];rfl) ?_)
    go_wp2_with fail
    try simp only[Exit.inBlock,Exit.then]
    have hend:=HST.out.done #[.int .i64 pp,.int .i64 pk,.int .i64 ps,.slice pa n pc] #[.int .i64 0,.int .i64 0,.int .i64 0,.int .i64 0,.int .i64 0,.int .i64 0,.int .i32 0,.slice none 0 0] #[.int .i64 0,.int .i64 0,.int .i64 0,.int .i64 0,.int .i64 0,.int .i64 0,.int .i32 0,.slice none 0 0]
    refine bodyPost_ret (results_cells3 rfl _ _ r4 r5 r6 24 46 46 #[.int .i64 pp,.int .i64 pk,.int .i64 ps,.slice pa n pc] #[.int .i64 0,.int .i64 0,.int .i64 0,.int .i64 0,.int .i64 0,.int .i64 0,.int .i32 0,.slice none 0 0] #[.int .i64 0,.int .i64 0,.int .i64 0,.int .i64 0,.int .i64 0,.int .i64 0,.int .i32 0,.slice none 0 0] (0,0) (0,0) (0,0) _ _ _ rfl hend.1 Try.underlying24 rfl (by kernel_rfl) rfl hend.2.1 Try.underlying46 rfl (by kernel_rfl) rfl hend.2.2.1 Try.underlying46 rfl (by kernel_rfl)) rfl ?_
    exact⟨⟨pp,pk,ps,pbl,.slice pa n pc⟩,machZ,machZ,.slice none 0 0,.slice none 0 0,rfl,⟨RowIn.keep BlkOk.keep HP.out hend.2.2.2,by show pbl.length≤100000;rw[HN.out];omega⟩,⟨rfl,rfl,rfl,.inl ⟨rfl,rfl,rfl⟩⟩,⟨Nums.nil _ _,by decide,by decide,by decide⟩,⟨Nums.nil _ _,by decide,by decide,by decide⟩,hend.2.2.2⟩
   ·
    have hm9:0<m∧m≤1000:=by omega
    have hb0:=tmod_bd2 a0 m (by omega)
    have hm0q:((m:Int)==0)=false:=by rw[beq_eq_false_iff_ne];omega
    obtain⟨j,hj,hjm⟩:∃ j:Nat,(a0.tmod m+m) % m=j∧j<m:=⟨((a0.tmod m+m) % m).toNat,by have:=Int.emod_nonneg (a0.tmod m+m) (show (m:Int)≠0 by omega);omega,by have:=Int.emod_nonneg (a0.tmod m+m) (show (m:Int)≠0 by omega);have:=Int.emod_lt_of_pos (a0.tmod m+m) (show (0:Int)<m by omega);omega⟩
    obtain⟨x,hx⟩:∃ x,(withs pbl n)[j]? = some x:=⟨_,List.getElem?_eq_getElem (by rw[HM.out];exact hjm)⟩
    obtain⟨WB,woff,rfl,hWB,hcx⟩:=nums_read (nums_of_own (k:=.i64) (l:=withs pbl n) (by rw[HM.out];exact HOW.out)) hx
    rw[←HN.out]at hx
    obtain⟨b,blk,rfl,hblk,hb2⟩:=withs_at hx
    have hbn:b<n:=by have:=(List.getElem?_eq_some_iff.1 hblk).1;rw[HN.out]at this;exact this
    obtain⟨B1,o1,y,he,hB,hy,hcy,hyin⟩:=RowIn.at (RowIn.keep BlkOk.keep HP.out HST.out.old) (show b<pbl.length by rw[HN.out];exact hbn)
    cases he
    rw[hblk]at hy
    cases hy
    obtain⟨il,iv,fin⟩:=blk
    obtain⟨ia,ic,hiv,_⟩:=RowIn.shape hyin.1
    obtain⟨kl,hkl⟩:∃ z,il.length=z:=⟨_,rfl⟩
    dsimp only at hiv hb2
    rw[hkl]at hiv hb2
    subst hiv
    obtain⟨kn,rfl⟩:∃ kn,kl=kn+1:=⟨kl-1,by omega⟩
    have hkb:kn+1≤100000:=by have:=hyin.2.2;dsimp only at this;omega
    have c0:wr.cell? ⟨B1,o1+b*6,none⟩=some (.slice ia (kn+1) ic):=hcy 0 (by decide)
    have hB1:B1<wr.heap.size:=hB
    have HKL:=Lib.hid hkl
    have HBLK:=Lib.hid hblk
    have HPLS:=Lib.hid (show Pls wr (.slice ia (kn+1) ic) il from hyin.1)
    have hq0:=HST.out.q.cell 0
    have hq1:=HST.out.q.cell 1
    have hql:=HST.out.q.lt
    have hks:((kn+1:Nat):Int)-1=(kn:Int):=by omega
    have hb1:=tmod_bd2 a1 kn (by omega)
    have hk0q:((kn:Int)==0)=false:=by rw[beq_eq_false_iff_ne];omega
    obtain⟨i,hi2,hik⟩:∃ i:Nat,(a1.tmod kn+kn) % kn=i∧i<kn:=⟨((a1.tmod kn+kn) % kn).toNat,by have:=Int.emod_nonneg (a1.tmod kn+kn) (show (kn:Int)≠0 by omega);omega,by have:=Int.emod_nonneg (a1.tmod kn+kn) (show (kn:Int)≠0 by omega);have:=Int.emod_lt_of_pos (a1.tmod kn+kn) (show (0:Int)<kn by omega);omega⟩
    clear hx hblk hcy hyin hkl hB hp3 hpl hlt hi hm0
    have hp3:=HST.out.p.cell 3
    have hpl:=HST.out.p.lt
    have hp0:=HST.out.p.cell 0
    have hp1:=HST.out.p.cell 1
    have hp2:=HST.out.p.cell 2
    go_upto_region 10 with fail
    clear hj hb0 hm0q hcx hWB hq0
    go_upto_region 11 with fail
    clear c0 hB1 hks
    go_upto_region 12 with fail
    rw[hi2]
    clear hi2 hb1 hk0q hq1 hql
    go_upto_region 13 with fail
    obtain⟨ob,hob⟩:∃ z,z=wr.heap.size:=⟨_,rfl⟩
    obtain⟨w4,hw4⟩:∃ z,z=wr.alloc (.cells #[.int .i64 pp,.int .i64 pk,.int .i64 ps,.slice (some ⟨B1,o1,none⟩) n pc] 24):=⟨_,rfl⟩
    have HO4:=Lib.hid (show HeapIs w4 ob #[.int .i64 pp,.int .i64 pk,.int .i64 ps,.slice (some ⟨B1,o1,none⟩) n pc] 24 from by rw[hw4,hob];exact HeapIs.new _ _ _)
    have HSr4:=Lib.hid (show Since wr w4 from by rw[hw4];exact (Since.refl _).alloc _)
    have HOL:=Lib.hid (show wr.heap.size≤ob from by omega)
    rw[←hw4,←hob]
    clear hw4 hob hp0 hp1 hp2 hp3 hpl
    have HBL4:=Lib.hid (RowIn.keep BlkOk.keep HP.out (HST.out.old.trans HSr4.out))
    have HSRC:=Lib.hid (show SrcIs (w4.alloc (.cells #[] 56)) (.slice (some ⟨B1,o1,none⟩) n pc) n (pbl.flatMap blcells) from by
     have h9:=blks_src (RowIn.keep BlkOk.keep HBL4.out ((Since.refl _).alloc (.cells #[] 56)))
     rw[HN.out]at h9
     exact h9)
    have HLN:=Lib.hid (show (pbl.flatMap blcells).length=n*6 from by rw[blks_flat,HN.out])
    have HON:=Lib.hid (blks_one HBL4.out)
    have HNB:=Lib.hid (show n≤100000 from by omega)
    have HNW:=Lib.hid (show w4.heap.size≤(w4.alloc (.cells #[] 56)).heap.size from by simp)
    have HPX:=Lib.hid (HST.out.p.keep (HSr4.out.alloc (.cells #[] 56)))
    have HPN:=Lib.hid (show 0<n from by omega)
    have hp3:=HPX.out.cell 3
    have hpl:=HPX.out.lt
    go_upto_region 14 with (refine wpList_append_clone (w0:=w4) rfl _ _ 22 rfl 56 (.agg #[.slice none 0 0,.int .i64 0,.int .i64 0,.int .i64 0,.slice none 0 0,.int .i32 0]) 6 80 Try.underlying22 (by kernel_rfl) rfl (by decide) (by decide) (.slice (some ⟨w4.heap.size,0,none⟩) 0 0) (.slice (some ⟨B1,o1,none⟩) n pc) n (pbl.flatMap blcells) rfl rfl (IsNilOf.new (Nat.le_refl _)) HSRC.out HLN.out HNB.out HON.out HNW.out ?_;intro v6 w6 hown6 hs6;obtain⟨g6,c6,hv6,hg6,hg6b,hrow6⟩:=own_blks_at hown6 HN.out HPN.out;subst hv6;have HROW6:=Lib.hid hrow6;have HS46:=Lib.hid (((Since.refl w4).alloc _).trans hs6);have HG6:=Lib.hid (And.intro hg6 hg6b);have hq6:=HO4.out.keep (((Since.refl _).alloc _).trans hs6);have HQ6:=Lib.hid hq6;have hqc:=hq6.cell 3;have hqv:=hq6.lt;have hqf:=hq6.frozen;clear hown6 hs6 hg6 hg6b hrow6 hq6 hp3 hpl)
    obtain⟨w7,hw7⟩:∃ z,z=w6.setCell ⟨ob,3,none⟩ (.slice (some ⟨g6,0,none⟩) n c6):=⟨_,rfl⟩
    have ht7:Turn (fun q=>q=ob) w6 w7:=by rw[hw7];exact (Turn.refl (fun q=>q=ob) w6).setCell (p:=⟨ob,3,none⟩) rfl _
    have HO7:=Lib.hid (show HeapIs w7 ob #[.int .i64 pp,.int .i64 pk,.int .i64 ps,.slice (some ⟨g6,0,none⟩) n c6] 24 from by rw[hw7];exact HQ6.out.set 3 _)
    have HROW7:=Lib.hid (show OwnRow blcells 6 56 wr.heap.size w7 (.slice (some ⟨g6,0,none⟩) n c6) pbl from own_low (own_turn (show w6.ownsRow _ _ _ _ _ _ from HROW6.out) ht7 (Kin.apart (Kin.box HQ6.out) (show w6.ownsRow _ _ _ _ _ _ from HROW6.out) (by decide))) HSr4.out.size)
    have HS7:=Lib.hid (show Since wr w7 from ht7.toSince (HSr4.out.trans HS46.out) fun q hq e=>by have:=HOL.out;omega)
    rw[←hw7]
    clear hw7 ht7 hqc hqv hqf HQ6 HROW6 HSRC HPX HO4
    have HPL7:=Lib.hid (RowIn.keep PlOk.keep HPLS.out HS7.out)
    have HSR2:=Lib.hid (show SrcIs (w7.alloc (.cells #[] 58)) (.slice ia (kn+1) ic) (kn+1) (il.flatMap plcells) from by
     have h9:=pls_src (RowIn.keep PlOk.keep HPL7.out ((Since.refl _).alloc (.cells #[] 58)))
     rw[HKL.out]at h9
     exact h9)
    have HLN2:=Lib.hid (show (il.flatMap plcells).length=(kn+1)*9 from by rw[pls_flat,HKL.out])
    have HON2:=Lib.hid (pls_one HPL7.out)
    have HKB2:=Lib.hid hkb
    have HNW2:=Lib.hid (show w7.heap.size≤(w7.alloc (.cells #[] 58)).heap.size from by simp)
    have HPX:=Lib.hid (HST.out.p.keep (HS7.out.alloc (.cells #[] 58)))
    have hp3:=HPX.out.cell 3
    have hpl:=HPX.out.lt
    have HC0:=Lib.hid (show (w7.alloc (.cells #[] 58)).cell? ⟨B1,o1+b*6,none⟩=some (.slice ia (kn+1) ic)∧B1<(w7.alloc (.cells #[] 58)).heap.size from by
     obtain⟨B2,o2,y,he,hB,hy,hcy,hyin⟩:=RowIn.at (RowIn.keep BlkOk.keep HP.out (HST.out.old.trans (HS7.out.alloc (.cells #[] 58)))) (show b<pbl.length by rw[HN.out];exact hbn)
     cases he
     rw[HBLK.out]at hy
     cases hy
     exact⟨hcy 0 (by decide),hB⟩)
    have hc0:=HC0.out.1
    have hc0l:=HC0.out.2
    have HKP:=Lib.hid (show 0<kn+1 from by omega)
    go_upto_region 15 with (refine wpList_append_clone (w0:=w7) rfl _ _ 54 rfl 58 (.agg #[.int .i64 0,.int .i64 0,.int .i64 0,.int .i64 0,.int .i64 0,.int .i64 0,.int .i32 0,.slice none 0 0,.int .i64 0]) 9 88 Try.underlying54 (by kernel_rfl) rfl (by decide) (by decide) (.slice (some ⟨w7.heap.size,0,none⟩) 0 0) (.slice ia (kn+1) ic) (kn+1) (il.flatMap plcells) rfl rfl (IsNilOf.new (Nat.le_refl _)) HSR2.out HLN2.out HKB2.out HON2.out HNW2.out ?_;intro v9 w9 hown9 hs9;obtain⟨g9,c9,hv9,hg9,hg9b,hrow9⟩:=own_pls_at hown9 HKL.out HKP.out;subst hv9;have HROW9:=Lib.hid hrow9;have HS79:=Lib.hid (((Since.refl w7).alloc _).trans hs9);have HG9:=Lib.hid (And.intro hg9 hg9b);clear hown9 hs9 hg9 hg9b hrow9 hp3 hpl hc0 hc0l)
    have hi1:i+1<kn+1:=by omega
    obtain⟨Xx,hXx⟩:∃ x,il[i]? = some x:=⟨_,List.getElem?_eq_getElem (by rw[HKL.out];omega)⟩
    have HXOKx:=Lib.hid (RowIn.each_of HPLS.out Xx (List.mem_of_getElem? hXx))
    obtain⟨⟨xop,xd,xe,xa,xb,xc,ximm,xargs⟩,xav,xsrc⟩:=Xx
    obtain⟨xq,xm,hxv⟩:=nums_lenI HXOKx.out.1
    obtain⟨xn,hxn⟩:∃ z,xargs.length=z:=⟨_,rfl⟩
    dsimp only at hxv
    rw[hxn]at hxv
    subst hxv
    have HXx:=Lib.hid hXx
    have HXAx:=Lib.hid HXOKx.out
    clear hxn HXOKx hXx
    obtain⟨Xy,hXy⟩:∃ x,il[i+1]? = some x:=⟨_,List.getElem?_eq_getElem (by rw[HKL.out];omega)⟩
    have HXOKy:=Lib.hid (RowIn.each_of HPLS.out Xy (List.mem_of_getElem? hXy))
    obtain⟨⟨yop,yd,ye,ya,yb,yc,yimm,yargs⟩,yav,ysrc⟩:=Xy
    obtain⟨yq,ym,hyv⟩:=nums_lenI HXOKy.out.1
    obtain⟨yn,hyn⟩:∃ z,yargs.length=z:=⟨_,rfl⟩
    dsimp only at hyv
    rw[hyn]at hyv
    subst hyv
    have HXy:=Lib.hid hXy
    have HXAy:=Lib.hid HXOKy.out
    clear hyn HXOKy hXy
    have hxc:=own_cellAt plcells_len HROW9.out HXx.out
    have cx0:w9.cell? ⟨g9,i*9,none⟩=some (.int .i64 xop):=hxc.1 0 (by decide)
    have cx1:w9.cell? ⟨g9,i*9+1,none⟩=some (.int .i64 xd):=hxc.1 1 (by decide)
    have cx2:w9.cell? ⟨g9,i*9+2,none⟩=some (.int .i64 xe):=hxc.1 2 (by decide)
    have cx3:w9.cell? ⟨g9,i*9+3,none⟩=some (.int .i64 xa):=hxc.1 3 (by decide)
    have cx4:w9.cell? ⟨g9,i*9+4,none⟩=some (.int .i64 xb):=hxc.1 4 (by decide)
    have cx5:w9.cell? ⟨g9,i*9+5,none⟩=some (.int .i64 xc):=hxc.1 5 (by decide)
    have cx6:w9.cell? ⟨g9,i*9+6,none⟩=some (.int .i32 ximm):=hxc.1 6 (by decide)
    have cx7:w9.cell? ⟨g9,i*9+7,none⟩=some (.slice xq xn xm):=hxc.1 7 (by decide)
    have cx8:w9.cell? ⟨g9,i*9+8,none⟩=some (.int .i64 xsrc):=hxc.1 8 (by decide)
    have cxl:=hxc.2.1
    clear hxc
    go_upto_region 16 with fail
    clear cx0 cx1 cx2 cx3 cx4 cx5 cx6 cx7 cx8 cxl
    obtain⟨xbk,hxb⟩:∃ z,z=w9.heap.size:=⟨_,rfl⟩
    obtain⟨wx,hwx⟩:∃ z,z=w9.alloc (.cells #[.int .i64 xop,.int .i64 xd,.int .i64 xe,.int .i64 xa,.int .i64 xb,.int .i64 xc,.int .i32 ximm,.slice xq xn xm,.int .i64 xsrc] 58):=⟨_,rfl⟩
    have HXB:=Lib.hid (show HeapIs wx xbk #[.int .i64 xop,.int .i64 xd,.int .i64 xe,.int .i64 xa,.int .i64 xb,.int .i64 xc,.int .i32 ximm,.slice xq xn xm,.int .i64 xsrc] 58 from by rw[hwx,hxb];exact HeapIs.new _ _ _)
    have HS9x:=Lib.hid (show Since w9 wx from by rw[hwx];exact (Since.refl _).alloc _)
    have HXL:=Lib.hid (show w9.heap.size≤xbk from by omega)
    have HROWx:=Lib.hid (HROW9.out.keep HS9x.out)
    rw[←hwx,←hxb]
    clear hwx hxb
    have hyc:=own_cellAt plcells_len HROWx.out HXy.out
    have cy0:wx.cell? ⟨g9,(i+1)*9,none⟩=some (.int .i64 yop):=hyc.1 0 (by decide)
    have cy1:wx.cell? ⟨g9,(i+1)*9+1,none⟩=some (.int .i64 yd):=hyc.1 1 (by decide)
    have cy2:wx.cell? ⟨g9,(i+1)*9+2,none⟩=some (.int .i64 ye):=hyc.1 2 (by decide)
    have cy3:wx.cell? ⟨g9,(i+1)*9+3,none⟩=some (.int .i64 ya):=hyc.1 3 (by decide)
    have cy4:wx.cell? ⟨g9,(i+1)*9+4,none⟩=some (.int .i64 yb):=hyc.1 4 (by decide)
    have cy5:wx.cell? ⟨g9,(i+1)*9+5,none⟩=some (.int .i64 yc):=hyc.1 5 (by decide)
    have cy6:wx.cell? ⟨g9,(i+1)*9+6,none⟩=some (.int .i32 yimm):=hyc.1 6 (by decide)
    have cy7:wx.cell? ⟨g9,(i+1)*9+7,none⟩=some (.slice yq yn ym):=hyc.1 7 (by decide)
    have cy8:wx.cell? ⟨g9,(i+1)*9+8,none⟩=some (.int .i64 ysrc):=hyc.1 8 (by decide)
    have cyl:=hyc.2.1
    have hyf:=hyc.2.2
    have hxc:=own_cellAt plcells_len HROWx.out HXx.out
    have cx0:wx.cell? ⟨g9,i*9,none⟩=some (.int .i64 xop):=hxc.1 0 (by decide)
    have cx1:wx.cell? ⟨g9,i*9+1,none⟩=some (.int .i64 xd):=hxc.1 1 (by decide)
    have cx2:wx.cell? ⟨g9,i*9+2,none⟩=some (.int .i64 xe):=hxc.1 2 (by decide)
    have cx3:wx.cell? ⟨g9,i*9+3,none⟩=some (.int .i64 xa):=hxc.1 3 (by decide)
    have cx4:wx.cell? ⟨g9,i*9+4,none⟩=some (.int .i64 xb):=hxc.1 4 (by decide)
    have cx5:wx.cell? ⟨g9,i*9+5,none⟩=some (.int .i64 xc):=hxc.1 5 (by decide)
    have cx6:wx.cell? ⟨g9,i*9+6,none⟩=some (.int .i32 ximm):=hxc.1 6 (by decide)
    have cx7:wx.cell? ⟨g9,i*9+7,none⟩=some (.slice xq xn xm):=hxc.1 7 (by decide)
    have cx8:wx.cell? ⟨g9,i*9+8,none⟩=some (.int .i64 xsrc):=hxc.1 8 (by decide)
    have cxl:=hxc.2.1
    clear hxc hyc
    go_upto_region 17 with fail
    clear cx0 cx1 cx2 cx3 cx4 cx5 cx6 cx7 cx8 cxl cy0 cy1 cy2 cy3 cy4 cy5 cy6 cy7 cy8 cyl hyf
    obtain⟨wy,hwy⟩:∃ z,z=(((((((((wx.setCell ⟨g9,i*9,none⟩ (.int .i64 yop)).setCell ⟨g9,i*9+1,none⟩ (.int .i64 yd)).setCell ⟨g9,i*9+2,none⟩ (.int .i64 ye)).setCell ⟨g9,i*9+3,none⟩ (.int .i64 ya)).setCell ⟨g9,i*9+4,none⟩ (.int .i64 yb)).setCell ⟨g9,i*9+5,none⟩ (.int .i64 yc)).setCell ⟨g9,i*9+6,none⟩ (.int .i32 yimm)).setCell ⟨g9,i*9+7,none⟩ (.slice yq yn ym)).setCell ⟨g9,i*9+8,none⟩ (.int .i64 ysrc)):=⟨_,rfl⟩
    have HTy:=Lib.hid (show Turn (fun q=>q=g9) wx wy from by rw[hwy];exact ((((((((((Turn.refl (fun q=>q=g9) wx).setCell (p:=⟨g9,i*9,none⟩) rfl _).setCell (p:=⟨g9,i*9+1,none⟩) rfl _).setCell (p:=⟨g9,i*9+2,none⟩) rfl _).setCell (p:=⟨g9,i*9+3,none⟩) rfl _).setCell (p:=⟨g9,i*9+4,none⟩) rfl _).setCell (p:=⟨g9,i*9+5,none⟩) rfl _).setCell (p:=⟨g9,i*9+6,none⟩) rfl _).setCell (p:=⟨g9,i*9+7,none⟩) rfl _).setCell (p:=⟨g9,i*9+8,none⟩) rfl _))
    have HROWy:=Lib.hid (show OwnRow plcells 9 58 w7.heap.size wy (.slice (some ⟨g9,0,none⟩) (kn+1) c9) (il.set i ⟨⟨yop,yd,ye,ya,yb,yc,yimm,yargs⟩,.slice yq yn ym,ysrc⟩) from by rw[hwy];exact row_setPl ⟨⟨yop,yd,ye,ya,yb,yc,yimm,yargs⟩,.slice yq yn ym,ysrc⟩ HROWx.out (by rw[HKL.out];omega))
    rw[←hwy]
    clear hwy
    have HYy:=Lib.hid (show (il.set i ⟨⟨yop,yd,ye,ya,yb,yc,yimm,yargs⟩,.slice yq yn ym,ysrc⟩)[i+1]? = some ⟨⟨yop,yd,ye,ya,yb,yc,yimm,yargs⟩,.slice yq yn ym,ysrc⟩ from by rw[List.getElem?_set_ne (by omega)];exact HXy.out)
    have HXBy:=Lib.hid (HXB.out.turn HTy.out (fun e=>by have:=HG9.out.2;have:=HXL.out;omega))
    have hyc:=own_cellAt plcells_len HROWy.out HYy.out
    have cy0:wy.cell? ⟨g9,(i+1)*9,none⟩=some (.int .i64 yop):=hyc.1 0 (by decide)
    have cy1:wy.cell? ⟨g9,(i+1)*9+1,none⟩=some (.int .i64 yd):=hyc.1 1 (by decide)
    have cy2:wy.cell? ⟨g9,(i+1)*9+2,none⟩=some (.int .i64 ye):=hyc.1 2 (by decide)
    have cy3:wy.cell? ⟨g9,(i+1)*9+3,none⟩=some (.int .i64 ya):=hyc.1 3 (by decide)
    have cy4:wy.cell? ⟨g9,(i+1)*9+4,none⟩=some (.int .i64 yb):=hyc.1 4 (by decide)
    have cy5:wy.cell? ⟨g9,(i+1)*9+5,none⟩=some (.int .i64 yc):=hyc.1 5 (by decide)
    have cy6:wy.cell? ⟨g9,(i+1)*9+6,none⟩=some (.int .i32 yimm):=hyc.1 6 (by decide)
    have cy7:wy.cell? ⟨g9,(i+1)*9+7,none⟩=some (.slice yq yn ym):=hyc.1 7 (by decide)
    have cy8:wy.cell? ⟨g9,(i+1)*9+8,none⟩=some (.int .i64 ysrc):=hyc.1 8 (by decide)
    have cyl:=hyc.2.1
    have hyf:=hyc.2.2
    have hbx:=HXBy.out
    have cx0:=hbx.cell 0
    have cx1:=hbx.cell 1
    have cx2:=hbx.cell 2
    have cx3:=hbx.cell 3
    have cx4:=hbx.cell 4
    have cx5:=hbx.cell 5
    have cx6:=hbx.cell 6
    have cx7:=hbx.cell 7
    have cx8:=hbx.cell 8
    have cxl:=hbx.lt
    clear hyc hbx
    go_upto_region 18 with fail
    clear cx0 cx1 cx2 cx3 cx4 cx5 cx6 cx7 cx8 cxl cy0 cy1 cy2 cy3 cy4 cy5 cy6 cy7 cy8 cyl hyf
    obtain⟨wz,hwz⟩:∃ z,z=(((((((((wy.setCell ⟨g9,(i+1)*9,none⟩ (.int .i64 xop)).setCell ⟨g9,(i+1)*9+1,none⟩ (.int .i64 xd)).setCell ⟨g9,(i+1)*9+2,none⟩ (.int .i64 xe)).setCell ⟨g9,(i+1)*9+3,none⟩ (.int .i64 xa)).setCell ⟨g9,(i+1)*9+4,none⟩ (.int .i64 xb)).setCell ⟨g9,(i+1)*9+5,none⟩ (.int .i64 xc)).setCell ⟨g9,(i+1)*9+6,none⟩ (.int .i32 ximm)).setCell ⟨g9,(i+1)*9+7,none⟩ (.slice xq xn xm)).setCell ⟨g9,(i+1)*9+8,none⟩ (.int .i64 xsrc)):=⟨_,rfl⟩
    have HTz:=Lib.hid (show Turn (fun q=>q=g9) wy wz from by rw[hwz];exact ((((((((((Turn.refl (fun q=>q=g9) wy).setCell (p:=⟨g9,(i+1)*9,none⟩) rfl _).setCell (p:=⟨g9,(i+1)*9+1,none⟩) rfl _).setCell (p:=⟨g9,(i+1)*9+2,none⟩) rfl _).setCell (p:=⟨g9,(i+1)*9+3,none⟩) rfl _).setCell (p:=⟨g9,(i+1)*9+4,none⟩) rfl _).setCell (p:=⟨g9,(i+1)*9+5,none⟩) rfl _).setCell (p:=⟨g9,(i+1)*9+6,none⟩) rfl _).setCell (p:=⟨g9,(i+1)*9+7,none⟩) rfl _).setCell (p:=⟨g9,(i+1)*9+8,none⟩) rfl _))
    have HROWz:=Lib.hid (show OwnRow plcells 9 58 w7.heap.size wz (.slice (some ⟨g9,0,none⟩) (kn+1) c9) ((il.set i ⟨⟨yop,yd,ye,ya,yb,yc,yimm,yargs⟩,.slice yq yn ym,ysrc⟩).set (i+1) ⟨⟨xop,xd,xe,xa,xb,xc,ximm,xargs⟩,.slice xq xn xm,xsrc⟩) from by rw[hwz];exact row_setPl ⟨⟨xop,xd,xe,xa,xb,xc,ximm,xargs⟩,.slice xq xn xm,xsrc⟩ HROWy.out (by rw[List.length_set,HKL.out];omega))
    rw[←hwz]
    clear hwz
    have HXBz:=Lib.hid (HXBy.out.turn HTz.out (fun e=>by have:=HG9.out.2;have:=HXL.out;omega))
    have HS7z:=Lib.hid (show Since w7 wz from HTz.out.toSince (HTy.out.toSince (HS79.out.trans HS9x.out) fun q hq e=>by have:=HG9.out.1;omega) fun q hq e=>by have:=HG9.out.1;omega)
    have HOz:=Lib.hid (HO7.out.keep HS7z.out)
    have HBz:=Lib.hid (HROW7.out.keep HS7z.out)
    have ho3:=HOz.out.cell 3
    have hol:=HOz.out.lt
    have hbc:=own_cellAt blcells_len HBz.out HBLK.out
    have hb0:wz.cell? ⟨g6,b*6,none⟩=some (.slice ia (kn+1) ic):=hbc.1 0 (by decide)
    have hbl:=hbc.2.1
    have hbf:=hbc.2.2
    clear hbc
    go_upto_region 19 with fail
    clear ho3 hol hb0 hbl hbf
    obtain⟨wv,hwv⟩:∃ z,z=wz.setCell ⟨g6,b*6,none⟩ (.slice (some ⟨g9,0,none⟩) (kn+1) c9):=⟨_,rfl⟩
    have HTv:=Lib.hid (show Turn (fun q=>q=g6) wz wv from by rw[hwv];exact (Turn.refl (fun q=>q=g6) wz).setCell (p:=⟨g6,b*6,none⟩) rfl _)
    have HBv:=Lib.hid (show OwnRow blcells 6 56 wr.heap.size wv (.slice (some ⟨g6,0,none⟩) n c6) (pbl.set b ⟨((il.set i ⟨⟨yop,yd,ye,ya,yb,yc,yimm,yargs⟩,.slice yq yn ym,ysrc⟩).set (i+1) ⟨⟨xop,xd,xe,xa,xb,xc,ximm,xargs⟩,.slice xq xn xm,xsrc⟩),.slice (some ⟨g9,0,none⟩) (kn+1) c9,fin⟩) from by rw[hwv];exact row_setIns _ _ HBz.out HBLK.out)
    rw[←hwv]
    clear hwv
    have HKv:=Lib.hid (show Kin wz 56 (fun q=>q=g6) from fun q e=>by
     obtain⟨cur,hc⟩:=own_heap (show wz.ownsRow _ _ _ _ _ _ from HBz.out) (q:=g6) rfl
     exact⟨cur,by rw[e];exact hc⟩)
    have HS7r:=Lib.hid (show Since wr wz from HS7.out.trans HS7z.out)
    have HSF:=Lib.hid (show SwF w wr.heap.size r4 r5 r6 ob xbk #[.int .i64 pp,.int .i64 pk,.int .i64 ps,.slice (some ⟨g6,0,none⟩) n c6] #[.int .i64 xop,.int .i64 xd,.int .i64 xe,.int .i64 xa,.int .i64 xb,.int .i64 xc,.int .i32 ximm,.slice xq xn xm,.int .i64 xsrc] #[.int .i64 0,.int .i64 0,.int .i64 0,.slice none 0 0] #[.int .i64 0,.int .i64 0,.int .i64 0,.int .i64 0,.int .i64 0,.int .i64 0,.int .i32 0,.slice none 0 0] #[.int .i64 0,.int .i64 0,.int .i64 0,.int .i64 0,.int .i64 0,.int .i64 0,.int .i32 0,.slice none 0 0] (.slice (some ⟨g9,0,none⟩) (kn+1) c9) (.slice (some ⟨g6,0,none⟩) n c6) ((il.set i ⟨⟨yop,yd,ye,ya,yb,yc,yimm,yargs⟩,.slice yq yn ym,ysrc⟩).set (i+1) ⟨⟨xop,xd,xe,xa,xb,xc,ximm,xargs⟩,.slice xq xn xm,xsrc⟩) (pbl.set b ⟨((il.set i ⟨⟨yop,yd,ye,ya,yb,yc,yimm,yargs⟩,.slice yq yn ym,ysrc⟩).set (i+1) ⟨⟨xop,xd,xe,xa,xb,xc,ximm,xargs⟩,.slice xq xn xm,xsrc⟩),.slice (some ⟨g9,0,none⟩) (kn+1) c9,fin⟩) wv from by
     have b1:=HST.out.keep HS7r.out
     have l4:=HST.out.z4.lt
     have hgl:wr.heap.size≤g6:=(World.ownsRow.lt (show wz.ownsRow _ _ _ _ _ _ from HBz.out) g6 rfl).1
     have b2:=b1.turn HTv.out HKv.out (by decide) (by decide) (by decide) fun q hq e=>by have:=HST.out.old.size;omega
     exact⟨HOz.out.turn HTv.out (HKv.out.heap HOz.out (by decide)),HXBz.out.turn HTv.out (HKv.out.heap HXBz.out (by decide)),own_low (own_turn (show wz.ownsRow _ _ _ _ _ _ from HROWz.out) HTv.out (HKv.out.apart (show wz.ownsRow _ _ _ _ _ _ from HROWz.out) (by decide))) HS7.out.size,HBv.out,b2.z4,b2.z5,b2.z6,b2.old,by have:=HST.out.low;have:=HOL.out;omega⟩)
    have HYI:=Lib.hid (show ((il.set i ⟨⟨yop,yd,ye,ya,yb,yc,yimm,yargs⟩,.slice yq yn ym,ysrc⟩).set (i+1) ⟨⟨xop,xd,xe,xa,xb,xc,ximm,xargs⟩,.slice xq xn xm,xsrc⟩)[i]? = some ⟨⟨yop,yd,ye,ya,yb,yc,yimm,yargs⟩,.slice yq yn ym,ysrc⟩ from by rw[List.getElem?_set_ne (by omega),List.getElem?_set_self (by rw[HKL.out];omega)])
    clear HO7 HROW7 HXB HROW9 HROWx HROWy HROWz HXBy HXBz HOz HBz HBv HTy HTz HTv HKv
    refine wp_region_phases [8,9,10] [0,0,0,0,0,0,0,0,0,1,2] [0,1,1,2,2,2,2,2,0,1,2] [0,0,0,0,0,0,0,0,1,1,1] (fun p w1=>SwF w wr.heap.size r4 r5 r6 ob xbk #[.int .i64 pp,.int .i64 pk,.int .i64 ps,.slice (some ⟨g6,0,none⟩) n c6] #[.int .i64 xop,.int .i64 xd,.int .i64 xe,.int .i64 xa,.int .i64 xb,.int .i64 xc,.int .i32 ximm,.slice xq xn xm,.int .i64 xsrc] (if p=0 then #[.int .i64 0,.int .i64 0,.int .i64 0,.slice none 0 0] else #[.int .i64 pp,.int .i64 pk,.int .i64 ps,.slice (some ⟨g6,0,none⟩) n c6]) (if p≤1 then #[.int .i64 0,.int .i64 0,.int .i64 0,.int .i64 0,.int .i64 0,.int .i64 0,.int .i32 0,.slice none 0 0] else #[.int .i64 xop,.int .i64 xd,.int .i64 xe,.int .i64 xa,.int .i64 xb,.int .i64 xc,.int .i32 ximm,.slice xq xn xm]) (if p≤2 then #[.int .i64 0,.int .i64 0,.int .i64 0,.int .i64 0,.int .i64 0,.int .i64 0,.int .i32 0,.slice none 0 0] else #[.int .i64 yop,.int .i64 yd,.int .i64 ye,.int .i64 ya,.int .i64 yb,.int .i64 yc,.int .i32 yimm,.slice yq yn ym]) (.slice (some ⟨g9,0,none⟩) (kn+1) c9) (.slice (some ⟨g6,0,none⟩) n c6) ((il.set i ⟨⟨yop,yd,ye,ya,yb,yc,yimm,yargs⟩,.slice yq yn ym,ysrc⟩).set (i+1) ⟨⟨xop,xd,xe,xa,xb,xc,ximm,xargs⟩,.slice xq xn xm,xsrc⟩) (pbl.set b ⟨((il.set i ⟨⟨yop,yd,ye,ya,yb,yc,yimm,yargs⟩,.slice yq yn ym,ysrc⟩).set (i+1) ⟨⟨xop,xd,xe,xa,xb,xc,ximm,xargs⟩,.slice xq xn xm,xsrc⟩),.slice (some ⟨g9,0,none⟩) (kn+1) c9,fin⟩) w1) rfl (by decide +kernel) (by decide +kernel) (by decide +kernel)
     [Is (.agg #[.int .i64 pp,.int .i64 pk,.int .i64 ps,.slice (some ⟨g6,0,none⟩) n c6]),Is (.pointer (some ⟨xbk,0,none⟩)),Is (.agg #[.int .i64 xop,.int .i64 xd,.int .i64 xe,.int .i64 xa,.int .i64 xb,.int .i64 xc,.int .i32 ximm,.slice xq xn xm]),Is (.slice (some ⟨g9,0,none⟩) (kn+1) c9),Is (.int .i64 i),Is (.pointer (some ⟨g9,i*9,none⟩)),Is (.pointer (some ⟨g9,i*9,none⟩)),Is (.agg #[.int .i64 yop,.int .i64 yd,.int .i64 ye,.int .i64 ya,.int .i64 yb,.int .i64 yc,.int .i32 yimm,.slice yq yn ym]),Any,Any,Any]
     (by repeat (first | exact trivial | refine⟨Is.fixed _,?_⟩ | refine⟨Any.fixed,?_⟩)) (HSF.out.keep (Since.refl _).drew) ⟨?_,?_,?_,?_,?_,?_,?_,?_,?_,?_,?_,trivial⟩ ?_
    rotate_right
    ·intro vs w1 _ hph hk
     simp only[putAll,Act.put,KnowsAll,nthF,Is,Any,List.setIfInBounds_toArray,List.set_cons_zero,List.set_cons_succ,Nat.reduceAdd,List.length_cons,List.length_nil]at hk ⊢
     try simp only[hk]
     have hsf:=hph
     clear hk
     have HF:=Lib.hid hsf
     clear hph hsf
     go_wp2_with fail
     try simp only[Exit.inBlock,Exit.then]
     have hsf:=HF.out
     refine bodyPost_ret (results_cells3 rfl _ _ r4 r5 r6 24 46 46 #[.int .i64 pp,.int .i64 pk,.int .i64 ps,.slice (some ⟨g6,0,none⟩) n c6] #[.int .i64 xop,.int .i64 xd,.int .i64 xe,.int .i64 xa,.int .i64 xb,.int .i64 xc,.int .i32 ximm,.slice xq xn xm] #[.int .i64 yop,.int .i64 yd,.int .i64 ye,.int .i64 ya,.int .i64 yb,.int .i64 yc,.int .i32 yimm,.slice yq yn ym] (0,0) (0,0) (0,0) _ _ _ rfl hsf.z4 Try.underlying24 rfl (by kernel_rfl) rfl hsf.z5 Try.underlying46 rfl (by kernel_rfl) rfl hsf.z6 Try.underlying46 rfl (by kernel_rfl)) rfl ?_
     have hbw:=RowIn.each_of HP.out _ (List.mem_of_getElem? HBLK.out)
     have hpw:=fun y hy=>RowIn.each_of hbw.1 y hy
     obtain⟨u,v,hu1,hu2⟩:=split2 HXx.out HXy.out
     have hxw:=hpw _ (List.mem_of_getElem? HXx.out)
     have hyw:=hpw _ (List.mem_of_getElem? HXy.out)
     refine⟨⟨pp,pk,ps,_,.slice (some ⟨g6,0,none⟩) n c6⟩,⟨xop,xd,xe,xa,xb,xc,ximm,xargs⟩,⟨yop,yd,ye,ya,yb,yc,yimm,yargs⟩,.slice xq xn xm,.slice yq yn ym,rfl,⟨row_own_in blcells_len hsf.blks fun z hz=>?_,by show (pbl.set b _).length≤100000;rw[List.length_set,HN.out];omega⟩,⟨rfl,rfl,rfl,.inr ⟨b,u,v,_,_,_,_,HBLK.out,hu1,rfl,hu2,rfl,rfl,rfl⟩⟩,⟨hxw.1.keep hsf.old,hxw.2.1⟩,⟨hyw.1.keep hsf.old,hyw.2.1⟩,hsf.old⟩
     rcases List.mem_or_eq_of_mem_set hz with hz|rfl
     ·exact BlkOk.keep _ _ _ (RowIn.each_of HP.out z hz) hsf.old
     ·refine⟨row_own_in plcells_len hsf.row fun y hy=>PlOk.keep _ _ _ (hpw y ?_) hsf.old,hbw.2.1.keep hsf.old,?_⟩
      ·rw[hu2]at hy
       show y∈il
       rw[hu1]
       simp only[List.mem_append,List.mem_cons]at hy ⊢
       rcases hy with hy|hy|hy|hy
       ·exact .inl hy
       ·exact .inr (.inr (.inl hy))
       ·exact .inr (.inl hy)
       ·exact .inr (.inr (.inr hy))
      ·dsimp only
       rw[List.length_set,List.length_set,HKL.out]
       exact hkb
    all_goals
     intro p vs w1 hlo hhi _ hph hk
     simp only[putAll,Act.put,Knows,nthF,Is,Any,List.setIfInBounds_toArray,List.set_cons_zero,List.set_cons_succ,Nat.reduceAdd]at hk ⊢
     try simp only[hk]
    ·have hbx:=hph.out
     have k0:=hbx.cell 0
     have k1:=hbx.cell 1
     have k2:=hbx.cell 2
     have k3:=hbx.cell 3
     have kl:=hbx.lt
     clear hbx
     go_wp2
     exact⟨_,rfl,rfl,trivial,hph⟩
    ·go_wp2
     exact⟨_,rfl,rfl,trivial,hph⟩
    ·have hbx:=hph.x
     have k0:=hbx.cell 0
     have k1:=hbx.cell 1
     have k2:=hbx.cell 2
     have k3:=hbx.cell 3
     have k4:=hbx.cell 4
     have k5:=hbx.cell 5
     have k6:=hbx.cell 6
     have k7:=hbx.cell 7
     have kl:=hbx.lt
     clear hbx
     go_wp2
     exact⟨_,rfl,rfl,trivial,hph⟩
    ·go_wp2
     exact⟨_,rfl,rfl,trivial,hph⟩
    ·go_wp2
     exact⟨_,rfl,rfl,trivial,hph⟩
    ·go_wp2
     exact⟨_,rfl,rfl,trivial,hph⟩
    ·go_wp2
     exact⟨_,rfl,rfl,trivial,hph⟩
    ·have hr:=own_cellAt plcells_len hph.row HYI.out
     have k0:=hr.1 0 (by decide)
     have k1:=hr.1 1 (by decide)
     have k2:=hr.1 2 (by decide)
     have k3:=hr.1 3 (by decide)
     have k4:=hr.1 4 (by decide)
     have k5:=hr.1 5 (by decide)
     have k6:=hr.1 6 (by decide)
     have k7:=hr.1 7 (by decide)
     simp only[plcells,List.getElem?_cons_zero,List.getElem?_cons_succ,Nat.add_zero]at k0 k1 k2 k3 k4 k5 k6 k7
     have kl:=hr.2.1
     clear hr
     go_wp2
     exact⟨_,rfl,rfl,trivial,hph⟩
    ·obtain rfl:p=0:=by omega
     have hz:=hph.z4
     go_wp2_with (refine wpList_store_row rfl 24 _ _ rfl r4 #[.int .i64 pp,.int .i64 pk,.int .i64 ps,.slice (some ⟨g6,0,none⟩) n c6] rfl rfl 24 _ hz (by kernel_rfl) rfl (by rw[←Array.all_toList];rfl) ?_)
     exact⟨undef,rfl,trivial,trivial,hph.set4 _⟩
    ·obtain rfl:p=1:=by omega
     have hz:=hph.z5
     go_wp2_with (refine wpList_store_row rfl 46 _ _ rfl r5 #[.int .i64 xop,.int .i64 xd,.int .i64 xe,.int .i64 xa,.int .i64 xb,.int .i64 xc,.int .i32 ximm,.slice xq xn xm] rfl rfl 46 _ hz (by kernel_rfl) rfl (by rw[←Array.all_toList];rfl) ?_)
     exact⟨undef,rfl,trivial,trivial,hph.set5 _⟩
    ·obtain rfl:p=2:=by omega
     have hz:=hph.z6
     go_wp2_with (refine wpList_store_row rfl 46 _ _ rfl r6 #[.int .i64 yop,.int .i64 yd,.int .i64 ye,.int .i64 ya,.int .i64 yb,.int .i64 yc,.int .i32 yimm,.slice yq yn ym] rfl rfl 46 _ hz (by kernel_rfl) rfl (by rw[←Array.all_toList];rfl) ?_)
     exact⟨undef,rfl,trivial,trivial,hph.set6 _⟩
end Go.Proofs.Ytkpbmbhejpmboaa
