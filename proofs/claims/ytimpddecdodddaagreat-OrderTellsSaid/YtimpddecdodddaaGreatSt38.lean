import Derived.Test.YtimpddecdodddaaGreatSt18
import Derived.Test.YtimpddecdodddaaGreatSt20
namespace Go.Proofs.YtimpddecdodddaaGreat
open Go.Proofs.Tryz Go.RowKit Go.ChangeShapes Go.WideShapes Go.Lib
set_option linter.unusedVariables false
set_option maxHeartbeats 16000000
set_option maxRecDepth 1000000
theorem kF {P:Prop} (h:P:=by
 go_wp2
 exact⟨_,rfl,rfl,trivial,hg⟩):P:=h
theorem VE {P : Program} {fn:Func} {p q r:Tmp} {ty tz tu:TypeId} (h:fn.results=#[.cell p ty,.cell q tz,.cell r tu]) (tmps:Array Value) (w:World) (g1 g2 g3:Nat) (t1 t2 t3:TypeId) (c1 c2 c3:Array Value) (f1 f2 f3:Nat × Nat) (d1 d2 d3:TypeDesc)
  (hp:tmps.getD p undef=.pointer (some ⟨g1,0,none⟩)) (hg:w.heap[g1]? = some (.cells c1 t1 f1)) (hu:P.underlying ty=some d1) (hd:(match d1 with | .struct _ | .array _ _=>true | _=>false)=true) (hi:(P.info? ty).map (·.size)=some c1.size)
  (hh:tmps.getD q undef=.pointer (some ⟨g2,0,none⟩)) (hn:w.heap[g2]? = some (.cells c2 t2 f2)) (hb:P.underlying tz=some d2) (hq:(match d2 with | .struct _ | .array _ _=>true | _=>false)=true) (hl:(P.info? tz).map (·.size)=some c2.size)
  (hf:tmps.getD r undef=.pointer (some ⟨g3,0,none⟩)) (hm:w.heap[g3]? = some (.cells c3 t3 f3)) (ha:P.underlying tu=some d3) (ho:(match d3 with | .struct _ | .array _ _=>true | _=>false)=true) (hk:(P.info? tu).map (·.size)=some c3.size) :
  (results fn tmps).run P w=.ok (.tuple #[.agg c1,.agg c2,.agg c3]) w:=by
 have hj:tmps[p]?.getD undef=.pointer (some ⟨g1,0,none⟩):=by simpa using hp
 have he:tmps[q]?.getD undef=.pointer (some ⟨g2,0,none⟩):=by simpa using hh
 have hc:tmps[r]?.getD undef=.pointer (some ⟨g3,0,none⟩):=by simpa using hf
 simp[results,h,hj,he,hc,asAddr,run_loadVar_row w g1 t1 ty c1 f1 d1 hg hu hd hi,run_loadVar_row w g2 t2 tz c2 f2 d2 hn hb hq hl,run_loadVar_row w g3 t3 tu c3 f3 d3 hm ha ho hk]
theorem Kd (x n:Int) (hn:0<n) : -n<x.tmod n∧x.tmod n<n:=by
 exact jr
def bl0:Zx:=⟨[],.slice none 0 0,⟨0,0,0,[],.slice none 0 0,0⟩⟩
def withs (bl:List Zx) (i:Nat):List Int:=((List.range i).filter fun j=>decide (1<(bl.getD j bl0).ins.length)).map fun (j:Nat)=>(j:Int)
theorem Qz {bl:List Zx} {i : Nat} {b : Zx} (h:bl[i]? = some b) (h1:1<b.ins.length):withs bl (i+1)=withs bl i++[(i:Int)]:=by
 unfold withs;rw[List.range_succ,List.filter_append,List.map_append];congr 1
 have h2:decide (1<(bl.getD i bl0).ins.length)=true:=by rw[YK h];simpa using h1
 simp only[List.filter,h2];rfl
theorem Zal {bl:List Zx} {i : Nat} {b : Zx} (h:bl[i]? = some b) (h1:¬ 1<b.ins.length):withs bl (i+1)=withs bl i:=by
 unfold withs;rw[List.range_succ,List.filter_append,List.map_append];have h2:decide (1<(bl.getD i bl0).ins.length)=false:=by rw[YK h];simpa using h1
 simp only[List.filter,h2];rw[List.map_nil,List.append_nil]
theorem Zcr (bl:List Zx) (i:Nat):(withs bl i).length≤i:=by
 unfold withs;exact jS
theorem Zdp {bl:List Zx} {k : Nat} {x : Int} (h:(withs bl bl.length)[k]? = some x):∃ (b:Nat) (blk:Zx),x=b∧bl[b]? = some blk∧1<blk.ins.length:=by
 have h1:=List.mem_of_getElem? h;unfold withs at h1;obtain⟨i,hi,rfl⟩:=List.mem_map.1 h1;rw[List.mem_filter]at hi;have ha:=List.mem_range.1 hi.1;have hb:bl[i]? = some bl[i]:=List.getElem?_eq_getElem ha;refine⟨i,_,rfl,hb,?_⟩;have h2:=hi.2;rw[YK hb]at h2;simpa using h2
structure SwB (w0:World) (pb qb r4 r5 r6:Nat) (P Q:Array Value) (w:World):Prop where
 p:HeapIs w pb P 27
 q:HeapIs w qb Q 65
 z4:HeapIs w r4 #[.int .i64 0,.int .i64 0,.int .i64 0,.slice none 0 0] 27
 z5:HeapIs w r5 #[.int .i64 0,.int .i64 0,.int .i64 0,.int .i64 0,.int .i64 0,.int .i64 0,.int .i32 0,.slice none 0 0] 36
 z6:HeapIs w r6 #[.int .i64 0,.int .i64 0,.int .i64 0,.int .i64 0,.int .i64 0,.int .i64 0,.int .i32 0,.slice none 0 0] 36
 old:Since w0 w
 low:w0.heap.size≤r4∧w0.heap.size≤r5∧w0.heap.size≤r6∧r4≠r5∧r4≠r6∧r5≠r6
theorem SwB.keep {w0 w w':World} {pb qb r4 r5 r6:Nat} {P Q:Array Value} (h:SwB w0 pb qb r4 r5 r6 P Q w) (s:Since w w'):SwB w0 pb qb r4 r5 r6 P Q w':=⟨h.p.keep s,h.q.keep s,h.z4.keep s,h.z5.keep s,h.z6.keep s,h.old.trans s,h.low⟩
theorem SwB.turn {w0 w w':World} {pb qb r4 r5 r6:Nat} {P Q:Array Value} {T : Nat→Prop} {U : TypeId} (h:SwB w0 pb qb r4 r5 r6 P Q w) (t:Zb T w w') (k:Kin w U T) (h1:27≠U) (h2:65≠U) (h3:36≠U) (hl:∀ q,q<w0.heap.size→¬ T q):SwB w0 pb qb r4 r5 r6 P Q w':=
 ⟨h.p.turn t (k.heap h.p h1),h.q.turn t (k.heap h.q h2),h.z4.turn t (k.heap h.z4 h1),h.z5.turn t (k.heap h.z5 h3),h.z6.turn t (k.heap h.z6 h3),t.toSince h.old fun q hq e=>hl q hq e,h.low⟩
theorem SwB.done {w0 w:World} {pb qb r4 r5 r6:Nat} {P Q:Array Value} (h:SwB w0 pb qb r4 r5 r6 P Q w) (c4 c5 c6:Array Value):HeapIs (((w.setRow r4 c4).setRow r5 c5).setRow r6 c6) r4 c4 27∧HeapIs (((w.setRow r4 c4).setRow r5 c5).setRow r6 c6) r5 c5 36∧HeapIs (((w.setRow r4 c4).setRow r5 c5).setRow r6 c6) r6 c6 36∧Since w0 (((w.setRow r4 c4).setRow r5 c5).setRow r6 c6):=by
 have t4:Zb (fun q=>q=r4) w (w.setRow r4 c4):=ZI (S:=fun q=>q=r4) rfl c4;have t5:Zb (fun q=>q=r5) (w.setRow r4 c4) ((w.setRow r4 c4).setRow r5 c5):=ZI (S:=fun q=>q=r5) rfl c5;have t6:Zb (fun q=>q=r6) ((w.setRow r4 c4).setRow r5 c5) (((w.setRow r4 c4).setRow r5 c5).setRow r6 c6):=ZI (S:=fun q=>q=r6) rfl c6;obtain⟨l4,l5,l6,n1,n2,n3⟩:=h.low;have k4:HeapIs (w.setRow r4 c4) r4 c4 27:=ZO h.z4 c4;have k5:HeapIs ((w.setRow r4 c4).setRow r5 c5) r5 c5 36:=ZO (h.z5.turn t4 fun e=>n1 e.symm) c5;have k6:HeapIs (((w.setRow r4 c4).setRow r5 c5).setRow r6 c6) r6 c6 36:=ZO ((h.z6.turn t4 fun e=>n2 e.symm).turn t5 fun e=>n3 e.symm) c6
 exact⟨(k4.turn t5 n1).turn t6 n2,k5.turn t6 n3,k6,t6.toSince (t5.toSince (t4.toSince h.old fun q hq e=>by omega) fun q hq e=>by omega) fun q hq e=>by omega⟩
theorem ZaU:∀ (l:List Zx) (b:Nat) (y:Zx) (ins:List PlV) (v:Value),l[b]? = some y→(l.flatMap blcells).set (b*6) v=(l.set b ⟨ins,v,y.fin⟩).flatMap blcells
 | [],b,y,ins,v,h=>by cases h
 | a::r,0,y,ins,v,h=>by
  cases h
  rw[List.flatMap_cons,List.set_cons_zero,List.flatMap_cons]
  simp only[blcells,List.cons_append,List.nil_append,Nat.zero_mul,List.set_cons_zero]
 | a::r,b+1,y,ins,v,h=>by
  rw[List.flatMap_cons,List.set_append_right _ _ (by rw[Z5];omega),Z5,show (b+1)*6-6=b*6 from by omega,ZaU r b y ins v h]
  rfl
theorem KA {B : Nat} {w : World} {g cap n:Nat} {l : List Zx} {b : Nat} {y : Zx} (ins:List PlV) (v:Value) (h:OwnRow blcells 6 34 B w (.slice (some ⟨g,0,none⟩) n cap) l) (hb:l[b]? = some y) :
  OwnRow blcells 6 34 B (w.setCell ⟨g,b*6,none⟩ v) (.slice (some ⟨g,0,none⟩) n cap) (l.set b ⟨ins,v,y.fin⟩):=by
 obtain⟨a',c',e⟩:=Ze (show w.ownsRow _ _ _ _ _ _ from h);have hn:n=l.length:=by cases e;rfl
 subst hn;have h1:=ZV (show w.ownsRow _ _ _ _ _ _ from h) (b*6) v;rw[ZaU l b y ins v hb]at h1;exact kA
structure SwF (w0:World) (B r4 r5 r6 ob xb:Nat) (O X9 c4 c5 c6:Array Value) (lv bv:Value) (l:List PlV) (bl:List Zx) (w:World):Prop where
 out:HeapIs w ob O 27
 x:HeapIs w xb X9 38
 row:OwnRow plcells 9 38 B w lv l
 blks:OwnRow blcells 6 34 B w bv bl
 z4:HeapIs w r4 c4 27
 z5:HeapIs w r5 c5 36
 z6:HeapIs w r6 c6 36
 old:Since w0 w
 low:w0.heap.size≤r4∧w0.heap.size≤r5∧w0.heap.size≤r6∧ob≠r4∧r5≠r6
section
variable {w0 w w':World} {B r4 r5 r6 ob xb:Nat} {O X9 c4 c5 c6:Array Value} {lv bv:Value} {l : List PlV} {bl:List Zx}
theorem SwF.keep (h:SwF w0 B r4 r5 r6 ob xb O X9 c4 c5 c6 lv bv l bl w) (s:Since w w'):SwF w0 B r4 r5 r6 ob xb O X9 c4 c5 c6 lv bv l bl w':=⟨h.out.keep s,h.x.keep s,h.row.keep s,h.blks.keep s,h.z4.keep s,h.z5.keep s,h.z6.keep s,h.old.trans s,h.low⟩
theorem SwF.set4 (h:SwF w0 B r4 r5 r6 ob xb O X9 c4 c5 c6 lv bv l bl w) (d:Array Value):SwF w0 B r4 r5 r6 ob xb O X9 d c5 c6 lv bv l bl (w.setRow r4 d):=by
 have t:Zb (fun q=>q=r4) w (w.setRow r4 d):=ZI (S:=fun q=>q=r4) rfl d;have k:=Kin.box h.z4;exact⟨h.out.turn t h.low.2.2.2.1,h.x.turn t (k.heap h.x zaJ),Zg (show w.ownsRow _ _ _ _ _ _ from h.row) t (k.apart (show w.ownsRow _ _ _ _ _ _ from h.row) zaJ),Zg (show w.ownsRow _ _ _ _ _ _ from h.blks) t (k.apart (show w.ownsRow _ _ _ _ _ _ from h.blks) zaJ),ZO h.z4 d,h.z5.turn t (k.heap h.z5 zaJ),h.z6.turn t (k.heap h.z6 zaJ),t.toSince h.old fun q hq e=>by have:=h.low;omega,h.low⟩
theorem SwF.set5 (h:SwF w0 B r4 r5 r6 ob xb O X9 c4 c5 c6 lv bv l bl w) (d:Array Value):SwF w0 B r4 r5 r6 ob xb O X9 c4 d c6 lv bv l bl (w.setRow r5 d):=by
 have t:Zb (fun q=>q=r5) w (w.setRow r5 d):=ZI (S:=fun q=>q=r5) rfl d;have k:=Kin.box h.z5;exact⟨h.out.turn t (k.heap h.out zaJ),h.x.turn t (k.heap h.x zaJ),Zg (show w.ownsRow _ _ _ _ _ _ from h.row) t (k.apart (show w.ownsRow _ _ _ _ _ _ from h.row) zaJ),Zg (show w.ownsRow _ _ _ _ _ _ from h.blks) t (k.apart (show w.ownsRow _ _ _ _ _ _ from h.blks) zaJ),h.z4.turn t (k.heap h.z4 zaJ),ZO h.z5 d,h.z6.turn t (fun e=>h.low.2.2.2.2 e.symm),t.toSince h.old fun q hq e=>by have:=h.low;omega,h.low⟩
theorem SwF.set6 (h:SwF w0 B r4 r5 r6 ob xb O X9 c4 c5 c6 lv bv l bl w) (d:Array Value):SwF w0 B r4 r5 r6 ob xb O X9 c4 c5 d lv bv l bl (w.setRow r6 d):=by
 have t:Zb (fun q=>q=r6) w (w.setRow r6 d):=ZI (S:=fun q=>q=r6) rfl d;have k:=Kin.box h.z6;exact⟨h.out.turn t (k.heap h.out zaJ),h.x.turn t (k.heap h.x zaJ),Zg (show w.ownsRow _ _ _ _ _ _ from h.row) t (k.apart (show w.ownsRow _ _ _ _ _ _ from h.row) zaJ),Zg (show w.ownsRow _ _ _ _ _ _ from h.blks) t (k.apart (show w.ownsRow _ _ _ _ _ _ from h.blks) zaJ),h.z4.turn t (k.heap h.z4 zaJ),h.z5.turn t h.low.2.2.2.2,ZO h.z6 d,t.toSince h.old fun q hq e=>by have:=h.low;omega,h.low⟩
end
theorem Zcy:∀ {l : List PlV} {i : Nat} {x y:PlV},l[i]? = some x→l[i+1]? = some y→∃ u v,l=u++x::y::v∧(l.set i y).set (i+1) x=u++y::x::v
 | [],_,_,_,h,_=>by cases h
 | [_],0,_,_,_,h=>by cases h
 | a::b::r,0,x,y,h1,h2=>by
  cases h1;cases h2
  exact⟨[],r,rfl,rfl⟩
 | a::r,i+1,x,y,h1,h2=>by
  obtain⟨u,v,e1,e2⟩:=Zcy (l:=r) (i:=i) h1 h2
  exact⟨a::u,v,by rw[e1];rfl,by rw[List.set_cons_succ,List.set_cons_succ,e2];rfl⟩
def ZeJ (p:Z2) (w:World) (e:Ending) (w':World):Prop:=∃ (q:Z2) (x y:Mach) (xv yv:Value),e=.returned (.tuple #[pv q,mv x xv,mv y yv])∧Xz w' q∧Zft p q x y∧(Zd w' xv x.args∧Xt x)∧(Zd w' yv y.args∧Xt y)∧Since w w'
theorem Zab (p:Z2) (a0 a1:Int) (w:World) (hp:Xz w p) (hn:p.blocks.length≤1000):Calls prog 24 #[pv p,.agg #[.int .i64 a0,.int .i64 a1]] w (ZeJ p w):=by
 obtain⟨pp,pk,ps,pbl,pbv⟩:=p;obtain⟨pa,pc,HA,_⟩:=RowIn.shape hp.1;obtain⟨n,HE⟩:∃ z,pbl.length=z:=⟨_,rfl⟩
 dsimp only at HA hn;rw[HE]at HA hn;subst HA;have HP:=zH (Za5 w (.slice pa n pc) pbl) hp.1;have HN:=hid HE;clear hp HE;unfold pv;dsimp only;go_enter func24,ntmps24
 go_upto_region 1 with fail
 obtain⟨wa,hS⟩:∃ z,z=w.alloc (.cells #[.int .i64 pp,.int .i64 pk,.int .i64 ps,.slice pa n pc] 27):=⟨_,rfl⟩
 obtain⟨wb,hR⟩:∃ z,z=wa.alloc (.cells #[.int .i64 a0,.int .i64 a1] 65):=⟨_,rfl⟩
 obtain⟨wc,hQ⟩:∃ z,z=wb.alloc (.cells #[.int .i64 0,.int .i64 0,.int .i64 0,.slice none 0 0] 27):=⟨_,rfl⟩
 obtain⟨wd,hP⟩:∃ z,z=wc.alloc (.cells #[.int .i64 0,.int .i64 0,.int .i64 0,.int .i64 0,.int .i64 0,.int .i64 0,.int .i32 0,.slice none 0 0] 36):=⟨_,rfl⟩
 obtain⟨w1,Hc⟩:∃ z,z=wd.alloc (.cells #[.int .i64 0,.int .i64 0,.int .i64 0,.int .i64 0,.int .i64 0,.int .i64 0,.int .i32 0,.slice none 0 0] 36):=⟨_,rfl⟩
 have za:wa.heap.size=w.heap.size+1:=by rw[hS];simp
 have zb:wb.heap.size=w.heap.size+2:=by rw[hR];simp[za]
 have zc:wc.heap.size=w.heap.size+3:=by rw[hQ];simp[zb]
 have zd:wd.heap.size=w.heap.size+4:=by rw[hP];simp[zc]
 have sa:Since w wa:=by rw[hS];exact (Since.refl _).alloc _
 have sb:Since wa wb:=by rw[hR];exact (Since.refl _).alloc _
 have sc:Since wb wc:=by rw[hQ];exact (Since.refl _).alloc _
 have sd:Since wc wd:=by rw[hP];exact (Since.refl _).alloc _
 have se:Since wd w1:=by rw[Hc];exact (Since.refl _).alloc _
 obtain⟨pb,HC⟩:∃ z,z=w.heap.size:=⟨_,rfl⟩
 obtain⟨qb,Hy⟩:∃ z,z=w.heap.size+1:=⟨_,rfl⟩
 obtain⟨r4,Hx⟩:∃ z,z=w.heap.size+2:=⟨_,rfl⟩
 obtain⟨r5,Hw⟩:∃ z,z=w.heap.size+3:=⟨_,rfl⟩
 obtain⟨r6,Hv⟩:∃ z,z=w.heap.size+4:=⟨_,rfl⟩
 have hB:SwB w pb qb r4 r5 r6 #[.int .i64 pp,.int .i64 pk,.int .i64 ps,.slice pa n pc] #[.int .i64 a0,.int .i64 a1] w1:=by
  have k1:HeapIs wa pb #[.int .i64 pp,.int .i64 pk,.int .i64 ps,.slice pa n pc] 27:=by rw[hS,HC];exact HeapIs.new _ _ _
  have k2:HeapIs wb qb #[.int .i64 a0,.int .i64 a1] 65:=by rw[hR,Hy,←za];exact HeapIs.new _ _ _
  have k3:HeapIs wc r4 #[.int .i64 0,.int .i64 0,.int .i64 0,.slice none 0 0] 27:=by rw[hQ,Hx,←zb];exact HeapIs.new _ _ _
  have k4:HeapIs wd r5 #[.int .i64 0,.int .i64 0,.int .i64 0,.int .i64 0,.int .i64 0,.int .i64 0,.int .i32 0,.slice none 0 0] 36:=by rw[hP,Hw,←zc];exact HeapIs.new _ _ _
  have k5:HeapIs w1 r6 #[.int .i64 0,.int .i64 0,.int .i64 0,.int .i64 0,.int .i64 0,.int .i64 0,.int .i32 0,.slice none 0 0] 36:=by rw[Hc,Hv,←zd];exact HeapIs.new _ _ _
  exact⟨k1.keep (((sb.trans sc).trans sd).trans se),k2.keep ((sc.trans sd).trans se),k3.keep (sd.trans se),k4.keep se,k5,(((sa.trans sb).trans sc).trans sd).trans se,zaK⟩
 have HB:=hid hB;rw[←hS,←hR,←hQ,←hP,←Hc,←Hv,←Hw,←Hx,←Hy,←HC];clear hS hR hQ hP Hc Hv Hw Hx Hy HC za zb zc zd sa sb sc sd se hB;go_wp2_with fail
 go_loopw [7,8] (fun wv iv wr=>∃ (i m:Nat) (v:Value),wv=v∧iv=.int .i64 i∧i≤n∧(withs pbl i).length=m∧SwB w pb qb r4 r5 r6 #[.int .i64 pp,.int .i64 pk,.int .i64 ps,.slice pa n pc] #[.int .i64 a0,.int .i64 a1] wr∧wr.ownsRow w.heap.size 3 1 v m ((withs pbl i).map (Value.int .i64))) (fun _ iv _=>n-(intOf iv).toNat)
 case atStart=>exact⟨0,0,_,rfl,rfl,Nat.zero_le _,rfl,HB.out,⟨rfl,.inl ⟨rfl,rfl⟩⟩⟩
 case round =>
  obtain⟨i,m,v,rfl,rfl,hi,hm,He,hZ⟩:=hrel;obtain⟨va,vc,hv⟩:=Ze hZ;subst hv;have ha:=hid He;have HU:=hid hZ;have HM:=hid hm;have tN:m≤i:=by rw[←hm];exact Zcr _ _
  have hw:=He.p.cell 3;have hu:=He.p.lt;clear He hZ hm;by_cases H9:i<n
  ·obtain⟨B1,o1,y,he,hB,hy,hE,hs⟩:=RowIn.at (RowIn.keep BlkOk.keep HP.out ha.out.old) (show i<pbl.length by rw[HN.out];exact H9)
   cases he
   have Hm:=hid hy;obtain⟨il,iv,fin⟩:=y;obtain⟨ia,ic,hC,_⟩:=RowIn.shape hs.1;obtain⟨kl,hA⟩:∃ z,il.length=z:=⟨_,rfl⟩
   dsimp only at hC;rw[hA]at hC;subst hC;have c0:wr.cell? ⟨B1,o1+i*6,none⟩=some (.slice ia kl ic):=hE 0 zaJ;have hl:=hid hA;clear hy hE hs hA;by_cases h2:1<kl
   ·have K1:=zH ((wr.alloc (.cells #[.int .i64 i] 3)).ownsRow w.heap.size 3 1 (.slice va m vc) (withs pbl i).length ((withs pbl i).map (Value.int .i64))) (by rw[HM.out];exact Zv HU.out ((Since.refl _).alloc _))
    have K2:=zH ((withs pbl i).length + [(i:Int)].length≤1000000) (by rw[HM.out];simp;omega);have K3:=zH (w.heap.size≤(wr.alloc (.cells #[.int .i64 i] 3)).heap.size) (by have:=ha.out.old.size;simp;omega);go_wp2_with (refine Zl (base:=w.heap.size) .i64 rfl _ _ 22 rfl 3 (.int .i64 0) 8 underlying22 zaF rfl zaJ (.slice va m vc) _ (withs pbl i) [(i:Int)] rfl rfl K1.out (Ym _ _ _) K2.out K3.out ?_;intro v6 w6 ho H3 HW;rw[List.length_append,HM.out]at ho;have t8:=hid ((ha.out.keep ((Since.refl _).alloc _)).turn H3 (Kin.row K1.out) zaJ zaJ zaJ (fun q hq e=>by have:=(World.ownsRow.lt K1.out q e).1;omega));have t5:=hid ho;obtain⟨v6a,v6c,Hs⟩:=Ze ho;subst Hs;clear ho H3 HW)
    go_roundw
    case rel=>exact⟨i+1,m+1,_,by trivial,by go_num,zaK,by rw[Qz Hm.out (by show 1<il.length;rw[hl.out];exact h2),List.length_append,HM.out];rfl,t8.out,by rw[Qz Hm.out (by show 1<il.length;rw[hl.out];exact h2)];exact t5.out⟩
    case measure=>simp[intOf];omega
   ·go_wp2_with fail
    go_roundw
    case rel=>exact⟨i+1,m,_,by trivial,by go_num,zaK,by rw[Zal Hm.out (by show ¬ 1<il.length;rw[hl.out];exact h2)];exact HM.out,ha.out,by rw[Zal Hm.out (by show ¬ 1<il.length;rw[hl.out];exact h2)];exact HU.out⟩
    case measure=>simp[intOf];omega
  ·obtain rfl:n=i:=zaK
   by_cases H8:m=0
   ·subst H8;have H7:=ha.out.p.cell 0;have H6:=ha.out.p.cell 1;have H5:=ha.out.p.cell 2;have tZ:=hid ha.out.z4;have tY:=hid (ha.out.z5.turn (ZI (S:=fun q=>q=r4) rfl #[.int .i64 pp,.int .i64 pk,.int .i64 ps,.slice pa n pc]) (fun e=>ha.out.low.2.2.2.1 e.symm));have tX:=hid ((ha.out.z6.turn (ZI (S:=fun q=>q=r4) rfl #[.int .i64 pp,.int .i64 pk,.int .i64 ps,.slice pa n pc]) (fun e=>ha.out.low.2.2.2.2.1 e.symm)).turn (ZI (S:=fun q=>q=r5) rfl #[.int .i64 0,.int .i64 0,.int .i64 0,.int .i64 0,.int .i64 0,.int .i64 0,.int .i32 0,.slice none 0 0]) (fun e=>ha.out.low.2.2.2.2.2 e.symm));go_upto_region 8 with fail
    go_wp2_with (first | refine wpList_store_row rfl 27 _ _ rfl r4 #[.int .i64 pp,.int .i64 pk,.int .i64 ps,.slice pa n pc] rfl rfl 27 _ tZ.out zaF rfl zaj ?_ | refine wpList_store_row rfl 36 _ _ rfl r5 #[.int .i64 0,.int .i64 0,.int .i64 0,.int .i64 0,.int .i64 0,.int .i64 0,.int .i32 0,.slice none 0 0] rfl rfl 36 _ tY.out zaF rfl zaj ?_ | refine wpList_store_row rfl 36 _ _ rfl r6 #[.int .i64 0,.int .i64 0,.int .i64 0,.int .i64 0,.int .i64 0,.int .i64 0,.int .i32 0,.slice none 0 0] rfl rfl 36 _ tX.out zaF rfl zaj ?_)
    go_wp2_with fail
    try simp only[Exit.inBlock,Exit.then]
    have hD:=ha.out.done #[.int .i64 pp,.int .i64 pk,.int .i64 ps,.slice pa n pc] #[.int .i64 0,.int .i64 0,.int .i64 0,.int .i64 0,.int .i64 0,.int .i64 0,.int .i32 0,.slice none 0 0] #[.int .i64 0,.int .i64 0,.int .i64 0,.int .i64 0,.int .i64 0,.int .i64 0,.int .i32 0,.slice none 0 0];refine bodyPost_ret (VE rfl _ _ r4 r5 r6 27 36 36 #[.int .i64 pp,.int .i64 pk,.int .i64 ps,.slice pa n pc] #[.int .i64 0,.int .i64 0,.int .i64 0,.int .i64 0,.int .i64 0,.int .i64 0,.int .i32 0,.slice none 0 0] #[.int .i64 0,.int .i64 0,.int .i64 0,.int .i64 0,.int .i64 0,.int .i64 0,.int .i32 0,.slice none 0 0] (0,0) (0,0) (0,0) _ _ _ rfl hD.1 underlying27 rfl zaF rfl hD.2.1 underlying36 rfl zaF rfl hD.2.2.1 underlying36 rfl zaF) rfl ?_;exact⟨⟨pp,pk,ps,pbl,.slice pa n pc⟩,KP,KP,.slice none 0 0,.slice none 0 0,rfl,⟨RowIn.keep BlkOk.keep HP.out hD.2.2.2,by show pbl.length≤100000;rw[HN.out];omega⟩,⟨rfl,rfl,rfl,.inl ⟨rfl,rfl,rfl⟩⟩,⟨Zy.nil _ _,zaJ,zaJ,zaJ⟩,⟨Zy.nil _ _,zaJ,zaJ,zaJ⟩,hD.2.2.2⟩
   ·
    have tN:0<m∧m≤1000:=zaK
    have HI:=Kd a0 m zaK;have ts:((m:Int)==0)=false:=by rw[beq_eq_false_iff_ne];omega
    obtain⟨j,hj,tP⟩:∃ j:Nat,(a0.tmod m+m) % m=j∧j<m:=⟨((a0.tmod m+m) % m).toNat,by have:=Int.emod_nonneg (a0.tmod m+m) (show (m:Int)≠0 by omega);omega,by have:=Int.emod_nonneg (a0.tmod m+m) (show (m:Int)≠0 by omega);have:=Int.emod_lt_of_pos (a0.tmod m+m) (show (0:Int)<m by omega);omega⟩
    obtain⟨x,hx⟩:∃ x,(withs pbl n)[j]? = some x:=⟨_,List.getElem?_eq_getElem (by rw[HM.out];exact tP)⟩
    obtain⟨WB,woff,rfl,tV,tQ⟩:=YI (ZB (k:=.i64) (l:=withs pbl n) (by rw[HM.out];exact HU.out)) hx;rw[←HN.out]at hx;obtain⟨b,blk,rfl,hH,ti⟩:=Zdp hx;have th:b<n:=by have:=(List.getElem?_eq_some_iff.1 hH).1;rw[HN.out]at this;exact this
    obtain⟨B1,o1,y,he,hB,hy,hE,hs⟩:=RowIn.at (RowIn.keep BlkOk.keep HP.out ha.out.old) (show b<pbl.length by rw[HN.out];exact th)
    cases he
    rw[hH]at hy
    cases hy
    obtain⟨il,iv,fin⟩:=blk;obtain⟨ia,ic,hC,_⟩:=RowIn.shape hs.1;obtain⟨kl,hA⟩:∃ z,il.length=z:=⟨_,rfl⟩
    dsimp only at hC ti;rw[hA]at hC ti;subst hC;obtain⟨kn,rfl⟩:∃ kn,kl=kn+1:=⟨kl-1,zaK⟩
    have ta:kn+1≤100000:=by have:=hs.2.2;dsimp only at this;omega
    have c0:wr.cell? ⟨B1,o1+b*6,none⟩=some (.slice ia (kn+1) ic):=hE 0 zaJ;have tW:B1<wr.heap.size:=hB;have hl:=hid hA;have hF:=hid hH;have h4:=zH (Pls wr (.slice ia (kn+1) ic) il) hs.1;have tK:=ha.out.q.cell 0;have tJ:=ha.out.q.cell 1;have tG:=ha.out.q.lt;have tO:((kn+1:Nat):Int)-1=(kn:Int):=zaK
    have tU:=Kd a1 kn zaK;have tt:((kn:Int)==0)=false:=by rw[beq_eq_false_iff_ne];omega
    obtain⟨i,tc,Te⟩:∃ i:Nat,(a1.tmod kn+kn) % kn=i∧i<kn:=⟨((a1.tmod kn+kn) % kn).toNat,by have:=Int.emod_nonneg (a1.tmod kn+kn) (show (kn:Int)≠0 by omega);omega,by have:=Int.emod_nonneg (a1.tmod kn+kn) (show (kn:Int)≠0 by omega);have:=Int.emod_lt_of_pos (a1.tmod kn+kn) (show (0:Int)<kn by omega);omega⟩
    clear hx hH hE hs hA hB hw hu H9 hi H8;have hw:=ha.out.p.cell 3;have hu:=ha.out.p.lt;have H7:=ha.out.p.cell 0;have H6:=ha.out.p.cell 1;have H5:=ha.out.p.cell 2;go_upto_region 10 with fail
    clear hj HI ts tQ tV tK;go_upto_region 11 with fail
    clear c0 tW tO;go_upto_region 12 with fail
    rw[tc];clear tc tU tt tJ tG;go_upto_region 13 with fail
    obtain⟨ob,HD⟩:∃ z,z=wr.heap.size:=⟨_,rfl⟩
    obtain⟨w4,Hb⟩:∃ z,z=wr.alloc (.cells #[.int .i64 pp,.int .i64 pk,.int .i64 ps,.slice (some ⟨B1,o1,none⟩) n pc] 27):=⟨_,rfl⟩
    have tp:=zH (HeapIs w4 ob #[.int .i64 pp,.int .i64 pk,.int .i64 ps,.slice (some ⟨B1,o1,none⟩) n pc] 27) (by rw[Hb,HD];exact HeapIs.new _ _ _);have hK:=zH (Since wr w4) (by rw[Hb];exact (Since.refl _).alloc _)
    have tm:=zH (wr.heap.size≤ob) zaK;rw[←Hb,←HD];clear Hb HD H7 H6 H5 hw hu;have HV:=hid (RowIn.keep BlkOk.keep HP.out (ha.out.old.trans hK.out));have HQ:=hid (show Vu (w4.alloc (.cells #[] 34)) (.slice (some ⟨B1,o1,none⟩) n pc) n (pbl.flatMap blcells) from by
     have h9:=ZaY (RowIn.keep BlkOk.keep HV.out ((Since.refl _).alloc (.cells #[] 34)));rw[HN.out]at h9;exact h9)
    have t9:=zH ((pbl.flatMap blcells).length=n*6) (by rw[Q9,HN.out]);have t4:=hid (ZaZ HV.out);have t7:=zH (n≤100000) zaK;have t6:=zH (w4.heap.size≤(w4.alloc (.cells #[] 34)).heap.size) zaL;have hG:=hid (ha.out.p.keep (hK.out.alloc (.cells #[] 34)));have t3:=zH (0<n) zaK;have hw:=hG.out.cell 3;have hu:=hG.out.lt;go_upto_region 14 with (refine Z7 (w0:=w4) rfl _ _ 25 rfl 34 (.agg #[.slice none 0 0,.int .i64 0,.int .i64 0,.int .i64 0,.slice none 0 0,.int .i32 0]) 6 80 underlying25 zaF rfl zaJ zaJ (.slice (some ⟨w4.heap.size,0,none⟩) 0 0) (.slice (some ⟨B1,o1,none⟩) n pc) n (pbl.flatMap blcells) rfl rfl (IsNilOf.new (Nat.le_refl _)) HQ.out t9.out t7.out t4.out t6.out ?_;intro v6 w6 ho Hu;obtain⟨g6,c6,Hs,tf,HH,Hg⟩:=JZ ho HN.out t3.out;subst Hs;have hO:=hid Hg;have tz:=hid (((Since.refl w4).alloc _).trans Hu);have Ti:=hid (And.intro tf HH);have hT:=tp.out.keep (((Since.refl _).alloc _).trans Hu);have HS:=hid hT;have tI:=hT.cell 3;have tF:=hT.lt;have tH:=hT.frozen;clear ho Hu tf HH Hg hT hw hu)
    obtain⟨w7,Ha⟩:∃ z,z=w6.setCell ⟨ob,3,none⟩ (.slice (some ⟨g6,0,none⟩) n c6):=⟨_,rfl⟩
    have Ht:Zb (fun q=>q=ob) w6 w7:=by rw[Ha];exact (Zb.refl (fun q=>q=ob) w6).setCell (p:=⟨ob,3,none⟩) rfl _
    have tn:=zH (HeapIs w7 ob #[.int .i64 pp,.int .i64 pk,.int .i64 ps,.slice (some ⟨g6,0,none⟩) n c6] 27) (by rw[Ha];exact HS.out.set 3 _);have Hl:=zH (OwnRow blcells 6 34 wr.heap.size w7 (.slice (some ⟨g6,0,none⟩) n c6) pbl) (XX (Zg (show w6.ownsRow _ _ _ _ _ _ from hO.out) Ht (Kin.apart (Kin.box HS.out) (show w6.ownsRow _ _ _ _ _ _ from hO.out) zaJ)) hK.out.size);have hV:=zH (Since wr w7) (Ht.toSince (hK.out.trans tz.out) fun q hq e=>by have:=tm.out;omega)
    rw[←Ha];clear Ha Ht tI tF tH HS hO HQ hG tp;have HT:=hid (RowIn.keep XA.keep h4.out hV.out);have tv:=hid (show Vu (w7.alloc (.cells #[] 38)) (.slice ia (kn+1) ic) (kn+1) (il.flatMap plcells) from by
     have h9:=Zbr (RowIn.keep XA.keep HT.out ((Since.refl _).alloc (.cells #[] 38)));rw[hl.out]at h9;exact h9)
    have tC:=zH ((il.flatMap plcells).length=(kn+1)*9) (by rw[Zax,hl.out]);have tA:=hid (Zbs HT.out);have tD:=hid ta;have tB:=zH (w7.heap.size≤(w7.alloc (.cells #[] 38)).heap.size) zaL;have hG:=hid (ha.out.p.keep (hV.out.alloc (.cells #[] 38)));have hw:=hG.out.cell 3;have hu:=hG.out.lt;have tq:=hid (show (w7.alloc (.cells #[] 38)).cell? ⟨B1,o1+b*6,none⟩=some (.slice ia (kn+1) ic)∧B1<(w7.alloc (.cells #[] 38)).heap.size from by
     obtain⟨B2,o2,y,he,hB,hy,hE,hs⟩:=RowIn.at (RowIn.keep BlkOk.keep HP.out (ha.out.old.trans (hV.out.alloc (.cells #[] 38)))) (show b<pbl.length by rw[HN.out];exact th)
     cases he
     rw[hF.out]at hy
     cases hy
     exact⟨hE 0 zaJ,hB⟩)
    have tR:=tq.out.1;have tu:=tq.out.2;have Ta:=zH (0<kn+1) zaK;go_upto_region 15 with (refine Z7 (w0:=w7) rfl _ _ 30 rfl 38 (.agg #[.int .i64 0,.int .i64 0,.int .i64 0,.int .i64 0,.int .i64 0,.int .i64 0,.int .i32 0,.slice none 0 0,.int .i64 0]) 9 88 underlying30 zaF rfl zaJ zaJ (.slice (some ⟨w7.heap.size,0,none⟩) 0 0) (.slice ia (kn+1) ic) (kn+1) (il.flatMap plcells) rfl rfl (IsNilOf.new (Nat.le_refl _)) tv.out tC.out tD.out tA.out tB.out ?_;intro v9 w9 Hh H4;obtain⟨g9,c9,tE,td,HG,Hf⟩:=KK Hh hl.out Ta.out;subst tE;have hN:=hid Hf;have tx:=hid (((Since.refl w7).alloc _).trans H4);have Hn:=hid (And.intro td HG);clear Hh H4 td HG Hf hw hu tR tu)
    have Tf:i+1<kn+1:=zaK
    obtain⟨Xx,HK⟩:∃ x,il[i]? = some x:=⟨_,List.getElem?_eq_getElem (by rw[hl.out];omega)⟩
    have hJ:=hid (RowIn.each_of h4.out Xx (List.mem_of_getElem? HK));obtain⟨⟨xop,xd,xe,xa,xb,xc,ximm,xargs⟩,xav,xsrc⟩:=Xx;obtain⟨xq,xm,Hq⟩:=Zc hJ.out.1;obtain⟨xn,H0⟩:∃ z,xargs.length=z:=⟨_,rfl⟩
    dsimp only at Hq;rw[H0]at Hq;subst Hq;have Hk:=hid HK;have Tc:=hid hJ.out;clear H0 hJ HK;obtain⟨Xy,HJ⟩:∃ x,il[i+1]? = some x:=⟨_,List.getElem?_eq_getElem (by rw[hl.out];omega)⟩
    have hI:=hid (RowIn.each_of h4.out Xy (List.mem_of_getElem? HJ));obtain⟨⟨yop,yd,ye,ya,yb,yc,yimm,yargs⟩,yav,ysrc⟩:=Xy;obtain⟨yq,ym,Ho⟩:=Zc hI.out.1;obtain⟨yn,HY⟩:∃ z,yargs.length=z:=⟨_,rfl⟩
    dsimp only at Ho;rw[HY]at Ho;subst Ho;have Hj:=hid HJ;have Tb:=hid hI.out;clear HY hI HJ;have hf:=Xv Zq hN.out Hk.out;have cx0:w9.cell? ⟨g9,i*9,none⟩=some (.int .i64 xop):=hf.1 0 zaJ;have cx1:w9.cell? ⟨g9,i*9+1,none⟩=some (.int .i64 xd):=hf.1 1 zaJ;have cx2:w9.cell? ⟨g9,i*9+2,none⟩=some (.int .i64 xe):=hf.1 2 zaJ;have cx3:w9.cell? ⟨g9,i*9+3,none⟩=some (.int .i64 xa):=hf.1 3 zaJ;have cx4:w9.cell? ⟨g9,i*9+4,none⟩=some (.int .i64 xb):=hf.1 4 zaJ;have cx5:w9.cell? ⟨g9,i*9+5,none⟩=some (.int .i64 xc):=hf.1 5 zaJ;have cx6:w9.cell? ⟨g9,i*9+6,none⟩=some (.int .i32 ximm):=hf.1 6 zaJ;have cx7:w9.cell? ⟨g9,i*9+7,none⟩=some (.slice xq xn xm):=hf.1 7 zaJ;have cx8:w9.cell? ⟨g9,i*9+8,none⟩=some (.int .i64 xsrc):=hf.1 8 zaJ;have cxl:=hf.2.1;clear hf;go_upto_region 16 with fail
    clear cx0 cx1 cx2 cx3 cx4 cx5 cx6 cx7 cx8 cxl;obtain⟨xbk,Hr⟩:∃ z,z=w9.heap.size:=⟨_,rfl⟩
    obtain⟨wx,h7⟩:∃ z,z=w9.alloc (.cells #[.int .i64 xop,.int .i64 xd,.int .i64 xe,.int .i64 xa,.int .i64 xb,.int .i64 xc,.int .i32 ximm,.slice xq xn xm,.int .i64 xsrc] 38):=⟨_,rfl⟩
    have tl:=zH (HeapIs wx xbk #[.int .i64 xop,.int .i64 xd,.int .i64 xe,.int .i64 xa,.int .i64 xb,.int .i64 xc,.int .i32 ximm,.slice xq xn xm,.int .i64 xsrc] 38) (by rw[h7,Hr];exact HeapIs.new _ _ _);have HR:=zH (Since w9 wx) (by rw[h7];exact (Since.refl _).alloc _)
    have tj:=zH (w9.heap.size≤xbk) zaK;have ht:=hid (hN.out.keep HR.out);rw[←h7,←Hr];clear h7 Hr;have hd:=Xv Zq ht.out Hj.out;have cy0:wx.cell? ⟨g9,(i+1)*9,none⟩=some (.int .i64 yop):=hd.1 0 zaJ;have cy1:wx.cell? ⟨g9,(i+1)*9+1,none⟩=some (.int .i64 yd):=hd.1 1 zaJ;have cy2:wx.cell? ⟨g9,(i+1)*9+2,none⟩=some (.int .i64 ye):=hd.1 2 zaJ;have cy3:wx.cell? ⟨g9,(i+1)*9+3,none⟩=some (.int .i64 ya):=hd.1 3 zaJ;have cy4:wx.cell? ⟨g9,(i+1)*9+4,none⟩=some (.int .i64 yb):=hd.1 4 zaJ;have cy5:wx.cell? ⟨g9,(i+1)*9+5,none⟩=some (.int .i64 yc):=hd.1 5 zaJ;have cy6:wx.cell? ⟨g9,(i+1)*9+6,none⟩=some (.int .i32 yimm):=hd.1 6 zaJ;have cy7:wx.cell? ⟨g9,(i+1)*9+7,none⟩=some (.slice yq yn ym):=hd.1 7 zaJ;have cy8:wx.cell? ⟨g9,(i+1)*9+8,none⟩=some (.int .i64 ysrc):=hd.1 8 zaJ;have cyl:=hd.2.1;have Hp:=hd.2.2;have hf:=Xv Zq ht.out Hk.out
    have cx0:wx.cell? ⟨g9,i*9,none⟩=some (.int .i64 xop):=hf.1 0 zaJ;have cx1:wx.cell? ⟨g9,i*9+1,none⟩=some (.int .i64 xd):=hf.1 1 zaJ;have cx2:wx.cell? ⟨g9,i*9+2,none⟩=some (.int .i64 xe):=hf.1 2 zaJ;have cx3:wx.cell? ⟨g9,i*9+3,none⟩=some (.int .i64 xa):=hf.1 3 zaJ;have cx4:wx.cell? ⟨g9,i*9+4,none⟩=some (.int .i64 xb):=hf.1 4 zaJ;have cx5:wx.cell? ⟨g9,i*9+5,none⟩=some (.int .i64 xc):=hf.1 5 zaJ;have cx6:wx.cell? ⟨g9,i*9+6,none⟩=some (.int .i32 ximm):=hf.1 6 zaJ;have cx7:wx.cell? ⟨g9,i*9+7,none⟩=some (.slice xq xn xm):=hf.1 7 zaJ;have cx8:wx.cell? ⟨g9,i*9+8,none⟩=some (.int .i64 xsrc):=hf.1 8 zaJ;have cxl:=hf.2.1;clear hf hd;go_upto_region 17 with fail
    clear cx0 cx1 cx2 cx3 cx4 cx5 cx6 cx7 cx8 cxl cy0 cy1 cy2 cy3 cy4 cy5 cy6 cy7 cy8 cyl Hp;obtain⟨wy,h6⟩:∃ z,z=(((((((((wx.setCell ⟨g9,i*9,none⟩ (.int .i64 yop)).setCell ⟨g9,i*9+1,none⟩ (.int .i64 yd)).setCell ⟨g9,i*9+2,none⟩ (.int .i64 ye)).setCell ⟨g9,i*9+3,none⟩ (.int .i64 ya)).setCell ⟨g9,i*9+4,none⟩ (.int .i64 yb)).setCell ⟨g9,i*9+5,none⟩ (.int .i64 yc)).setCell ⟨g9,i*9+6,none⟩ (.int .i32 yimm)).setCell ⟨g9,i*9+7,none⟩ (.slice yq yn ym)).setCell ⟨g9,i*9+8,none⟩ (.int .i64 ysrc)):=⟨_,rfl⟩
    have HO:=zH (Zb (fun q=>q=g9) wx wy) (by rw[h6];exact ((((((((((Zb.refl (fun q=>q=g9) wx).setCell (p:=⟨g9,i*9,none⟩) rfl _).setCell (p:=⟨g9,i*9+1,none⟩) rfl _).setCell (p:=⟨g9,i*9+2,none⟩) rfl _).setCell (p:=⟨g9,i*9+3,none⟩) rfl _).setCell (p:=⟨g9,i*9+4,none⟩) rfl _).setCell (p:=⟨g9,i*9+5,none⟩) rfl _).setCell (p:=⟨g9,i*9+6,none⟩) rfl _).setCell (p:=⟨g9,i*9+7,none⟩) rfl _).setCell (p:=⟨g9,i*9+8,none⟩) rfl _))
    have hM:=zH (OwnRow plcells 9 38 w7.heap.size wy (.slice (some ⟨g9,0,none⟩) (kn+1) c9) (il.set i ⟨⟨yop,yd,ye,ya,yb,yc,yimm,yargs⟩,.slice yq yn ym,ysrc⟩)) (by rw[h6];exact Jg ⟨⟨yop,yd,ye,ya,yb,yc,yimm,yargs⟩,.slice yq yn ym,ysrc⟩ ht.out (by rw[hl.out];omega))
    rw[←h6];clear h6;have t0:=zH ((il.set i ⟨⟨yop,yd,ye,ya,yb,yc,yimm,yargs⟩,.slice yq yn ym,ysrc⟩)[i+1]? = some ⟨⟨yop,yd,ye,ya,yb,yc,yimm,yargs⟩,.slice yq yn ym,ysrc⟩) (by rw[List.getElem?_set_ne zaK];exact Hj.out);have h1:=hid (tl.out.turn HO.out (fun e=>by have:=Hn.out.2;have:=tj.out;omega));have hd:=Xv Zq hM.out t0.out;have cy0:wy.cell? ⟨g9,(i+1)*9,none⟩=some (.int .i64 yop):=hd.1 0 zaJ;have cy1:wy.cell? ⟨g9,(i+1)*9+1,none⟩=some (.int .i64 yd):=hd.1 1 zaJ;have cy2:wy.cell? ⟨g9,(i+1)*9+2,none⟩=some (.int .i64 ye):=hd.1 2 zaJ;have cy3:wy.cell? ⟨g9,(i+1)*9+3,none⟩=some (.int .i64 ya):=hd.1 3 zaJ;have cy4:wy.cell? ⟨g9,(i+1)*9+4,none⟩=some (.int .i64 yb):=hd.1 4 zaJ;have cy5:wy.cell? ⟨g9,(i+1)*9+5,none⟩=some (.int .i64 yc):=hd.1 5 zaJ;have cy6:wy.cell? ⟨g9,(i+1)*9+6,none⟩=some (.int .i32 yimm):=hd.1 6 zaJ;have cy7:wy.cell? ⟨g9,(i+1)*9+7,none⟩=some (.slice yq yn ym):=hd.1 7 zaJ
    have cy8:wy.cell? ⟨g9,(i+1)*9+8,none⟩=some (.int .i64 ysrc):=hd.1 8 zaJ;have cyl:=hd.2.1;have Hp:=hd.2.2;have hb:=h1.out;have cx0:=hb.cell 0;have cx1:=hb.cell 1;have cx2:=hb.cell 2;have cx3:=hb.cell 3;have cx4:=hb.cell 4;have cx5:=hb.cell 5;have cx6:=hb.cell 6;have cx7:=hb.cell 7;have cx8:=hb.cell 8;have cxl:=hb.lt;clear hd hb;go_upto_region 18 with fail
    clear cx0 cx1 cx2 cx3 cx4 cx5 cx6 cx7 cx8 cxl cy0 cy1 cy2 cy3 cy4 cy5 cy6 cy7 cy8 cyl Hp;obtain⟨wz,h5⟩:∃ z,z=(((((((((wy.setCell ⟨g9,(i+1)*9,none⟩ (.int .i64 xop)).setCell ⟨g9,(i+1)*9+1,none⟩ (.int .i64 xd)).setCell ⟨g9,(i+1)*9+2,none⟩ (.int .i64 xe)).setCell ⟨g9,(i+1)*9+3,none⟩ (.int .i64 xa)).setCell ⟨g9,(i+1)*9+4,none⟩ (.int .i64 xb)).setCell ⟨g9,(i+1)*9+5,none⟩ (.int .i64 xc)).setCell ⟨g9,(i+1)*9+6,none⟩ (.int .i32 ximm)).setCell ⟨g9,(i+1)*9+7,none⟩ (.slice xq xn xm)).setCell ⟨g9,(i+1)*9+8,none⟩ (.int .i64 xsrc)):=⟨_,rfl⟩
    have HL:=zH (Zb (fun q=>q=g9) wy wz) (by rw[h5];exact ((((((((((Zb.refl (fun q=>q=g9) wy).setCell (p:=⟨g9,(i+1)*9,none⟩) rfl _).setCell (p:=⟨g9,(i+1)*9+1,none⟩) rfl _).setCell (p:=⟨g9,(i+1)*9+2,none⟩) rfl _).setCell (p:=⟨g9,(i+1)*9+3,none⟩) rfl _).setCell (p:=⟨g9,(i+1)*9+4,none⟩) rfl _).setCell (p:=⟨g9,(i+1)*9+5,none⟩) rfl _).setCell (p:=⟨g9,(i+1)*9+6,none⟩) rfl _).setCell (p:=⟨g9,(i+1)*9+7,none⟩) rfl _).setCell (p:=⟨g9,(i+1)*9+8,none⟩) rfl _))
    have hL:=zH (OwnRow plcells 9 38 w7.heap.size wz (.slice (some ⟨g9,0,none⟩) (kn+1) c9) ((il.set i ⟨⟨yop,yd,ye,ya,yb,yc,yimm,yargs⟩,.slice yq yn ym,ysrc⟩).set (i+1) ⟨⟨xop,xd,xe,xa,xb,xc,ximm,xargs⟩,.slice xq xn xm,xsrc⟩)) (by rw[h5];exact Jg ⟨⟨xop,xd,xe,xa,xb,xc,ximm,xargs⟩,.slice xq xn xm,xsrc⟩ hM.out (by rw[List.length_set,hl.out];omega))
    rw[←h5];clear h5;have h0:=hid (h1.out.turn HL.out (fun e=>by have:=Hn.out.2;have:=tj.out;omega));have h3:=zH (Since w7 wz) (HL.out.toSince (HO.out.toSince (tx.out.trans HR.out) fun q hq e=>by have:=Hn.out.1;omega) fun q hq e=>by have:=Hn.out.1;omega)
    have hW:=hid (tn.out.keep h3.out);have hY:=hid (Hl.out.keep h3.out);have tM:=hW.out.cell 3;have tL:=hW.out.lt;have Hi:=Xv Z5 hY.out hF.out;have HI:wz.cell? ⟨g6,b*6,none⟩=some (.slice ia (kn+1) ic):=Hi.1 0 zaJ;have tS:=Hi.2.1;have tT:=Hi.2.2;clear Hi;go_upto_region 19 with fail
    clear tM tL HI tS tT;obtain⟨wv,h8⟩:∃ z,z=wz.setCell ⟨g6,b*6,none⟩ (.slice (some ⟨g9,0,none⟩) (kn+1) c9):=⟨_,rfl⟩
    have hU:=zH (Zb (fun q=>q=g6) wz wv) (by rw[h8];exact (Zb.refl (fun q=>q=g6) wz).setCell (p:=⟨g6,b*6,none⟩) rfl _)
    have tr:=zH (OwnRow blcells 6 34 wr.heap.size wv (.slice (some ⟨g6,0,none⟩) n c6) (pbl.set b ⟨((il.set i ⟨⟨yop,yd,ye,ya,yb,yc,yimm,yargs⟩,.slice yq yn ym,ysrc⟩).set (i+1) ⟨⟨xop,xd,xe,xa,xb,xc,ximm,xargs⟩,.slice xq xn xm,xsrc⟩),.slice (some ⟨g9,0,none⟩) (kn+1) c9,fin⟩)) (by rw[h8];exact KA _ _ hY.out hF.out);rw[←h8];clear h8;have hX:=hid (show Kin wz 34 (fun q=>q=g6) from fun q e=>by
     obtain⟨cur,hc⟩:=Wt (show wz.ownsRow _ _ _ _ _ _ from hY.out) (q:=g6) rfl;exact⟨cur,by rw[e];exact hc⟩)
    have tw:=zH (Since wr wz) (hV.out.trans h3.out);have t2:=hid (show SwF w wr.heap.size r4 r5 r6 ob xbk #[.int .i64 pp,.int .i64 pk,.int .i64 ps,.slice (some ⟨g6,0,none⟩) n c6] #[.int .i64 xop,.int .i64 xd,.int .i64 xe,.int .i64 xa,.int .i64 xb,.int .i64 xc,.int .i32 ximm,.slice xq xn xm,.int .i64 xsrc] #[.int .i64 0,.int .i64 0,.int .i64 0,.slice none 0 0] #[.int .i64 0,.int .i64 0,.int .i64 0,.int .i64 0,.int .i64 0,.int .i64 0,.int .i32 0,.slice none 0 0] #[.int .i64 0,.int .i64 0,.int .i64 0,.int .i64 0,.int .i64 0,.int .i64 0,.int .i32 0,.slice none 0 0] (.slice (some ⟨g9,0,none⟩) (kn+1) c9) (.slice (some ⟨g6,0,none⟩) n c6) ((il.set i ⟨⟨yop,yd,ye,ya,yb,yc,yimm,yargs⟩,.slice yq yn ym,ysrc⟩).set (i+1) ⟨⟨xop,xd,xe,xa,xb,xc,ximm,xargs⟩,.slice xq xn xm,xsrc⟩) (pbl.set b ⟨((il.set i ⟨⟨yop,yd,ye,ya,yb,yc,yimm,yargs⟩,.slice yq yn ym,ysrc⟩).set (i+1) ⟨⟨xop,xd,xe,xa,xb,xc,ximm,xargs⟩,.slice xq xn xm,xsrc⟩),.slice (some ⟨g9,0,none⟩) (kn+1) c9,fin⟩) wv from by
     have b1:=ha.out.keep tw.out;have l4:=ha.out.z4.lt;have Th:wr.heap.size≤g6:=(World.ownsRow.lt (show wz.ownsRow _ _ _ _ _ _ from hY.out) g6 rfl).1;have b2:=b1.turn hU.out hX.out zaJ zaJ zaJ fun q hq e=>by have:=ha.out.old.size;omega
     exact⟨hW.out.turn hU.out (hX.out.heap hW.out zaJ),h0.out.turn hU.out (hX.out.heap h0.out zaJ),XX (Zg (show wz.ownsRow _ _ _ _ _ _ from hL.out) hU.out (hX.out.apart (show wz.ownsRow _ _ _ _ _ _ from hL.out) zaJ)) hV.out.size,tr.out,b2.z4,b2.z5,b2.z6,b2.old,by have:=ha.out.low;have:=tm.out;omega⟩)
    have t1:=zH (((il.set i ⟨⟨yop,yd,ye,ya,yb,yc,yimm,yargs⟩,.slice yq yn ym,ysrc⟩).set (i+1) ⟨⟨xop,xd,xe,xa,xb,xc,ximm,xargs⟩,.slice xq xn xm,xsrc⟩)[i]? = some ⟨⟨yop,yd,ye,ya,yb,yc,yimm,yargs⟩,.slice yq yn ym,ysrc⟩) (by rw[List.getElem?_set_ne zaK,List.getElem?_set_self (by rw[hl.out];omega)]);clear tn Hl tl hN ht hM hL h1 h0 hW hY tr HO HL hU hX;refine W7 [8,9,10] [0,0,0,0,0,0,0,0,0,1,2] [0,1,1,2,2,2,2,2,0,1,2] [0,0,0,0,0,0,0,0,1,1,1] (fun p w1=>SwF w wr.heap.size r4 r5 r6 ob xbk #[.int .i64 pp,.int .i64 pk,.int .i64 ps,.slice (some ⟨g6,0,none⟩) n c6] #[.int .i64 xop,.int .i64 xd,.int .i64 xe,.int .i64 xa,.int .i64 xb,.int .i64 xc,.int .i32 ximm,.slice xq xn xm,.int .i64 xsrc] (if p=0 then #[.int .i64 0,.int .i64 0,.int .i64 0,.slice none 0 0] else #[.int .i64 pp,.int .i64 pk,.int .i64 ps,.slice (some ⟨g6,0,none⟩) n c6]) (if p≤1 then #[.int .i64 0,.int .i64 0,.int .i64 0,.int .i64 0,.int .i64 0,.int .i64 0,.int .i32 0,.slice none 0 0] else #[.int .i64 xop,.int .i64 xd,.int .i64 xe,.int .i64 xa,.int .i64 xb,.int .i64 xc,.int .i32 ximm,.slice xq xn xm]) (if p≤2 then #[.int .i64 0,.int .i64 0,.int .i64 0,.int .i64 0,.int .i64 0,.int .i64 0,.int .i32 0,.slice none 0 0] else #[.int .i64 yop,.int .i64 yd,.int .i64 ye,.int .i64 ya,.int .i64 yb,.int .i64 yc,.int .i32 yimm,.slice yq yn ym]) (.slice (some ⟨g9,0,none⟩) (kn+1) c9) (.slice (some ⟨g6,0,none⟩) n c6) ((il.set i ⟨⟨yop,yd,ye,ya,yb,yc,yimm,yargs⟩,.slice yq yn ym,ysrc⟩).set (i+1) ⟨⟨xop,xd,xe,xa,xb,xc,ximm,xargs⟩,.slice xq xn xm,xsrc⟩) (pbl.set b ⟨((il.set i ⟨⟨yop,yd,ye,ya,yb,yc,yimm,yargs⟩,.slice yq yn ym,ysrc⟩).set (i+1) ⟨⟨xop,xd,xe,xa,xb,xc,ximm,xargs⟩,.slice xq xn xm,xsrc⟩),.slice (some ⟨g9,0,none⟩) (kn+1) c9,fin⟩) w1) rfl zaC zaC zaC
     [Is (.agg #[.int .i64 pp,.int .i64 pk,.int .i64 ps,.slice (some ⟨g6,0,none⟩) n c6]),Is (.pointer (some ⟨xbk,0,none⟩)),Is (.agg #[.int .i64 xop,.int .i64 xd,.int .i64 xe,.int .i64 xa,.int .i64 xb,.int .i64 xc,.int .i32 ximm,.slice xq xn xm]),Is (.slice (some ⟨g9,0,none⟩) (kn+1) c9),Is (.int .i64 i),Is (.pointer (some ⟨g9,i*9,none⟩)),Is (.pointer (some ⟨g9,i*9,none⟩)),Is (.agg #[.int .i64 yop,.int .i64 yd,.int .i64 ye,.int .i64 ya,.int .i64 yb,.int .i64 yc,.int .i32 yimm,.slice yq yn ym]),Any,Any,Any]
     (by repeat (first | exact trivial | refine⟨Is.fixed _,?_⟩ | refine⟨Any.fixed,?_⟩)) (t2.out.keep (Since.refl _).drew) ⟨?_,?_,?_,?_,?_,?_,?_,?_,?_,?_,?_,trivial⟩ ?_
    rotate_right
    ·intro vs w1 _ hg hk;simp only[putAll,Act.put,Zi,Zj,Is,Any,List.setIfInBounds_toArray,List.set_cons_zero,List.set_cons_succ,Nat.reduceAdd,List.length_cons,List.length_nil]at hk ⊢;try simp only[hk]
     have hh:=hg;clear hk;have HF:=hid hh;clear hg hh;go_wp2_with fail
     try simp only[Exit.inBlock,Exit.then]
     have hh:=HF.out;refine bodyPost_ret (VE rfl _ _ r4 r5 r6 27 36 36 #[.int .i64 pp,.int .i64 pk,.int .i64 ps,.slice (some ⟨g6,0,none⟩) n c6] #[.int .i64 xop,.int .i64 xd,.int .i64 xe,.int .i64 xa,.int .i64 xb,.int .i64 xc,.int .i32 ximm,.slice xq xn xm] #[.int .i64 yop,.int .i64 yd,.int .i64 ye,.int .i64 ya,.int .i64 yb,.int .i64 yc,.int .i32 yimm,.slice yq yn ym] (0,0) (0,0) (0,0) _ _ _ rfl hh.z4 underlying27 rfl zaF rfl hh.z5 underlying36 rfl zaF rfl hh.z6 underlying36 rfl zaF) rfl ?_;have tg:=RowIn.each_of HP.out _ (List.mem_of_getElem? hF.out);have Hz:=fun y hy=>RowIn.each_of tg.1 y hy
     obtain⟨u,v,H2,H1⟩:=Zcy Hk.out Hj.out;have HZ:=Hz _ (List.mem_of_getElem? Hk.out);have HX:=Hz _ (List.mem_of_getElem? Hj.out);refine⟨⟨pp,pk,ps,_,.slice (some ⟨g6,0,none⟩) n c6⟩,⟨xop,xd,xe,xa,xb,xc,ximm,xargs⟩,⟨yop,yd,ye,ya,yb,yc,yimm,yargs⟩,.slice xq xn xm,.slice yq yn ym,rfl,⟨Z0 Z5 hh.blks fun z hz=>?_,by show (pbl.set b _).length≤100000;rw[List.length_set,HN.out];omega⟩,⟨rfl,rfl,rfl,.inr ⟨b,u,v,_,_,_,_,hF.out,H2,rfl,H1,rfl,rfl,rfl⟩⟩,⟨HZ.1.keep hh.old,HZ.2.1⟩,⟨HX.1.keep hh.old,HX.2.1⟩,hh.old⟩;rcases List.mem_or_eq_of_mem_set hz with hz|rfl
     ·exact BlkOk.keep _ _ _ (RowIn.each_of HP.out z hz) hh.old
     ·refine⟨Z0 Zq hh.row fun y hy=>XA.keep _ _ _ (Hz y ?_) hh.old,tg.2.1.keep hh.old,?_⟩
      ·rw[H1]at hy;show y∈il
       rw[H2];simp only[List.mem_append,List.mem_cons]at hy ⊢;rcases hy with hy|hy|hy|hy
       ·exact .inl hy
       ·exact .inr (.inr (.inl hy))
       ·exact .inr (.inl hy)
       ·exact .inr (.inr (.inr hy))
      ·dsimp only;rw[List.length_set,List.length_set,hl.out];exact ta
    all_goals
     intro p vs w1 Td Tg _ hg hk;simp only[putAll,Act.put,Zp,Zj,Is,Any,List.setIfInBounds_toArray,List.set_cons_zero,List.set_cons_succ,Nat.reduceAdd]at hk ⊢;try simp only[hk]
    ·have hb:=hg.out;have k0:=hb.cell 0;have k1:=hb.cell 1;have k2:=hb.cell 2;have k3:=hb.cell 3;have kl:=hb.lt;clear hb;exact kF
    ·exact kF
    ·have hb:=hg.x;have k0:=hb.cell 0;have k1:=hb.cell 1;have k2:=hb.cell 2;have k3:=hb.cell 3;have k4:=hb.cell 4;have k5:=hb.cell 5;have k6:=hb.cell 6;have k7:=hb.cell 7;have kl:=hb.lt;clear hb;exact kF
    iterate 4
     ·exact kF
    ·have hr:=Xv Zq hg.row t1.out;have k0:=hr.1 0 zaJ;have k1:=hr.1 1 zaJ;have k2:=hr.1 2 zaJ;have k3:=hr.1 3 zaJ;have k4:=hr.1 4 zaJ;have k5:=hr.1 5 zaJ;have k6:=hr.1 6 zaJ;have k7:=hr.1 7 zaJ;simp only[plcells,List.getElem?_cons_zero,List.getElem?_cons_succ,Nat.add_zero]at k0 k1 k2 k3 k4 k5 k6 k7;have kl:=hr.2.1;clear hr;exact kF
    ·obtain rfl:p=0:=zaK
     have hz:=hg.z4;go_wp2_with (refine wpList_store_row rfl 27 _ _ rfl r4 #[.int .i64 pp,.int .i64 pk,.int .i64 ps,.slice (some ⟨g6,0,none⟩) n c6] rfl rfl 27 _ hz zaF rfl zaj ?_)
     exact⟨undef,rfl,trivial,trivial,hg.set4 _⟩
    ·obtain rfl:p=1:=zaK
     have hz:=hg.z5;go_wp2_with (refine wpList_store_row rfl 36 _ _ rfl r5 #[.int .i64 xop,.int .i64 xd,.int .i64 xe,.int .i64 xa,.int .i64 xb,.int .i64 xc,.int .i32 ximm,.slice xq xn xm] rfl rfl 36 _ hz zaF rfl zaj ?_)
     exact⟨undef,rfl,trivial,trivial,hg.set5 _⟩
    ·obtain rfl:p=2:=zaK
     have hz:=hg.z6;go_wp2_with (refine wpList_store_row rfl 36 _ _ rfl r6 #[.int .i64 yop,.int .i64 yd,.int .i64 ye,.int .i64 ya,.int .i64 yb,.int .i64 yc,.int .i32 yimm,.slice yq yn ym] rfl rfl 36 _ hz zaF rfl zaj ?_)
     exact⟨undef,rfl,trivial,trivial,hg.set6 _⟩
end Go.Proofs.YtimpddecdodddaaGreat
