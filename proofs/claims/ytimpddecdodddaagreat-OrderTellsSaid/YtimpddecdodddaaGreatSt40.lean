import Derived.Test.YtimpddecdodddaaGreatSt39
namespace Go.Proofs.YtimpddecdodddaaGreat
open Go.Proofs.Tryz Go.RowKit Go.Lib
set_option linter.unusedVariables false
set_option maxHeartbeats 4000000
set_option maxRecDepth 1000000
theorem jJ {P:Prop} (h:P:=by
 go_wp2_with fail
 exact HQ.out _ _ v xs (ZN rfl rfl zf0) (hh.out.more (by omega))):P:=h
theorem kt {P:Prop} (h:P:=by
 clear hk;go_wp2
 exact⟨_,rfl,rfl,.refl _⟩):P:=h
theorem kQ {P:Prop} (h:P:=by repeat (first | exact trivial | refine⟨Is.stable _,?_⟩ | refine⟨GoodRow.stable _ _ _,?_⟩)):P:=h
structure NvG (params S:Int) (bs:List MBlkV) (n:Nat) (ow:List Int):Prop where
 len:bs.length=n
 n9:1≤n∧n≤9
 pa:0≤params∧params≤4∧params≤S
 Sle:S≤16384
 each:∀ b∈bs,Qf n b∧Vj S b∧b.ins.length≤3600
 own:∀ (j:Nat) (b:MBlkV),bs[j]? = some b→∃ o:Int,ow[j]? = some o∧0≤o∧o+b.phis.length≤S
structure NvD (mq xq:Nat) (params:Int) (bs:List MBlkV) (BB boff n bc:Nat) (k:MBlkV) (OB ooff oc:Nat) (ow:List Int) (w:World):Prop where
 mbox:HeapIs w mq #[.int .i64 params,.slice (some ⟨BB,boff,none⟩) n bc] 101
 prog:RowIn mbcells 7 MBlkIn w (.slice (some ⟨BB,boff,none⟩) n bc) bs
 xbox:HeapIs w xq #[k.phv,k.insv,.int .i64 k.fin.op,.int .i64 k.fin.a,.int .i64 k.fin.b,k.fin.tov,.int .i32 k.fin.imm] 135
 own:Zy .i64 w (.slice (some ⟨OB,ooff,none⟩) n oc) ow
 xin:MBlkIn w k
theorem NvD.keep {mq xq:Nat} {params:Int} {bs:List MBlkV} {BB boff n bc:Nat} {k : MBlkV} {OB ooff oc:Nat} {ow:List Int} {w w':World} (h:NvD mq xq params bs BB boff n bc k OB ooff oc ow w) (s:Since w w'):NvD mq xq params bs BB boff n bc k OB ooff oc ow w':=
 ⟨h.mbox.keep s,RowIn.keep MBlkIn.keep h.prog s,h.xbox.keep s,h.own.keep s,MBlkIn.keep w w' k h.xin s⟩
theorem NvD.ocell {mq xq:Nat} {params:Int} {bs:List MBlkV} {BB boff n bc:Nat} {k : MBlkV} {OB ooff oc:Nat} {ow:List Int} {w : World} (h:NvD mq xq params bs BB boff n bc k OB ooff oc ow w) {j : Nat} {o : Int} (hj:ow[j]? = some o):w.cell? ⟨OB,ooff+j,none⟩=some (.int .i64 o)∧OB<w.heap.size:=by
 obtain⟨b,off,h1,h2,h3⟩:=YI h.own hj
 cases h1
 exact⟨h3,h2⟩
structure NvY (S:Int) (wY:World) (c yq:Nat) (v:Value) (xs:List PlV) (w:World):Prop where
 box:HeapIs w yq #[v,.int .i64 0,.int .i64 0,.int .i64 0,.slice none 0 0,.int .i32 0] 34
 row:OwnRow plcells 9 38 wY.heap.size w v xs
 each:∀ y∈xs,PlNew wY.heap.size S w y
 few:xs.length≤c
 old:Since wY w
 low:wY.heap.size≤yq
section
variable {S : Int} {wY w w2 w6:World} {c c' yq:Nat} {v v':Value} {xs ys:List PlV}
theorem NvY.keep (h:NvY S wY c yq v xs w) (s:Since w w2):NvY S wY c yq v xs w2:=⟨h.box.keep s,h.row.keep s,fun y hy=>(h.each y hy).keep s,h.few,h.old.trans s,h.low⟩
theorem NvY.more (h:NvY S wY c yq v xs w) (hc:c≤c'):NvY S wY c' yq v xs w:=⟨h.box,h.row,h.each,Nat.le_trans h.few hc,h.old,h.low⟩
theorem NvY.put (h:NvY S wY c yq v xs w2) (ha:OwnRow plcells 9 38 wY.heap.size w6 v' (xs++ys)) (t:Zb (fun q=>v.ownBlock=some q) w2 w6) (hy:∀ y∈ys,PlNew wY.heap.size S w2 y) (hl:xs.length+ys.length≤c'):NvY S wY c' yq v' (xs++ys) (w6.setCell ⟨yq,0,none⟩ v'):=by
 have hc:∀ q,v.ownBlock=some q→wY.heap.size≤q:=fun q hq=>(World.ownsRow.lt (show w2.ownsRow _ _ _ _ _ _ from h.row) q hq).1
 have hb:=h.box.turn t (Zn h.row h.box zaJ);have t2:Zb (fun q=>q=yq) w6 (w6.setCell ⟨yq,0,none⟩ v'):=(Zb.refl (fun q=>q=yq) w6).setCell (p:=⟨yq,0,none⟩) rfl _;have hp:∀ y,PlNew wY.heap.size S w2 y→PlNew wY.heap.size S (w6.setCell ⟨yq,0,none⟩ v') y:=fun y hy=>by
  have h1:=hy.turn h.row t;exact⟨Zg h1.args t2 fun q hq e=>Zn h1.args hb zaJ (e ▸ hq),h1.good,h1.src⟩
 refine⟨hb.set 0 v',Zg ha t2 fun q hq e=>Zn ha hb zaJ (e ▸ hq),fun y hm=>?_,by rw[List.length_append];exact hl,t2.toSince (t.toSince h.old fun q hq e=>by have:=hc q e;omega) fun q hq e=>by have:=h.low;omega,h.low⟩;rcases List.mem_append.1 hm with hm|hm
 ·exact hp y (h.each y hm)
 ·exact hp y (hy y hm)
end
theorem GoodRow.low {B B':Nat} {S : Int} {k : Nat} {v : Value} {w : World} (h:GoodRow B S k v w) (hb:B'≤B):GoodRow B' S k v w:=by
 obtain⟨xs,h1,h2,h3⟩:=h;exact⟨xs,h1,h2,fun y hy=>(h3 y hy).base hb⟩
noncomputable def VCode (p:List Nat):Code:=V2 p (Tryz.f50.body.getD .skip)
def FrV (l:List (Nat × Value)) (a:Act):Prop:=a.tmps.size=242∧a.defers=[]∧Sl l a
theorem ZN {l : List (Nat × Value)} {a : Act} (h1:a.tmps.size=242) (h2:a.defers=[]) (h3:Sl l a):FrV l a:=⟨h1,h2,h3⟩
theorem Zb5 (u:Nat→Value):(u 0::u 1::u 2::u 3::u 4::u 5::u 6::u 7::u 8::u 9::u 10::u 11::u 12::u 13::u 14::u 15::u 16::u 17::u 18::u 19::u 20::u 21::u 22::u 23::u 24::u 25::u 26::u 27::u 28::u 29::u 30::u 31::u 32::u 33::u 34::u 35::u 36::u 37::u 38::u 39::u 40::u 41::u 42::u 43::u 44::u 45::u 46::u 47::u 48::u 49::u 50::u 51::u 52::u 53::u 54::u 55::u 56::u 57::u 58::u 59::u 60::u 61::u 62::u 63::u 64::u 65::u 66::u 67::u 68::u 69::u 70::u 71::u 72::u 73::u 74::u 75::u 76::u 77::u 78::u 79::u 80::u 81::u 82::u 83::u 84::u 85::u 86::u 87::u 88::u 89::u 90::u 91::u 92::u 93::u 94::u 95::u 96::u 97::u 98::u 99::u 100::u 101::u 102::u 103::u 104::u 105::u 106::u 107::u 108::u 109::u 110::u 111::u 112::u 113::u 114::u 115::u 116::u 117::u 118::u 119::u 120::u 121::u 122::u 123::u 124::u 125::u 126::u 127::u 128::u 129::u 130::u 131::u 132::u 133::u 134::u 135::u 136::u 137::u 138::u 139::u 140::u 141::u 142::u 143::u 144::u 145::u 146::u 147::u 148::u 149::u 150::u 151::u 152::u 153::u 154::u 155::u 156::u 157::u 158::u 159::u 160::u 161::u 162::u 163::u 164::u 165::u 166::u 167::u 168::u 169::u 170::u 171::u 172::u 173::u 174::u 175::u 176::u 177::u 178::u 179::u 180::u 181::u 182::u 183::u 184::u 185::u 186::u 187::u 188::u 189::u 190::u 191::u 192::u 193::u 194::u 195::u 196::u 197::u 198::u 199::u 200::u 201::u 202::u 203::u 204::u 205::u 206::u 207::u 208::u 209::u 210::u 211::u 212::u 213::u 214::u 215::u 216::u 217::u 218::u 219::u 220::u 221::u 222::u 223::u 224::u 225::u 226::u 227::u 228::u 229::u 230::u 231::u 232::u 233::u 234::u 235::u 236::u 237::u 238::u 239::u 240::u 241::[]:List Value).toArray=((List.range 242).map u).toArray:=by kernel_rfl
theorem ZK {l : List (Nat × Value)} {a : Act} (h:FrV l a):∃ u:Nat→Value,a=⟨(u 0::u 1::u 2::u 3::u 4::u 5::u 6::u 7::u 8::u 9::u 10::u 11::u 12::u 13::u 14::u 15::u 16::u 17::u 18::u 19::u 20::u 21::u 22::u 23::u 24::u 25::u 26::u 27::u 28::u 29::u 30::u 31::u 32::u 33::u 34::u 35::u 36::u 37::u 38::u 39::u 40::u 41::u 42::u 43::u 44::u 45::u 46::u 47::u 48::u 49::u 50::u 51::u 52::u 53::u 54::u 55::u 56::u 57::u 58::u 59::u 60::u 61::u 62::u 63::u 64::u 65::u 66::u 67::u 68::u 69::u 70::u 71::u 72::u 73::u 74::u 75::u 76::u 77::u 78::u 79::u 80::u 81::u 82::u 83::u 84::u 85::u 86::u 87::u 88::u 89::u 90::u 91::u 92::u 93::u 94::u 95::u 96::u 97::u 98::u 99::u 100::u 101::u 102::u 103::u 104::u 105::u 106::u 107::u 108::u 109::u 110::u 111::u 112::u 113::u 114::u 115::u 116::u 117::u 118::u 119::u 120::u 121::u 122::u 123::u 124::u 125::u 126::u 127::u 128::u 129::u 130::u 131::u 132::u 133::u 134::u 135::u 136::u 137::u 138::u 139::u 140::u 141::u 142::u 143::u 144::u 145::u 146::u 147::u 148::u 149::u 150::u 151::u 152::u 153::u 154::u 155::u 156::u 157::u 158::u 159::u 160::u 161::u 162::u 163::u 164::u 165::u 166::u 167::u 168::u 169::u 170::u 171::u 172::u 173::u 174::u 175::u 176::u 177::u 178::u 179::u 180::u 181::u 182::u 183::u 184::u 185::u 186::u 187::u 188::u 189::u 190::u 191::u 192::u 193::u 194::u 195::u 196::u 197::u 198::u 199::u 200::u 201::u 202::u 203::u 204::u 205::u 206::u 207::u 208::u 209::u 210::u 211::u 212::u 213::u 214::u 215::u 216::u 217::u 218::u 219::u 220::u 221::u 222::u 223::u 224::u 225::u 226::u 227::u 228::u 229::u 230::u 231::u 232::u 233::u 234::u 235::u 236::u 237::u 238::u 239::u 240::u 241::[]).toArray,[]⟩∧∀ i v,a.tmps[i]? = some v→u i=v:=by
 obtain⟨t,d⟩:=a;obtain⟨h1,h2,_⟩:=h;dsimp only at h1 h2;obtain⟨u,hu⟩:∃ u:Nat→Value,∀ i,u i=t.getD i undef:=⟨fun i=>t.getD i undef,fun _=>rfl⟩
 refine⟨u,?_,fun i v hv=>?_⟩
 ·rw[h2];refine congrArg (fun x=>Act.mk x []) (Eq.trans ?_ (Zb5 u).symm);exact j8
 ·exact jY
theorem ZcP (wY:World) (mq xq rq pq yq:Nat) (params S:Int) (bs:List MBlkV) (BB boff n bc:Nat) (k:MBlkV) (OB ooff oc:Nat) (ow:List Int) (b:Nat) (v0:Value) (xs0:List PlV) (a0:Act) (w1:World) (Q0:Exit→Act→World→Prop) (hC:FrV [(2,.pointer (some ⟨mq,0,none⟩)),(4,.pointer (some ⟨rq,0,none⟩)),(6,.pointer (some ⟨pq,0,none⟩)),(7,.slice (some ⟨OB,ooff,none⟩) n oc),(10,.int .i64 b),(11,.pointer (some ⟨xq,0,none⟩)),(12,.pointer (some ⟨yq,0,none⟩)),(13,.int .i64 (0:Nat))] a0)
  (hd:NvD mq xq params bs BB boff n bc k OB ooff oc ow wY) (hg:NvG params S bs n ow) (hB:bs[b]? = some k) (hb:NvY S wY 0 yq v0 xs0 w1)
  (hQ:∀ a1 w2 v2 xs2,FrV [(2,.pointer (some ⟨mq,0,none⟩)),(4,.pointer (some ⟨rq,0,none⟩)),(6,.pointer (some ⟨pq,0,none⟩)),(7,.slice (some ⟨OB,ooff,none⟩) n oc),(10,.int .i64 b),(11,.pointer (some ⟨xq,0,none⟩)),(12,.pointer (some ⟨yq,0,none⟩))] a1→NvY S wY 4 yq v2 xs2 w2→Q0 .normal a1 w2):Code.wp prog (VCode [1,1,1,1,1,1,1,0,1,0,0,1,0,0,1,1,0,1]) Q0 a0 w1:=by
 obtain⟨u,he,hu⟩:=ZK hC;obtain⟨g1,g2,s2,s4,s6,s7,s10,s11,s12,s13,g3⟩:=hC;have e2:=hu 2 _ s2;have e4:=hu 4 _ s4;have e6:=hu 6 _ s6;have e7:=hu 7 _ s7;have e10:=hu 10 _ s10;have e11:=hu 11 _ s11;have e12:=hu 12 _ s12;have e13:=hu 13 _ s13;rw[e2,e4,e6,e7,e10,e11,e12,e13]at he;subst he;clear hu g1 g2 g3 e2 s2 e4 s4 e6 s6 e7 s7 e10 s10 e11 s11 e12 s12 e13 s13
 conv=>arg 2;whnf
 have HQ:=hid hQ;have HD:=hid hd;have HG:=hid hg;have h0:=hid hB;clear hQ hd hg hB;go_wp2_with fail
 refine ZS (fun t ac wr=>∃ (i:Nat) (v:Value) (xs:List PlV),t=4-i∧(i:Int)≤params∧FrV [(2,.pointer (some ⟨mq,0,none⟩)),(4,.pointer (some ⟨rq,0,none⟩)),(6,.pointer (some ⟨pq,0,none⟩)),(7,.slice (some ⟨OB,ooff,none⟩) n oc),(10,.int .i64 b),(11,.pointer (some ⟨xq,0,none⟩)),(12,.pointer (some ⟨yq,0,none⟩)),(13,.int .i64 i)] ac∧NvY S wY i yq v xs wr) 4 ⟨0,_,_,rfl,by have:=HG.out.pa;omega,(ZN rfl rfl zf0),hb⟩ ?_
 ·clear hb;intro t a1 wr K hJ hK;have hT:=hid hK;clear hK;obtain⟨i,v,xs,rfl,hi,hf,hb⟩:=hJ;obtain⟨u,he,hu⟩:=ZK hf;obtain⟨g1,g2,s2,s4,s6,s7,s10,s11,s12,s13,g3⟩:=hf;have e2:=hu 2 _ s2;have e4:=hu 4 _ s4;have e6:=hu 6 _ s6;have e7:=hu 7 _ s7;have e10:=hu 10 _ s10;have e11:=hu 11 _ s11;have e12:=hu 12 _ s12;have e13:=hu 13 _ s13;rw[e2,e4,e6,e7,e10,e11,e12,e13]at he;subst he;clear hu g1 g2 g3 e2 s2 e4 s4 e6 s6 e7 s7 e10 s10 e11 s11 e12 s12 e13 s13;have hh:=hid hb;have hm:=(HD.out.keep hb.old).mbox;have hL:=hm.cell 0;have hI:=hm.lt;have hp:=HG.out.pa;clear hb hm;by_cases hr:b=0
  ·have hD:((b:Int)==0)=true:=by rw[hr];rfl
   clear hr;by_cases hV:(i:Int)<params
   ·have hF:=zH (0≤(i:Int)∧(i:Int)<4) zaK;have hS:=zH (0≤(i:Int)∧(i:Int)<100000) zaK;have hR:=zH (0≤(i:Int)∧(i:Int)<S) zaK;have hU:=zH (i≤100000) zaK;go_upto_region 19 with fail
    clear hL hI hD;refine Zh 6 rfl zaC zaC zaC zaJ
     [Is (.pointer (some ⟨yq,0,none⟩)),Is v,Is (.int .i64 i),Is (.int .i64 i),Is (.agg #[.int .i64 31,.int .i64 0,.int .i64 0,.int .i64 i,.int .i64 0,.int .i64 0,.int .i32 i,.slice none 0 0,.int .i64 (-1)]),GoodRow wY.heap.size S 1]
     kQ ⟨?_,?_,?_,?_,?_,?_,trivial⟩ ?_
    rotate_right
    ·intro vs w5 hs hk;revert hk;refine zs0 ?_;intro hk
     obtain⟨ys,hw,hv,hx⟩:GoodRow wY.heap.size S 1 (vs 5) w5:=by exact hk.2.2.2.2.2.1
     generalize vs 5=xv at *;have ha:=hid (hh.out.keep hs);have hN:=hid hw;have hM:=hid hv;have hE:=hid hx;have hP:=zH (xs.length+ys.length≤1000000) (by have:=hh.out.few;have:=hU.out;omega);clear hk hs hw hv hx;go_wp2_with (refine Z3 (base:=wY.heap.size) plcells 9 Zq zaJ rfl _ _ 30 rfl 38 (.agg #[.int .i64 0,.int .i64 0,.int .i64 0,.int .i64 0,.int .i64 0,.int .i64 0,.int .i32 0,.slice none 0 0,.int .i64 0]) 88 underlying30 zaF rfl zaJ v xv xs ys rfl rfl ha.out.row (XD Zq zaJ hM.out) (WA hE.out) hP.out ha.out.old.size ?_;intro v' w6 hj ht ho;obtain⟨va2,vc2,hz⟩:=Ze (show w6.ownsRow _ _ _ _ _ _ from hj);obtain⟨l2,hA⟩:∃ z,(xs++ys).length=z:=⟨_,rfl⟩;rw[hA]at hz;subst hz;have hG:=hid hj;have hO:=hid ht;have hZ:=hid ho;have hn:=ha.out.box.turn ht (Zn ha.out.row ha.out.box zaJ);have hW:=hn.lt;have hX:=hn.frozen;have hY:=hn.cell 0;clear hj ht ho hn hA)
     exact hT.out (4-(i+1)) _ _ zaK ⟨i+1,_,_,rfl,zaK,(ZN rfl rfl zf0),ha.out.put hG.out hO.out hE.out (by have:=ha.out.few;have:=hN.out;omega)⟩
    all_goals
     intro vs w5 hs hk _;revert hk;refine zs1 ?_;intro hk
    ·exact kH
    ·have hq:HeapIs w5 yq #[v,.int .i64 0,.int .i64 0,.int .i64 0,.slice none 0 0,.int .i32 0] 34:=hh.out.box.keep hs;have hc:=hq.cell 0;have hl:=hq.lt;clear hq;exact kH
    iterate 2
     ·exact kH
    ·clear hk;go_wp2_with fail
     refine (WR i i w5 hF.out hS.out).mono ?_;rintro e w6 ⟨rfl,hH⟩;go_wp2
     exact⟨_,rfl,rfl,hH⟩
    ·clear hk;go_wp2
     exact⟨_,rfl,⟨[YA 31 i i],Nat.le_refl 1,Zd9 (HeapIs.new _ _ _),fun y hy=>by rw[List.mem_singleton.1 hy];exact PlNew.laid (.inr rfl) hF.out hR.out HG.out.Sle⟩,(Since.refl _).alloc _⟩
   ·exact jJ
  ·have hD:((b:Int)==0)=false:=by rw[beq_eq_false_iff_ne];omega
   clear hr;exact jJ
theorem Zep (wY:World) (mq xq rq pq yq:Nat) (params S:Int) (bs:List MBlkV) (BB boff n bc:Nat) (k:MBlkV) (OB ooff oc:Nat) (ow:List Int) (b:Nat) (v0:Value) (xs0:List PlV) (a0:Act) (w1:World) (Q0:Exit→Act→World→Prop) (hN:FrV [(2,.pointer (some ⟨mq,0,none⟩)),(4,.pointer (some ⟨rq,0,none⟩)),(6,.pointer (some ⟨pq,0,none⟩)),(7,.slice (some ⟨OB,ooff,none⟩) n oc),(10,.int .i64 b),(11,.pointer (some ⟨xq,0,none⟩)),(12,.pointer (some ⟨yq,0,none⟩)),(14,.int .i64 (0:Nat))] a0)
  (hd:NvD mq xq params bs BB boff n bc k OB ooff oc ow wY) (hg:NvG params S bs n ow) (hM:bs[b]? = some k) (hb:NvY S wY 4 yq v0 xs0 w1)
  (hQ:∀ a1 w2 v2 xs2,FrV [(2,.pointer (some ⟨mq,0,none⟩)),(4,.pointer (some ⟨rq,0,none⟩)),(6,.pointer (some ⟨pq,0,none⟩)),(7,.slice (some ⟨OB,ooff,none⟩) n oc),(10,.int .i64 b),(11,.pointer (some ⟨xq,0,none⟩)),(12,.pointer (some ⟨yq,0,none⟩))] a1→NvY S wY 10 yq v2 xs2 w2→Q0 .normal a1 w2):Code.wp prog (VCode [1,1,1,1,1,1,1,0,1,0,0,1,0,0,1,1,1,0,1]) Q0 a0 w1:=by
 obtain⟨u,hh,hu⟩:=ZK hN;obtain⟨g1,g2,s2,s4,s6,s7,s10,s11,s12,s14,g3⟩:=hN;have e2:=hu 2 _ s2;have e4:=hu 4 _ s4;have e6:=hu 6 _ s6;have e7:=hu 7 _ s7;have e10:=hu 10 _ s10;have e11:=hu 11 _ s11;have e12:=hu 12 _ s12;have e14:=hu 14 _ s14;rw[e2,e4,e6,e7,e10,e11,e12,e14]at hh;subst hh;clear hu g1 g2 g3 e2 s2 e4 s4 e6 s6 e7 s7 e10 s10 e11 s11 e12 s12 e14 s14
 conv=>arg 2;whnf
 have HQ:=hid hQ;have HD:=hid hd;have HG:=hid hg;have hB:=hid hM;clear hQ hd hg hM;have hm:=HG.out.each k (List.mem_of_getElem? hB.out);obtain⟨o,hH,h1,hI⟩:=HG.out.own b k hB.out;have Hc:=hid hH;have Hl:b<n:=by have h9:=(List.getElem?_eq_some_iff.1 hB.out).1;rw[HG.out.len]at h9;exact h9
 have Hk:=HG.out.n9;have h8:=hid hm.1.phis;have Hj:=hid hm.2.1.dst;have hX:=hm.1.few;obtain⟨pa,pc,hr,_⟩:=RowIn.shape (show RowIn fpcells 2 YJ wY k.phv k.phis from HD.out.xin.1);obtain⟨pl,hv⟩:∃ z,k.phis.length=z:=⟨_,rfl⟩
 rw[hv]at hr hX hI;have h7:=hid hv;have hA:=hid hr;have Hp:=HG.out.Sle;clear hH hm hr hv;go_wp2_with fail
 refine ZS (fun t ac wr=>∃ (i:Nat) (v:Value) (xs:List PlV),t=pl-i∧i≤pl∧FrV [(2,.pointer (some ⟨mq,0,none⟩)),(4,.pointer (some ⟨rq,0,none⟩)),(6,.pointer (some ⟨pq,0,none⟩)),(7,.slice (some ⟨OB,ooff,none⟩) n oc),(10,.int .i64 b),(11,.pointer (some ⟨xq,0,none⟩)),(12,.pointer (some ⟨yq,0,none⟩)),(14,.int .i64 i)] ac∧NvY S wY (4+2*i) yq v xs wr) pl ⟨0,_,_,rfl,Nat.zero_le _,(ZN rfl rfl zf0),hb⟩ ?_
 ·clear hb;intro t a1 wr K hJ hK;have Hh:=hid hK;clear hK;obtain⟨i,v,xs,rfl,hi,hf,hb⟩:=hJ;obtain⟨u,hh,hu⟩:=ZK hf;obtain⟨g1,g2,s2,s4,s6,s7,s10,s11,s12,s14,g3⟩:=hf;have e2:=hu 2 _ s2;have e4:=hu 4 _ s4;have e6:=hu 6 _ s6;have e7:=hu 7 _ s7;have e10:=hu 10 _ s10;have e11:=hu 11 _ s11;have e12:=hu 12 _ s12;have e14:=hu 14 _ s14;rw[e2,e4,e6,e7,e10,e11,e12,e14]at hh;subst hh;clear hu g1 g2 g3 e2 s2 e4 s4 e6 s6 e7 s7 e10 s10 e11 s11 e12 s12 e14 s14;have ho:=hid hb;have he:=hid (HD.out.keep hb.old);have hF:=he.out.xbox.cell 0;rw[show (#[k.phv,k.insv,.int .i64 k.fin.op,.int .i64 k.fin.a,.int .i64 k.fin.b,k.fin.tov,.int .i32 k.fin.imm]:Array Value)[0]? = some k.phv from rfl,hA.out]at hF
  have h0:=he.out.xbox.lt;clear hb;by_cases h2:i<pl
  ·obtain⟨PB,poff,y,rfl,hz,hy,hT,hW⟩:=RowIn.at (show RowIn fpcells 2 YJ wr (.slice pa pl pc) k.phis from by rw[←hA.out];exact he.out.xin.1) (by rw[h7.out];exact h2)
   obtain⟨dst,ins,inv⟩:=y;have hp:=List.mem_of_getElem? hy;have hP:=(h8.out _ hp).1;have hO:=Hj.out _ hp;dsimp only at hP hO;have Hb:=hid (fun (w5:World) (hs:Since wr w5)=>show w5.cell? ⟨OB,ooff+b,none⟩=some (.int .i64 o)∧OB<w5.heap.size from (he.out.keep hs).ocell Hc.out)
   have h5:=hid (fun (w5:World) (hs:Since wr w5)=>show w5.cell? ⟨xq,0,none⟩=some (.slice (some ⟨PB,poff,none⟩) pl pc)∧xq<w5.heap.size from by
    refine⟨?_,(he.out.keep hs).xbox.lt⟩;rw[←hA.out];exact (he.out.keep hs).xbox.cell 0)
   have Ha:=hid (fun (w5:World) (hs:Since wr w5)=>show w5.cell? ⟨PB,poff+i*2,none⟩=some (.int .i64 dst)∧PB<w5.heap.size from⟨by rw[hs.cell (p:=⟨PB,poff+i*2,none⟩) hz];exact hT 0 zaJ,Nat.lt_of_lt_of_le hz hs.size⟩)
   have hV:=zH (0≤o+(i:Int)∧o+(i:Int)<100000) zaK;have Hg:=zH (0≤o+(i:Int)∧o+(i:Int)<S) zaK;have Hf:=zH (0≤dst∧dst<100000) zaK;have hZ:=zH (0≤dst∧dst<S) zaK;have Hi:=zH (4+2*i≤100000) zaK;clear hy hp hP hO hT hW h1 hI;go_upto_region 23 with fail
   clear hF h0 hz;refine Zh 17 rfl zaC zaC zaC zaJ
    [Is (.pointer (some ⟨yq,0,none⟩)),Is v,Is (.slice (some ⟨OB,ooff,none⟩) n oc),Is (.int .i64 b),Is (.pointer (some ⟨OB,ooff+b,none⟩)),Is (.int .i64 o),Is (.int .i64 i),Is (.int .i64 (o+i)),Is (.agg #[.int .i64 30,.int .i64 0,.int .i64 0,.int .i64 0,.int .i64 0,.int .i64 0,.int .i32 (o+i),.slice none 0 0,.int .i64 (-1)]),Is (.pointer (some ⟨xq,0,none⟩)),Is (.slice (some ⟨PB,poff,none⟩) pl pc),Is (.int .i64 i),Is (.pointer (some ⟨PB,poff+i*2,none⟩)),Is (.pointer (some ⟨PB,poff+i*2,none⟩)),Is (.int .i64 dst),Is (.agg #[.int .i64 31,.int .i64 0,.int .i64 0,.int .i64 0,.int .i64 0,.int .i64 0,.int .i32 dst,.slice none 0 0,.int .i64 (-1)]),GoodRow wY.heap.size S 2]
    kQ ⟨?_,?_,?_,?_,?_,?_,?_,?_,?_,?_,?_,?_,?_,?_,?_,?_,?_,trivial⟩ ?_
   rotate_right
   ·intro vs w5 hs hk;revert hk;refine zs0 ?_;intro hk
    obtain⟨ys,hD,hC,hE⟩:GoodRow wY.heap.size S 2 (vs 16) w5:=by exact hk.2.2.2.2.2.2.2.2.2.2.2.2.2.2.2.2.1
    generalize vs 16=xv at *;have ha:=hid (ho.out.keep hs);have h4:=hid hD;have h3:=hid hC;have hU:=hid hE;have He:=zH (xs.length+ys.length≤1000000) (by have:=ho.out.few;have:=Hi.out;omega);clear hk hs hD hC hE;go_wp2_with (refine Z3 (base:=wY.heap.size) plcells 9 Zq zaJ rfl _ _ 30 rfl 38 (.agg #[.int .i64 0,.int .i64 0,.int .i64 0,.int .i64 0,.int .i64 0,.int .i64 0,.int .i32 0,.slice none 0 0,.int .i64 0]) 88 underlying30 zaF rfl zaJ v xv xs ys rfl rfl ha.out.row (XD Zq zaJ h3.out) (WA hU.out) He.out ha.out.old.size ?_;intro v' w6 hj ht hw;obtain⟨va2,vc2,hG⟩:=Ze (show w6.ownsRow _ _ _ _ _ _ from hj);obtain⟨l2,hL⟩:∃ z,(xs++ys).length=z:=⟨_,rfl⟩;rw[hL]at hG;subst hG;have hY:=hid hj;have h6:=hid ht;have Hq:=hid hw;have hn:=ha.out.box.turn ht (Zn ha.out.row ha.out.box zaJ);have Hm:=hn.lt;have Hn:=hn.frozen;have Ho:=hn.cell 0;clear hj ht hw hn hL)
    exact Hh.out (pl-(i+1)) _ _ zaK ⟨i+1,_,_,rfl,zaK,(ZN rfl rfl zf0),ha.out.put hY.out h6.out hU.out (by have:=ha.out.few;have:=h4.out;omega)⟩
   all_goals
    intro vs w5 hs hk _;revert hk;refine zs1 ?_;intro hk
   ·exact kH
   ·have hx:HeapIs w5 yq #[v,.int .i64 0,.int .i64 0,.int .i64 0,.slice none 0 0,.int .i32 0] 34:=ho.out.box.keep hs;have hc:=hx.cell 0;have hl:=hx.lt;clear hx;exact kH
   iterate 3
    ·exact kH
   ·obtain⟨hS,hR⟩:=Hb.out w5 hs;exact kt
   ·exact kH
   ·have h9:=hV.out;exact kH
   ·clear hk;go_wp2_with fail
    refine (WS 0 (o+i) w5 zaJ hV.out).mono ?_;rintro e w6 ⟨rfl,hq⟩;go_wp2
    exact⟨_,rfl,rfl,hq⟩
   ·exact kH
   ·obtain⟨hS,hR⟩:=h5.out w5 hs;exact kt
   iterate 3
    ·exact kH
   ·obtain⟨hS,hR⟩:=Ha.out w5 hs;exact kt
   ·clear hk;go_wp2_with fail
    refine (WR 0 dst w5 zaJ Hf.out).mono ?_;rintro e w6 ⟨rfl,hq⟩;go_wp2
    exact⟨_,rfl,rfl,hq⟩
   ·clear hk;go_wp2
    exact⟨_,rfl,⟨[YA 30 0 (o+i),YA 31 0 dst],Nat.le_refl 2,Zbo (HeapIs.new _ _ _),fun y hy=>by
   rcases List.mem_cons.1 hy with hy|hy
   ·rw[hy];exact PlNew.laid (.inl rfl) zaJ Hg.out HG.out.Sle
   ·rw[List.mem_singleton.1 hy];exact PlNew.laid (.inr rfl) zaJ hZ.out HG.out.Sle⟩,(Since.refl _).alloc _⟩
  ·obtain rfl:pl=i:=zaK
   go_wp2_with fail
   exact HQ.out _ _ v xs (ZN rfl rfl zf0) (ho.out.more zaK)
theorem Ze1 (wY:World) (mq xq rq pq yq:Nat) (params S:Int) (bs:List MBlkV) (BB boff n bc:Nat) (k:MBlkV) (OB ooff oc:Nat) (ow:List Int) (b:Nat) (v0:Value) (xs0:List PlV) (a0:Act) (w1:World) (Q0:Exit→Act→World→Prop) (hM:FrV [(2,.pointer (some ⟨mq,0,none⟩)),(4,.pointer (some ⟨rq,0,none⟩)),(6,.pointer (some ⟨pq,0,none⟩)),(7,.slice (some ⟨OB,ooff,none⟩) n oc),(10,.int .i64 b),(11,.pointer (some ⟨xq,0,none⟩)),(12,.pointer (some ⟨yq,0,none⟩)),(15,.int .i64 (0:Nat))] a0)
  (hd:NvD mq xq params bs BB boff n bc k OB ooff oc ow wY) (hg:NvG params S bs n ow) (hL:bs[b]? = some k) (he:NvY S wY 10 yq v0 xs0 w1)
  (hQ:∀ a1 w2 v2 xs2,FrV [(2,.pointer (some ⟨mq,0,none⟩)),(4,.pointer (some ⟨rq,0,none⟩)),(6,.pointer (some ⟨pq,0,none⟩)),(7,.slice (some ⟨OB,ooff,none⟩) n oc),(10,.int .i64 b),(11,.pointer (some ⟨xq,0,none⟩)),(12,.pointer (some ⟨yq,0,none⟩))] a1→NvY S wY (10+7*k.ins.length) yq v2 xs2 w2→Q0 .normal a1 w2):Code.wp prog (VCode [1,1,1,1,1,1,1,0,1,0,0,1,0,0,1,1,1,1,0,1]) Q0 a0 w1:=by
 obtain⟨u,hh,hu⟩:=ZK hM;obtain⟨g1,g2,s2,s4,s6,s7,s10,s11,s12,s15,g3⟩:=hM;have e2:=hu 2 _ s2;have e4:=hu 4 _ s4;have e6:=hu 6 _ s6;have e7:=hu 7 _ s7;have e10:=hu 10 _ s10;have e11:=hu 11 _ s11;have e12:=hu 12 _ s12;have e15:=hu 15 _ s15;rw[e2,e4,e6,e7,e10,e11,e12,e15]at hh;subst hh;clear hu g1 g2 g3 e2 s2 e4 s4 e6 s6 e7 s7 e10 s10 e11 s11 e12 s12 e15 s15
 conv=>arg 2;whnf
 have HQ:=hid hQ;have HD:=hid hd;have HG:=hid hg;have h6:=hid hL;clear hQ hd hg hL;have ho:=HG.out.each k (List.mem_of_getElem? h6.out);have h9:=hid ho.1.ins;have h8:=hid ho.2.1.ins;have hC:=ho.2.2;obtain⟨ia,ic,hw,_⟩:=RowIn.shape (show RowIn Yd 8 WN wY k.insv k.ins from HD.out.xin.2.1);obtain⟨il,hy⟩:∃ z,k.ins.length=z:=⟨_,rfl⟩
 rw[hy]at hw hC;have hP:=hid hy;have hB:=hid hw;clear ho hw hy;go_wp2_with fail
 refine ZS (fun t ac wr=>∃ (i:Nat) (v:Value) (xs:List PlV),t=il-i∧i≤il∧FrV [(2,.pointer (some ⟨mq,0,none⟩)),(4,.pointer (some ⟨rq,0,none⟩)),(6,.pointer (some ⟨pq,0,none⟩)),(7,.slice (some ⟨OB,ooff,none⟩) n oc),(10,.int .i64 b),(11,.pointer (some ⟨xq,0,none⟩)),(12,.pointer (some ⟨yq,0,none⟩)),(15,.int .i64 i)] ac∧NvY S wY (10+7*i) yq v xs wr) il ⟨0,_,_,rfl,Nat.zero_le _,(ZN rfl rfl zf0),he⟩ ?_
 ·clear he;intro t a1 wr K hJ hK;have h7:=hid hK;clear hK;obtain⟨i,v,xs,rfl,hi,hf,he⟩:=hJ;obtain⟨u,hh,hu⟩:=ZK hf;obtain⟨g1,g2,s2,s4,s6,s7,s10,s11,s12,s15,g3⟩:=hf;have e2:=hu 2 _ s2;have e4:=hu 4 _ s4;have e6:=hu 6 _ s6;have e7:=hu 7 _ s7;have e10:=hu 10 _ s10;have e11:=hu 11 _ s11;have e12:=hu 12 _ s12;have e15:=hu 15 _ s15;rw[e2,e4,e6,e7,e10,e11,e12,e15]at hh;subst hh;clear hu g1 g2 g3 e2 s2 e4 s4 e6 s6 e7 s7 e10 s10 e11 s11 e12 s12 e15 s15;have hj:=hid he;have hm:=hid (HD.out.keep he.old);have hG:=hm.out.xbox.cell 1;rw[show (#[k.phv,k.insv,.int .i64 k.fin.op,.int .i64 k.fin.a,.int .i64 k.fin.b,k.fin.tov,.int .i32 k.fin.imm]:Array Value)[1]? = some k.insv from rfl,hB.out]at hG
  have hS:=hm.out.xbox.lt;clear he;by_cases hW:i<il
  ·obtain⟨IB,ioff,x,rfl,hA,hx,hN,hr⟩:=RowIn.at (show RowIn Yd 8 WN wr (.slice ia il ic) k.ins from by rw[←hB.out];exact hm.out.xin.2.1) (by rw[hP.out];exact hW)
   have hq:=List.mem_of_getElem? hx;have h0:=hid (h9.out x hq);have hZ:=hid (h8.out x hq);obtain⟨xm,xav⟩:=x;have h2:=zH (Zd wr xav xm.args) hr;have Ha:=hid (fun (w5:World) (hs:Since wr w5)=>show (∀ t,t<8→w5.cell? ⟨IB,ioff+i*8+t,none⟩=(Yd ⟨xm,xav⟩)[t]?)∧IB<w5.heap.size from⟨fun t ht=>by rw[hs.cell (p:=⟨IB,ioff+i*8+t,none⟩) hA];exact hN t ht,Nat.lt_of_lt_of_le hA hs.size⟩)
   have h1:=hid (fun (w5:World) (hs:Since wr w5)=>show w5.cell? ⟨xq,1,none⟩=some (.slice (some ⟨IB,ioff,none⟩) il ic)∧xq<w5.heap.size from by
    refine⟨?_,(hm.out.keep hs).xbox.lt⟩;rw[←hB.out];exact (hm.out.keep hs).xbox.cell 1)
   have h5:=zH (0≤(i:Int)∧(i:Int)≤5000) zaK;have Hb:=zH (10+7*i≤100000) zaK;clear hx hq hr hN;go_upto_region 27 with fail
   clear hG hS hA;refine Zh 9 rfl zaC zaC zaC zaJ
    [Is (.pointer (some ⟨yq,0,none⟩)),Is v,Is (.pointer (some ⟨xq,1,none⟩)),Is (.slice (some ⟨IB,ioff,none⟩) il ic),Is (.int .i64 i),Is (.pointer (some ⟨IB,ioff+i*8,none⟩)),Is (mav ⟨xm,xav⟩),Is (.int .i64 i),GoodRow wY.heap.size S 7]
    kQ ⟨?_,?_,?_,?_,?_,?_,?_,?_,?_,trivial⟩ ?_
   rotate_right
   ·intro vs w5 hs hk;revert hk;refine zs0 ?_;intro hk
    obtain⟨ys,hE,hD,hF⟩:GoodRow wY.heap.size S 7 (vs 8) w5:=by exact hk.2.2.2.2.2.2.2.2.1
    generalize vs 8=xv at *;have hb:=hid (hj.out.keep hs);have hY:=hid hE;have hX:=hid hD;have hO:=hid hF;have h4:=zH (xs.length+ys.length≤1000000) (by have:=hj.out.few;have:=Hb.out;omega);clear hk hs hE hD hF;go_wp2_with (refine Z3 (base:=wY.heap.size) plcells 9 Zq zaJ rfl _ _ 30 rfl 38 (.agg #[.int .i64 0,.int .i64 0,.int .i64 0,.int .i64 0,.int .i64 0,.int .i64 0,.int .i32 0,.slice none 0 0,.int .i64 0]) 88 underlying30 zaF rfl zaJ v xv xs ys rfl rfl hb.out.row (XD Zq zaJ hX.out) (WA hO.out) h4.out hb.out.old.size ?_;intro v' w6 hn ht hv;obtain⟨va2,vc2,hH⟩:=Ze (show w6.ownsRow _ _ _ _ _ _ from hn);obtain⟨l2,hI⟩:∃ z,(xs++ys).length=z:=⟨_,rfl⟩;rw[hI]at hH;subst hH;have hR:=hid hn;have h3:=hid ht;have Hj:=hid hv;have hp:=hb.out.box.turn ht (Zn hb.out.row hb.out.box zaJ);have Hg:=hp.lt;have Hh:=hp.frozen;have Hi:=hp.cell 0;clear hn ht hv hp hI)
    exact h7.out (il-(i+1)) _ _ zaK ⟨i+1,_,_,rfl,zaK,(ZN rfl rfl zf0),hb.out.put hR.out h3.out hO.out (by have:=hb.out.few;have:=hY.out;omega)⟩
   all_goals
    intro vs w5 hs hk _;revert hk;refine zs1 ?_;intro hk
   ·exact kH
   ·have hz:HeapIs w5 yq #[v,.int .i64 0,.int .i64 0,.int .i64 0,.slice none 0 0,.int .i32 0] 34:=hj.out.box.keep hs;have hc:=hz.cell 0;have hl:=hz.lt;clear hz;exact kH
   ·exact kH
   ·obtain⟨Hf,He⟩:=h1.out w5 hs;exact kt
   iterate 2
    ·exact kH
   ·obtain⟨ha,Hc⟩:=Ha.out w5 hs;clear hk;have g0:=ha 0 zaJ;have g1:=ha 1 zaJ;have g2:=ha 2 zaJ;have g3:=ha 3 zaJ;have g4:=ha 4 zaJ;have g5:=ha 5 zaJ;have g6:=ha 6 zaJ;have g7:=ha 7 zaJ
    replace g0:w5.cell? ⟨IB,ioff+i*8,none⟩=some (.int .i64 xm.op):=g0
    replace g1:w5.cell? ⟨IB,ioff+i*8+1,none⟩=some (.int .i64 xm.d):=g1
    replace g2:w5.cell? ⟨IB,ioff+i*8+2,none⟩=some (.int .i64 xm.e):=g2
    replace g3:w5.cell? ⟨IB,ioff+i*8+3,none⟩=some (.int .i64 xm.a):=g3
    replace g4:w5.cell? ⟨IB,ioff+i*8+4,none⟩=some (.int .i64 xm.b):=g4
    replace g5:w5.cell? ⟨IB,ioff+i*8+5,none⟩=some (.int .i64 xm.c):=g5
    replace g6:w5.cell? ⟨IB,ioff+i*8+6,none⟩=some (.int .i32 xm.imm):=g6
    replace g7:w5.cell? ⟨IB,ioff+i*8+7,none⟩=some (xav):=g7
    clear ha;unfold mav;dsimp only;exact kH
   ·exact kH
   ·clear hk;go_wp2_with fail
    refine (ZcY ⟨xm,xav⟩ i w5 S (h2.out.keep hs) h0.out hZ.out HG.out.Sle h5.out).mono ?_;rintro e w6 ⟨v7,rfl,hU,hV⟩;have hT:=hU.low (Nat.le_trans hj.out.old.size hs.size);go_wp2
    exact⟨_,rfl,hT,hV⟩
  ·obtain rfl:il=i:=zaK
   go_wp2_with fail
   exact HQ.out _ _ v xs (ZN rfl rfl zf0) (hj.out.more (by have:=hP.out;omega))
end Go.Proofs.YtimpddecdodddaaGreat
