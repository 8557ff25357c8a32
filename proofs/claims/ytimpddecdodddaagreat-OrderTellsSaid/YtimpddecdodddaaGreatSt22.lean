import Derived.Test.YtimpddecdodddaaGreatSt08
import Derived.Test.YtimpddecdodddaaGreatSt18
import Derived.Test.YtimpddecdodddaaGreatSt21
namespace Go.Proofs.YtimpddecdodddaaGreat
open Go.Proofs.Tryz Go.RowKit Go.Lib
set_option linter.unusedVariables false
set_option maxHeartbeats 16000000
set_option maxRecDepth 1000000
theorem zf {P:Prop} (h:P:=by
 obtain⟨z,hz⟩:∃ z,(YL l gone n)[c]? = some z:=⟨_,List.getElem?_eq_getElem (by rw[HT.out];omega)⟩
 obtain⟨j,hZ,hy,hH⟩:=ZaK (List.mem_of_getElem? hz);subst hZ;obtain⟨xj,hF⟩:∃ x,l[j]? = some x:=⟨_,List.getElem?_eq_getElem (by rw[HN.out];exact hy)⟩
 obtain⟨MB,moff,hp,hJ,hI⟩:=YI (ZB (k:=.i64) (l:=YL l gone n) (by rw[HT.out];exact hd.out)) hz;have Hb:=(ha.out.at (k:=j) (by rw[HN.out];exact hy)).1;have h8:=(ha.out.at (k:=j) (by rw[HN.out];exact hy)).2;have He:=ha.out.gb.frozen;subst hp;have HZ:=hid hz;have hK:=hid hF;have Hh:=hid hH;clear hz hF hH hc;go_upto_region 20 with fail
 clear Hb h8 He hI hJ;have hg:=zH (Zb (fun q=>q=G) wr (wr.setCell ⟨G,j,none⟩ (.bool true))) ((Zb.refl (fun q=>q=G) wr).setCell (p:=⟨G,j,none⟩) rfl _);have hh:=zH (Since w (wr.setCell ⟨G,j,none⟩ (.bool true))) (hg.out.toSince ha.out.old fun q hq e=>by have:=ha.out.low;omega);have hR:=hid (Zg hd.out hg.out (Kin.apart (Kin.box ha.out.gb) hd.out (by decide)));have hN:=hid (Zg (show wr.ownsRow _ _ _ _ _ _ from ha.out.row) hg.out (Kin.apart (Kin.box ha.out.gb) (show wr.ownsRow _ _ _ _ _ _ from ha.out.row) (by decide)));obtain⟨wg,hu⟩:∃ z,z=wr.setCell ⟨G,j,none⟩ (.bool true):=⟨_,rfl⟩
 have Hg:=hid hu;rw[←hu]at hg hh hR hN ⊢;clear hu;obtain⟨MB2,moff2,hp,hJ,hI⟩:=YI (ZB (k:=.i64) (l:=YL l gone n) (by rw[HT.out];exact hR.out)) HZ.out
 cases hp
 obtain⟨⟨⟨⟨k0,k1,k2,k3,k4,k5,k6,k7⟩,kl⟩,k8⟩,hD⟩:=(show (Qv wg LB (loff+j*9) xj∧wg.cell? ⟨LB,loff+j*9+8,none⟩=some (.int .i64 xj.src))∧XA w xj from by
  obtain⟨⟨g1,g2⟩,g3⟩:=hC.out j xj hK.out;exact⟨⟨g1.keep hh.out,(hh.out.cell (p:=⟨LB,loff+j*9+8,none⟩) g1.2).trans g2⟩,g3⟩)
 obtain⟨⟨xop,xd,xe,xa,xb,xc,ximm,xargs⟩,xav,xsrc⟩:=xj;obtain⟨xq,xm,hr⟩:=Zc hD.1;obtain⟨xn,hE⟩:∃ z,xargs.length=z:=⟨_,rfl⟩
 dsimp only at hr k0 k1 k2 k3 k4 k5 k6 k7 k8;rw[hE]at hr;subst hr;clear hD hE;have K1:=hid (OwnRow.keep (show OwnRow plcells 9 38 w.heap.size wg (.slice va m vc) out from hN.out) ((Since.refl wg).alloc (.cells #[.int .i64 xop,.int .i64 xd,.int .i64 xe,.int .i64 xa,.int .i64 xb,.int .i64 xc,.int .i32 ximm,.slice xq xn xm,.int .i64 xsrc] 38)))
 have K2:=zH (out.length+1≤100000) (by rw[ho.out];omega);have K3:=zH (w.heap.size≤(wg.alloc (.cells #[.int .i64 xop,.int .i64 xd,.int .i64 xe,.int .i64 xa,.int .i64 xb,.int .i64 xc,.int .i32 ximm,.slice xq xn xm,.int .i64 xsrc] 38)).heap.size) (by have:=hh.out.size;simp;omega);go_wp2_with (refine ZC (base:=w.heap.size) plcells 9 Zq (by decide) rfl _ _ 30 rfl 38 (.agg #[.int .i64 0,.int .i64 0,.int .i64 0,.int .i64 0,.int .i64 0,.int .i64 0,.int .i32 0,.slice none 0 0,.int .i64 0]) 88 underlying30 (by kernel_rfl) rfl (.slice va m vc) out ⟨⟨xop,xd,xe,xa,xb,xc,ximm,xargs⟩,.slice xq xn xm,xsrc⟩ wg.heap.size 1 38 rfl rfl K1.out (HeapIs.new _ _ _) (by simp[plcells,Value.oneCell']) (by have:=K2.out;unfold maxLen;omega) (by have:=K2.out;omega) K3.out ?_;intro v6 w6 hb hj hf;have hQ:=hid (ha.out.next hK.out Hh.out (by rw[←Hg.out];exact (Since.refl wg).alloc _) hb hj);obtain⟨v6a,v6c,hw⟩:=OwnRow.shape hb;rw[List.length_append,ho.out]at hw;subst hw;clear hb hj hf)
 go_roundw
 case rel=>exact⟨m+1,_,_,_,by trivial,by omega,by rw[List.length_append,ho.out];rfl,hQ.out⟩
 case measure=>simp[Zb7];omega):P:=h
theorem zS {P:Prop} (h:P:=by
 have hP:=zH (YL l gone (i+1)=YL l gone i) (by rw[Jl,KD hO.out Hp];simp);go_wp2_with fail
 go_roundw
 case rel=>exact⟨i+1,t,_,by trivial,by go_num,by omega,by rw[hP.out];exact HT.out,ha.out,by rw[hP.out];exact hd.out⟩
 case measure=>simp[intOf];omega):P:=h
theorem jy {P:Prop} (h:P:=by
 have hc:=(hY.out w8 hs).1;have hl:=(hY.out w8 hs).2;go_wp2
 exact⟨_,rfl,rfl,.refl _⟩):P:=h
theorem zat {P:Prop} (h:P:=by rw[HN.out];omega):P:=h
theorem zs3 {P Q:Prop} (q:Q) (f:Q→P:=by
 intro zq hk;simp only[putAll,Act.put,Zp,Zi,Zj,Is,Any,List.setIfInBounds_toArray,List.set_cons_zero,List.set_cons_succ,Nat.reduceAdd,List.length_cons,List.length_nil]at hk ⊢;try simp only[hk]
 first | (revert hk;exact zq) | exact (show True→_ from zq) trivial):P:=f q
theorem zs5 {P Q:Prop} (q:Q) (f:Q→P:=by
 intro zq hk;simp only[List.take,List.drop,putAll,Act.put,Zp,Zi,Zj,Is,Any,List.setIfInBounds_toArray,List.set_cons_zero,List.set_cons_succ,Nat.reduceAdd,List.length_cons,List.length_nil]at hk ⊢;try simp only[hk]
 first | (revert hk;exact zq) | exact (show True→_ from zq) trivial):P:=f q
def CR (C:Nat→Prop) (tb:Nat) (rows:List (Value × List Int)) (q:Nat):Prop:=C q∨q=tb∨∃ r∈rows,r.1.ownBlock=some q
structure TgL (C:Nat→Prop) (mb:Nat) (bv sv:Value) (l:List Int) (w:World) (m:Zm) (tb n:Nat) (rows:List (Value × List Int)) (a few:Nat) (mt:Zm) (wr:World):Prop where
 ok:MkOk (CR C tb rows) mb bv sv l mt wr
 mv:Mv mb bv w m wr mt a 0 0
 box:HeapIs wr tb (rows.map (·.1)).toArray 22
 low:w.heap.size≤tb
 own:∀ r∈rows,wr.ownsRow w.heap.size 3 1 r.1 r.2.length (r.2.map (Value.int .i64))
 apart:∀ (i j:Nat) (r s:Value × List Int),rows[i]? = some r→rows[j]? = some s→i≠j→∀ q,r.1.ownBlock=some q→s.1.ownBlock≠some q
 len:rows.length=n
 few:∀ r∈rows,r.2.length≤few
 inr:∀ r∈rows,∀ x∈r.2,1≤x∧x<(n:Int)
def XK (rows:List (Value × List Int)) (n:Nat):Prop:=∀ c:Nat,1≤c→c<n→∃ p r,p<c∧rows[p]? = some r∧(c:Int)∈r.2
theorem XK.set {rows:List (Value × List Int)} {n p:Nat} {v v':Value} {xs:List Int} {y : Int} (h:XK rows n) (hp:rows[p]? = some (v,xs)):XK (rows.set p (v',xs++[y])) n:=by
 intro c h1 h2;obtain⟨q,r,h3,h4,h5⟩:=h c h1 h2;have ha:p<rows.length:=(List.getElem?_eq_some_iff.1 hp).1;by_cases e:q=p
 ·subst e;rw[hp]at h4
  cases h4
  exact⟨q,(v',xs++[y]),h3,by rw[List.getElem?_set_self ha],List.mem_append_left _ h5⟩
 ·exact⟨q,r,h3,by rw[List.getElem?_set_ne (fun h=>e h.symm)];exact h4,h5⟩
theorem XK.add {rows:List (Value × List Int)} {b p:Nat} {v v':Value} {xs:List Int} (h:XK rows b) (hp:rows[p]? = some (v,xs)) (hb:p<b):XK (rows.set p (v',xs++[(b:Int)])) (b+1):=by
 intro c h1 h2;have ha:p<rows.length:=(List.getElem?_eq_some_iff.1 hp).1;by_cases e:c=b
 ·subst e;exact⟨p,(v',xs++[(c:Int)]),hb,by rw[List.getElem?_set_self ha],by simp⟩
 ·exact h.set hp c h1 zaK
section
variable {C : Nat→Prop} {mb:Nat} {bv sv:Value} {l : List Int} {m mt:Zm} {w wr wa w6:World} {tb n a few:Nat} {rows:List (Value × List Int)}
theorem TgL.notTb (h:TgL C mb bv sv l w m tb n rows a few mt wr) {r : Value × List Int} (hr:r∈rows):¬ r.1.ownBlock=some tb:=Zn (h.own r hr) h.box zaJ
theorem TgL.step {mt':Zm} {a':Nat} (h:TgL C mb bv sv l w m tb n rows a few mt wr) (ho:MkOk (CR C tb rows) mb bv sv l mt' wa) (mv:Mv mb bv wr mt wa mt' a' 0 0):TgL C mb bv sv l w m tb n rows (a+a') few mt' wa:=
 ⟨ho,h.mv.trans mv,h.box.turn mv.turn (h.ok.aside tb (.inr (.inl rfl))).2,h.low,fun r hr=>Zg (h.own r hr) mv.turn fun q hq=>(h.ok.aside q (.inr (.inr ⟨r,hr,hq⟩))).2,h.apart,h.len,h.few,h.inr⟩
theorem TgL.add {p : Nat} {v v':Value} {xs:List Int} {y : Int} (h:TgL C mb bv sv l w m tb n rows a few mt wr) (hp:rows[p]? = some (v,xs)) (hc:w6.ownsRow w.heap.size 3 1 v' (xs++[y]).length ((xs++[y]).map (Value.int .i64))) (s:Since wr wa) (t6:Zb (fun q=>v.ownBlock=some q) wa w6) (hk:Yb wa v v') (hy:1≤y∧y<(n:Int)) :
  TgL C mb bv sv l w m tb n (rows.set p (v',xs++[y])) a (few+1) mt (w6.setCell ⟨tb,p,none⟩ v'):=by
 have hb:=List.mem_of_getElem? hp;have hn:p<rows.length:=(List.getElem?_eq_some_iff.1 hp).1;have tc:Zb (fun q=>q=tb) w6 (w6.setCell ⟨tb,p,none⟩ v'):=(Zb.refl (fun q=>q=tb) w6).setCell (p:=⟨tb,p,none⟩) rfl _;have tt:Zb (fun q=>v.ownBlock=some q∨q=tb) wr (w6.setCell ⟨tb,p,none⟩ v'):=((Zb.since s).trans (t6.mono fun q _ e=>.inl e)).trans (tc.mono fun q _ e=>.inr e);have hz:=tt.size;have hf:HeapIs w6 tb (rows.map (·.1)).toArray 22:=(h.box.keep s).turn t6 (h.notTb hb);have hg:∀ q,v'.ownBlock=some q→(v.ownBlock=some q∨wr.heap.size≤q)∧q<(w6.setCell ⟨tb,p,none⟩ v').heap.size:=fun q hq=>by
  have h2:=ZR hc hq;have h3:=tc.size;refine⟨?_,zaK⟩;rcases hk q hq with h1|h1
  ·exact .inl h1
  ·exact .inr (Nat.le_trans s.size h1)
 refine⟨h.ok.swapC tt ?_ ?_,h.mv.beside tt ?_,?_,h.low,fun r hr=>?_,fun i j r s2 hi hj he=>?_,by simpa using h.len,fun r hr=>?_,fun r hr=>?_⟩
 ·rintro q _ (e|e)
  ·exact .inr (.inr ⟨_,hb,e⟩)
  ·exact .inr (.inl e)
 ·rintro q (e|e|⟨r,hr,e⟩)
  ·exact⟨.inl (.inl e),by have:=(h.ok.aside q (.inl e)).1;omega⟩
  ·exact⟨.inl (.inr (.inl e)),by have:=(h.ok.aside q (.inr (.inl e))).1;omega⟩
  ·rcases Yk hr with rfl|⟨j,_,hj⟩
   ·have h1:=hg q e;exact⟨h1.1.imp (fun e=>.inr (.inr ⟨_,hb,e⟩)) id,h1.2⟩
   ·have hm:CR C tb rows q:=.inr (.inr ⟨r,List.mem_of_getElem? hj,e⟩);exact⟨.inl hm,by have:=(h.ok.aside q hm).1;omega⟩
 ·rintro q hq (e|e)
  ·have:=(World.ownsRow.lt (h.own _ hb) q e).1;omega
  ·have:=h.low;omega
 ·have h1:=hf.set p v';rw[List.setIfInBounds_toArray]at h1;rw[List.map_set];exact h1
 ·rcases Yk hr with rfl|⟨j,hj,ha⟩
  ·exact Zg hc tc fun q hq e=>Zn hc hf zaJ (e ▸ hq)
  ·refine Zg (h.own r (List.mem_of_getElem? ha)) tt ?_;rintro q hq (e|e)
   ·exact h.apart j p r _ ha hp hj q hq e
   ·exact h.notTb (List.mem_of_getElem? ha) (e ▸ hq)
 ·rcases ZJ hi with ⟨rfl,rfl⟩|⟨ho,hh⟩
  ·rcases ZJ hj with ⟨rfl,_⟩|⟨hl,hd⟩
   ·exact absurd rfl he
   ·intro q hq e;rcases (hg q hq).1 with h1|h1
    ·exact h.apart i j _ s2 hp hd he q h1 e
    ·have:=ZR (h.own s2 (List.mem_of_getElem? hd)) e;omega
  ·rcases ZJ hj with ⟨rfl,rfl⟩|⟨hl,hd⟩
   ·intro q hq e;rcases (hg q e).1 with h1|h1
    ·exact h.apart i j r _ hh hp he q hq h1
    ·have:=ZR (h.own r (List.mem_of_getElem? hh)) hq;omega
   ·exact h.apart i j r s2 hh hd he
 ·rcases Yk hr with rfl|⟨j,_,ha⟩
  ·have:=h.few _ hb;show (xs++[y]).length≤_
   rw[List.length_append];show xs.length+1≤few+1
   have h9:xs.length≤few:=this;omega
  ·have:=h.few r (List.mem_of_getElem? ha);omega
 ·rcases Yk hr with rfl|⟨j,_,ha⟩
  ·intro x hx;rcases List.mem_append.1 hx with hx|hx
   ·exact h.inr _ hb x hx
   ·obtain rfl:=List.mem_singleton.1 hx;exact hy
  ·exact h.inr r (List.mem_of_getElem? ha)
end
theorem QU (cs:Array Value) (h:0<cs.size):∀ n,(madeCells cs (n*cs.size)).toList=(List.replicate n cs.toList).flatten
 | 0=>by simp[madeCells]
 | n+1=>by
  rw[List.replicate_succ',List.flatten_append,←QU cs h n]
  have e1:∀ k,(madeCells cs k).toList=(List.range k).map fun i=>cs[i % cs.size]!:=fun k=>by simp[madeCells]
  rw[e1,e1,Nat.succ_mul,List.range_add,List.map_append]
  congr 1
  apply List.ext_getElem?
  intro t
  by_cases ht:t<cs.size
  ·simp[ht,Nat.mul_add_mod_of_lt ht]
  ·rw[List.getElem?_eq_none zaE,List.getElem?_eq_none zaE]
theorem XY {w w1:World} {n sz:Nat} {z : Value} {T : TypeId} (hf:z.cells.size=sz) (h0:0<sz) (hd:w1.ownsRow w.heap.size T sz (.slice (some ⟨w.heap.size,0,none⟩) n n) n (madeCells z.cells (n*sz)).toList) (hc:w.grownBy w1 none):Since w w1∧HeapIs w1 w.heap.size ((List.replicate n z.cells.toList).flatten).toArray T:=by
 have hs:Since w w1:=Below.grown (Since.refl w) hc (Nat.le_refl _) (fun _ h=>by cases h);refine⟨hs,?_⟩;obtain⟨_,⟨hv,_⟩|⟨g,cap,cur,hv,_,hg,_,_,hb,ha⟩⟩:=hd
 ·cases hv
 ·injection hv with hv hh he
  injection hv with hv
  injection hv with hv
  subst hv;subst he;unfold HeapIs;rw[hg];subst hf;have h1:cur.toList=(List.replicate n z.cells.toList).flatten:=by
   rw[List.take_of_length_le (by rw[Array.length_toList,hb];exact Nat.le_refl _)]at ha;rw[ha,QU _ h0]
  rw[←h1]
theorem XR (n:Nat) (z:Value):(List.replicate n [z]).flatten=List.replicate n z:=by
 induction n with
 | zero=>rfl
 | succ n ih=>rw[List.replicate_succ,List.flatten_cons,ih];rfl
open Go.RowKit Go.ChangeShapes Go.WideShapes
theorem Zdt (x n:Int) (hn:0<n) : -n<x.tmod n∧x.tmod n<n:=by
 exact jr
def Zb7:Value→Nat
 | .slice _ n _=>n
 | _=>0
structure We (w0:World) (l:List PlV) (G:Nat) (gone:List Bool) (ov:Value) (out:List PlV) (w:World):Prop where
 gb:HeapIs w G (gone.map Value.bool).toArray 4
 low:w0.heap.size≤G
 row:OwnRow plcells 9 38 w0.heap.size w ov out
 st:PutS l out gone
 old:Since w0 w
section
variable {w0 w w' w1 w2:World} {l out:List PlV} {v':Value} {G : Nat} {gone:List Bool} {ov:Value}
theorem We.keep (h:We w0 l G gone ov out w) (s:Since w w'):We w0 l G gone ov out w':=⟨h.gb.keep s,h.low,h.row.keep s,h.st,h.old.trans s⟩
theorem We.turn {T : Nat→Prop} {U : TypeId} (h:We w0 l G gone ov out w) (t:Zb T w w') (k:Kin w U T) (h1:4≠U) (h2:38≠U) (hl:∀ q,q<w0.heap.size→¬ T q):We w0 l G gone ov out w':=
 ⟨h.gb.turn t (k.heap h.gb h1),h.low,Zg (show w.ownsRow _ _ _ _ _ _ from h.row) t (k.apart (show w.ownsRow _ _ _ _ _ _ from h.row) h2),h.st,t.toSince h.old fun q hq e=>hl q hq e⟩
theorem We.next (h:We w0 l G gone ov out w) {j : Nat} {x : PlV} (hx:l[j]? = some x) (hr:YH l gone j j=true) (ha:Since (w.setCell ⟨G,j,none⟩ (.bool true)) w1) (hd:OwnRow plcells 9 38 w0.heap.size w2 v' (out++[x])) (t:Zb (fun q=>ov.ownBlock=some q) w1 w2):We w0 l G (gone.set j true) v' (out++[x]) w2:=by
 have tg:Zb (fun q=>q=G) w (w.setCell ⟨G,j,none⟩ (.bool true)):=(Zb.refl (fun q=>q=G) w).setCell (p:=⟨G,j,none⟩) rfl _;have hc:HeapIs (w.setCell ⟨G,j,none⟩ (.bool true)) G ((gone.set j true).map Value.bool).toArray 4:=by
  have h1:=h.gb.set j (.bool true);rw[List.map_set];simpa using h1
 have hb:=Zv (Zg (show w.ownsRow _ _ _ _ _ _ from h.row) tg ((Kin.box h.gb).apart (show w.ownsRow _ _ _ _ _ _ from h.row) zaJ)) ha;have k:=Kin.row hb;exact⟨(hc.keep ha).turn t (k.heap (hc.keep ha) zaJ),h.low,hd,h.st.next hx hr,t.toSince ((tg.toSince h.old fun q hq e=>by have:=h.low;omega).trans ha) fun q hq e=>by have:=(World.ownsRow.lt hb q e).1;omega⟩
theorem KD {l : List PlV} {gone:List Bool} {i k j:Nat} (h:YH l gone i k=false) (hk:k≤j):YH l gone i j=false:=by
 obtain⟨d,rfl⟩:∃ d,j=k+d:=⟨j-k,zaK⟩
 clear hk;induction d with
 | zero=>exact h
 | succ d ih=>rw[←Nat.add_assoc,W9,ih];rfl
theorem We.at (h:We w0 l G gone ov out w) {k : Nat} (hk:k<l.length):w.cell? ⟨G,k,none⟩=some (.bool (gone.getD k true))∧G<w.heap.size:=by
 refine⟨?_,h.gb.lt⟩;rw[h.gb.cell k];obtain⟨g,h1⟩:∃ g,gone[k]? = some g:=⟨_,List.getElem?_eq_getElem (by rw[h.st.len];exact hk)⟩
 rw[YK h1];simp[h1]
end
def Qv (w:World) (B o:Nat) (x:PlV):Prop:=(w.cell? ⟨B,o,none⟩=some (.int .i64 x.m.op)∧w.cell? ⟨B,o+1,none⟩=some (.int .i64 x.m.d)∧w.cell? ⟨B,o+2,none⟩=some (.int .i64 x.m.e)∧w.cell? ⟨B,o+3,none⟩=some (.int .i64 x.m.a)∧w.cell? ⟨B,o+4,none⟩=some (.int .i64 x.m.b)∧w.cell? ⟨B,o+5,none⟩=some (.int .i64 x.m.c)∧w.cell? ⟨B,o+6,none⟩=some (.int .i32 x.m.imm)∧w.cell? ⟨B,o+7,none⟩=some x.av)∧B<w.heap.size
theorem QM {w : World} {v : Value} {l : List PlV} (h:Pls w v l) (hn:0<l.length):∃ B off c,v=.slice (some ⟨B,off,none⟩) l.length c∧∀ (j:Nat) (x:PlV),l[j]? = some x→(Qv w B (off+j*9) x∧w.cell? ⟨B,off+j*9+8,none⟩=some (.int .i64 x.src))∧XA w x:=by
 rcases h with ⟨a,_,h2⟩|⟨B,off,cap,h1,h2,h3,h4,h5⟩
 ·rw[h2]at hn;exact absurd hn zaL
 ·refine⟨B,off,cap,h1,fun j x hx=>?_⟩;obtain⟨h6,h7⟩:=h5 j x hx;exact⟨⟨⟨⟨h6 0 zaJ,h6 1 zaJ,h6 2 zaJ,h6 3 zaJ,h6 4 zaJ,h6 5 zaJ,h6 6 zaJ,h6 7 zaJ⟩,h4⟩,h6 8 zaJ⟩,h7⟩
theorem Qv.keep {w w':World} {B o:Nat} {x : PlV} (h:Qv w B o x) (s:Since w w'):Qv w' B o x:=by
 obtain⟨⟨c0,c1,c2,c3,c4,c5,c6,c7⟩,hl⟩:=h;have k:=fun i=>s.cell (p:=⟨B,i,none⟩) hl
 exact⟨⟨(k _).trans c0,(k _).trans c1,(k _).trans c2,(k _).trans c3,(k _).trans c4,(k _).trans c5,(k _).trans c6,(k _).trans c7⟩,Nat.lt_of_lt_of_le hl s.size⟩
def ZfC (l:List PlV) (w:World) (e:Ending) (w':World):Prop:=∃ v m,e=.returned v∧OwnRow plcells 9 38 w.heap.size w' v m∧TE Y5 (l.map key) (m.map key)∧(∀ x∈m,x∈l)∧Since w w'
theorem Zem (l:List PlV) (s:List Int) (lv sv:Value) (w:World) (hl:Pls w lv l) (hs:Zd w sv s) (hn:l.length≤50000):Calls prog 52 #[lv,sv] w (ZfC l w):=by
 obtain⟨la,lc,hB,_⟩:=RowIn.shape hl;obtain⟨sa,sc,rfl⟩:=Zc hs;have hS:s.length≤9223372036854775807:=by have h1:=(WC hs).2.1;have h2:=(WC hs).2.2;omega
 obtain⟨n,h6⟩:∃ z,l.length=z:=⟨_,rfl⟩
 obtain⟨sl,h0⟩:∃ z,s.length=z:=⟨_,rfl⟩
 rw[h6]at hB hn;rw[h0]at hs hS ⊢;subst hB;have HL:=hid hl;have HQ:=hid hs;have HN:=hid h6;have HR:=hid h0;have HX:=hS;have h7:(prog.info? 4).map (fun i=>(i.zero,i.size,i.bytes))=some (some (.bool false),1,1):=by kernel_rfl
 obtain⟨ti,Hn,Hl,Hk,Hj⟩:=info_parts h7;have TI:=hid (And.intro Hn (And.intro Hl (And.intro Hk Hj)));clear hl hs h6 h0 hS h7 Hn Hl Hk Hj;go_enter func52,ntmps52
 go_upto_region 2 with (refine wpList_make_full _ rfl (.tmp 14) (.tmp 14) 144 rfl w.heap.size 4 ti (.bool false) 1 underlying144 TI.out.1 TI.out.2.1 TI.out.2.2.1 .i64 .i64 _ _ n rfl rfl rfl rfl zak zaq (Nat.le_refl _) ?_;intro w2 h4 hX;obtain⟨Ho,Hf⟩:=XY rfl zaJ h4 hX;have HS:=hid Ho;have Hw:=hid Hf;clear h4 hX Ho Hf)
 obtain⟨G,hG⟩:∃ z,z=w.heap.size:=⟨_,rfl⟩
 have Ht:=hid (show We w l G (List.replicate n false) (.slice none 0 0) [] w2 from by
  have e:(List.replicate n (Value.bool false).cells.toList).flatten=(List.replicate n false).map Value.bool:=by
   rw[List.map_replicate];exact XR n _
  have h9:=Hw.out;rw[e]at h9;exact⟨by rw[hG];exact h9,zaK,OwnRow.nil _ _ _ _ _,by rw[←HN.out];exact PutS.start l,HS.out⟩)
 rw[←hG];clear hG Hw;go_wp2_with fail
 go_loopw [6] (fun ov wr=>∃ (m:Nat) (v:Value) (out:List PlV) (gone:List Bool),ov=v∧m≤n∧out.length=m∧We w l G gone v out wr) (fun ov _=>n-Zb7 ov)
 case atStart=>exact⟨0,_,[],_,rfl,Nat.zero_le _,rfl,Ht.out⟩
 case round =>
  obtain⟨m,v,out,gone,rfl,hm,h5,he⟩:=hrel;obtain⟨va,vc,hv⟩:=OwnRow.shape he.row;rw[h5]at hv;subst hv;have HO:=hid he;have ho:=hid h5;clear he h5 Ht;by_cases HF:m<n
  ·obtain⟨LB,loff,lc2,hB,Hr⟩:=QM HL.out zat;rw[HN.out]at hB;obtain⟨rfl,rfl⟩:la=some ⟨LB,loff,none⟩∧lc=lc2:=by cases hB;exact⟨rfl,rfl⟩
   have hC:=hid Hr;clear hB Hr;obtain⟨wo,Hm⟩:∃ z,z=wr:=⟨_,rfl⟩
   have H1:=hid Hm;clear Hm;go_wp2_with fail
   go_loopw [7,8] (fun mv iv wr=>∃ (i t:Nat) (v:Value),mv=v∧iv=.int .i64 i∧i≤n∧(YL l gone i).length=t∧We w l G gone (.slice va m vc) out wr∧wr.ownsRow w.heap.size 3 1 v t ((YL l gone i).map (Value.int .i64))) (fun _ iv _=>n-(intOf iv).toNat)
   case atStart=>exact⟨0,0,_,rfl,rfl,Nat.zero_le _,rfl,HO.out,⟨rfl,.inl ⟨rfl,rfl⟩⟩⟩
   case round =>
    obtain⟨i,t,v,rfl,rfl,hi,ht,he,hA⟩:=hrel;obtain⟨ya,yc,hv⟩:=Ze hA;subst hv;have HY:t≤i:=by rw[←ht];exact ZdQ _ _ _
    have ha:=hid he;have hd:=hid hA;have HT:=hid ht;clear he hA ht;by_cases hW:i<n
    ·obtain⟨xi,hV⟩:∃ x,l[i]? = some x:=⟨_,List.getElem?_eq_getElem (by rw[HN.out];exact hW)⟩
     have HP:=hid (fun (w8:World) (s8:Since w w8)=>(hC.out i xi hV).1.1.keep s8)
     have Hv:=hid (hC.out i xi hV).2;obtain⟨gi,Hc⟩:∃ z,gone.getD i true=z:=⟨_,rfl⟩
     have Hq:=(ha.out.at (k:=i) (by rw[HN.out];exact hW)).1;have HI:=(ha.out.at (k:=i) (by rw[HN.out];exact hW)).2;rw[Hc]at Hq;have HV:=hid Hc;have Hy:=hid hV;clear Hc hV;go_wp2_with fail
     go_loopw [9,10] (fun rv kv wr=>∃ (k:Nat),k≤i∧kv=.int .i64 k∧rv=.bool (YH l gone i k)∧We w l G gone (.slice va m vc) out wr∧wr.ownsRow w.heap.size 3 1 (.slice ya t yc) t ((YL l gone i).map (Value.int .i64))) (fun _ kv _=>i-(intOf kv).toNat)
     case atStart=>exact⟨0,Nat.zero_le _,rfl,by rw[Zaw,HV.out],ha.out,hd.out⟩
     case round =>
      clear Hq HI ha hd;obtain⟨k,Hp,rfl,rfl,he,hA⟩:=hrel;have ha:=hid he;have hd:=hid hA;clear he hA;obtain⟨rd,h3⟩:∃ z,YH l gone i k=z:=⟨_,rfl⟩
      rw[h3];have hO:=hid h3;clear h3;by_cases H0:k<i
      ·cases rd
       ·exact zS
       ·obtain⟨xk,hU⟩:∃ x,l[k]? = some x:=⟨_,List.getElem?_eq_getElem zat⟩
        have HM:=hid (fun (w8:World) (s8:Since w w8)=>(hC.out k xk hU).1.1.keep s8)
        have Hu:=hid (hC.out k xk hU).2;obtain⟨gk,Ha⟩:∃ z,gone.getD k true=z:=⟨_,rfl⟩
        have Hi:=zH (badAt l gone i k=(!gk&&Zw xk.m xi.m)) (by unfold badAt;rw[Ha,YK hU,YK Hy.out]);have Hz:=hid (fun (w8:World) (s8:Since w w8)=>show Calls prog 82 #[mv xk.m xk.av,mv xi.m xi.av] w8 (ZD (Zw xk.m xi.m) w8) from by rw[KY];exact Jh xk.m xi.m xk.av xi.av w8 (Hu.out.1.keep s8) (Hv.out.1.keep s8) Hu.out.2.1 Hv.out.2.1)
        have hY:=hid (fun (w8:World) (s8:Since wr w8)=>show w8.cell? ⟨G,k,none⟩=some (.bool gk)∧G<w8.heap.size from by rw[←Ha];exact (ha.out.keep s8).at zat)
        have hM:=ha.out.old;have hM:=hid hM;clear hU Ha
        cases gk
        ·go_wp2_with fail
         refine Zu rfl zaC zaC
          (Is (.slice (some ⟨G,0,none⟩) n n)::Is (.int .i64 k)::Is (.pointer (some ⟨G,k,none⟩))::Is (.bool false)::Is (.bool true)::Is (.bool true)::Is (.slice (some ⟨LB,loff,none⟩) n lc)::Is (.int .i64 k)::Is (.pointer (some ⟨LB,loff+k*9,none⟩))::Is (.pointer (some ⟨LB,loff+k*9,none⟩))::Is (mv xk.m xk.av)::Is (.slice (some ⟨LB,loff,none⟩) n lc)::Is (.int .i64 i)::Is (.pointer (some ⟨LB,loff+i*9,none⟩))::Is (.pointer (some ⟨LB,loff+i*9,none⟩))::Is (mv xi.m xi.av)::Is (.bool (Zw xk.m xi.m))::Is (.bool (Zw xk.m xi.m))::Is (.bool (Zw xk.m xi.m))::[])
          kT ⟨?_,?_,?_,?_,?_,?_,?_,?_,?_,?_,?_,?_,?_,?_,?_,?_,?_,?_,?_,trivial⟩ ?_
         all_goals
          intro vs w8 hs hk;revert hk;refine zs3 ?_;intro hk
         iterate 3
          ·exact kH
         ·exact jy
         iterate 6
          ·exact kH
         ·obtain⟨⟨c0,c1,c2,c3,c4,c5,c6,c7⟩,hl⟩:=HM.out w8 (hM.out.trans hs);exact kH
         iterate 4
          ·exact kH
         ·obtain⟨⟨c0,c1,c2,c3,c4,c5,c6,c7⟩,hl⟩:=HP.out w8 (hM.out.trans hs);exact kH
         ·have HC:=hid (Hz.out w8 (hM.out.trans hs));clear hk hs;go_wp2_with fail
          refine HC.out.mono ?_;rintro e w9 ⟨rfl,HD⟩;go_wp2
          exact⟨_,rfl,rfl,HD⟩
         iterate 2
          ·exact kH
         ·have hL:=hid hs;clear hk hs;obtain⟨bad,hT⟩:∃ z,Zw xk.m xi.m=z:=⟨_,rfl⟩
          have HW:=hid hT;rw[hT];clear hT;go_wp2_with fail
          go_roundw
          case rel=>exact⟨k+1,zaK,by go_num,by rw[W9,hO.out,Hi.out,HW.out];rfl,ha.out.keep hL.out,Zv hd.out hL.out⟩
          case measure=>simp[intOf];omega
        ·go_wp2_with fail
         refine Zu rfl zaC zaC
          (Is (.slice (some ⟨G,0,none⟩) n n)::Is (.int .i64 k)::Is (.pointer (some ⟨G,k,none⟩))::Is (.bool true)::Is (.bool false)::Is (.bool false)::Any::Any::Any::Any::Any::Any::Any::Any::Any::Any::Any::Is (.bool false)::Is (.bool false)::[])
          kT ⟨?_,?_,?_,?_,?_,?_,?_,?_,?_,?_,?_,?_,?_,?_,?_,?_,?_,?_,?_,trivial⟩ ?_
         all_goals
          intro vs w8 hs hk;revert hk;refine zs3 ?_;intro hk
         iterate 3
          ·exact kH
         ·exact jy
         iterate 2
          ·exact kH
         ·go_wp2
          exact⟨_,(Zz _ 46).symm,trivial,.refl _⟩
         ·go_wp2
          exact⟨_,(Zz _ 47).symm,trivial,.refl _⟩
         ·go_wp2
          exact⟨_,(Zz _ 48).symm,trivial,.refl _⟩
         ·go_wp2
          exact⟨_,(Zz _ 49).symm,trivial,.refl _⟩
         ·go_wp2
          exact⟨_,(Zz _ 50).symm,trivial,.refl _⟩
         ·go_wp2
          exact⟨_,(Zz _ 51).symm,trivial,.refl _⟩
         ·go_wp2
          exact⟨_,(Zz _ 52).symm,trivial,.refl _⟩
         ·go_wp2
          exact⟨_,(Zz _ 53).symm,trivial,.refl _⟩
         ·go_wp2
          exact⟨_,(Zz _ 54).symm,trivial,.refl _⟩
         ·go_wp2
          exact⟨_,(Zz _ 55).symm,trivial,.refl _⟩
         ·go_wp2
          exact⟨_,(Zz _ 56).symm,trivial,.refl _⟩
         iterate 2
          ·exact kH
         ·have hL:=hid hs;clear hk hs;go_wp2_with fail
          go_roundw
          case rel=>exact⟨k+1,zaK,by go_num,by rw[W9,hO.out,Hi.out];rfl,ha.out.keep hL.out,Zv hd.out hL.out⟩
          case measure=>simp[intOf];omega
      ·cases rd
       ·exact zS
       ·obtain rfl:i=k:=zaK
        have Hs:=zH (YL l gone (i+1)=YL l gone i++[(i:Int)]) (by rw[Jl,hO.out];rfl);have K1:=zH ((wr.alloc (.cells #[.int .i64 i] 3)).ownsRow w.heap.size 3 1 (.slice ya t yc) (YL l gone i).length ((YL l gone i).map (Value.int .i64))) (by rw[HT.out];exact Zv hd.out ((Since.refl _).alloc _))
        have K2:=zH ((YL l gone i).length + [(i:Int)].length≤1000000) (by rw[HT.out];simp;omega);have K3:=zH (w.heap.size≤(wr.alloc (.cells #[.int .i64 i] 3)).heap.size) (by have:=ha.out.old.size;simp;omega);go_wp2_with (refine Zl (base:=w.heap.size) .i64 rfl _ _ 22 rfl 3 (.int .i64 0) 8 underlying22 Tryz.info3 rfl zaJ (.slice ya t yc) _ (YL l gone i) [(i:Int)] rfl rfl K1.out (Ym _ _ _) K2.out K3.out ?_;intro v6 w6 hb hj hf;rw[List.length_append,HT.out]at hb;have hQ:=hid ((ha.out.keep ((Since.refl _).alloc _)).turn hj (Kin.row K1.out) zaJ zaJ (fun q hq e=>by have:=(World.ownsRow.lt K1.out q e).1;omega));have HU:=hid hb;obtain⟨v6a,v6c,hw⟩:=Ze hb;subst hw;clear hb hj hf)
        go_roundw
        case rel=>exact⟨i+1,t+1,_,by trivial,by go_num,zaK,by rw[Hs.out,List.length_append,HT.out];rfl,hQ.out,by rw[Hs.out];exact HU.out⟩
        case measure=>simp[intOf];omega
    ·obtain rfl:n=i:=zaK
     have HA:0<t:=by
      have h1:=ha.out.st.may (by rw[ho.out,HN.out];exact HF);rw[HN.out,HT.out]at h1;exact h1
     clear hW hi;by_cases HE:m<sl
     ·obtain⟨x,hx⟩:∃ x,s[m]? = some x:=⟨_,List.getElem?_eq_getElem (by rw[HR.out];exact HE)⟩
      obtain⟨SB,soff,HB,HK,HH⟩:=YI (HQ.out.keep ha.out.old) hx;subst HB;have HJ:=Zdt x t zaK;have Hx:((t:Int)==0)=false:=by rw[beq_eq_false_iff_ne];omega
      obtain⟨c,hc,HG⟩:∃ c:Nat,(x.tmod t+t) % t=c∧c<t:=⟨((x.tmod t+t) % t).toNat,by have:=Int.emod_nonneg (x.tmod t+t) (show (t:Int)≠0 by omega);omega,by have:=Int.emod_nonneg (x.tmod t+t) (show (t:Int)≠0 by omega);have:=Int.emod_lt_of_pos (x.tmod t+t) (show (0:Int)<t by omega);omega⟩
      clear hx;go_upto_region 19 with fail
      rw[hc];clear HH HK HJ Hx;exact zf
     ·obtain⟨c,hc,HG⟩:∃ c:Nat,(0:Int)=c∧c<t:=⟨0,rfl,HA⟩
      go_upto_region 19 with fail
      rw[hc];exact zf
  ·obtain rfl:n=m:=zaK
   go_wp2_with fail
   go_ret
   exact⟨_,out,rfl,HO.out.row,HO.out.st.done (by rw[ho.out,HN.out]),HO.out.st.sub,HO.out.old⟩
end Go.Proofs.YtimpddecdodddaaGreat
