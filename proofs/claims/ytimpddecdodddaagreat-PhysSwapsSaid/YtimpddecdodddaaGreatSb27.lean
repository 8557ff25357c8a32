import Derived.Test.YtimpddecdodddaaGreatSb26
namespace Go.Proofs.YtimpddecdodddaaGreat
open Go.RowKit Go.Lib
set_option linter.unusedVariables false
set_option maxHeartbeats 4000000
set_option maxRecDepth 100000
theorem qO {P:Prop} (h:P:=by
 go_wp2_with fail
 go_roundw
 case rel=>exact⟨b+1,a2,rows,mt,by omega,by go_num,HN.out,by omega,ho.out⟩
 case measure=>simp[intOf];omega):P:=h
theorem qV {P:Prop} (h:P:=by
 go_roundw
 case rel=>exact⟨t+1,_,_,_,by omega,by go_num,hy.out,by omega,ho.out.set hi.out⟩
 case measure=>simp[intOf];omega):P:=h
theorem j6 {P:Prop} (h:P:=by have h9:=hc.out.own _ (List.mem_of_getElem? hi.out);exact h9):P:=h
theorem kg {P:Prop} (h:P:=by have:=hc.out.mv.turn.size;simp;omega):P:=h
def CR (C:Nat→Prop) (tb:Nat) (rows:List (Value × List Int)) (q:Nat):Prop:=C q∨q=tb∨∃ r∈rows,r.1.ownBlock=some q
structure TgL (C:Nat→Prop) (mb:Nat) (bv sv:Value) (l:List Int) (w:World) (m:MkSt) (tb n:Nat) (rows:List (Value × List Int)) (a few:Nat) (mt:MkSt) (wr:World):Prop where
 ok:MkOk (CR C tb rows) mb bv sv l mt wr
 mv:Mv mb bv w m wr mt a 0 0
 box:HeapIs wr tb (rows.map (·.1)).toArray 22
 low:w.heap.size≤tb
 own:∀ r∈rows,wr.ownsRow w.heap.size 3 1 r.1 r.2.length (r.2.map (Value.int .i64))
 apart:∀ (i j:Nat) (r s:Value × List Int),rows[i]? = some r→rows[j]? = some s→i≠j→∀ q,r.1.ownBlock=some q→s.1.ownBlock≠some q
 len:rows.length=n
 few:∀ r∈rows,r.2.length≤few
 inr:∀ r∈rows,∀ x∈r.2,1≤x∧x<(n:Int)
def XD (rows:List (Value × List Int)) (n:Nat):Prop:=∀ c:Nat,1≤c→c<n→∃ p r,p<c∧rows[p]? = some r∧(c:Int)∈r.2
theorem XD.set {rows:List (Value × List Int)} {n p:Nat} {v v':Value} {xs:List Int} {y : Int} (h:XD rows n) (hp:rows[p]? = some (v,xs)):XD (rows.set p (v',xs++[y])) n:=by
 intro c h1 h2;obtain⟨q,r,h3,h4,h5⟩:=h c h1 h2;have ha:p<rows.length:=(List.getElem?_eq_some_iff.1 hp).1;by_cases e:q=p
 ·subst e;rw[hp]at h4
  cases h4
  exact⟨q,(v',xs++[y]),h3,by rw[List.getElem?_set_self ha],List.mem_append_left _ h5⟩
 ·exact⟨q,r,h3,by rw[List.getElem?_set_ne (fun h=>e h.symm)];exact h4,h5⟩
theorem XD.add {rows:List (Value × List Int)} {b p:Nat} {v v':Value} {xs:List Int} (h:XD rows b) (hp:rows[p]? = some (v,xs)) (hb:p<b):XD (rows.set p (v',xs++[(b:Int)])) (b+1):=by
 intro c h1 h2;have ha:p<rows.length:=(List.getElem?_eq_some_iff.1 hp).1;by_cases e:c=b
 ·subst e;exact⟨p,(v',xs++[(c:Int)]),hb,by rw[List.getElem?_set_self ha],by simp⟩
 ·exact h.set hp c h1 kT
section
variable {C : Nat→Prop} {mb:Nat} {bv sv:Value} {l : List Int} {m mt:MkSt} {w wr wa w6:World} {tb n a few:Nat} {rows:List (Value × List Int)}
theorem TgL.notTb (h:TgL C mb bv sv l w m tb n rows a few mt wr) {r : Value × List Int} (hr:r∈rows):¬ r.1.ownBlock=some tb:=Zm (h.own r hr) h.box kS
theorem TgL.step {mt':MkSt} {a':Nat} (h:TgL C mb bv sv l w m tb n rows a few mt wr) (ho:MkOk (CR C tb rows) mb bv sv l mt' wa) (mv:Mv mb bv wr mt wa mt' a' 0 0):TgL C mb bv sv l w m tb n rows (a+a') few mt' wa:=
 ⟨ho,h.mv.trans mv,h.box.turn mv.turn (h.ok.aside tb (.inr (.inl rfl))).2,h.low,fun r hr=>Zj (h.own r hr) mv.turn fun q hq=>(h.ok.aside q (.inr (.inr ⟨r,hr,hq⟩))).2,h.apart,h.len,h.few,h.inr⟩
theorem TgL.add {p : Nat} {v v':Value} {xs:List Int} {y : Int} (h:TgL C mb bv sv l w m tb n rows a few mt wr) (hp:rows[p]? = some (v,xs)) (hc:w6.ownsRow w.heap.size 3 1 v' (xs++[y]).length ((xs++[y]).map (Value.int .i64))) (s:Since wr wa) (t6:Turn (fun q=>v.ownBlock=some q) wa w6) (hk:Z6 wa v v') (hy:1≤y∧y<(n:Int)) :
  TgL C mb bv sv l w m tb n (rows.set p (v',xs++[y])) a (few+1) mt (w6.setCell ⟨tb,p,none⟩ v'):=by
 have hb:=List.mem_of_getElem? hp;have hn:p<rows.length:=(List.getElem?_eq_some_iff.1 hp).1;have tc:Turn (fun q=>q=tb) w6 (w6.setCell ⟨tb,p,none⟩ v'):=(Turn.refl (fun q=>q=tb) w6).setCell (p:=⟨tb,p,none⟩) rfl _;have tt:Turn (fun q=>v.ownBlock=some q∨q=tb) wr (w6.setCell ⟨tb,p,none⟩ v'):=((Turn.since s).trans (t6.mono fun q _ e=>.inl e)).trans (tc.mono fun q _ e=>.inr e);have hz:=tt.size;have hf:HeapIs w6 tb (rows.map (·.1)).toArray 22:=(h.box.keep s).turn t6 (h.notTb hb);have hg:∀ q,v'.ownBlock=some q→(v.ownBlock=some q∨wr.heap.size≤q)∧q<(w6.setCell ⟨tb,p,none⟩ v').heap.size:=fun q hq=>by
  have h2:=ZN hc hq;have h3:=tc.size;refine⟨?_,kT⟩;rcases hk q hq with h1|h1
  ·exact .inl h1
  ·exact .inr (Nat.le_trans s.size h1)
 refine⟨h.ok.swapC tt ?_ ?_,h.mv.beside tt ?_,?_,h.low,fun r hr=>?_,fun i j r s2 hi hj he=>?_,by simpa using h.len,fun r hr=>?_,fun r hr=>?_⟩
 ·rintro q _ (e|e)
  ·exact .inr (.inr ⟨_,hb,e⟩)
  ·exact .inr (.inl e)
 ·rintro q (e|e|⟨r,hr,e⟩)
  ·exact⟨.inl (.inl e),by have:=(h.ok.aside q (.inl e)).1;omega⟩
  ·exact⟨.inl (.inr (.inl e)),by have:=(h.ok.aside q (.inr (.inl e))).1;omega⟩
  ·rcases Yc hr with rfl|⟨j,_,hj⟩
   ·have h1:=hg q e;exact⟨h1.1.imp (fun e=>.inr (.inr ⟨_,hb,e⟩)) id,h1.2⟩
   ·have hm:CR C tb rows q:=.inr (.inr ⟨r,List.mem_of_getElem? hj,e⟩);exact⟨.inl hm,by have:=(h.ok.aside q hm).1;omega⟩
 ·rintro q hq (e|e)
  ·have:=(World.ownsRow.lt (h.own _ hb) q e).1;omega
  ·have:=h.low;omega
 ·have h1:=hf.set p v';rw[List.setIfInBounds_toArray]at h1;rw[List.map_set];exact h1
 ·rcases Yc hr with rfl|⟨j,hj,ha⟩
  ·exact Zj hc tc fun q hq e=>Zm hc hf kS (e ▸ hq)
  ·refine Zj (h.own r (List.mem_of_getElem? ha)) tt ?_;rintro q hq (e|e)
   ·exact h.apart j p r _ ha hp hj q hq e
   ·exact h.notTb (List.mem_of_getElem? ha) (e ▸ hq)
 ·rcases ZG hi with ⟨rfl,rfl⟩|⟨ho,hh⟩
  ·rcases ZG hj with ⟨rfl,_⟩|⟨hl,hd⟩
   ·exact absurd rfl he
   ·intro q hq e;rcases (hg q hq).1 with h1|h1
    ·exact h.apart i j _ s2 hp hd he q h1 e
    ·have:=ZN (h.own s2 (List.mem_of_getElem? hd)) e;omega
  ·rcases ZG hj with ⟨rfl,rfl⟩|⟨hl,hd⟩
   ·intro q hq e;rcases (hg q e).1 with h1|h1
    ·exact h.apart i j r _ hh hp he q hq h1
    ·have:=ZN (h.own r (List.mem_of_getElem? hh)) hq;omega
   ·exact h.apart i j r s2 hh hd he
 ·rcases Yc hr with rfl|⟨j,_,ha⟩
  ·have:=h.few _ hb;show (xs++[y]).length≤_
   rw[List.length_append];show xs.length+1≤few+1
   have h9:xs.length≤few:=this;omega
  ·have:=h.few r (List.mem_of_getElem? ha);omega
 ·rcases Yc hr with rfl|⟨j,_,ha⟩
  ·intro x hx;rcases List.mem_append.1 hx with hx|hx
   ·exact h.inr _ hb x hx
   ·obtain rfl:=List.mem_singleton.1 hx;exact hy
  ·exact h.inr r (List.mem_of_getElem? ha)
end
theorem Qr (cs:Array Value) (h:0<cs.size):∀ n,(madeCells cs (n*cs.size)).toList=(List.replicate n cs.toList).flatten
 | 0=>by simp[madeCells]
 | n+1=>by
  rw[List.replicate_succ',List.flatten_append,←Qr cs h n]
  have e1:∀ k,(madeCells cs k).toList=(List.range k).map fun i=>cs[i % cs.size]!:=fun k=>by simp[madeCells]
  rw[e1,e1,Nat.succ_mul,List.range_add,List.map_append]
  congr 1
  apply List.ext_getElem?
  intro t
  by_cases ht:t<cs.size
  ·simp[ht,Nat.mul_add_mod_of_lt ht]
  ·rw[List.getElem?_eq_none kN,List.getElem?_eq_none kN]
theorem Wb {w w1:World} {n sz:Nat} {z : Value} {T : TypeId} (hf:z.cells.size=sz) (h0:0<sz) (hd:w1.ownsRow w.heap.size T sz (.slice (some ⟨w.heap.size,0,none⟩) n n) n (madeCells z.cells (n*sz)).toList) (hc:w.grownBy w1 none):Since w w1∧HeapIs w1 w.heap.size ((List.replicate n z.cells.toList).flatten).toArray T:=by
 have hs:Since w w1:=Below.grown (Since.refl w) hc (Nat.le_refl _) (fun _ h=>by cases h);refine⟨hs,?_⟩;obtain⟨_,⟨hv,_⟩|⟨g,cap,cur,hv,_,hg,_,_,hb,ha⟩⟩:=hd
 ·cases hv
 ·injection hv with hv hh he
  injection hv with hv
  injection hv with hv
  subst hv;subst he;unfold HeapIs;rw[hg];subst hf;have h1:cur.toList=(List.replicate n z.cells.toList).flatten:=by
   rw[List.take_of_length_le (by rw[Array.length_toList,hb];exact Nat.le_refl _)]at ha;rw[ha,Qr _ h0]
  rw[←h1]
theorem We (n:Nat) (z:Value):(List.replicate n [z]).flatten=List.replicate n z:=by
 induction n with
 | zero=>rfl
 | succ n ih=>rw[List.replicate_succ,List.flatten_cons,ih];rfl
def Zdb (C:Nat→Prop) (mb:Nat) (bv sv:Value) (l:List Int) (w:World) (m:MkSt) (n:Nat) (e:Ending) (w':World):Prop:=
 ∃ tb rows m' a,e=.returned (.slice (some ⟨tb,0,none⟩) n n)∧TgL C mb bv sv l w m tb n rows a 26 m' w'∧a≤100∧XD rows n
section
variable {C : Nat→Prop} {mb:Nat} {bv sv:Value} {l : List Int} {m mt:MkSt} {w wr:World} {tb n a few:Nat} {rows:List (Value × List Int)}
theorem Zds {w1:World} {n : Nat} (h:MkOk C mb bv sv l m w) (hd:w1.ownsRow w.heap.size 22 1 (.slice (some ⟨w.heap.size,0,none⟩) n n) n (madeCells (Value.slice none 0 0).cells (n*1)).toList) (hc:w.grownBy w1 none):TgL C mb bv sv l w m w.heap.size n (List.replicate n (.slice none 0 0,[])) 0 0 m w1:=by
 obtain⟨hs,hb⟩:=Wb rfl kS hd hc;have e:(List.replicate n (Value.slice none 0 0).cells.toList).flatten=(List.replicate n ((.slice none 0 0,[]):Value × List Int)).map (·.1):=by
  rw[List.map_replicate];exact We n _
 rw[e]at hb;have ha:∀ r∈List.replicate n ((.slice none 0 0,[]):Value × List Int),r=(.slice none 0 0,[]):=fun r hr=>(List.mem_replicate.1 hr).2
 refine⟨h.swapC (Turn.since (S:=fun _=>False) hs) (fun q _ e=>e.elim) ?_,(Mv.refl _ _ _ _).keep hs,hb,Nat.le_refl _,fun r hr=>?_,fun i j r s hi hj he q hq=>?_,by simp,fun r hr=>?_,fun r hr=>?_⟩
 ·rintro q (hq|hq|⟨r,hr,hq⟩)
  ·exact⟨.inl hq,Nat.lt_of_lt_of_le (h.aside q hq).1 hs.size⟩
  ·exact⟨.inr kT,by rw[hq];exact hb.lt⟩
  ·rw[ha r hr]at hq;cases hq
 ·rw[ha r hr];exact XO _ _ _ _
 ·rw[ha r (List.mem_of_getElem? hi)]at hq;cases hq
 ·rw[ha r hr];exact Nat.zero_le _
 ·rw[ha r hr];intro x hx;cases hx
theorem TgL.cell (h:TgL C mb bv sv l w m tb n rows a few mt wr) {p : Nat} {v : Value} {xs:List Int} (hp:rows[p]? = some (v,xs)):wr.cell? ⟨tb,p,none⟩=some v:=by
 rw[h.box.cell,List.getElem?_toArray,List.getElem?_map,hp];rfl
theorem TgL.at (h:TgL C mb bv sv l w m tb n rows a few mt wr) {p : Nat} (hp:p<n):∃ va vc xs,rows[p]? = some (.slice va xs.length vc,xs)∧xs.length≤few:=by
 obtain⟨⟨v,xs⟩,hr⟩:∃ r,rows[p]? = some r:=⟨_,List.getElem?_eq_getElem (by rw[h.len];exact hp)⟩
 have hm:=List.mem_of_getElem? hr;obtain⟨va,vc,hv⟩:=Zf (h.own _ hm);have hv:v=.slice va xs.length vc:=hv;subst hv;exact⟨va,vc,xs,hr,h.few _ hm⟩
theorem TgL.more {few':Nat} (h:TgL C mb bv sv l w m tb n rows a few mt wr) (hf:few≤few'):TgL C mb bv sv l w m tb n rows a few' mt wr:=
 ⟨h.ok,h.mv,h.box,h.low,h.own,h.apart,h.len,fun r hr=>Nat.le_trans (h.few r hr) hf,h.inr⟩
theorem Za3 (h:MkOk C mb bv sv l m w) (hs:m.at_≤1000) (n:Nat) (hn:1≤n∧n≤9) :
  Calls Tryz.prog 106 #[.pointer (some ⟨mb,0,none⟩),.int .i64 n] w (Zdb C mb bv sv l w m n):=by
 have hJ:(Tryz.prog.info? 22).map (fun i=>(i.zero,i.size,i.bytes))=some (some (.slice none 0 0),1,24):=by kernel_rfl
 obtain⟨ti,hR,hO,hN,hM⟩:=info_parts hJ;obtain⟨Hj,Hi⟩:=hn;have H:=hid h;have HS:=hid hs;have TI:=hid (And.intro hR (And.intro hO (And.intro hN hM)));clear h hJ hs hR hO hN hM;go_enter Tryz.func106,Tryz.ntmps106
 go_wp2_with (refine wpList_make_full _ rfl (.tmp 12) (.tmp 12) 148 rfl w.heap.size 22 ti (.slice none 0 0) 1 Tryz.underlying148 TI.out.1 TI.out.2.1 TI.out.2.2.1 .i64 .i64 _ _ n rfl rfl rfl rfl (by rw[TI.out.2.2.2];omega) ky (Nat.le_refl _) ?_;intro w1 hH hE)
 obtain⟨tb,hG⟩:∃ t,t=w.heap.size:=⟨_,rfl⟩
 have hX:=hid (Zds H.out hH hE);rw[←hG]at hX;rw[←hG];clear hH hE hG
 go_loopw [6] (fun i wr=>∃ (b a:Nat) (rows:List (Value × List Int)) (mt:MkSt),(1≤b∧b≤n)∧i=.int .i64 b∧TgL C mb bv sv l w m tb n rows a (b-1) mt wr∧a≤2*b∧XD rows b) (fun i _=>n-(intOf i).toNat)
 case atStart=>exact⟨1,0,_,_,kT,rfl,hX.out,kT,fun c h1 h2=>by omega⟩
 case round =>
  obtain⟨b,a,rows,mt,⟨h8,hW⟩,rfl,hT,ha,hu⟩:=hrel;have HT:=hid hT;have ho:=hid hu;have hz:=zH (mt.at_≤100000) (by have:=hT.mv.at_;have:=HS.out;omega);clear hT hu;by_cases hU:b<n
  ·go_wp2_with fail
   refine (ZB HT.out.ok 3 kS hz.out).mono ?_;rintro e wa ⟨ma,⟨x,rfl,⟨h5,h4⟩,hB⟩,ht,mva⟩;have hf:=hid (HT.out.step ht mva);clear ht mva hB;by_cases hx:x=0
   ·subst hx;go_wp2_with fail
    refine (ZB hf.out.ok (b:Int) kT (by have:=hf.out.mv.at_;have:=HS.out;omega)).mono ?_;rintro e wb ⟨mb2,⟨y,rfl,⟨h3,h0⟩,hI⟩,hA,mvb⟩;have hc:=hid (hf.out.step hA mvb);clear hA mvb hI;obtain⟨p,rfl⟩:∃ p:Nat,y=p:=⟨y.toNat,kT⟩
    obtain⟨vap,vcp,xsp,hr,hK⟩:=hc.out.at (p:=p) kT;obtain⟨xlp,hq⟩:∃ x,xsp.length=x:=⟨_,rfl⟩
    rw[hq]at hr hK;have kcp:=hc.out.cell hr;have klp:=hc.out.box.lt;have hp:=hid hr;have hw:=hid hq;clear hr hq;go_wp2_with (refine Zo (base:=w.heap.size) .i64 rfl _ _ 22 rfl 3 (.int .i64 0) 8 Tryz.underlying22 Tryz.info3 rfl kS (.slice vap xlp vcp) _ xsp [(b:Int)] rfl rfl (Zs (by have h9:=hc.out.own _ (List.mem_of_getElem? hp.out);exact h9) ((Since.refl _).alloc _)) (Yq _ _ _) (by rw[hw.out];simp;omega) kg ?_;intro v6 w6 hb hg hd;obtain⟨a6,c6,hl⟩:=Zf hb;rw[show (xsp++[(b:Int)]).length=xlp+1 from by rw[List.length_append,hw.out];rfl]at hl;subst hl;have he:=(hc.out.box.keep ((Since.refl _).alloc _)).turn hg (hc.out.notTb (List.mem_of_getElem? hp.out));have hh:=he.cell p;rw[List.getElem?_toArray,List.getElem?_map,hp.out]at hh;have hh:w6.cell? ⟨tb,p,none⟩=some (.slice vap xlp vcp):=hh;have hC:=he.lt;have hD:=he.frozen;have hL:=hid (hc.out.add hp.out hb ((Since.refl _).alloc _) hg hd kT);clear he hb hg hd kcp klp)
    go_roundw
    case rel=>exact⟨b+1,_,_,_,kT,by go_num,(show b-1+1=b+1-1 from by omega) ▸ hL.out,kT,ho.out.add hp.out kT⟩
    case measure=>simp[intOf];omega
   ·have hP:(x==0)=false:=by simpa using hx
    clear hx;obtain⟨p,rfl⟩:∃ p,b=p+1:=⟨b-1,kT⟩
    obtain⟨vap,vcp,xsp,hr,hK⟩:=hf.out.at (p:=p) kT;obtain⟨xlp,hq⟩:∃ x,xsp.length=x:=⟨_,rfl⟩
    rw[hq]at hr hK;have kcp:=hf.out.cell hr;have klp:=hf.out.box.lt;have hp:=hid hr;have hw:=hid hq;clear hr hq;go_wp2_with (refine Zo (base:=w.heap.size) .i64 rfl _ _ 22 rfl 3 (.int .i64 0) 8 Tryz.underlying22 Tryz.info3 rfl kS (.slice vap xlp vcp) _ xsp [((p+1:Nat):Int)] rfl rfl (Zs (by have h9:=hf.out.own _ (List.mem_of_getElem? hp.out);exact h9) ((Since.refl _).alloc _)) (Yq _ _ _) (by rw[hw.out];simp;omega) (by have:=hf.out.mv.turn.size;simp;omega) ?_;intro v6 w6 hb hg hd;obtain⟨a6,c6,hl⟩:=Zf hb;rw[show (xsp++[((p+1:Nat):Int)]).length=xlp+1 from by rw[List.length_append,hw.out];rfl]at hl;subst hl;have he:=(hf.out.box.keep ((Since.refl _).alloc _)).turn hg (hf.out.notTb (List.mem_of_getElem? hp.out));have hh:=he.cell p;rw[List.getElem?_toArray,List.getElem?_map,hp.out]at hh;have hh:w6.cell? ⟨tb,p,none⟩=some (.slice vap xlp vcp):=hh;have hC:=he.lt;have hD:=he.frozen;have hL:=hid (hf.out.add hp.out hb ((Since.refl _).alloc _) hg hd kT);clear he hb hg hd kcp klp)
    go_roundw
    case rel=>exact⟨p+1+1,_,_,_,kT,by go_num,(show p+1-1+1=p+1+1-1 from by omega) ▸ hL.out,kT,ho.out.add hp.out kT⟩
    case measure=>simp[intOf];omega
  ·obtain rfl:n=b:=kT
   have hY:=zH (TgL C mb bv sv l w m tb n rows a (8+2*0) mt wr) (HT.out.more kT);clear h8 hW hU;go_wp2_with fail
   go_loopw [8] (fun i wr=>∃ (b a:Nat) (rows:List (Value × List Int)) (mt:MkSt),b≤n∧i=.int .i64 b∧TgL C mb bv sv l w m tb n rows a (8+2*b) mt wr∧a≤18+5*b∧XD rows n) (fun i _=>n-(intOf i).toNat)
   case atStart=>exact⟨0,a,rows,mt,Nat.zero_le _,rfl,hY.out,kT,ho.out⟩
   case round =>
    clear ha HT ho hz hY;obtain⟨b,a,rows,mt,hW,rfl,hT,ha,hu⟩:=hrel;have HT:=hid hT;have ho:=hid hu;have hz:=zH (mt.at_≤99000) (by have:=hT.mv.at_;have:=HS.out;omega);clear hT hu;by_cases hU:b<n
    ·go_wp2_with fail
     refine (ZB HT.out.ok 6 kS (by have:=hz.out;omega)).mono ?_;rintro e wa ⟨ma,⟨k,rfl,⟨Hm,Hl⟩,hB⟩,ht,mva⟩;have hf:=hid (HT.out.step ht mva);clear ht mva hB;obtain⟨wo,h6⟩:∃ x,x=wa:=⟨_,rfl⟩
     subst h6;go_wp2_with fail
     go_loopw [10] (fun i wr=>∃ (t a2:Nat) (rows:List (Value × List Int)) (mt:MkSt),t≤2∧i=.int .i64 t∧TgL C mb bv sv l w m tb n rows a2 (8+2*b+t) mt wr∧a2≤18+5*b+1+2*t∧XD rows n) (fun i _=>3-(intOf i).toNat)
     case atStart=>exact⟨0,a+1,rows,_,kT,rfl,hf.out,kT,ho.out⟩
     case round =>
      clear HT ho hz hf ha;obtain⟨t,a2,rows,mt,Hh,rfl,hT,ha,hu⟩:=hrel;have HT:=hid hT;have ho:=hid hu;have hz:=zH (mt.at_≤99000) (by have:=hT.mv.at_;have:=HS.out;omega);clear hT hu;by_cases hV:(t:Int)<k-3∧1<n
      ·obtain⟨Ho,Hn⟩:=hV;go_wp2_with fail
       refine (ZB HT.out.ok ((n:Int)-1) kT (by have:=hz.out;omega)).mono ?_;rintro e wa ⟨ma,⟨x,rfl,⟨h5,h4⟩,hB⟩,ht,mva⟩;have hf:=hid (HT.out.step ht mva);clear ht mva hB;by_cases hQ:1+x≤(b:Int)
       ·go_wp2_with fail
        refine (ZB hf.out.ok 2 kS (by have:=hf.out.mv.at_;have:=HS.out;omega)).mono ?_;rintro e wb ⟨mb2,⟨y,rfl,⟨h3,h0⟩,hI⟩,hA,mvb⟩;have hc:=hid (hf.out.step hA mvb);clear hA mvb hI;by_cases hF:y=0
        ·subst hF;by_cases Hk:(n:Int)-1<(b:Int)+1
         ·have He:1<(n:Int):=kT
          have h7:min ((b:Int)+1) ((n:Int)-1)=(n:Int)-1:=kT
          obtain⟨vaq,vcq,xsq,hk,hv⟩:=hc.out.at (p:=b) kT;obtain⟨xlq,hj⟩:∃ x,xsq.length=x:=⟨_,rfl⟩
          rw[hj]at hk hv;have kcq:=hc.out.cell hk;have klq:=hc.out.box.lt;have hi:=hid hk;have hm:=hid hj;clear hk hj;go_wp2_with (refine Zo (base:=w.heap.size) .i64 rfl _ _ 22 rfl 3 (.int .i64 0) 8 Tryz.underlying22 Tryz.info3 rfl kS (.slice vaq xlq vcq) _ xsq [((n:Int)-1)] rfl rfl (Zs j6 ((Since.refl _).alloc _)) (Yq _ _ _) (by rw[hm.out];simp;omega) kg ?_;intro v6 w6 hb hg hd;obtain⟨a6,c6,hl⟩:=Zf hb;rw[show (xsq++[((n:Int)-1)]).length=xlq+1 from by rw[List.length_append,hm.out];rfl]at hl;subst hl;have he:=(hc.out.box.keep ((Since.refl _).alloc _)).turn hg (hc.out.notTb (List.mem_of_getElem? hi.out));have hh:=he.cell b;rw[List.getElem?_toArray,List.getElem?_map,hi.out]at hh;have hh:w6.cell? ⟨tb,b,none⟩=some (.slice vaq xlq vcq):=hh;have hC:=he.lt;have hD:=he.frozen;have hy:=hid (hc.out.add hi.out hb ((Since.refl _).alloc _) hg hd kT);clear he hb hg hd kcq klq)
          exact qV
         ·have Hc:(b:Int)+1≤(n:Int)-1:=kT
          have h7:min ((b:Int)+1) ((n:Int)-1)=(b:Int)+1:=kT
          obtain⟨vaq,vcq,xsq,hk,hv⟩:=hc.out.at (p:=b) kT;obtain⟨xlq,hj⟩:∃ x,xsq.length=x:=⟨_,rfl⟩
          rw[hj]at hk hv;have kcq:=hc.out.cell hk;have klq:=hc.out.box.lt;have hi:=hid hk;have hm:=hid hj;clear hk hj;go_wp2_with (refine Zo (base:=w.heap.size) .i64 rfl _ _ 22 rfl 3 (.int .i64 0) 8 Tryz.underlying22 Tryz.info3 rfl kS (.slice vaq xlq vcq) _ xsq [((b:Int)+1)] rfl rfl (Zs j6 ((Since.refl _).alloc _)) (Yq _ _ _) (by rw[hm.out];simp;omega) kg ?_;intro v6 w6 hb hg hd;obtain⟨a6,c6,hl⟩:=Zf hb;rw[show (xsq++[((b:Int)+1)]).length=xlq+1 from by rw[List.length_append,hm.out];rfl]at hl;subst hl;have he:=(hc.out.box.keep ((Since.refl _).alloc _)).turn hg (hc.out.notTb (List.mem_of_getElem? hi.out));have hh:=he.cell b;rw[List.getElem?_toArray,List.getElem?_map,hi.out]at hh;have hh:w6.cell? ⟨tb,b,none⟩=some (.slice vaq xlq vcq):=hh;have hC:=he.lt;have hD:=he.frozen;have hy:=hid (hc.out.add hi.out hb ((Since.refl _).alloc _) hg hd kT);clear he hb hg hd kcq klq)
          exact qV
        ·have Hf:(y==0)=false:=by simpa using hF
         clear hF;obtain⟨vaq,vcq,xsq,hk,hv⟩:=hc.out.at (p:=b) kT;obtain⟨xlq,hj⟩:∃ x,xsq.length=x:=⟨_,rfl⟩
         rw[hj]at hk hv;have kcq:=hc.out.cell hk;have klq:=hc.out.box.lt;have hi:=hid hk;have hm:=hid hj;clear hk hj;go_wp2_with (refine Zo (base:=w.heap.size) .i64 rfl _ _ 22 rfl 3 (.int .i64 0) 8 Tryz.underlying22 Tryz.info3 rfl kS (.slice vaq xlq vcq) _ xsq [(1+x)] rfl rfl (Zs j6 ((Since.refl _).alloc _)) (Yq _ _ _) (by rw[hm.out];simp;omega) kg ?_;intro v6 w6 hb hg hd;obtain⟨a6,c6,hl⟩:=Zf hb;rw[show (xsq++[(1+x)]).length=xlq+1 from by rw[List.length_append,hm.out];rfl]at hl;subst hl;have he:=(hc.out.box.keep ((Since.refl _).alloc _)).turn hg (hc.out.notTb (List.mem_of_getElem? hi.out));have hh:=he.cell b;rw[List.getElem?_toArray,List.getElem?_map,hi.out]at hh;have hh:w6.cell? ⟨tb,b,none⟩=some (.slice vaq xlq vcq):=hh;have hC:=he.lt;have hD:=he.frozen;have hy:=hid (hc.out.add hi.out hb ((Since.refl _).alloc _) hg hd kT);clear he hb hg hd kcq klq)
         exact qV
       ·have hP:¬ (1+x≤(b:Int)):=hQ;have Hg:(b:Int)<1+x:=kT
        clear hQ hP;obtain⟨vaq,vcq,xsq,hk,hv⟩:=hf.out.at (p:=b) kT;obtain⟨xlq,hj⟩:∃ x,xsq.length=x:=⟨_,rfl⟩
        rw[hj]at hk hv;have kcq:=hf.out.cell hk;have klq:=hf.out.box.lt;have hi:=hid hk;have hm:=hid hj;clear hk hj;go_wp2_with (refine Zo (base:=w.heap.size) .i64 rfl _ _ 22 rfl 3 (.int .i64 0) 8 Tryz.underlying22 Tryz.info3 rfl kS (.slice vaq xlq vcq) _ xsq [(1+x)] rfl rfl (Zs (by have h9:=hf.out.own _ (List.mem_of_getElem? hi.out);exact h9) ((Since.refl _).alloc _)) (Yq _ _ _) (by rw[hm.out];simp;omega) (by have:=hf.out.mv.turn.size;simp;omega) ?_;intro v6 w6 hb hg hd;obtain⟨a6,c6,hl⟩:=Zf hb;rw[show (xsq++[(1+x)]).length=xlq+1 from by rw[List.length_append,hm.out];rfl]at hl;subst hl;have he:=(hf.out.box.keep ((Since.refl _).alloc _)).turn hg (hf.out.notTb (List.mem_of_getElem? hi.out));have hh:=he.cell b;rw[List.getElem?_toArray,List.getElem?_map,hi.out]at hh;have hh:w6.cell? ⟨tb,b,none⟩=some (.slice vaq xlq vcq):=hh;have hC:=he.lt;have hD:=he.frozen;have hy:=hid (hf.out.add hi.out hb ((Since.refl _).alloc _) hg hd kT);clear he hb hg hd kcq klq)
        exact qV
      ·have hS:k-3≤(t:Int)∨(n:Int)≤1:=kT
       have HN:=zH (TgL C mb bv sv l w m tb n rows a2 (8+2*(b+1)) mt wr) (HT.out.more kT);clear hV;by_cases hZ:k-3≤(t:Int)
       ·clear hS;exact qO
       ·have Hb:(n:Int)≤1:=kT
        have Ha:(t:Int)<k-3:=kT
        clear hS hZ;exact qO
    ·obtain rfl:n=b:=kT
     go_wp2
     go_ret
     exact⟨tb,rows,mt,a,rfl,HT.out.more kT,kT,ho.out⟩
end
abbrev TosIn (w:World) (v:Value) (bl:List Zr):Prop:=RowIn fbcells 6 (fun w b=>Zi w b.term.tov b.term.to) w v bl
theorem TosIn.keep {w w':World} {v : Value} {bl:List Zr} (h:TosIn w v bl) (s:Since w w'):TosIn w' v bl:=RowIn.keep (p:=fun w (b:Zr)=>Zi w b.term.tov b.term.to) (fun _ _ _ h s=>Zt.keep h s) h s
def ZeP (w:World) (R:List Int→Prop) (e:Ending) (w':World):Prop:=∃ v ps,e=.returned v∧w'.ownsRow w.heap.size 3 1 v ps.length (ps.map (Value.int .i64))∧Since w w'∧R ps
structure XM (w:World) (cs:Array Value) (T:TypeId) (v:Value) (xs:List Int) (wr:World):Prop where
 box:HeapIs wr w.heap.size cs T
 own:wr.ownsRow (w.heap.size+1) 3 1 v xs.length (xs.map (Value.int .i64))
 old:Since w wr
 size:w.heap.size+1≤wr.heap.size
theorem XM.new (w:World) (cs:Array Value) (T:TypeId):XM w cs T (.slice (some ⟨w.heap.size+1,0,none⟩) 0 0) [] ((w.alloc (.cells cs T)).alloc (.cells #[] 3)):=by
 have h2:=HeapIs.new (w.alloc (.cells cs T)) #[] 3;rw[show (w.alloc (.cells cs T)).heap.size=w.heap.size+1 from by simp]at h2;exact⟨(HeapIs.new w cs T).keep ((Since.refl _).alloc _),⟨rfl,.inr ⟨w.heap.size+1,0,#[],rfl,Nat.le_refl _,h2,Nat.le_refl _,Nat.zero_le _,rfl,rfl⟩⟩,((Since.refl _).alloc _).alloc _,by simp⟩
theorem XM.add {w wr w6:World} {cs:Array Value} {T : TypeId} {v v':Value} {xs:List Int} {y : Int} {o : Obj} (h:XM w cs T v xs wr) (ha:w6.ownsRow (w.heap.size+1) 3 1 v' (xs++[y]).length ((xs++[y]).map (Value.int .i64))) (t6:Turn (fun q=>v.ownBlock=some q) (wr.alloc o) w6):XM w cs T v' (xs++[y]) w6:=by
 have hv:∀ q,v.ownBlock=some q→w.heap.size+1≤q:=fun q hq=>(World.ownsRow.lt h.own q hq).1
 have hz:=t6.size;refine⟨(h.box.keep ((Since.refl _).alloc _)).turn t6 fun e=>by have:=hv _ e;omega,ha,t6.toSince (h.old.alloc _) fun q hq e=>by have:=hv _ e;omega,?_⟩;have:=h.size;have h9:(wr.alloc o).heap.size=wr.heap.size+1:=by simp
 omega
theorem XM.done {w wr:World} {cs:Array Value} {T : TypeId} {v : Value} {xs:List Int} (h:XM w cs T v xs wr):wr.ownsRow w.heap.size 3 1 v xs.length (xs.map (Value.int .i64)):=by
 obtain⟨h0,h1|⟨g,cap,cur,h1,h2,h3⟩⟩:=h.own
 ·exact⟨h0,.inl h1⟩
 ·exact⟨h0,.inr ⟨g,cap,cur,h1,kT,h3⟩⟩
theorem Qh (params:Int) (bl:List Zr) (bv:Value) (w:World) (h:TosIn w bv bl) (hn:bl.length≤512) (block:Int) :
  Calls Tryz.prog 107 #[.agg #[.int .i64 params,bv],.int .i64 block] w (ZeP w fun ps=>ps.length≤bl.length∧∀ p∈ps,0≤p∧p<(bl.length:Int)):=by
 obtain⟨ba,bc,hH,hI⟩:=RowIn.shape h;subst hH;obtain⟨n,hk⟩:∃ n,bl.length=n:=⟨_,rfl⟩
 rw[hk]at hn hI h ⊢;have H:=hid h;have hJ:=hid hk;clear h hk;have HW:=hid (XM.new w #[.int .i64 params,.slice ba n bc] 109);go_enter Tryz.func107,Tryz.ntmps107
 go_wp2_with fail
 obtain⟨w1,hs⟩:∃ x,x=(w.alloc (.cells #[.int .i64 params,.slice ba n bc] 109)).alloc (.cells #[] 3):=⟨_,rfl⟩
 rw[←hs]at HW ⊢;clear hs
 go_loopw [5,6] (fun av i wr=>∃ (b:Nat) (v:Value) (xs:List Int),b≤n∧av=v∧i=.int .i64 b∧XM w #[.int .i64 params,.slice ba n bc] 109 v xs wr∧xs.length≤b∧∀ p∈xs,0≤p∧p<(b:Int)) (fun _ i _=>n-(intOf i).toNat)
 case atStart=>exact⟨0,_,[],Nat.zero_le _,rfl,rfl,HW.out,Nat.le_refl _,fun p hp=>(by cases hp)⟩
 case round =>
  obtain⟨b,v,xs,hb,rfl,rfl,he,hl,hz⟩:=hrel;obtain⟨xa,xc,hv⟩:=Zf he.own;obtain⟨xl,hg⟩:∃ x,xs.length=x:=⟨_,rfl⟩
  rw[hg]at hv hl;subst hv;have HT:=hid he;have hc:=hid hg;have ho:=hid hz;have c1:wr.cell? ⟨w.heap.size,1,none⟩=some (.slice ba n bc):=he.box.cell 1;have hM:=he.box.lt;clear he hg hz;by_cases hG:b<n
  ·obtain⟨B,off,x,rfl,hB,hx,hA,hj⟩:=RowIn.at H.out (by rw[hJ.out];exact hG);obtain⟨ta,tc,hh⟩:=Zb hj;have c4:wr.cell? ⟨B,off+b*6+4,none⟩=some (.slice ta x.term.to.length tc):=by
    rw[←hh];exact (HT.out.old.cell (p:=⟨B,off+b*6+4,none⟩) hB).trans (hA 4 kS)
   have hm:Hid (Zi wr (.slice ta x.term.to.length tc) x.term.to):=hid (by rw[←hh];exact hj.keep HT.out.old);have hO:B<wr.heap.size:=Nat.lt_of_lt_of_le hB HT.out.old.size;generalize x.term.to=tos at *;clear hB hx hA hj hh;obtain⟨wo,hF⟩:∃ x,x=wr:=⟨_,rfl⟩
   subst hF;obtain⟨tl,hi⟩:∃ x,tos.length=x:=⟨_,rfl⟩
   rw[hi]at c4 hm;have hC:=hid hi;clear hi;have hL:tl≤9223372036854775807:=by have:=Xp hm.out;omega
   go_wp2_with fail
   go_loopw [5,8] (fun av i w2=>∃ t:Nat,t≤tl∧av=.slice xa xl xc∧i=.int .i64 t∧w2=wo) (fun _ i _=>tl-(intOf i).toNat)
   case atStart=>exact⟨0,Nat.zero_le _,rfl,rfl,rfl⟩
   case round =>
    obtain⟨t,ht,rfl,rfl,rfl⟩:=hrel;by_cases hD:t<tl
    ·obtain⟨hq,ha⟩:=Zx hm.out;obtain⟨B2,off2,rfl,hN,ha⟩:=ha (by intro e;have:=hC.out;rw[e]at this;simp at this;omega);obtain⟨y,hy⟩:∃ y,tos[t]? = some y:=⟨_,List.getElem?_eq_getElem (by rw[hC.out];exact hD)⟩
     have cy:=ha t y hy;clear ha hq hy;by_cases hf:y=block
     ·have hE:(y==block)=true:=by simpa using hf
      clear hf;go_wp2_with (refine Zo (base:=w.heap.size+1) .i64 rfl _ _ 22 rfl 3 (.int .i64 0) 8 Tryz.underlying22 Tryz.info3 rfl kS (.slice xa xl xc) _ xs [(b:Int)] rfl rfl (Zs (by have h9:=HT.out.own;rw[hc.out]at h9 ⊢;exact h9) ((Since.refl _).alloc _)) (Yq _ _ _) (by rw[hc.out];simp;omega) (by have:=HT.out.size;simp;omega) ?_;intro v6 w6 hd hw hr;obtain⟨a6,c6,hu⟩:=Zf hd;rw[show (xs++[(b:Int)]).length=xl+1 from by rw[List.length_append,hc.out];rfl]at hu;subst hu;have hK:=hid (HT.out.add hd hw);clear hd hw hr)
      go_roundw
      case rel=>exact⟨b+1,_,xs++[(b:Int)],kT,rfl,by go_num,hK.out,by rw[List.length_append,hc.out];show xl+1≤b+1;omega,fun p hp=>by
       rcases List.mem_append.1 hp with hp|hp
       ·have:=ho.out p hp;omega
       ·obtain rfl:=List.mem_singleton.1 hp;omega⟩
      case measure=>simp[intOf];omega
     ·have hE:(y==block)=false:=by simpa using hf
      clear hf;go_wp2
      go_roundw
      case rel=>exact⟨t+1,kT,by trivial,by go_num,by trivial⟩
      case measure=>simp[intOf];omega
    ·obtain rfl:tl=t:=kT
     go_wp2
     go_roundw
     case rel=>exact⟨b+1,_,xs,kT,rfl,by go_num,HT.out,by rw[hc.out];omega,fun p hp=>by have:=ho.out p hp;omega⟩
     case measure=>simp[intOf];omega
  ·obtain rfl:n=b:=kT
   go_wp2
   go_ret
   exact⟨_,xs,rfl,by have:=HT.out.done;rw[hc.out]at this ⊢;exact this,HT.out.old,by rw[hc.out];exact hl,ho.out⟩
end Go.Proofs.YtimpddecdodddaaGreat
