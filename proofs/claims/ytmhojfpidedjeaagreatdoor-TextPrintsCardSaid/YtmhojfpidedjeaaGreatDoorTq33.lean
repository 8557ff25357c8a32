/- MkRows MkMake MkTargets MkPreds -/
import Derived.Test.YtmhojfpidedjeaaGreatDoorTq32
import Derived.OwnWalk
namespace Go.Proofs.YtmhojfpidedjeaaGreatDoor
open Go.RowKit
set_option linter.unusedVariables false
def CR (C:Nat→Prop) (tb:Nat) (rows:List (Value × List Int)) (q:Nat):Prop:=C q∨q=tb∨∃ r∈rows,r.1.ownBlock=some q
structure TgL (C:Nat→Prop) (mb:Nat) (bv sv:Value) (l:List Int) (w:World) (m:MkSt) (tb n:Nat) (rows:List (Value × List Int)) (a few:Nat) (mt:MkSt) (wr:World):Prop where
 ok:MkOk (CR C tb rows) mb bv sv l mt wr
 mv:Mv mb bv w m wr mt a 0 0
 box:HeapIs wr tb (rows.map (·.1)).toArray 32
 low:w.heap.size≤tb
 own:∀ r∈rows,wr.ownsRow w.heap.size 3 1 r.1 r.2.length (r.2.map (Value.int .i64))
 apart:∀ (i j:Nat) (r s:Value × List Int),rows[i]? = some r→rows[j]? = some s→i≠j→∀ q,r.1.ownBlock=some q→s.1.ownBlock≠some q
 len:rows.length=n
 few:∀ r∈rows,r.2.length≤few
 inr:∀ r∈rows,∀ x∈r.2,1≤x∧x<(n:Int)
def Chain (rows:List (Value × List Int)) (n:Nat):Prop:=∀ c:Nat,1≤c→c<n→∃ p r,p<c∧rows[p]? = some r∧(c:Int)∈r.2
theorem Chain.set {rows:List (Value × List Int)} {n p:Nat} {v v':Value} {xs:List Int} {y : Int} (h:Chain rows n) (hp:rows[p]? = some (v,xs)):Chain (rows.set p (v',xs++[y])) n:=by
 intro c h1 h2
 obtain⟨q,r,h3,h4,h5⟩:=h c h1 h2
 have hlt:p<rows.length:=(List.getElem?_eq_some_iff.1 hp).1
 by_cases e:q=p
 ·subst e
  rw[hp]at h4
  cases h4
  exact⟨q,(v',xs++[y]),h3,by rw[List.getElem?_set_self hlt],List.mem_append_left _ h5⟩
 ·exact⟨q,r,h3,by rw[List.getElem?_set_ne (fun h=>e h.symm)];exact h4,h5⟩
theorem Chain.add {rows:List (Value × List Int)} {b p:Nat} {v v':Value} {xs:List Int} (h:Chain rows b) (hp:rows[p]? = some (v,xs)) (hb:p<b):Chain (rows.set p (v',xs++[(b:Int)])) (b+1):=by
 intro c h1 h2
 have hlt:p<rows.length:=(List.getElem?_eq_some_iff.1 hp).1
 by_cases e:c=b
 ·subst e
  exact⟨p,(v',xs++[(c:Int)]),hb,by rw[List.getElem?_set_self hlt],by simp⟩
 ·exact h.set hp c h1 (by omega)
section
variable {C : Nat→Prop} {mb:Nat} {bv sv:Value} {l : List Int} {m mt:MkSt} {w wr wa w6:World} {tb n a few:Nat} {rows:List (Value × List Int)}
theorem TgL.notTb (h:TgL C mb bv sv l w m tb n rows a few mt wr) {r : Value × List Int} (hr:r∈rows):¬ r.1.ownBlock=some tb:=own_not (h.own r hr) h.box (by decide)
theorem TgL.step {mt':MkSt} {a':Nat} (h:TgL C mb bv sv l w m tb n rows a few mt wr) (ho:MkOk (CR C tb rows) mb bv sv l mt' wa) (mv:Mv mb bv wr mt wa mt' a' 0 0):TgL C mb bv sv l w m tb n rows (a+a') few mt' wa:=
 ⟨ho,h.mv.trans mv,h.box.turn mv.turn (h.ok.aside tb (.inr (.inl rfl))).2,h.low,fun r hr=>own_turn (h.own r hr) mv.turn fun q hq=>(h.ok.aside q (.inr (.inr ⟨r,hr,hq⟩))).2,h.apart,h.len,h.few,h.inr⟩
theorem TgL.add {p : Nat} {v v':Value} {xs:List Int} {y : Int} (h:TgL C mb bv sv l w m tb n rows a few mt wr) (hp:rows[p]? = some (v,xs)) (hown:w6.ownsRow w.heap.size 3 1 v' (xs++[y]).length ((xs++[y]).map (Value.int .i64))) (s:Since wr wa) (t6:Turn (fun q=>v.ownBlock=some q) wa w6) (hnew:NewOr wa v v') (hy:1≤y∧y<(n:Int)) :
  TgL C mb bv sv l w m tb n (rows.set p (v',xs++[y])) a (few+1) mt (w6.setCell ⟨tb,p,none⟩ v'):=by
 have hpm:=List.mem_of_getElem? hp
 have hlt:p<rows.length:=(List.getElem?_eq_some_iff.1 hp).1
 have tc:Turn (fun q=>q=tb) w6 (w6.setCell ⟨tb,p,none⟩ v'):=(Turn.refl (fun q=>q=tb) w6).setCell (p:=⟨tb,p,none⟩) rfl _
 have tt:Turn (fun q=>v.ownBlock=some q∨q=tb) wr (w6.setCell ⟨tb,p,none⟩ v'):=((Turn.since s).trans (t6.mono fun q _ e=>.inl e)).trans (tc.mono fun q _ e=>.inr e)
 have hz:=tt.size
 have hbox6:HeapIs w6 tb (rows.map (·.1)).toArray 32:=(h.box.keep s).turn t6 (h.notTb hpm)
 have hv':∀ q,v'.ownBlock=some q→(v.ownBlock=some q∨wr.heap.size≤q)∧q<(w6.setCell ⟨tb,p,none⟩ v').heap.size:=fun q hq=>by
  have h2:=own_some_lt hown hq
  have h3:=tc.size
  refine⟨?_,by omega⟩
  rcases hnew q hq with h1|h1
  ·exact .inl h1
  ·exact .inr (Nat.le_trans s.size h1)
 refine⟨h.ok.swapC tt ?_ ?_,h.mv.beside tt ?_,?_,h.low,fun r hr=>?_,fun i j r s2 hi hj hij=>?_,by simpa using h.len,fun r hr=>?_,fun r hr=>?_⟩
 ·rintro q _ (e|e)
  ·exact .inr (.inr ⟨_,hpm,e⟩)
  ·exact .inr (.inl e)
 ·rintro q (e|e|⟨r,hr,e⟩)
  ·exact⟨.inl (.inl e),by have:=(h.ok.aside q (.inl e)).1;omega⟩
  ·exact⟨.inl (.inr (.inl e)),by have:=(h.ok.aside q (.inr (.inl e))).1;omega⟩
  ·rcases mem_set_idx hr with rfl|⟨j,_,hj⟩
   ·have h1:=hv' q e
    exact⟨h1.1.imp (fun e=>.inr (.inr ⟨_,hpm,e⟩)) id,h1.2⟩
   ·have hm:CR C tb rows q:=.inr (.inr ⟨r,List.mem_of_getElem? hj,e⟩)
    exact⟨.inl hm,by have:=(h.ok.aside q hm).1;omega⟩
 ·rintro q hq (e|e)
  ·have:=(World.ownsRow.lt (h.own _ hpm) q e).1;omega
  ·have:=h.low;omega
 ·have h1:=hbox6.set p v'
  rw[List.setIfInBounds_toArray]at h1
  rw[List.map_set]
  exact h1
 ·rcases mem_set_idx hr with rfl|⟨j,hj,hjr⟩
  ·exact own_turn hown tc fun q hq e=>own_not hown hbox6 (by decide) (e ▸ hq)
  ·refine own_turn (h.own r (List.mem_of_getElem? hjr)) tt ?_
   rintro q hq (e|e)
   ·exact h.apart j p r _ hjr hp hj q hq e
   ·exact h.notTb (List.mem_of_getElem? hjr) (e ▸ hq)
 ·rcases getElem?_set_cases hi with ⟨rfl,rfl⟩|⟨hi1,hi2⟩
  ·rcases getElem?_set_cases hj with ⟨rfl,_⟩|⟨hj1,hj2⟩
   ·exact absurd rfl hij
   ·intro q hq e
    rcases (hv' q hq).1 with h1|h1
    ·exact h.apart i j _ s2 hp hj2 hij q h1 e
    ·have:=own_some_lt (h.own s2 (List.mem_of_getElem? hj2)) e;omega
  ·rcases getElem?_set_cases hj with ⟨rfl,rfl⟩|⟨hj1,hj2⟩
   ·intro q hq e
    rcases (hv' q e).1 with h1|h1
    ·exact h.apart i j r _ hi2 hp hij q hq h1
    ·have:=own_some_lt (h.own r (List.mem_of_getElem? hi2)) hq;omega
   ·exact h.apart i j r s2 hi2 hj2 hij
 ·rcases mem_set_idx hr with rfl|⟨j,_,hjr⟩
  ·have:=h.few _ hpm
   show (xs++[y]).length≤_
   rw[List.length_append]
   show xs.length+1≤few+1
   have h9:xs.length≤few:=this
   omega
  ·have:=h.few r (List.mem_of_getElem? hjr);omega
 ·rcases mem_set_idx hr with rfl|⟨j,_,hjr⟩
  ·intro x hx
   rcases List.mem_append.1 hx with hx|hx
   ·exact h.inr _ hpm x hx
   ·obtain rfl:=List.mem_singleton.1 hx
    exact hy
  ·exact h.inr r (List.mem_of_getElem? hjr)
end
theorem made_flat (cs:Array Value) (h:0<cs.size):∀ n,(madeCells cs (n*cs.size)).toList=(List.replicate n cs.toList).flatten
 | 0=>by simp[madeCells]
 | n+1=>by
  rw[List.replicate_succ',List.flatten_append,←made_flat cs h n]
  have e1:∀ k,(madeCells cs k).toList=(List.range k).map fun i=>cs[i % cs.size]!:=fun k=>by simp[madeCells]
  rw[e1,e1,Nat.succ_mul,List.range_add,List.map_append]
  congr 1
  apply List.ext_getElem?
  intro t
  by_cases ht:t<cs.size
  ·simp[ht,Nat.mul_add_mod_of_lt ht]
  ·rw[List.getElem?_eq_none (by simp;omega),List.getElem?_eq_none (by simp;omega)]
theorem made_block {w w1:World} {n sz:Nat} {z : Value} {T : TypeId} (hsz:z.cells.size=sz) (h0:0<sz) (hown:w1.ownsRow w.heap.size T sz (.slice (some ⟨w.heap.size,0,none⟩) n n) n (madeCells z.cells (n*sz)).toList) (hgrow:w.grownBy w1 none):Since w w1∧HeapIs w1 w.heap.size ((List.replicate n z.cells.toList).flatten).toArray T:=by
 have hs:Since w w1:=Below.grown (Since.refl w) hgrow (Nat.le_refl _) (fun _ h=>by cases h)
 refine⟨hs,?_⟩
 obtain⟨_,⟨hv,_⟩|⟨g,cap,cur,hv,_,hg,_,_,hsize,htake⟩⟩:=hown
 ·cases hv
 ·injection hv with hv hv2 hv3
  injection hv with hv
  injection hv with hv
  subst hv;subst hv3
  unfold HeapIs
  rw[hg]
  subst hsz
  have h1:cur.toList=(List.replicate n z.cells.toList).flatten:=by
   rw[List.take_of_length_le (by rw[Array.length_toList,hsize];exact Nat.le_refl _)]at htake
   rw[htake,made_flat _ h0]
  rw[←h1]
theorem flat_one_rep (n:Nat) (z:Value):(List.replicate n [z]).flatten=List.replicate n z:=by
 induction n with
 | zero=>rfl
 | succ n ih=>rw[List.replicate_succ,List.flatten_cons,ih];rfl
def TargetsQ (C:Nat→Prop) (mb:Nat) (bv sv:Value) (l:List Int) (w:World) (m:MkSt) (n:Nat) (e:Ending) (w':World):Prop:=
 ∃ tb rows m' a,e=.returned (.slice (some ⟨tb,0,none⟩) n n)∧TgL C mb bv sv l w m tb n rows a 26 m' w'∧a≤100∧Chain rows n
section
variable {C : Nat→Prop} {mb:Nat} {bv sv:Value} {l : List Int} {m mt:MkSt} {w wr:World} {tb n a few:Nat} {rows:List (Value × List Int)}
theorem tg_made {w1:World} {n : Nat} (h:MkOk C mb bv sv l m w) (hown:w1.ownsRow w.heap.size 32 1 (.slice (some ⟨w.heap.size,0,none⟩) n n) n (madeCells (Value.slice none 0 0).cells (n*1)).toList) (hgrow:w.grownBy w1 none):TgL C mb bv sv l w m w.heap.size n (List.replicate n (.slice none 0 0,[])) 0 0 m w1:=by
 obtain⟨hs,hbox⟩:=made_block rfl (by decide) hown hgrow
 have e:(List.replicate n (Value.slice none 0 0).cells.toList).flatten=(List.replicate n ((.slice none 0 0,[]):Value × List Int)).map (·.1):=by
  rw[List.map_replicate];exact flat_one_rep n _
 rw[e]at hbox
 have hnil:∀ r∈List.replicate n ((.slice none 0 0,[]):Value × List Int),r=(.slice none 0 0,[]):=fun r hr=>(List.mem_replicate.1 hr).2
 refine⟨h.swapC (Turn.since (S:=fun _=>False) hs) (fun q _ e=>e.elim) ?_,(Mv.refl _ _ _ _).keep hs,hbox,Nat.le_refl _,fun r hr=>?_,fun i j r s hi hj hij q hq=>?_,by simp,fun r hr=>?_,fun r hr=>?_⟩
 ·rintro q (hq|hq|⟨r,hr,hq⟩)
  ·exact⟨.inl hq,Nat.lt_of_lt_of_le (h.aside q hq).1 hs.size⟩
  ·exact⟨.inr (by omega),by rw[hq];exact hbox.lt⟩
  ·rw[hnil r hr]at hq;cases hq
 ·rw[hnil r hr];exact own_nil _ _ _ _
 ·rw[hnil r (List.mem_of_getElem? hi)]at hq;cases hq
 ·rw[hnil r hr];exact Nat.zero_le _
 ·rw[hnil r hr];intro x hx;cases hx
theorem TgL.cell (h:TgL C mb bv sv l w m tb n rows a few mt wr) {p : Nat} {v : Value} {xs:List Int} (hp:rows[p]? = some (v,xs)):wr.cell? ⟨tb,p,none⟩=some v:=by
 rw[h.box.cell,List.getElem?_toArray,List.getElem?_map,hp];rfl
theorem TgL.at (h:TgL C mb bv sv l w m tb n rows a few mt wr) {p : Nat} (hp:p<n):∃ va vc xs,rows[p]? = some (.slice va xs.length vc,xs)∧xs.length≤few:=by
 obtain⟨⟨v,xs⟩,hr⟩:∃ r,rows[p]? = some r:=⟨_,List.getElem?_eq_getElem (by rw[h.len];exact hp)⟩
 have hm:=List.mem_of_getElem? hr
 obtain⟨va,vc,hv⟩:=own_shape (h.own _ hm)
 have hv:v=.slice va xs.length vc:=hv
 subst hv
 exact⟨va,vc,xs,hr,h.few _ hm⟩
theorem TgL.more {few':Nat} (h:TgL C mb bv sv l w m tb n rows a few mt wr) (hf:few≤few'):TgL C mb bv sv l w m tb n rows a few' mt wr:=
 ⟨h.ok,h.mv,h.box,h.low,h.own,h.apart,h.len,fun r hr=>Nat.le_trans (h.few r hr) hf,h.inr⟩
set_option maxHeartbeats 4000000 in
set_option maxRecDepth 100000 in
theorem mk_targets (h:MkOk C mb bv sv l m w) (hs:m.at_≤1000) (n:Nat) (hn:1≤n∧n≤9) :
  Calls Tryz.prog 57 #[.pointer (some ⟨mb,0,none⟩),.int .i64 n] w (TargetsQ C mb bv sv l w m n):=by
 have hinf:(Tryz.prog.info? 32).map (fun i=>(i.zero,i.size,i.bytes))=some (some (.slice none 0 0),1,24):=by kernel_rfl
 obtain⟨ti,hti,hz0,hz1,hz2⟩:=info_parts hinf
 obtain⟨hn1,hn2⟩:=hn
 have H:=Lib.hid h
 have HS:=Lib.hid hs
 have TI:=Lib.hid (And.intro hti (And.intro hz0 (And.intro hz1 hz2)))
 clear h hinf hs hti hz0 hz1 hz2
 go_enter Tryz.func57,Tryz.ntmps57
 go_wp2_with (refine wpList_make_full _ rfl (.tmp 12) (.tmp 12) 125 rfl w.heap.size 32 ti (.slice none 0 0) 1 Tryz.underlying125 TI.out.1 TI.out.2.1 TI.out.2.2.1 .i64 .i64 _ _ n rfl rfl rfl rfl (by rw[TI.out.2.2.2];omega) (by unfold maxLen;omega) (Nat.le_refl _) ?_;intro w1 hown hgrow)
 obtain⟨tb,htb⟩:∃ t,t=w.heap.size:=⟨_,rfl⟩
 have HTG:=Lib.hid (tg_made H.out hown hgrow)
 rw[←htb]at HTG
 rw[←htb]
 clear hown hgrow htb
 go_loopw [6] (fun i wr=>∃ (b a:Nat) (rows:List (Value × List Int)) (mt:MkSt),(1≤b∧b≤n)∧i=.int .i64 b∧TgL C mb bv sv l w m tb n rows a (b-1) mt wr∧a≤2*b∧Chain rows b) (fun i _=>n-(intOf i).toNat)
 case atStart=>exact⟨1,0,_,_,by omega,rfl,HTG.out,by omega,fun c h1 h2=>by omega⟩
 case round =>
  obtain⟨b,a,rows,mt,⟨hb1,hbn⟩,rfl,hT,ha,hch⟩:=hrel
  have HT:=Lib.hid hT
  have HCH:=Lib.hid hch
  have HAT:=Lib.hid (show mt.at_≤100000 from by have:=hT.mv.at_;have:=HS.out;omega)
  clear hT hch
  by_cases hlt:b<n
  ·go_wp2_with fail
   refine (mk_take HT.out.ok 3 (by decide) HAT.out).mono ?_
   rintro e wa ⟨ma,⟨x,rfl,⟨hx0,hx1⟩,hma⟩,hoa,mva⟩
   have HTA:=Lib.hid (HT.out.step hoa mva)
   clear hoa mva hma
   by_cases hx:x=0
   ·subst hx
    go_wp2_with fail
    refine (mk_take HTA.out.ok (b:Int) (by omega) (by have:=HTA.out.mv.at_;have:=HS.out;omega)).mono ?_
    rintro e wb ⟨mb2,⟨y,rfl,⟨hy0,hy1⟩,hmb⟩,hob,mvb⟩
    have HTB:=Lib.hid (HTA.out.step hob mvb)
    clear hob mvb hmb
    obtain⟨p,rfl⟩:∃ p:Nat,y=p:=⟨y.toNat,by omega⟩
    obtain⟨vap,vcp,xsp,hpp,hfp⟩:=HTB.out.at (p:=p) (by omega)
    obtain⟨xlp,hxlp⟩:∃ x,xsp.length=x:=⟨_,rfl⟩
    rw[hxlp]at hpp hfp
    have kcp:=HTB.out.cell hpp
    have klp:=HTB.out.box.lt
    have HPp:=Lib.hid hpp
    have HXLp:=Lib.hid hxlp
    clear hpp hxlp
    go_wp2_with (refine wpList_append_nums2 (base:=w.heap.size) .i64 rfl _ _ 32 rfl 3 (.int .i64 0) 8 Tryz.underlying32 Tryz.info3 rfl (by decide) (.slice vap xlp vcp) _ xsp [(b:Int)] rfl rfl (own_keep (by have h9:=HTB.out.own _ (List.mem_of_getElem? HPp.out);exact h9) ((Since.refl _).alloc _)) (one_nums _ _ _) (by rw[HXLp.out];simp;omega) (by have:=HTB.out.mv.turn.size;simp;omega) ?_;intro v6 w6 hown6 ht6 hnew6;obtain⟨a6,c6,hv6⟩:=own_shape hown6;rw[show (xsp++[(b:Int)]).length=xlp+1 from by rw[List.length_append,HXLp.out];rfl]at hv6;subst hv6;have hb6:=(HTB.out.box.keep ((Since.refl _).alloc _)).turn ht6 (HTB.out.notTb (List.mem_of_getElem? HPp.out));have hc6:=hb6.cell p;rw[List.getElem?_toArray,List.getElem?_map,HPp.out]at hc6;have hc6:w6.cell? ⟨tb,p,none⟩=some (.slice vap xlp vcp):=hc6;have hl6:=hb6.lt;have hf6:=hb6.frozen;have HNp:=Lib.hid (HTB.out.add HPp.out hown6 ((Since.refl _).alloc _) ht6 hnew6 (by omega));clear hb6 hown6 ht6 hnew6 kcp klp)
    go_roundw
    case rel=>exact⟨b+1,_,_,_,by omega,by go_num,(show b-1+1=b+1-1 from by omega) ▸ HNp.out,by omega,HCH.out.add HPp.out (by omega)⟩
    case measure=>simp[intOf];omega
   ·have hxq:(x==0)=false:=by simpa using hx
    clear hx
    obtain⟨p,rfl⟩:∃ p,b=p+1:=⟨b-1,by omega⟩
    obtain⟨vap,vcp,xsp,hpp,hfp⟩:=HTA.out.at (p:=p) (by omega)
    obtain⟨xlp,hxlp⟩:∃ x,xsp.length=x:=⟨_,rfl⟩
    rw[hxlp]at hpp hfp
    have kcp:=HTA.out.cell hpp
    have klp:=HTA.out.box.lt
    have HPp:=Lib.hid hpp
    have HXLp:=Lib.hid hxlp
    clear hpp hxlp
    go_wp2_with (refine wpList_append_nums2 (base:=w.heap.size) .i64 rfl _ _ 32 rfl 3 (.int .i64 0) 8 Tryz.underlying32 Tryz.info3 rfl (by decide) (.slice vap xlp vcp) _ xsp [((p+1:Nat):Int)] rfl rfl (own_keep (by have h9:=HTA.out.own _ (List.mem_of_getElem? HPp.out);exact h9) ((Since.refl _).alloc _)) (one_nums _ _ _) (by rw[HXLp.out];simp;omega) (by have:=HTA.out.mv.turn.size;simp;omega) ?_;intro v6 w6 hown6 ht6 hnew6;obtain⟨a6,c6,hv6⟩:=own_shape hown6;rw[show (xsp++[((p+1:Nat):Int)]).length=xlp+1 from by rw[List.length_append,HXLp.out];rfl]at hv6;subst hv6;have hb6:=(HTA.out.box.keep ((Since.refl _).alloc _)).turn ht6 (HTA.out.notTb (List.mem_of_getElem? HPp.out));have hc6:=hb6.cell p;rw[List.getElem?_toArray,List.getElem?_map,HPp.out]at hc6;have hc6:w6.cell? ⟨tb,p,none⟩=some (.slice vap xlp vcp):=hc6;have hl6:=hb6.lt;have hf6:=hb6.frozen;have HNp:=Lib.hid (HTA.out.add HPp.out hown6 ((Since.refl _).alloc _) ht6 hnew6 (by omega));clear hb6 hown6 ht6 hnew6 kcp klp)
    go_roundw
    case rel=>exact⟨p+1+1,_,_,_,by omega,by go_num,(show p+1-1+1=p+1+1-1 from by omega) ▸ HNp.out,by omega,HCH.out.add HPp.out (by omega)⟩
    case measure=>simp[intOf];omega
  ·obtain rfl:n=b:=by omega
   have HT2:=Lib.hid (show TgL C mb bv sv l w m tb n rows a (8+2*0) mt wr from HT.out.more (by omega))
   clear hb1 hbn hlt
   go_wp2_with fail
   go_loopw [8] (fun i wr=>∃ (b a:Nat) (rows:List (Value × List Int)) (mt:MkSt),b≤n∧i=.int .i64 b∧TgL C mb bv sv l w m tb n rows a (8+2*b) mt wr∧a≤18+5*b∧Chain rows n) (fun i _=>n-(intOf i).toNat)
   case atStart=>exact⟨0,a,rows,mt,Nat.zero_le _,rfl,HT2.out,by omega,HCH.out⟩
   case round =>
    clear ha HT HCH HAT HT2
    obtain⟨b,a,rows,mt,hbn,rfl,hT,ha,hch⟩:=hrel
    have HT:=Lib.hid hT
    have HCH:=Lib.hid hch
    have HAT:=Lib.hid (show mt.at_≤99000 from by have:=hT.mv.at_;have:=HS.out;omega)
    clear hT hch
    by_cases hlt:b<n
    ·go_wp2_with fail
     refine (mk_take HT.out.ok 6 (by decide) (by have:=HAT.out;omega)).mono ?_
     rintro e wa ⟨ma,⟨k,rfl,⟨hk0,hk1⟩,hma⟩,hoa,mva⟩
     have HTA:=Lib.hid (HT.out.step hoa mva)
     clear hoa mva hma
     obtain⟨wo,hwo⟩:∃ x,x=wa:=⟨_,rfl⟩
     subst hwo
     go_wp2_with fail
     go_loopw [10] (fun i wr=>∃ (t a2:Nat) (rows:List (Value × List Int)) (mt:MkSt),t≤2∧i=.int .i64 t∧TgL C mb bv sv l w m tb n rows a2 (8+2*b+t) mt wr∧a2≤18+5*b+1+2*t∧Chain rows n) (fun i _=>3-(intOf i).toNat)
     case atStart=>exact⟨0,a+1,rows,_,by omega,rfl,HTA.out,by omega,HCH.out⟩
     case round =>
      clear HT HCH HAT HTA ha
      obtain⟨t,a2,rows,mt,ht2,rfl,hT,ha,hch⟩:=hrel
      have HT:=Lib.hid hT
      have HCH:=Lib.hid hch
      have HAT:=Lib.hid (show mt.at_≤99000 from by have:=hT.mv.at_;have:=HS.out;omega)
      clear hT hch
      by_cases hgo:(t:Int)<k-3∧1<n
      ·obtain⟨hg1,hg2⟩:=hgo
       go_wp2_with fail
       refine (mk_take HT.out.ok ((n:Int)-1) (by omega) (by have:=HAT.out;omega)).mono ?_
       rintro e wa ⟨ma,⟨x,rfl,⟨hx0,hx1⟩,hma⟩,hoa,mva⟩
       have HTA:=Lib.hid (HT.out.step hoa mva)
       clear hoa mva hma
       by_cases hxb:1+x≤(b:Int)
       ·go_wp2_with fail
        refine (mk_take HTA.out.ok 2 (by decide) (by have:=HTA.out.mv.at_;have:=HS.out;omega)).mono ?_
        rintro e wb ⟨mb2,⟨y,rfl,⟨hy0,hy1⟩,hmb⟩,hob,mvb⟩
        have HTB:=Lib.hid (HTA.out.step hob mvb)
        clear hob mvb hmb
        by_cases hyz:y=0
        ·subst hyz
         by_cases hlz:(n:Int)-1<(b:Int)+1
         ·have hlt2:1<(n:Int):=by omega
          have hmn:min ((b:Int)+1) ((n:Int)-1)=(n:Int)-1:=by omega
          obtain⟨vaq,vcq,xsq,hpq,hfq⟩:=HTB.out.at (p:=b) (by omega)
          obtain⟨xlq,hxlq⟩:∃ x,xsq.length=x:=⟨_,rfl⟩
          rw[hxlq]at hpq hfq
          have kcq:=HTB.out.cell hpq
          have klq:=HTB.out.box.lt
          have HPq:=Lib.hid hpq
          have HXLq:=Lib.hid hxlq
          clear hpq hxlq
          go_wp2_with (refine wpList_append_nums2 (base:=w.heap.size) .i64 rfl _ _ 32 rfl 3 (.int .i64 0) 8 Tryz.underlying32 Tryz.info3 rfl (by decide) (.slice vaq xlq vcq) _ xsq [((n:Int)-1)] rfl rfl (own_keep (by have h9:=HTB.out.own _ (List.mem_of_getElem? HPq.out);exact h9) ((Since.refl _).alloc _)) (one_nums _ _ _) (by rw[HXLq.out];simp;omega) (by have:=HTB.out.mv.turn.size;simp;omega) ?_;intro v6 w6 hown6 ht6 hnew6;obtain⟨a6,c6,hv6⟩:=own_shape hown6;rw[show (xsq++[((n:Int)-1)]).length=xlq+1 from by rw[List.length_append,HXLq.out];rfl]at hv6;subst hv6;have hb6:=(HTB.out.box.keep ((Since.refl _).alloc _)).turn ht6 (HTB.out.notTb (List.mem_of_getElem? HPq.out));have hc6:=hb6.cell b;rw[List.getElem?_toArray,List.getElem?_map,HPq.out]at hc6;have hc6:w6.cell? ⟨tb,b,none⟩=some (.slice vaq xlq vcq):=hc6;have hl6:=hb6.lt;have hf6:=hb6.frozen;have HNq:=Lib.hid (HTB.out.add HPq.out hown6 ((Since.refl _).alloc _) ht6 hnew6 (by omega));clear hb6 hown6 ht6 hnew6 kcq klq)
          go_roundw
          case rel=>exact⟨t+1,_,_,_,by omega,by go_num,HNq.out,by omega,HCH.out.set HPq.out⟩
          case measure=>simp[intOf];omega
         ·have hlz2:(b:Int)+1≤(n:Int)-1:=by omega
          have hmn:min ((b:Int)+1) ((n:Int)-1)=(b:Int)+1:=by omega
          obtain⟨vaq,vcq,xsq,hpq,hfq⟩:=HTB.out.at (p:=b) (by omega)
          obtain⟨xlq,hxlq⟩:∃ x,xsq.length=x:=⟨_,rfl⟩
          rw[hxlq]at hpq hfq
          have kcq:=HTB.out.cell hpq
          have klq:=HTB.out.box.lt
          have HPq:=Lib.hid hpq
          have HXLq:=Lib.hid hxlq
          clear hpq hxlq
          go_wp2_with (refine wpList_append_nums2 (base:=w.heap.size) .i64 rfl _ _ 32 rfl 3 (.int .i64 0) 8 Tryz.underlying32 Tryz.info3 rfl (by decide) (.slice vaq xlq vcq) _ xsq [((b:Int)+1)] rfl rfl (own_keep (by have h9:=HTB.out.own _ (List.mem_of_getElem? HPq.out);exact h9) ((Since.refl _).alloc _)) (one_nums _ _ _) (by rw[HXLq.out];simp;omega) (by have:=HTB.out.mv.turn.size;simp;omega) ?_;intro v6 w6 hown6 ht6 hnew6;obtain⟨a6,c6,hv6⟩:=own_shape hown6;rw[show (xsq++[((b:Int)+1)]).length=xlq+1 from by rw[List.length_append,HXLq.out];rfl]at hv6;subst hv6;have hb6:=(HTB.out.box.keep ((Since.refl _).alloc _)).turn ht6 (HTB.out.notTb (List.mem_of_getElem? HPq.out));have hc6:=hb6.cell b;rw[List.getElem?_toArray,List.getElem?_map,HPq.out]at hc6;have hc6:w6.cell? ⟨tb,b,none⟩=some (.slice vaq xlq vcq):=hc6;have hl6:=hb6.lt;have hf6:=hb6.frozen;have HNq:=Lib.hid (HTB.out.add HPq.out hown6 ((Since.refl _).alloc _) ht6 hnew6 (by omega));clear hb6 hown6 ht6 hnew6 kcq klq)
          go_roundw
          case rel=>exact⟨t+1,_,_,_,by omega,by go_num,HNq.out,by omega,HCH.out.set HPq.out⟩
          case measure=>simp[intOf];omega
        ·have hyq:(y==0)=false:=by simpa using hyz
         clear hyz
         obtain⟨vaq,vcq,xsq,hpq,hfq⟩:=HTB.out.at (p:=b) (by omega)
         obtain⟨xlq,hxlq⟩:∃ x,xsq.length=x:=⟨_,rfl⟩
         rw[hxlq]at hpq hfq
         have kcq:=HTB.out.cell hpq
         have klq:=HTB.out.box.lt
         have HPq:=Lib.hid hpq
         have HXLq:=Lib.hid hxlq
         clear hpq hxlq
         go_wp2_with (refine wpList_append_nums2 (base:=w.heap.size) .i64 rfl _ _ 32 rfl 3 (.int .i64 0) 8 Tryz.underlying32 Tryz.info3 rfl (by decide) (.slice vaq xlq vcq) _ xsq [(1+x)] rfl rfl (own_keep (by have h9:=HTB.out.own _ (List.mem_of_getElem? HPq.out);exact h9) ((Since.refl _).alloc _)) (one_nums _ _ _) (by rw[HXLq.out];simp;omega) (by have:=HTB.out.mv.turn.size;simp;omega) ?_;intro v6 w6 hown6 ht6 hnew6;obtain⟨a6,c6,hv6⟩:=own_shape hown6;rw[show (xsq++[(1+x)]).length=xlq+1 from by rw[List.length_append,HXLq.out];rfl]at hv6;subst hv6;have hb6:=(HTB.out.box.keep ((Since.refl _).alloc _)).turn ht6 (HTB.out.notTb (List.mem_of_getElem? HPq.out));have hc6:=hb6.cell b;rw[List.getElem?_toArray,List.getElem?_map,HPq.out]at hc6;have hc6:w6.cell? ⟨tb,b,none⟩=some (.slice vaq xlq vcq):=hc6;have hl6:=hb6.lt;have hf6:=hb6.frozen;have HNq:=Lib.hid (HTB.out.add HPq.out hown6 ((Since.refl _).alloc _) ht6 hnew6 (by omega));clear hb6 hown6 ht6 hnew6 kcq klq)
         go_roundw
         case rel=>exact⟨t+1,_,_,_,by omega,by go_num,HNq.out,by omega,HCH.out.set HPq.out⟩
         case measure=>simp[intOf];omega
       ·have hxq:¬ (1+x≤(b:Int)):=hxb
        have hxl:(b:Int)<1+x:=by omega
        clear hxb hxq
        obtain⟨vaq,vcq,xsq,hpq,hfq⟩:=HTA.out.at (p:=b) (by omega)
        obtain⟨xlq,hxlq⟩:∃ x,xsq.length=x:=⟨_,rfl⟩
        rw[hxlq]at hpq hfq
        have kcq:=HTA.out.cell hpq
        have klq:=HTA.out.box.lt
        have HPq:=Lib.hid hpq
        have HXLq:=Lib.hid hxlq
        clear hpq hxlq
        go_wp2_with (refine wpList_append_nums2 (base:=w.heap.size) .i64 rfl _ _ 32 rfl 3 (.int .i64 0) 8 Tryz.underlying32 Tryz.info3 rfl (by decide) (.slice vaq xlq vcq) _ xsq [(1+x)] rfl rfl (own_keep (by have h9:=HTA.out.own _ (List.mem_of_getElem? HPq.out);exact h9) ((Since.refl _).alloc _)) (one_nums _ _ _) (by rw[HXLq.out];simp;omega) (by have:=HTA.out.mv.turn.size;simp;omega) ?_;intro v6 w6 hown6 ht6 hnew6;obtain⟨a6,c6,hv6⟩:=own_shape hown6;rw[show (xsq++[(1+x)]).length=xlq+1 from by rw[List.length_append,HXLq.out];rfl]at hv6;subst hv6;have hb6:=(HTA.out.box.keep ((Since.refl _).alloc _)).turn ht6 (HTA.out.notTb (List.mem_of_getElem? HPq.out));have hc6:=hb6.cell b;rw[List.getElem?_toArray,List.getElem?_map,HPq.out]at hc6;have hc6:w6.cell? ⟨tb,b,none⟩=some (.slice vaq xlq vcq):=hc6;have hl6:=hb6.lt;have hf6:=hb6.frozen;have HNq:=Lib.hid (HTA.out.add HPq.out hown6 ((Since.refl _).alloc _) ht6 hnew6 (by omega));clear hb6 hown6 ht6 hnew6 kcq klq)
        go_roundw
        case rel=>exact⟨t+1,_,_,_,by omega,by go_num,HNq.out,by omega,HCH.out.set HPq.out⟩
        case measure=>simp[intOf];omega
      ·have hno:k-3≤(t:Int)∨(n:Int)≤1:=by omega
       have HN:=Lib.hid (show TgL C mb bv sv l w m tb n rows a2 (8+2*(b+1)) mt wr from HT.out.more (by omega))
       clear hgo
       by_cases hno1:k-3≤(t:Int)
       ·clear hno
        go_wp2_with fail
        go_roundw
        case rel=>exact⟨b+1,a2,rows,mt,by omega,by go_num,HN.out,by omega,HCH.out⟩
        case measure=>simp[intOf];omega
       ·have hno2:(n:Int)≤1:=by omega
        have hno3:(t:Int)<k-3:=by omega
        clear hno hno1
        go_wp2_with fail
        go_roundw
        case rel=>exact⟨b+1,a2,rows,mt,by omega,by go_num,HN.out,by omega,HCH.out⟩
        case measure=>simp[intOf];omega
    ·obtain rfl:n=b:=by omega
     go_wp2
     go_ret
     exact⟨tb,rows,mt,a,rfl,HT.out.more (by omega),by omega,HCH.out⟩
end
abbrev TosIn (w:World) (v:Value) (bl:List FBlk):Prop:=RowIn fbcells 6 (fun w b=>Ints w b.term.tov b.term.to) w v bl
theorem TosIn.keep {w w':World} {v : Value} {bl:List FBlk} (h:TosIn w v bl) (s:Since w w'):TosIn w' v bl:=RowIn.keep (p:=fun w (b:FBlk)=>Ints w b.term.tov b.term.to) (fun _ _ _ h s=>Nums.keep h s) h s
def OwnQ (w:World) (R:List Int→Prop) (e:Ending) (w':World):Prop:=∃ v ps,e=.returned v∧w'.ownsRow w.heap.size 3 1 v ps.length (ps.map (Value.int .i64))∧Since w w'∧R ps
structure BoxRow (w:World) (cs:Array Value) (T:TypeId) (v:Value) (xs:List Int) (wr:World):Prop where
 box:HeapIs wr w.heap.size cs T
 own:wr.ownsRow (w.heap.size+1) 3 1 v xs.length (xs.map (Value.int .i64))
 old:Since w wr
 size:w.heap.size+1≤wr.heap.size
theorem BoxRow.new (w:World) (cs:Array Value) (T:TypeId):BoxRow w cs T (.slice (some ⟨w.heap.size+1,0,none⟩) 0 0) [] ((w.alloc (.cells cs T)).alloc (.cells #[] 3)):=by
 have h2:=HeapIs.new (w.alloc (.cells cs T)) #[] 3
 rw[show (w.alloc (.cells cs T)).heap.size=w.heap.size+1 from by simp]at h2
 exact⟨(HeapIs.new w cs T).keep ((Since.refl _).alloc _),⟨rfl,.inr ⟨w.heap.size+1,0,#[],rfl,Nat.le_refl _,h2,Nat.le_refl _,Nat.zero_le _,rfl,rfl⟩⟩,((Since.refl _).alloc _).alloc _,by simp⟩
theorem BoxRow.add {w wr w6:World} {cs:Array Value} {T : TypeId} {v v':Value} {xs:List Int} {y : Int} {o : Obj} (h:BoxRow w cs T v xs wr) (hown:w6.ownsRow (w.heap.size+1) 3 1 v' (xs++[y]).length ((xs++[y]).map (Value.int .i64))) (t6:Turn (fun q=>v.ownBlock=some q) (wr.alloc o) w6):BoxRow w cs T v' (xs++[y]) w6:=by
 have hv:∀ q,v.ownBlock=some q→w.heap.size+1≤q:=fun q hq=>(World.ownsRow.lt h.own q hq).1
 have hz:=t6.size
 refine⟨(h.box.keep ((Since.refl _).alloc _)).turn t6 fun e=>by have:=hv _ e;omega,hown,t6.toSince (h.old.alloc _) fun q hq e=>by have:=hv _ e;omega,?_⟩
 have:=h.size
 have h9:(wr.alloc o).heap.size=wr.heap.size+1:=by simp
 omega
theorem BoxRow.done {w wr:World} {cs:Array Value} {T : TypeId} {v : Value} {xs:List Int} (h:BoxRow w cs T v xs wr):wr.ownsRow w.heap.size 3 1 v xs.length (xs.map (Value.int .i64)):=by
 obtain⟨h0,h1|⟨g,cap,cur,h1,h2,h3⟩⟩:=h.own
 ·exact⟨h0,.inl h1⟩
 ·exact⟨h0,.inr ⟨g,cap,cur,h1,by omega,h3⟩⟩
set_option maxHeartbeats 4000000 in
set_option maxRecDepth 100000 in
theorem preds_any (params:Int) (bl:List FBlk) (bv:Value) (w:World) (h:TosIn w bv bl) (hn:bl.length≤512) (block:Int) :
  Calls Tryz.prog 58 #[.agg #[.int .i64 params,bv],.int .i64 block] w (OwnQ w fun ps=>ps.length≤bl.length∧∀ p∈ps,0≤p∧p<(bl.length:Int)):=by
 obtain⟨ba,bc,hbv,hbm⟩:=RowIn.shape h
 subst hbv
 obtain⟨n,hnn⟩:∃ n,bl.length=n:=⟨_,rfl⟩
 rw[hnn]at hn hbm h ⊢
 have H:=Lib.hid h
 have HNN:=Lib.hid hnn
 clear h hnn
 have HW:=Lib.hid (BoxRow.new w #[.int .i64 params,.slice ba n bc] 24)
 go_enter Tryz.func58,Tryz.ntmps58
 go_wp2_with fail
 obtain⟨w1,hw1⟩:∃ x,x=(w.alloc (.cells #[.int .i64 params,.slice ba n bc] 24)).alloc (.cells #[] 3):=⟨_,rfl⟩
 rw[←hw1]at HW ⊢
 clear hw1
 go_loopw [5,6] (fun av i wr=>∃ (b:Nat) (v:Value) (xs:List Int),b≤n∧av=v∧i=.int .i64 b∧BoxRow w #[.int .i64 params,.slice ba n bc] 24 v xs wr∧xs.length≤b∧∀ p∈xs,0≤p∧p<(b:Int)) (fun _ i _=>n-(intOf i).toNat)
 case atStart=>exact⟨0,_,[],Nat.zero_le _,rfl,rfl,HW.out,Nat.le_refl _,fun p hp=>(by cases hp)⟩
 case round =>
  obtain⟨b,v,xs,hb,rfl,rfl,hst,hlen,hin⟩:=hrel
  obtain⟨xa,xc,hv⟩:=own_shape hst.own
  obtain⟨xl,hxl⟩:∃ x,xs.length=x:=⟨_,rfl⟩
  rw[hxl]at hv hlen
  subst hv
  have HT:=Lib.hid hst
  have HXL:=Lib.hid hxl
  have HIN:=Lib.hid hin
  have c1:wr.cell? ⟨w.heap.size,1,none⟩=some (.slice ba n bc):=hst.box.cell 1
  have hlt0:=hst.box.lt
  clear hst hxl hin
  by_cases hlt:b<n
  ·obtain⟨B,off,x,rfl,hB,hx,hcB,hok⟩:=RowIn.at H.out (by rw[HNN.out];exact hlt)
   obtain⟨ta,tc,htv⟩:=nums_lenI hok
   have c4:wr.cell? ⟨B,off+b*6+4,none⟩=some (.slice ta x.term.to.length tc):=by
    rw[←htv];exact (HT.out.old.cell (p:=⟨B,off+b*6+4,none⟩) hB).trans (hcB 4 (by decide))
   have HTO:Hid (Ints wr (.slice ta x.term.to.length tc) x.term.to):=Lib.hid (by rw[←htv];exact hok.keep HT.out.old)
   have hB2:B<wr.heap.size:=Nat.lt_of_lt_of_le hB HT.out.old.size
   generalize x.term.to=tos at *
   clear hB hx hcB hok htv
   obtain⟨wo,hwo⟩:∃ x,x=wr:=⟨_,rfl⟩
   subst hwo
   obtain⟨tl,htl⟩:∃ x,tos.length=x:=⟨_,rfl⟩
   rw[htl]at c4 HTO
   have HTL:=Lib.hid htl
   clear htl
   have htlm:tl≤9223372036854775807:=by have:=nums_caps HTO.out;omega
   go_wp2_with fail
   go_loopw [5,8] (fun av i w2=>∃ t:Nat,t≤tl∧av=.slice xa xl xc∧i=.int .i64 t∧w2=wo) (fun _ i _=>tl-(intOf i).toNat)
   case atStart=>exact⟨0,Nat.zero_le _,rfl,rfl,rfl⟩
   case round =>
    obtain⟨t,ht,rfl,rfl,rfl⟩:=hrel
    by_cases hlt2:t<tl
    ·obtain⟨hq,hcell⟩:=nums_cell HTO.out
     obtain⟨B2,off2,rfl,hB3,hcell⟩:=hcell (by intro e;have:=HTL.out;rw[e]at this;simp at this;omega)
     obtain⟨y,hy⟩:∃ y,tos[t]? = some y:=⟨_,List.getElem?_eq_getElem (by rw[HTL.out];exact hlt2)⟩
     have cy:=hcell t y hy
     clear hcell hq hy
     by_cases hyb:y=block
     ·have hyq:(y==block)=true:=by simpa using hyb
      clear hyb
      go_wp2_with (refine wpList_append_nums2 (base:=w.heap.size+1) .i64 rfl _ _ 32 rfl 3 (.int .i64 0) 8 Tryz.underlying32 Tryz.info3 rfl (by decide) (.slice xa xl xc) _ xs [(b:Int)] rfl rfl (own_keep (by have h9:=HT.out.own;rw[HXL.out]at h9 ⊢;exact h9) ((Since.refl _).alloc _)) (one_nums _ _ _) (by rw[HXL.out];simp;omega) (by have:=HT.out.size;simp;omega) ?_;intro v6 w6 hown6 ht6 hnew6;obtain⟨a6,c6,hv6⟩:=own_shape hown6;rw[show (xs++[(b:Int)]).length=xl+1 from by rw[List.length_append,HXL.out];rfl]at hv6;subst hv6;have HN6:=Lib.hid (HT.out.add hown6 ht6);clear hown6 ht6 hnew6)
      go_roundw
      case rel=>exact⟨b+1,_,xs++[(b:Int)],by omega,rfl,by go_num,HN6.out,by rw[List.length_append,HXL.out];show xl+1≤b+1;omega,fun p hp=>by
       rcases List.mem_append.1 hp with hp|hp
       ·have:=HIN.out p hp;omega
       ·obtain rfl:=List.mem_singleton.1 hp;omega⟩
      case measure=>simp[intOf];omega
     ·have hyq:(y==block)=false:=by simpa using hyb
      clear hyb
      go_wp2
      go_roundw
      case rel=>exact⟨t+1,by omega,by trivial,by go_num,by trivial⟩
      case measure=>simp[intOf];omega
    ·obtain rfl:tl=t:=by omega
     go_wp2
     go_roundw
     case rel=>exact⟨b+1,_,xs,by omega,rfl,by go_num,HT.out,by rw[HXL.out];omega,fun p hp=>by have:=HIN.out p hp;omega⟩
     case measure=>simp[intOf];omega
  ·obtain rfl:n=b:=by omega
   go_wp2
   go_ret
   exact⟨_,xs,rfl,by have:=HT.out.done;rw[HXL.out]at this ⊢;exact this,HT.out.old,by rw[HXL.out];exact hlen,HIN.out⟩
end Go.Proofs.YtmhojfpidedjeaaGreatDoor
