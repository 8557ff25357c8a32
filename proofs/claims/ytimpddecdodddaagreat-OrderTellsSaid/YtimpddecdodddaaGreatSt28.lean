import Derived.Test.YtimpddecdodddaaGreatSt27
namespace Go.Proofs.YtimpddecdodddaaGreat
open Go.Proofs.Tryz Go.RowKit Go.Lib
set_option linter.unusedVariables false
set_option maxHeartbeats 4000000
set_option maxRecDepth 100000
theorem ze {P:Prop} (h:P:=by
 by_cases hu:k<wl
 ·obtain⟨c,hc,h4⟩:∃ c:Nat,ws[k]? = some (c:Int)∧c<n:=by
   have hk:k<ws.length:=by rw[hg.out];exact hu
   have h1:=HO.out.inr _ (List.getElem_mem hk);exact⟨(ws[k]).toNat,by rw[List.getElem?_eq_getElem hk];congr 1;omega,by omega⟩
  have HC:=hid hc;obtain⟨B,off,x,rfl,hB,hx,hN,hd⟩:=RowIn.at H.out (by rw[hC.out];exact h4);obtain⟨ta,tc,hD⟩:=Zc hd;obtain⟨tl,hj⟩:∃ y,x.term.to.length=y:=⟨_,rfl⟩
  have hm:Zd w (.slice ta tl tc) x.term.to:=by rw[←hj,←hD];exact hd
  have h7:k<512:=by omega
  have Hi:tl≤9223372036854775807:=by have:=WC hm;omega
  have hF:=hid hj;have h5:=hid hm;have HX:=hid hx;have hr:Zy .i64 wr (.slice xa wl xc) ws:=ZB HT.out.own;obtain⟨hq,ha⟩:=Zr hr;obtain⟨WB,woff,rfl,hO,ha⟩:=ha (by intro e;have:=hg.out;rw[e]at this;simp at this;omega);have KW:Hid (wr.cell? ⟨WB,woff+k,none⟩=some (.int .i64 c)∧wr.cell? ⟨w.heap.size,1,none⟩=some (.slice (some ⟨B,off,none⟩) n bc)∧wr.cell? ⟨B,off+c*6+4,none⟩=some (.slice ta tl tc)∧WB<wr.heap.size∧B<wr.heap.size∧w.heap.size<wr.heap.size):=hid ⟨ha k _ hc,HT.out.box.cell 1,by rw[←hj,←hD];exact (HT.out.old.cell (p:=⟨B,off+c*6+4,none⟩) hB).trans (hN 4 (by decide)),hO,Nat.lt_of_lt_of_le hB HT.out.old.size,HT.out.box.lt⟩;clear hr hq ha hB hx hN hd hD hj hm hO hc;go_wp2_with fail
  refine Zh 10 rfl (by decide +kernel) (by decide +kernel) (by decide +kernel) (by decide)
   [Is (.pointer (some ⟨w.heap.size,1,none⟩)),Is (.slice (some ⟨B,off,none⟩) n bc),Is (.slice (some ⟨WB,woff,none⟩) wl xc),Is (.int .i64 k),Is (.pointer (some ⟨WB,woff+k,none⟩)),Is (.int .i64 c),Is (.pointer (some ⟨B,off+c*6,none⟩)),Is (.pointer (some ⟨B,off+c*6+2,none⟩)),Is (.pointer (some ⟨B,off+c*6+2+2,none⟩)),Is (.slice ta tl tc)]
   (by repeat (first | exact trivial | refine⟨Is.stable _,?_⟩ | refine⟨Any.stable,?_⟩ | refine⟨Zo.stable _ _,?_⟩)) ⟨?_,?_,?_,?_,?_,?_,?_,?_,?_,?_,trivial⟩ ?_
  rotate_right
  ·intro vs w3 hs hk;have k1:w3.cell? ⟨WB,woff+k,none⟩=some (.int .i64 c):=(hs.cell KW.out.2.2.2.1).trans KW.out.1;have k2:w3.cell? ⟨w.heap.size,1,none⟩=some (.slice (some ⟨B,off,none⟩) n bc):=(hs.cell KW.out.2.2.2.2.2).trans KW.out.2.1;have k3:w3.cell? ⟨B,off+c*6+4,none⟩=some (.slice ta tl tc):=(hs.cell KW.out.2.2.2.2.1).trans KW.out.2.2.1;have l1:WB<w3.heap.size:=Nat.lt_of_lt_of_le KW.out.2.2.2.1 hs.size;have l2:B<w3.heap.size:=Nat.lt_of_lt_of_le KW.out.2.2.2.2.1 hs.size;have l3:w.heap.size<w3.heap.size:=Nat.lt_of_lt_of_le KW.out.2.2.2.2.2 hs.size;revert hk;refine zs0 ?_;intro hk
   have hQ:=hid (HT.out.keep hs);clear hk hs KW k1 k2 k3 l1 l2 l3;go_wp2_with fail
   go_loopw [6,9] (fun av i wr=>∃ (t:Nat) (out:List Bool) (v:Value) (ws:List Int),t≤tl∧av=v∧i=.int .i64 t∧ReSt w #[.int .i64 params,.slice (some ⟨B,off,none⟩) n bc] out v ws wr∧ReOk bl n without k (x.term.to.take t) out ws∧ws[k]? = some (c:Int)) (fun _ i _=>tl-(intOf i).toNat)
   case atStart=>exact⟨0,out,_,ws,Nat.zero_le _,rfl,rfl,hQ.out,HO.out,HC.out⟩
   case round =>
    clear HT HO hg HC hQ hu hM;obtain⟨t,out,v,ws,hj,rfl,rfl,hi,hd,hJ⟩:=hrel;obtain⟨xa,xc,hv⟩:=Ze hi.own;obtain⟨wl,he⟩:∃ x,ws.length=x:=⟨_,rfl⟩
    rw[he]at hv;subst hv;have hM:wl≤n:=by rw[←he];exact hd.few
    have HT:=hid hi;have HO:=hid hd;have hg:=hid he;have hh:=hid hJ;clear hi hd he hJ;by_cases hu:t<tl
    ·obtain⟨hq,ha⟩:=Zr h5.out;obtain⟨TB,toff,rfl,hP,ha⟩:=ha (by intro e;have:=hF.out;rw[e]at this;simp at this;omega);obtain⟨y,hy⟩:∃ y,x.term.to[t]? = some y:=⟨_,List.getElem?_eq_getElem (by rw[hF.out];exact hu)⟩
     have cy:=(HT.out.old.cell (p:=⟨TB,toff+t,none⟩) hP).trans (ha t y hy);have Hl:TB≠w.heap.size+1:=by omega
     have Hk:TB<wr.heap.size:=Nat.lt_of_lt_of_le hP HT.out.old.size;have HY:=hid (show x.term.to.take (t+1)=x.term.to.take t++[y] from by
      obtain⟨h8,h9⟩:=List.getElem?_eq_some_iff.1 hy;rw[List.take_succ_eq_append_getElem h8,h9])
     clear ha hq hy;by_cases hT:y<0
     ·have Hh:¬ 0≤y:=by omega
      go_wp2
      go_roundw
      case rel=>exact⟨t+1,out,_,ws,by omega,by trivial,by go_num,HT.out,by rw[HY.out];exact HO.out.skip (fun h=>absurd h (by omega)),hh.out⟩
      case measure=>simp[intOf];omega
     ·have hyp:0≤y:=by omega
      clear hT;by_cases hU:(n:Int)≤y
      ·skip
       go_wp2
       go_roundw
       case rel=>exact⟨t+1,out,_,ws,by omega,by trivial,by go_num,HT.out,by rw[HY.out];exact HO.out.skip (fun _ h=>absurd h (by omega)),hh.out⟩
       case measure=>simp[intOf];omega
      ·have Hm:y<(n:Int):=by omega
       clear hU;obtain⟨p,rfl⟩:∃ p:Nat,y=p:=⟨y.toNat,by omega⟩
       obtain⟨o,ho⟩:∃ o,out[p]? = some o:=⟨_,List.getElem?_eq_getElem (by rw[HO.out.len];omega)⟩
       have co:wr.cell? ⟨w.heap.size+1,p,none⟩=some (.bool o):=by rw[HT.out.out.cell,List.getElem?_toArray,List.getElem?_map,ho];rfl
       have ol:=HT.out.out.lt;have ofz:=HT.out.out.frozen;have hS:=hid ho;clear ho
       cases o with
       | true =>
        go_wp2
        go_roundw
        case rel=>exact⟨t+1,out,_,ws,by omega,by trivial,by go_num,HT.out,by rw[HY.out];exact HO.out.skip (fun _ _ _=>hS.out),hh.out⟩
        case measure=>simp[intOf];omega
       | false =>
        by_cases hw:(p:Int)=without
        ·obtain rfl:without=(p:Int):=hw.symm;go_wp2
         go_roundw
         case rel=>exact⟨t+1,out,_,ws,by omega,by trivial,by go_num,HT.out,by rw[HY.out];exact HO.out.skip (fun _ _ h=>absurd rfl h),hh.out⟩
         case measure=>simp[intOf];omega
        ·have Hn:((p:Int) != without)=true:=by simpa using hw
         clear hw;have hR:=hid (HT.out.set p);go_wp2_with (refine Zl (base:=w.heap.size+2) .i64 rfl _ _ 22 rfl 3 (.int .i64 0) 8 underlying22 Tryz.info3 rfl (by decide) (.slice xa wl xc) _ ws [(p:Int)] rfl rfl (Zv (by have h9:=hR.out.own;rw[hg.out]at h9 ⊢;exact h9) ((Since.refl _).alloc _)) (Jj _ _ _ _ _) (by rw[hg.out];simp;omega) (by have:=HT.out.size;simp;omega) ?_;intro v6 w6 hf hA ht;obtain⟨a6,c6,hp⟩:=Ze hf;rw[show (ws++[(p:Int)]).length=wl+1 from by rw[List.length_append,hg.out];rfl]at hp;subst hp;have hG:=hid (hR.out.add hf hA);clear hf hA ht)
         go_roundw
         case rel=>exact⟨t+1,_,_,_,by omega,rfl,by go_num,hG.out,by rw[HY.out];exact HO.out.more hS.out,by rw[List.getElem?_append_left (by have:=(List.getElem?_eq_some_iff.1 hh.out).1;exact this)];exact hh.out⟩
         case measure=>simp[intOf];omega
    ·obtain rfl:tl=t:=by omega
     go_wp2
     go_roundw
     case rel=>exact⟨k+1,out,_,ws,rfl,by go_num,HT.out,ReOk.next (by have h9:=HO.out;rw[List.take_of_length_le (by rw[hF.out];exact Nat.le_refl _)]at h9;exact h9) hh.out HX.out⟩
     case measure =>
      have:k<wl:=by rw[←hg.out];exact (List.getElem?_eq_some_iff.1 hh.out).1
      simp[intOf];omega
  all_goals
   intro vs w3 hs hk _;have k1:w3.cell? ⟨WB,woff+k,none⟩=some (.int .i64 c):=(hs.cell KW.out.2.2.2.1).trans KW.out.1;have k2:w3.cell? ⟨w.heap.size,1,none⟩=some (.slice (some ⟨B,off,none⟩) n bc):=(hs.cell KW.out.2.2.2.2.2).trans KW.out.2.1;have k3:w3.cell? ⟨B,off+c*6+4,none⟩=some (.slice ta tl tc):=(hs.cell KW.out.2.2.2.2.1).trans KW.out.2.2.1;have l1:WB<w3.heap.size:=Nat.lt_of_lt_of_le KW.out.2.2.2.1 hs.size;have l2:B<w3.heap.size:=Nat.lt_of_lt_of_le KW.out.2.2.2.2.1 hs.size;have l3:w.heap.size<w3.heap.size:=Nat.lt_of_lt_of_le KW.out.2.2.2.2.2 hs.size;revert hk;refine zs1 ?_;intro hk
  iterate 10
   ·go_wp2
    exact⟨_,rfl,rfl,.refl _⟩
 ·obtain rfl:k=wl:=by omega
  go_wp2
  go_ret
  exact⟨w.heap.size+1,out,by rw[hC.out];rfl,HT.out.out,by omega,HT.out.old,by rw[hC.out];exact HO.out.len,HO.out.first,fun c b x hc hb hx h1 h2 h3=>ReOk.done (by have h9:=HO.out;rw[←hg.out]at h9;exact h9) hc hb hx h1 (by rw[hC.out]at h2;exact h2) h3⟩):P:=h
theorem zaI {P:Prop} (h:P:=by cases hx):P:=h
structure ReSt (w:World) (cs:Array Value) (out:List Bool) (v:Value) (ws:List Int) (wr:World):Prop where
 box:HeapIs wr w.heap.size cs 109
 out:HeapIs wr (w.heap.size+1) (out.map Value.bool).toArray 4
 own:wr.ownsRow (w.heap.size+2) 3 1 v ws.length (ws.map (Value.int .i64))
 old:Since w wr
 size:w.heap.size+2≤wr.heap.size
theorem ReSt.keep {w wr w2:World} {cs:Array Value} {out:List Bool} {v : Value} {ws:List Int} (h:ReSt w cs out v ws wr) (s:Since wr w2):ReSt w cs out v ws w2:=
 ⟨h.box.keep s,h.out.keep s,Zv h.own s,h.old.trans s,Nat.le_trans h.size s.size⟩
theorem ReSt.set {w wr:World} {cs:Array Value} {out:List Bool} {v : Value} {ws:List Int} (h:ReSt w cs out v ws wr) (p:Nat):ReSt w cs (out.set p true) v ws (wr.setCell ⟨w.heap.size+1,p,none⟩ (.bool true)):=by
 have t:Zb (fun q=>q=w.heap.size+1) wr (wr.setCell ⟨w.heap.size+1,p,none⟩ (.bool true)):=(Zb.refl (fun q=>q=w.heap.size+1) wr).setCell (p:=⟨w.heap.size+1,p,none⟩) rfl _;refine⟨h.box.turn t zaK,?_,Zg h.own t fun q hq e=>by have:=(World.ownsRow.lt h.own q hq).1;omega,t.toSince h.old fun q hq e=>by omega,by have:=t.size;have:=h.size;omega⟩;have h1:=h.out.set p (.bool true);rw[List.setIfInBounds_toArray]at h1;rw[List.map_set];exact h1
theorem ReSt.add {w wr w6:World} {cs:Array Value} {out:List Bool} {v v':Value} {ws:List Int} {y : Int} {o : Obj} (h:ReSt w cs out v ws wr) (ha:w6.ownsRow (w.heap.size+2) 3 1 v' (ws++[y]).length ((ws++[y]).map (Value.int .i64))) (t6:Zb (fun q=>v.ownBlock=some q) (wr.alloc o) w6):ReSt w cs out v' (ws++[y]) w6:=by
 have hv:∀ q,v.ownBlock=some q→w.heap.size+2≤q:=fun q hq=>(World.ownsRow.lt h.own q hq).1
 have hz:=t6.size;have h9:(wr.alloc o).heap.size=wr.heap.size+1:=by simp
 have:=h.size;exact⟨(h.box.keep ((Since.refl _).alloc _)).turn t6 fun e=>by have:=hv _ e;omega,(h.out.keep ((Since.refl _).alloc _)).turn t6 fun e=>by have:=hv _ e;omega,ha,t6.toSince (h.old.alloc _) fun q hq e=>by have:=hv _ e;omega,zaK⟩
structure ReOk (bl:List Zt) (n:Nat) (without:Int) (i:Nat) (cur:List Int) (out:List Bool) (ws:List Int):Prop where
 len:out.length=n
 first:without≠0→out[0]? = some true
 many:ws.length=out.count true
 inr:∀ x∈ws,0≤x∧x<(n:Int)
 wait:∀ c:Nat,out[c]? = some true→(c:Int)∈ws
 through:∀ (j c:Nat) (b:Zt) (x:Int),j<i→ws[j]? = some (c:Int)→bl[c]? = some b→x∈b.term.to→0≤x→x<(n:Int)→x≠without→out[x.toNat]? = some true
 le:i≤ws.length
 now:∀ x∈cur,0≤x→x<(n:Int)→x≠without→out[x.toNat]? = some true
theorem Kf {out:List Bool} {p c:Nat} (h:out[c]? = some true):(out.set p true)[c]? = some true:=by
 have hl:=(List.getElem?_eq_some_iff.1 h).1;by_cases e:p=c
 ·subst e;rw[List.getElem?_set_self hl]
 ·rw[List.getElem?_set_ne e];exact h
theorem Q6 {out:List Bool}:∀ {p : Nat},out[p]? = some false→(out.set p true).count true=out.count true+1:=by
 induction out with
 | nil=>intro p h;simp at h
 | cons b t ih =>
  intro p h
  cases p with
  | zero =>
   simp only[List.getElem?_cons_zero,Option.some.injEq]at h;subst h;simp
  | succ p =>
   simp only[List.getElem?_cons_succ]at h;rw[List.set_cons_succ,List.count_cons,List.count_cons,ih h];omega
section
variable {bl:List Zt} {n : Nat} {without:Int} {i : Nat} {cur:List Int} {out:List Bool} {ws:List Int}
theorem ReOk.few (h:ReOk bl n without i cur out ws):ws.length≤n:=by rw[h.many,←h.len];exact List.count_le_length
theorem ReOk.more {p : Nat} (h:ReOk bl n without i cur out ws) (hp:out[p]? = some false):ReOk bl n without i (cur++[(p:Int)]) (out.set p true) (ws++[(p:Int)]):=by
 have hl:=(List.getElem?_eq_some_iff.1 hp).1;refine⟨by rw[List.length_set];exact h.len,fun hw=>Kf (h.first hw),by rw[List.length_append,Q6 hp,h.many];rfl,fun x hx=>?_,fun c hc=>?_,fun j c b x hj hc hb hx h1 h2 h3=>Kf ?_,by rw[List.length_append];have:=h.le;omega,fun x hx h1 h2 h3=>?_⟩
 ·rcases List.mem_append.1 hx with hx|hx
  ·exact h.inr x hx
  ·obtain rfl:=List.mem_singleton.1 hx;have:=h.len;omega
 ·by_cases e:p=c
  ·subst e;simp
  ·rw[List.getElem?_set_ne e]at hc;exact List.mem_append_left _ (h.wait c hc)
 ·refine h.through j c b x hj ?_ hb hx h1 h2 h3;rw[List.getElem?_append_left (by have:=h.le;omega)]at hc;exact hc
 ·rcases List.mem_append.1 hx with hx|hx
  ·exact Kf (h.now x hx h1 h2 h3)
  ·obtain rfl:=List.mem_singleton.1 hx;rw[show ((p:Int)).toNat=p from by omega,List.getElem?_set_self hl]
theorem ReOk.skip {y : Int} (h:ReOk bl n without i cur out ws) (hy:0≤y→y<(n:Int)→y≠without→out[y.toNat]? = some true):ReOk bl n without i (cur++[y]) out ws:=by
 refine⟨h.len,h.first,h.many,h.inr,h.wait,h.through,h.le,fun x hx=>?_⟩;rcases List.mem_append.1 hx with hx|hx
 ·exact h.now x hx
 ·obtain rfl:=List.mem_singleton.1 hx;exact hy
theorem ReOk.next {c : Nat} {b : Zt} (h:ReOk bl n without i b.term.to out ws) (hi:ws[i]? = some (c:Int)) (hb:bl[c]? = some b):ReOk bl n without (i+1) [] out ws:=by
 have hd:=(List.getElem?_eq_some_iff.1 hi).1;refine⟨h.len,h.first,h.many,h.inr,h.wait,fun j c' b' x hj hc ha hx=>?_,hd,fun x hx=>zaI⟩;by_cases e:j=i
 ·subst e;rw[hi]at hc;have e2:c=c':=by injection hc with hc;omega
  subst e2;rw[hb]at ha
  cases ha
  exact h.now x hx
 ·exact h.through j c' b' x zaK hc ha hx
theorem ReOk.done (h:ReOk bl n without ws.length cur out ws) {c : Nat} {b : Zt} {x : Int} (hc:out[c]? = some true) (hb:bl[c]? = some b) (hx:x∈b.term.to) (h1:0≤x) (h2:x<(n:Int)) (h3:x≠without):out[x.toNat]? = some true:=by
 obtain⟨j,hj,ha⟩:=List.mem_iff_getElem.1 (h.wait c hc);exact h.through j c b x hj (by rw[List.getElem?_eq_getElem hj,ha]) hb hx h1 h2 h3
theorem Q7 (n:Nat):(List.replicate n false).count true=0:=by
 rw[List.count_eq_zero];intro h;have:=(List.mem_replicate.1 h).2;cases this
theorem ReOk.none (hn:without=0):ReOk bl n without 0 [] (List.replicate n false) []:=
 ⟨by simp,fun h=>absurd hn h,by rw[Q7];rfl,fun x hx=>zaI,fun c hc=>(by rw[List.getElem?_replicate]at hc;split at hc<;>cases hc),fun j c b x hj=>absurd hj zaK,Nat.le_refl _,fun x hx=>zaI⟩
theorem ReOk.one (hn:1≤n):ReOk bl n without 0 [] ((List.replicate n false).set 0 true) [0]:=by
 have h0:(List.replicate n false)[0]? = some false:=by rw[List.getElem?_replicate];simp;omega
 refine⟨by simp,fun h=>by rw[List.getElem?_set_self zaE],by rw[Q6 h0,Q7];rfl,fun x hx=>?_,fun c hc=>?_,fun j c b x hj=>absurd hj zaK,Nat.zero_le _,fun x hx=>zaI⟩
 ·obtain rfl:=List.mem_singleton.1 hx;omega
 ·by_cases e:0=c
  ·subst e;simp
  ·rw[List.getElem?_set_ne e,List.getElem?_replicate]at hc;split at hc<;>cases hc
end
def ReachQ (w:World) (bl:List Zt) (without:Int) (e:Ending) (w':World):Prop:=
 ∃ (ob:Nat) (out:List Bool),e=.returned (.slice (some ⟨ob,0,none⟩) bl.length bl.length)∧HeapIs w' ob (out.map Value.bool).toArray 4∧w.heap.size≤ob∧Since w w'∧out.length=bl.length∧(without≠0→out[0]? = some true) ∧
  ∀ (c:Nat) (b:Zt) (x:Int),out[c]? = some true→bl[c]? = some b→x∈b.term.to→0≤x→x<(bl.length:Int)→x≠without→out[x.toNat]? = some true
theorem Jj (w:World) (p:Addr) (v:Value) (y:Int) (T:TypeId):Zd ((w.setCell p v).alloc (.cells #[.int .i64 y] T)) (.slice (some ⟨w.heap.size,0,none⟩) 1 1) [y]:=by
 have h:=Ym (w.setCell p v) y T;have e:(w.setCell p v).heap.size=w.heap.size:=by simp
 rw[e]at h;exact h
theorem Zad (w:World) (p:Addr) (v:Value) (y:Int) (T:TypeId) (o:Obj):Zd (((w.setCell p v).alloc o).alloc (.cells #[.int .i64 y] T)) (.slice (some ⟨w.heap.size+1,0,none⟩) 1 1) [y]:=by
 have h:=Ym ((w.setCell p v).alloc o) y T;have e:((w.setCell p v).alloc o).heap.size=w.heap.size+1:=by simp
 rw[e]at h;exact h
theorem ZdG {w w1 w2:World} {cs:Array Value} {out:List Bool} {v : Value} {ws:List Int} {o : Obj} (h:ReSt w cs out v ws (w2.alloc o)) (ha:w1.heap.size=w.heap.size+1) (hl:w1.heap.size<w2.heap.size):ReSt w cs (out.set 0 true) v ws ((w2.setCell ⟨w.heap.size+1,0,none⟩ (.bool true)).alloc o):=by
 rw[←World.setCell_alloc_past o (w.heap.size+1) 0 (.bool true) zaK];exact h.set 0
theorem Zek (w:World) (p:Addr) (v:Value) (o o2:Obj):w.heap.size≤(((w.setCell p v).alloc o).alloc o2).heap.size:=by
 have e:(((w.setCell p v).alloc o).alloc o2).heap.size=w.heap.size+2:=by simp
 omega
theorem ZeW {n : Nat} (h:1≤n):((List.replicate n false).map Value.bool).toArray[0]? = some (.bool false):=by
 obtain⟨k,rfl⟩:∃ k,n=k+1:=⟨n-1,zaK⟩
 rfl
theorem Zbq {w w1 w2:World} {cs:Array Value} {n : Nat} (hb:w1=w.alloc (.cells cs 109)) (hg:w2.ownsRow w1.heap.size 4 1 (.slice (some ⟨w1.heap.size,0,none⟩) n n) n (madeCells (Value.bool false).cells (n*1)).toList) (hc:w1.grownBy w2 none):ReSt w cs (List.replicate n false) (.slice (some ⟨w2.heap.size,0,none⟩) 0 0) [] (w2.alloc (.cells #[] 3))∧w1.heap.size=w.heap.size+1∧w2.cell? ⟨w.heap.size,1,none⟩=cs[1]?∧w.heap.size+2≤w2.heap.size∧HeapIs w2 w1.heap.size ((List.replicate n false).map Value.bool).toArray 4:=by
 obtain⟨hs,ha⟩:=XY rfl zaJ hg hc;have e:(List.replicate n (Value.bool false).cells.toList).flatten=(List.replicate n false).map Value.bool:=by
  rw[List.map_replicate];exact XR n _
 rw[e]at ha;have he:w1.heap.size=w.heap.size+1:=by rw[hb];simp
 have hd:w.heap.size+2≤w2.heap.size:=by have:=ha.lt;omega
 have hh:Since w w1:=by rw[hb];exact (Since.refl _).alloc _
 have hf:HeapIs w1 w.heap.size cs 109:=by rw[hb];exact HeapIs.new _ _ _
 have h2:=HeapIs.new w2 #[] 3;refine⟨⟨(hf.keep hs).keep ((Since.refl _).alloc _),by rw[←he];exact ha.keep ((Since.refl _).alloc _),⟨rfl,.inr ⟨w2.heap.size,0,#[],rfl,hd,h2,Nat.le_refl _,Nat.zero_le _,rfl,rfl⟩⟩,(hh.trans hs).alloc _,by simp;omega⟩,he,(hf.keep hs).cell 1,hd,ha⟩
theorem JX (params:Int) (bl:List Zt) (bv:Value) (w:World) (h:TosIn w bv bl) (hn:1≤bl.length∧bl.length≤512) (without:Int) :
  Calls prog 109 #[.agg #[.int .i64 params,bv],.int .i64 without] w (ReachQ w bl without):=by
 obtain⟨ba,bc,Hp,Hq⟩:=RowIn.shape h;subst Hp;obtain⟨n,hV⟩:∃ n,bl.length=n:=⟨_,rfl⟩
 rw[hV]at hn Hq h ⊢;have hY:(prog.info? 4).map (fun i=>(i.zero,i.size,i.bytes))=some (some (.bool false),1,1):=by kernel_rfl
 obtain⟨ti,He,Hc,Hb,Ha⟩:=info_parts hY;have TI:=hid (And.intro He (And.intro Hc (And.intro Hb Ha)));have H:=hid h;have hC:=hid hV;obtain⟨hW,Hs⟩:=hn;clear h hV hY He Hc Hb Ha;obtain⟨w1,hK⟩:∃ x,x=w.alloc (.cells #[.int .i64 params,.slice ba n bc] 109):=⟨_,rfl⟩
 have Hf:=hid hK;go_enter func109,ntmps109
 by_cases h0:without=0
 ·have Hr:(without != 0)=false:=by simpa using h0
  have H0:=hid h0;clear h0;go_wp2_with (rw[←hK];clear hK;refine wpList_make_full _ rfl (.tmp 12) (.tmp 12) 144 rfl w1.heap.size 4 ti (.bool false) 1 underlying144 TI.out.1 TI.out.2.1 TI.out.2.2.1 .i64 .i64 _ _ n rfl rfl rfl rfl zak zaq (Nat.le_refl _) ?_;intro w2 hE hz;obtain⟨hL,hI,c1,hH,hl⟩:=Zbq Hf.out hE hz;have c1:w2.cell? ⟨w.heap.size,1,none⟩=some (.slice ba n bc):=c1;have Ho:w.heap.size<w2.heap.size:=Nat.lt_of_lt_of_le (Nat.lt_add_of_pos_right zaJ) hH;have Hg:=hid hL;have Ht:=hid hl;have c2:=hl.cell 0;have hX:=hl.lt;have hZ:=hl.frozen;have c2:w2.cell? ⟨w1.heap.size,0,none⟩=some (.bool false):=c2.trans (ZeW hW);rw[hI]at c2 hX hZ;clear hL hE hz hl)
  skip
  go_loopw [6,7] (fun av i wr=>∃ (k:Nat) (out:List Bool) (v:Value) (ws:List Int),av=v∧i=.int .i64 k∧ReSt w #[.int .i64 params,.slice ba n bc] out v ws wr∧ReOk bl n without k [] out ws) (fun _ i _=>n-(intOf i).toNat)
  case atStart=>exact⟨0,_,_,[],rfl,rfl,Hg.out,ReOk.none H0.out⟩
  case round =>
   obtain⟨k,out,v,ws,rfl,rfl,hi,hd⟩:=hrel;obtain⟨xa,xc,hv⟩:=Ze hi.own;obtain⟨wl,he⟩:∃ x,ws.length=x:=⟨_,rfl⟩
   rw[he]at hv;subst hv;have hM:k≤wl∧wl≤n:=by rw[←he];exact⟨hd.le,hd.few⟩
   have HT:=hid hi;have HO:=hid hd;have hg:=hid he;clear hi he hd Hg;exact ze
 ·have Hr:(without != 0)=true:=by simpa using h0
  clear h0;go_wp2_with (first | (rw[←hK];clear hK;refine wpList_make_full _ rfl (.tmp 12) (.tmp 12) 144 rfl w1.heap.size 4 ti (.bool false) 1 underlying144 TI.out.1 TI.out.2.1 TI.out.2.2.1 .i64 .i64 _ _ n rfl rfl rfl rfl zak zaq (Nat.le_refl _) ?_;intro w2 hE hz;obtain⟨hL,hI,c1,hH,hl⟩:=Zbq Hf.out hE hz;have c1:w2.cell? ⟨w.heap.size,1,none⟩=some (.slice ba n bc):=c1;have Ho:w.heap.size<w2.heap.size:=Nat.lt_of_lt_of_le (Nat.lt_add_of_pos_right zaJ) hH;have Hj:=hl.lt;have h6:=hid (ZdG hL hI Hj); have c2:=hl.cell 0; have hX:=hl.lt;have hZ:=hl.frozen;have c2:w2.cell? ⟨w1.heap.size,0,none⟩=some (.bool false):=c2.trans (ZeW hW);rw[hI]at c2 hX hZ;clear hL hE hz hl) | (refine Zl (base:=w.heap.size+2) .i64 rfl _ _ 22 rfl 3 (.int .i64 0) 8 underlying22 Tryz.info3 rfl zaJ (.slice (some ⟨w2.heap.size,0,none⟩) 0 0) _ [] [0] rfl rfl (Zv (h6.out.own) ((Since.refl _).alloc _)) (Zad _ _ _ _ _ _) zaL (Nat.le_trans hH (Zek _ _ _ _ _)) ?_;intro v6 w6 hf hA ht;obtain⟨a6,c6,hp⟩:=Ze hf;have hp:v6=.slice a6 1 c6:=hp;subst hp;have hG:=hid (h6.out.add hf hA);clear hf hA ht))
  skip
  go_loopw [6,7] (fun av i wr=>∃ (k:Nat) (out:List Bool) (v:Value) (ws:List Int),av=v∧i=.int .i64 k∧ReSt w #[.int .i64 params,.slice ba n bc] out v ws wr∧ReOk bl n without k [] out ws) (fun _ i _=>n-(intOf i).toNat)
  case atStart=>exact⟨0,_,_,[0],rfl,rfl,hG.out,ReOk.one hW⟩
  case round =>
   obtain⟨k,out,v,ws,rfl,rfl,hi,hd⟩:=hrel;obtain⟨xa,xc,hv⟩:=Ze hi.own;obtain⟨wl,he⟩:∃ x,ws.length=x:=⟨_,rfl⟩
   rw[he]at hv;subst hv;have hM:k≤wl∧wl≤n:=by rw[←he];exact⟨hd.le,hd.few⟩
   have HT:=hid hi;have HO:=hid hd;have hg:=hid he;clear hi he hd hG;exact ze
end Go.Proofs.YtimpddecdodddaaGreat
