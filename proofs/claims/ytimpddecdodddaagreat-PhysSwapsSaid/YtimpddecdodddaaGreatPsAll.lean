/- PhysSwaps: laid, Own, and what turns in memory. -/
import Derived.Test.YtimpddecdodddaaGreatSbLaw
namespace Go.Proofs.YtimpddecdodddaaGreat
open Go.RowKit Go.ChangeShapes Go.WideShapes
set_option linter.unusedVariables false
theorem wpList_append_src {P : Program} {w : World} {ops:Array Oper} {rest:List Oper} {o : Oper} {a : Act} {Q : Exit→Act→World→Prop} (hgd:o.guard=none) (s x:Operand) (t:TypeId)
  (ho:o.op=.call { callee:=.builtin .append,args:=#[s,x],argTypes:=#[t,t] })
  (base:Nat) (e:TypeId) (z:Value) (sz bytes:Nat) (ht:P.underlying t=some (.slice e)) (hinfo:(P.info? e).map (fun i=>(i.zero,i.size,i.bytes))=some (some z,sz,bytes)) (hz:z.cells.size=sz) (hsz:0<sz) (hby:bytes≤1000)
  (v xv:Value) (n m:Nat) (xs ys:List Value) (hs:a.eval s=v) (hx:a.eval x=xv) (hown:w.ownsRow base e sz v n xs) (hl:JB w xv m ys) (hlm:ys.length=m*sz) (hlen:n+m≤1000000) (h1:∀ u∈ys,u.oneCell'=true) (hle:base≤w.heap.size)
  (h:∀ v' w',w'.ownsRow base e sz v' (n+m) (xs++ys)→Turn (fun q=>v.ownBlock=some q) w w'→wpList P ops Q rest (a.put o.dst v') w'):wpList P ops Q (o::rest) a w:=by
 obtain⟨i,hi,hz0,hz1,hz2⟩:=info_parts hinfo
 have hbb:(n+m)*bytes≤140737488355328:=Nat.le_trans (Nat.mul_le_mul hlen hby) (by decide)
 have key:∀ (ad:Addr) (c:Nat),a.eval x=.slice (some ad) m c→(∀ (j:Nat) (u:Value),ys[j]? = some u→w.cell? (ad.add j)=some u)→wpList P ops Q (o::rest) a w:=fun ad c hx2 hnews =>
  Yz hgd s x t ho base e i z sz bytes ht hi hz0 hz1 hz2 hz hsz v n xs hs hown ad m c ys hx2 hlm hnews h1 (by unfold maxLen;omega) hbb hle fun v' w' a1 a2 _=>h v' w' a1 a2
 rcases hl with ⟨ad,hv,rfl,rfl⟩|⟨ad,c,hv,hcell⟩
 ·cases ad with
  | none=>exact wpList_append_own_none hgd s x t ho base e i sz ht hi v _ _ hs hown (hx.trans hv) (h v w (by simpa using hown) (Turn.refl _ w))
  | some ad=>exact key ad 0 (hx.trans hv) fun j u hu=>by cases hu
 ·exact key ad c (hx.trans hv) hcell
theorem JB.keep {w w':World} {xv:Value} {m : Nat} {xs:List Value} (h:JB w xv m xs) (hb:∀ q,xv.ownBlock=some q→q<w.heap.size) (s:Since w w'):JB w' xv m xs:=by
 rcases h with h|⟨ad,c,hv,hc⟩
 ·exact .inl h
 ·refine .inr ⟨ad,c,hv,fun j u hu=>?_⟩
  rw[s.cell (p:=ad.add j) (by
   have:=hb ad.block (by rw[hv];rfl)
   unfold Addr.add
   split<;>exact this)]
  exact hc j u hu
theorem JB.keep2 {w w':World} {xv:Value} {m : Nat} {xs:List Value} (h:JB w xv m xs) (hb:∀ q,xv.ownBlock=some q→xs=[]∨q<w.heap.size) (s:Since w w'):JB w' xv m xs:=by
 by_cases h0:xs=[]
 ·subst h0
  rcases h with h|⟨ad,c,hv,hc⟩
  ·exact .inl h
  ·exact .inr ⟨ad,c,hv,fun j u hu=>by cases hu⟩
 ·exact h.keep (fun q hq=>(hb q hq).resolve_left h0) s
theorem src_take {w : World} {b off n c k:Nat} {L : List PlV} (h:Pls w (.slice (some ⟨b,off,none⟩) n c) L) (hk:k≤L.length):JB w (.slice (some ⟨b,off,none⟩) k c) k ((L.take k).flatMap plcells):=by
 refine .inr ⟨_,c,rfl,fun j u hu=>?_⟩
 obtain⟨i,t,y,rfl,hy,ht,hu2⟩:=Jh plcells 9 ZE (by decide) _ j u hu
 have hi:i<k:=by have:=(List.getElem?_eq_some_iff.1 hy).1;rw[List.length_take]at this;omega
 rw[List.getElem?_take_of_lt hi]at hy
 obtain⟨b2,off2,y2,e,_,hy2,hc,_⟩:=RowIn.at h (k:=i) (by omega)
 cases e
 rw[hy]at hy2
 cases hy2
 rw[J1,←Nat.add_assoc,hc t ht,hu2]
theorem src_drop {w : World} {b off n c k:Nat} {L : List PlV} (h:Pls w (.slice (some ⟨b,off,none⟩) n c) L) (hk:k≤L.length) {a : Option Addr} {m d:Nat} (hm:m=L.length-k) (ha:(if c=k then some (⟨b,off,none⟩:Addr) else some ⟨b,off+k*9,none⟩)=a) (hc:n≤c) (hn:n=L.length):JB w (.slice a m d) m ((L.drop k).flatMap plcells):=by
 subst hm
 by_cases e:L.length-k=0
 ·rw[e,List.drop_eq_nil_of_le (by omega)]
  obtain⟨ad,had⟩:∃ ad,a=some ad:=by rw[←ha];split<;>exact⟨_,rfl⟩
  exact .inr ⟨ad,d,by rw[had],fun j u hu=>by cases hu⟩
 rw[if_neg (by omega)]at ha
 subst ha
 refine .inr ⟨_,d,rfl,fun j u hu=>?_⟩
 obtain⟨i,t,y,rfl,hy,ht,hu2⟩:=Jh plcells 9 ZE (by decide) _ j u hu
 rw[List.getElem?_drop]at hy
 have hi:k+i<L.length:=(List.getElem?_eq_some_iff.1 hy).1
 obtain⟨b2,off2,y2,e2,_,hy2,hc2,_⟩:=RowIn.at h (k:=k+i) hi
 cases e2
 rw[hy]at hy2
 cases hy2
 rw[J1,show off+k*9+(i*9+t)=off+(k+i)*9+t from by omega,hc2 t ht,hu2]
theorem mem_flat_take {L : List PlV} (k:Nat) {u : Value} (h:u∈(L.take k).flatMap plcells):u∈L.flatMap plcells:=by
 obtain⟨x,h1,h2⟩:=List.mem_flatMap.1 h
 exact List.mem_flatMap.2 ⟨x,List.mem_of_mem_take h1,h2⟩
theorem mem_flat_drop {L : List PlV} (k:Nat) {u : Value} (h:u∈(L.drop k).flatMap plcells):u∈L.flatMap plcells:=by
 obtain⟨x,h1,h2⟩:=List.mem_flatMap.1 h
 exact List.mem_flatMap.2 ⟨x,List.mem_of_mem_drop h1,h2⟩
theorem pls_where {w : World} {a : Option Addr} {n c:Nat} {L : List PlV} (h:Pls w (.slice a n c) L):(n=0∧c=0∧L=[])∨∃ b off,a=some ⟨b,off,none⟩∧b<w.heap.size∧n≤c∧n=L.length:=by
 rcases h with ⟨_,h1,h2⟩|⟨b,off,cap,h1,h2,_,h4,_⟩
 ·cases h1;exact .inl ⟨rfl,rfl,h2⟩
 ·cases h1;exact .inr ⟨b,off,rfl,h4,h2,rfl⟩
theorem JB.step {w w':World} {a : Option Addr} {n c m d:Nat} {L : List PlV} {xs:List Value} (h:Pls w (.slice a n c) L) {a':Option Addr} (h2:JB w (.slice a' m d) m xs) (hb:∀ q,a'.map (·.block)=some q→q<w.heap.size) (s:Since w w'):JB w' (.slice a' m d) m xs:=
 h2.keep (fun q hq=>hb q (by cases a'<;>exact hq)) s
set_option maxHeartbeats 4000000 in
set_option maxRecDepth 100000 in
theorem lawlaid_any (lv mv:Value) (L M:List PlV) (k:Nat) (w:World) (hl:Pls w lv L) (hm:Pls w mv M) (hk:k≤L.length) (hL:L.length≤100000) (hM:M.length≤1000) (hM0:0<M.length) :
  Calls Tryz.prog 11 #[lv,.int .i64 k,mv] w (fun e w'=>∃ v,e=.returned v∧w'.ownsRow w.heap.size 38 9 v (L.length+M.length) ((L.take k++(M++L.drop k)).flatMap plcells)∧Since w w'):=by
 obtain⟨la,lc,hlv,_⟩:=RowIn.shape hl
 obtain⟨ma,mc,hmv,_⟩:=RowIn.shape hm
 subst hlv hmv
 obtain⟨n,hn⟩:∃ n,L.length=n:=⟨_,rfl⟩
 obtain⟨m,hmn⟩:∃ m,M.length=m:=⟨_,rfl⟩
 rw[hn]at hl hk hL
 rw[hmn]at hm hM hM0
 have HMS:=Lib.hid (show JB w (.slice ma m mc) m (M.flatMap plcells) from by have h:=Zdy hm;rw[hmn]at h;exact h)
 have HM1:=Lib.hid (Zdz hm)
 have HMB:=Lib.hid (show ∀ q,(Value.slice ma m mc).ownBlock=some q→q<w.heap.size from by
  rcases pls_where hm with ⟨h1,_⟩|⟨b,off,rfl,hb,_⟩
  ·omega
  ·intro q hq;cases hq;exact hb)
 have HL1:=Lib.hid (Zdz hl)
 have HMN:=Lib.hid hmn
 have HN:=Lib.hid hn
 have HTL:=Lib.hid (show (L.take k).length=k from by rw[List.length_take];omega)
 have HDL:=Lib.hid (show (L.drop k).length=n-k from by rw[List.length_drop];omega)
 have HRES:=Lib.hid (show (L.take k).flatMap plcells++(M.flatMap plcells++(L.drop k).flatMap plcells)=(L.take k++(M++L.drop k)).flatMap plcells from by rw[List.flatMap_append,List.flatMap_append])
 rw[hn,hmn,show n+m=k+m+(n-k) from by omega,←HRES.out,←List.append_assoc]
 have HLW:=Lib.hid hl
 have hcap:n≤lc∧lc≤9223372036854775807:=by
  rcases hl with ⟨_,h1,_⟩|⟨b,off,cap,h1,h2,h3,_⟩
  ·cases h1;exact⟨Nat.le_refl _,by omega⟩
  ·cases h1;unfold maxLen at h3;rw[hn]at *;omega
 clear hl hm hmn hn
 rcases pls_where HLW.out with ⟨h1,h2,h3⟩|⟨b,off,h1,h2,h3,h4⟩
 ·subst h1 h2 h3
  obtain rfl:k=0:=by omega
  cases la with
  | none =>
   have HT:=Lib.hid (show JB w (.slice (none) 0 0) 0 ((([]:List PlV).take 0).flatMap plcells) from .inl ⟨_,rfl,rfl,rfl⟩)
   have HTB:=Lib.hid (show JB w (.slice (none) 0 0) 0 ((([]:List PlV).drop 0).flatMap plcells) from .inl ⟨_,rfl,rfl,rfl⟩)
   have HT1:=Lib.hid (fun u hu=>HL1.out u (mem_flat_take 0 hu))
   have HD1:=Lib.hid (fun u hu=>HL1.out u (mem_flat_drop 0 hu))
   go_enter Tryz.func11,Tryz.ntmps11
   go_wp2_with (at_builtin;first | (refine wpList_append_src rfl _ _ 30 rfl w.heap.size 38 (.agg #[.int .i64 0,.int .i64 0,.int .i64 0,.int .i64 0,.int .i64 0,.int .i64 0,.int .i32 0,.slice none 0 0,.int .i64 0]) 9 88 Tryz.underlying30 (by kernel_rfl) rfl (by decide) (by decide) (.slice (some ⟨w.heap.size,0,none⟩) 0 0) (.slice (none) 0 0) 0 0 [] ((([]:List PlV).take 0).flatMap plcells) rfl rfl ((IsNilOf.new (Nat.le_refl _)).owns 9) (.inl ⟨_,rfl,rfl,rfl⟩) (by rw[ZcD,HTL.out]) (by omega) HT1.out (by simp) ?_;intro v1 w1 ho1 ht1;have HS1:=Lib.hid (ht1.toSince ((Since.refl w).alloc _) fun q hq e=>by cases e;exact absurd hq (Nat.lt_irrefl _));have HO1:=Lib.hid ho1;clear ho1 ht1) | (refine wpList_append_src rfl _ _ 30 rfl w.heap.size 38 (.agg #[.int .i64 0,.int .i64 0,.int .i64 0,.int .i64 0,.int .i64 0,.int .i64 0,.int .i32 0,.slice none 0 0,.int .i64 0]) 9 88 Tryz.underlying30 (by kernel_rfl) rfl (by decide) (by decide) v1 (.slice ma m mc) (0+0) m _ (M.flatMap plcells) rfl rfl HO1.out (HMS.out.keep HMB.out HS1.out) (by rw[ZcD,HMN.out]) (by omega) HM1.out HS1.out.size ?_;intro v2 w2 ho2 ht2;have HS2:=Lib.hid (ht2.toSince HS1.out fun q hq e=>by have:=(World.ownsRow.lt HO1.out q e).1;omega);have HO2:=Lib.hid ho2;clear ho2 ht2) | (refine wpList_append_src rfl _ _ 30 rfl w.heap.size 38 (.agg #[.int .i64 0,.int .i64 0,.int .i64 0,.int .i64 0,.int .i64 0,.int .i64 0,.int .i32 0,.slice none 0 0,.int .i64 0]) 9 88 Tryz.underlying30 (by kernel_rfl) rfl (by decide) (by decide) v2 (.slice (none) 0 0) (0+0+m) 0 _ ((([]:List PlV).drop 0).flatMap plcells) rfl rfl HO2.out (.inl ⟨_,rfl,rfl,rfl⟩) (by rw[ZcD,HDL.out]) (by omega) HD1.out HS2.out.size ?_;intro v3 w3 ho3 ht3;have HS3:=Lib.hid (ht3.toSince HS2.out fun q hq e=>by have:=(World.ownsRow.lt HO2.out q e).1;omega);have HO3:=Lib.hid ho3;clear ho3 ht3))
   go_ret
   exact⟨v3,rfl,by have h:=HO3.out;rwa [List.nil_append,Nat.zero_add]at h,HS3.out⟩
  | some ad =>
   have HT:=Lib.hid (show JB w (.slice (some ad) 0 0) 0 ((([]:List PlV).take 0).flatMap plcells) from .inl ⟨_,rfl,rfl,rfl⟩)
   have HTB:=Lib.hid (show JB w (.slice (some ad) 0 0) 0 ((([]:List PlV).drop 0).flatMap plcells) from .inl ⟨_,rfl,rfl,rfl⟩)
   have HT1:=Lib.hid (fun u hu=>HL1.out u (mem_flat_take 0 hu))
   have HD1:=Lib.hid (fun u hu=>HL1.out u (mem_flat_drop 0 hu))
   go_enter Tryz.func11,Tryz.ntmps11
   go_wp2_with (at_builtin;first | (refine wpList_append_src rfl _ _ 30 rfl w.heap.size 38 (.agg #[.int .i64 0,.int .i64 0,.int .i64 0,.int .i64 0,.int .i64 0,.int .i64 0,.int .i32 0,.slice none 0 0,.int .i64 0]) 9 88 Tryz.underlying30 (by kernel_rfl) rfl (by decide) (by decide) (.slice (some ⟨w.heap.size,0,none⟩) 0 0) (.slice (some ad) 0 0) 0 0 [] ((([]:List PlV).take 0).flatMap plcells) rfl rfl ((IsNilOf.new (Nat.le_refl _)).owns 9) (.inl ⟨_,rfl,rfl,rfl⟩) (by rw[ZcD,HTL.out]) (by omega) HT1.out (by simp) ?_;intro v1 w1 ho1 ht1;have HS1:=Lib.hid (ht1.toSince ((Since.refl w).alloc _) fun q hq e=>by cases e;exact absurd hq (Nat.lt_irrefl _));have HO1:=Lib.hid ho1;clear ho1 ht1) | (refine wpList_append_src rfl _ _ 30 rfl w.heap.size 38 (.agg #[.int .i64 0,.int .i64 0,.int .i64 0,.int .i64 0,.int .i64 0,.int .i64 0,.int .i32 0,.slice none 0 0,.int .i64 0]) 9 88 Tryz.underlying30 (by kernel_rfl) rfl (by decide) (by decide) v1 (.slice ma m mc) (0+0) m _ (M.flatMap plcells) rfl rfl HO1.out (HMS.out.keep HMB.out HS1.out) (by rw[ZcD,HMN.out]) (by omega) HM1.out HS1.out.size ?_;intro v2 w2 ho2 ht2;have HS2:=Lib.hid (ht2.toSince HS1.out fun q hq e=>by have:=(World.ownsRow.lt HO1.out q e).1;omega);have HO2:=Lib.hid ho2;clear ho2 ht2) | (refine wpList_append_src rfl _ _ 30 rfl w.heap.size 38 (.agg #[.int .i64 0,.int .i64 0,.int .i64 0,.int .i64 0,.int .i64 0,.int .i64 0,.int .i32 0,.slice none 0 0,.int .i64 0]) 9 88 Tryz.underlying30 (by kernel_rfl) rfl (by decide) (by decide) v2 (.slice (some ad) 0 0) (0+0+m) 0 _ ((([]:List PlV).drop 0).flatMap plcells) rfl rfl HO2.out (.inl ⟨_,rfl,rfl,rfl⟩) (by rw[ZcD,HDL.out]) (by omega) HD1.out HS2.out.size ?_;intro v3 w3 ho3 ht3;have HS3:=Lib.hid (ht3.toSince HS2.out fun q hq e=>by have:=(World.ownsRow.lt HO2.out q e).1;omega);have HO3:=Lib.hid ho3;clear ho3 ht3))
   go_ret
   exact⟨v3,rfl,by have h:=HO3.out;rwa [List.nil_append,Nat.zero_add]at h,HS3.out⟩
 ·subst h1
  have HT:=Lib.hid (src_take HLW.out (by rw[HN.out];exact hk))
  have HTB:=Lib.hid (show ∀ q,(Value.slice (some ⟨b,off,none⟩) k lc).ownBlock=some q→q<w.heap.size from fun q hq=>by cases hq;exact h2)
  obtain⟨ra,hra⟩:∃ ra,(if lc=k then some (⟨b,off,none⟩:Addr) else some ⟨b,off+k*9,none⟩)=ra:=⟨_,rfl⟩
  have HD3:=Lib.hid (src_drop (d:=lc-k) HLW.out (by rw[HN.out];exact hk) (show n-k=L.length-k by rw[HN.out]) hra h3 h4)
  have HDB:=Lib.hid (show ∀ q,(Value.slice ra (n-k) (lc-k)).ownBlock=some q→q<w.heap.size from fun q hq=>by
   rw[←hra]at hq
   split at hq<;>(cases hq;exact h2))
  have HT1:=Lib.hid (fun u hu=>HL1.out u (mem_flat_take k hu))
  have HD1:=Lib.hid (fun u hu=>HL1.out u (mem_flat_drop k hu))
  clear h2 h3 h4
  go_enter Tryz.func11,Tryz.ntmps11
  go_wp2_with (at_builtin;first | (refine wpList_append_src rfl _ _ 30 rfl w.heap.size 38 (.agg #[.int .i64 0,.int .i64 0,.int .i64 0,.int .i64 0,.int .i64 0,.int .i64 0,.int .i32 0,.slice none 0 0,.int .i64 0]) 9 88 Tryz.underlying30 (by kernel_rfl) rfl (by decide) (by decide) (.slice (some ⟨w.heap.size,0,none⟩) 0 0) (.slice (some ⟨b,off,none⟩) k lc) 0 k [] ((L.take k).flatMap plcells) rfl rfl ((IsNilOf.new (Nat.le_refl _)).owns 9) (HT.out.keep HTB.out ((Since.refl w).alloc _)) (by rw[ZcD,HTL.out]) (by omega) HT1.out (by simp) ?_;intro v1 w1 ho1 ht1;have HS1:=Lib.hid (ht1.toSince ((Since.refl w).alloc _) fun q hq e=>by cases e;exact absurd hq (Nat.lt_irrefl _));have HO1:=Lib.hid ho1;clear ho1 ht1) | (refine wpList_append_src rfl _ _ 30 rfl w.heap.size 38 (.agg #[.int .i64 0,.int .i64 0,.int .i64 0,.int .i64 0,.int .i64 0,.int .i64 0,.int .i32 0,.slice none 0 0,.int .i64 0]) 9 88 Tryz.underlying30 (by kernel_rfl) rfl (by decide) (by decide) v1 (.slice ma m mc) (0+k) m _ (M.flatMap plcells) rfl rfl HO1.out (HMS.out.keep HMB.out HS1.out) (by rw[ZcD,HMN.out]) (by omega) HM1.out HS1.out.size ?_;intro v2 w2 ho2 ht2;have HS2:=Lib.hid (ht2.toSince HS1.out fun q hq e=>by have:=(World.ownsRow.lt HO1.out q e).1;omega);have HO2:=Lib.hid ho2;clear ho2 ht2) | (refine wpList_append_src rfl _ _ 30 rfl w.heap.size 38 (.agg #[.int .i64 0,.int .i64 0,.int .i64 0,.int .i64 0,.int .i64 0,.int .i64 0,.int .i32 0,.slice none 0 0,.int .i64 0]) 9 88 Tryz.underlying30 (by kernel_rfl) rfl (by decide) (by decide) v2 (.slice ra (n-k) (lc-k)) (0+k+m) (n-k) _ ((L.drop k).flatMap plcells) rfl rfl HO2.out (HD3.out.keep HDB.out HS2.out) (by rw[ZcD,HDL.out]) (by omega) HD1.out HS2.out.size ?_;intro v3 w3 ho3 ht3;have HS3:=Lib.hid (ht3.toSince HS2.out fun q hq e=>by have:=(World.ownsRow.lt HO2.out q e).1;omega);have HO3:=Lib.hid ho3;clear ho3 ht3))
  go_ret
  exact⟨v3,rfl,by have h:=HO3.out;rwa [List.nil_append,Nat.zero_add]at h,HS3.out⟩
end Go.Proofs.YtimpddecdodddaaGreat
namespace Go.Proofs.YtimpddecdodddaaGreat
open Go.RowKit Go.ChangeShapes Go.WideShapes
set_option linter.unusedVariables false
theorem flat_to:∀ (l:List ZD) (b:Nat) (y:ZD) (tl:List Int) (v:Value),l[b]? = some y→(l.flatMap blcells).set (b*6+4) v=(l.set b ⟨y.ins,y.insv,⟨y.fin.op,y.fin.a,y.fin.b,tl,v,y.fin.imm⟩⟩).flatMap blcells
 | [],b,y,tl,v,h=>by cases h
 | a::r,0,y,tl,v,h=>by
  cases h
  rw[List.flatMap_cons,List.set_cons_zero,List.flatMap_cons]
  simp only[blcells,List.cons_append,List.nil_append,Nat.zero_mul,Nat.zero_add,List.set_cons_zero,List.set_cons_succ]
 | a::r,b+1,y,tl,v,h=>by
  rw[List.flatMap_cons,List.set_append_right _ _ (by rw[YE];omega),YE,show (b+1)*6+4-6=b*6+4 from by omega,flat_to r b y tl v h]
  rfl
theorem row_setTo {B : Nat} {w : World} {g cap n:Nat} {l : List ZD} {b : Nat} {y : ZD} (tl:List Int) (v:Value) (h:OwnRow blcells 6 34 B w (.slice (some ⟨g,0,none⟩) n cap) l) (hb:l[b]? = some y) :
  OwnRow blcells 6 34 B (w.setCell ⟨g,b*6+4,none⟩ v) (.slice (some ⟨g,0,none⟩) n cap) (l.set b ⟨y.ins,y.insv,⟨y.fin.op,y.fin.a,y.fin.b,tl,v,y.fin.imm⟩⟩):=by
 obtain⟨a',c',e⟩:=Zf (show w.ownsRow _ _ _ _ _ _ from h)
 have hn:n=l.length:=by cases e;rfl
 subst hn
 have h1:=YS (show w.ownsRow _ _ _ _ _ _ from h) (b*6+4) v
 rw[flat_to l b y tl v hb]at h1
 unfold OwnRow
 rw[List.length_set]
 exact h1
structure OwnB (B:Nat) (w:World) (x y:ZD):Prop where
 ins:y.ins=x.ins
 fin:y.fin.op=x.fin.op∧y.fin.a=x.fin.a∧y.fin.b=x.fin.b∧y.fin.to=x.fin.to∧y.fin.imm=x.fin.imm
 insv:OwnRow plcells 9 38 B w y.insv y.ins
 tov:w.ownsRow B 3 1 y.fin.tov y.fin.to.length (y.fin.to.map (Value.int .i64))
theorem OwnB.keep {B : Nat} {w w':World} {x y:ZD} (h:OwnB B w x y) (s:Since w w'):OwnB B w' x y:=⟨h.ins,h.fin,Zs h.insv s,Zs h.tov s⟩
theorem OwnB.turn {B : Nat} {w w':World} {x y:ZD} {T : Nat→Prop} {U : TypeId} (h:OwnB B w x y) (t:Turn T w w') (k:Kin w U T) (h1:38≠U) (h2:3≠U):OwnB B w' x y:=
 ⟨h.ins,h.fin,Zj (show w.ownsRow _ _ _ _ _ _ from h.insv) t (k.apart (show w.ownsRow _ _ _ _ _ _ from h.insv) h1),Zj h.tov t (k.apart h.tov h2)⟩
theorem own_kin {B g n c:Nat} {w : World} {l : List ZD} (h:OwnRow blcells 6 34 B w (.slice (some ⟨g,0,none⟩) n c) l):Kin w 34 (fun q=>q=g):=fun q e=>by
 obtain⟨cur,hc⟩:=XZ (show w.ownsRow _ _ _ _ _ _ from h) (q:=g) rfl
 exact⟨cur,by rw[e];exact hc⟩
structure OwS (w0:World) (g n c:Nat) (pbl cur:List ZD) (k:Nat) (w:World):Prop where
 row:OwnRow blcells 6 34 w0.heap.size w (.slice (some ⟨g,0,none⟩) n c) cur
 old:Since w0 w
 len:cur.length=pbl.length
 each:∀ (t:Nat) (x y:ZD),pbl[t]? = some x→cur[t]? = some y→(t<k→OwnB w0.heap.size w x y)∧(k≤t→y=x)
theorem OwS.keep {w0 w w':World} {g n c k:Nat} {pbl cur:List ZD} (h:OwS w0 g n c pbl cur k w) (s:Since w w'):OwS w0 g n c pbl cur k w':=
 ⟨Zs h.row s,h.old.trans s,h.len,fun t x y hx hy=>⟨fun ht=>((h.each t x y hx hy).1 ht).keep s,(h.each t x y hx hy).2⟩⟩
theorem OwS.low {w0 w:World} {g n c k:Nat} {pbl cur:List ZD} (h:OwS w0 g n c pbl cur k w):w0.heap.size≤g:=(World.ownsRow.lt (show w.ownsRow _ _ _ _ _ _ from h.row) g rfl).1
theorem OwS.at {w0 w:World} {g n c k:Nat} {pbl cur:List ZD} (h:OwS w0 g n c pbl cur k w) {x : ZD} (hx:pbl[k]? = some x):cur[k]? = some x:=by
 have hl:k<cur.length:=by have:=(List.getElem?_eq_some_iff.1 hx).1;have:=h.len;omega
 have h1:=(h.each k x _ hx (List.getElem?_eq_getElem hl)).2 (Nat.le_refl _)
 rw[List.getElem?_eq_getElem hl,h1]
theorem OwS.step {w0 wr w1 w3:World} {g n c k:Nat} {pbl cur:List ZD} (h:OwS w0 g n c pbl cur k wr) {x : ZD} (hx:pbl[k]? = some x) {v5 v6:Value} (s1:Since wr w1)
  (o5:w1.ownsRow wr.heap.size 38 9 v5 x.ins.length (x.ins.flatMap plcells)) (s3:Since (w1.setCell ⟨g,k*6,none⟩ v5) w3)
  (o6:w3.ownsRow (w1.setCell ⟨g,k*6,none⟩ v5).heap.size 3 1 v6 x.fin.to.length (x.fin.to.map (Value.int .i64))) :
  OwS w0 g n c pbl (cur.set k ⟨x.ins,v5,⟨x.fin.op,x.fin.a,x.fin.b,x.fin.to,v6,x.fin.imm⟩⟩) (k+1) (w3.setCell ⟨g,k*6+4,none⟩ v6):=by
 have hk:=h.at hx
 have hkl:k<cur.length:=(List.getElem?_eq_some_iff.1 hk).1
 have h1:=h.keep s1
 have r2:=ZaO x.ins v5 h1.row hk
 have t2:Turn (fun q=>q=g) w1 (w1.setCell ⟨g,k*6,none⟩ v5):=(Turn.refl (fun q=>q=g) w1).setCell (p:=⟨g,k*6,none⟩) rfl _
 have k1:=own_kin h1.row
 have r3:=Zs (show World.ownsRow _ _ _ _ _ _ _ from r2) s3
 have r4:=row_setTo x.fin.to v6 (show OwnRow blcells 6 34 _ w3 _ _ from r3) (List.getElem?_set_self (by exact hkl))
 have t4:Turn (fun q=>q=g) w3 (w3.setCell ⟨g,k*6+4,none⟩ v6):=(Turn.refl (fun q=>q=g) w3).setCell (p:=⟨g,k*6+4,none⟩) rfl _
 have k3:=own_kin (show OwnRow blcells 6 34 _ w3 _ _ from r3)
 have hlow:=h.low
 have sz1:wr.heap.size≤w1.heap.size:=s1.size
 have sz2:w1.heap.size≤(w1.setCell ⟨g,k*6,none⟩ v5).heap.size:=t2.size
 have old:=h.old.size
 rw[List.set_set]at r4
 refine⟨r4,t4.toSince ((t2.toSince h1.old fun q hq e=>by omega).trans s3) (fun q hq e=>by omega),by rw[List.length_set];exact h.len,fun t x' y hx' hy=>?_⟩
 by_cases e:t=k
 ·subst e
  rw[hx]at hx'
  cases hx'
  rw[List.getElem?_set_self hkl]at hy
  cases hy
  refine⟨fun _=>⟨rfl,⟨rfl,rfl,rfl,rfl,rfl⟩,?_,?_⟩,fun h=>absurd h (by omega)⟩
  ·have a1:=Zj o5 t2 (k1.apart o5 (by decide))
   have a2:=Zs a1 s3
   have a3:=Zj a2 t4 (k3.apart a2 (by decide))
   exact Vw a3 old
  ·have a3:=Zj o6 t4 (k3.apart o6 (by decide))
   exact Vw a3 (by omega)
 ·rw[List.getElem?_set_ne (fun e2=>e e2.symm)]at hy
  have a:=h1.each t x' y hx' hy
  refine⟨fun ht=>?_,fun ht=>a.2 (by omega)⟩
  have a1:=(a.1 (by omega)).turn t2 k1 (by decide) (by decide)
  exact (a1.keep s3).turn t4 k3 (by decide) (by decide)
theorem pls_blk {w : World} {v : Value} {l : List ZD} (h:Zdg w v l) {t : Nat} {x : ZD} (hx:l[t]? = some x):JF w x:=RowIn.each_of h _ (List.mem_of_getElem? hx)
structure OwnG (B:Nat) (w:World) (p q:Z2):Prop where
 params:q.params=p.params
 k:q.k=p.k
 slots:q.slots=p.slots
 row:OwnRow blcells 6 34 B w q.bv q.blocks
 len:q.blocks.length=p.blocks.length
 each:∀ (t:Nat) (x y:ZD),p.blocks[t]? = some x→q.blocks[t]? = some y→OwnB B w x y
set_option maxHeartbeats 4000000 in
set_option maxRecDepth 100000 in
theorem own12_any (p:Z2) (w:World) (hp:Xu w p) (h0:0<p.blocks.length) (hto:∀ x∈p.blocks,x.fin.to.length≤100000) :
  Calls Tryz.prog 9 #[pv p] w (fun e w'=>∃ q:Z2,e=.returned (pv q)∧OwnG w.heap.size w' p q∧Since w w'):=by
 obtain⟨pp,pk,ps,pbl,pbv⟩:=p
 obtain⟨pa,pc,hpv,_⟩:=RowIn.shape hp.1
 obtain⟨n,hnn⟩:∃ z,pbl.length=z:=⟨_,rfl⟩
 dsimp only at hpv h0 hto
 have hn1:n≤100000:=by rw[←hnn];exact hp.2
 rw[hnn]at hpv h0
 subst hpv
 have HP:=Lib.hid (show Zdg w (.slice pa n pc) pbl from hp.1)
 have HN:=Lib.hid hnn
 have HTO:=Lib.hid hto
 have HSRC:=Lib.hid (show JB w (.slice pa n pc) n (pbl.flatMap blcells) from by have h:=Zc9 HP.out;rw[hnn]at h;exact h)
 have HONE:=Lib.hid (Zda HP.out)
 have HFL:=Lib.hid (show (pbl.flatMap blcells).length=n*6 from by rw[Zcj,hnn])
 clear hp hnn hto
 unfold pv
 dsimp only
 go_enter Tryz.func9,Tryz.ntmps9
 go_upto_region 1 with fail
 obtain⟨w1,hw1⟩:∃ z,z=(w.alloc (.cells #[.int .i64 pp,.int .i64 pk,.int .i64 ps,.slice pa n pc] 27)).alloc (.cells #[.int .i64 0,.int .i64 0,.int .i64 0,.slice none 0 0] 27):=⟨_,rfl⟩
 obtain⟨pb,hpb⟩:∃ z,z=w.heap.size:=⟨_,rfl⟩
 obtain⟨rb,hrb⟩:∃ z,z=w.heap.size+1:=⟨_,rfl⟩
 have HPB:=Lib.hid (show HeapIs w1 pb #[.int .i64 pp,.int .i64 pk,.int .i64 ps,.slice pa n pc] 27 from by rw[hw1,hpb];exact (HeapIs.new _ _ _).keep ((Since.refl _).alloc _))
 have HRB:=Lib.hid (show HeapIs w1 rb #[.int .i64 0,.int .i64 0,.int .i64 0,.slice none 0 0] 27 from by
  have h:=HeapIs.new (w.alloc (.cells #[.int .i64 pp,.int .i64 pk,.int .i64 ps,.slice pa n pc] 27)) #[.int .i64 0,.int .i64 0,.int .i64 0,.slice none 0 0] 27
  rw[hw1,hrb]
  simpa using h)
 have HS1:=Lib.hid (show Since w w1 from by rw[hw1];exact ((Since.refl _).alloc _).alloc _)
 have HPL:=Lib.hid (And.intro HPB.out.lt HRB.out.lt)
 have HLT:=Lib.hid (show w.heap.size≤pb∧w.heap.size≤rb∧pb≠rb from by omega)
 have HBW:=Lib.hid (show ∀ q,(Value.slice pa n pc).ownBlock=some q→q<w.heap.size from fun q hq=>by
  rcases HP.out with ⟨_,h1,h2⟩|⟨b,off,cap,h1,_,_,h2,_⟩
  ·cases h1;omega
  ·cases h1;cases hq;exact h2)
 have hp3:=HPB.out.cell 3
 have hpl:=HPB.out.lt
 rw[←hw1,←hrb,←hpb]
 clear hw1 hrb hpb
 go_upto_region 2 with (at_builtin;(refine Yt (w0:=w1) rfl _ _ 25 rfl 34 (.agg #[.slice none 0 0,.int .i64 0,.int .i64 0,.int .i64 0,.slice none 0 0,.int .i32 0]) 6 80 Tryz.underlying25 (by kernel_rfl) rfl (by decide) (by decide) (.slice (some ⟨w1.heap.size,0,none⟩) 0 0) (.slice pa n pc) n (pbl.flatMap blcells) rfl rfl (IsNilOf.new (Nat.le_refl _)) (HSRC.out.keep HBW.out (HS1.out.trans ((Since.refl _).alloc _))) HFL.out hn1 HONE.out (by simp) ?_);(intro v2 w2 hown2 hs2;obtain⟨g,c,hv2,hg,hgl,hrow⟩:=Zao hown2 HN.out h0;subst hv2;have HROW:=Lib.hid hrow;have HS12:=Lib.hid (((Since.refl w1).alloc _).trans hs2);have HG:=Lib.hid (And.intro hg hgl);clear hown2 hs2 hrow hg hgl hp3 hpl))
 have HPB2:=Lib.hid (HPB.out.keep HS12.out)
 have HRB2:=Lib.hid (HRB.out.keep HS12.out)
 have HO2:=Lib.hid (show OwS w g n c pbl pbl 0 w2 from⟨Vw (show w2.ownsRow _ _ _ _ _ _ from HROW.out) HS1.out.size,HS1.out.trans HS12.out,rfl,fun t x y hx hy=>⟨fun h=>absurd h (by omega),fun _=>Option.some.inj (hy.symm.trans hx)⟩⟩)
 clear HROW
 go_wp2_with fail
 go_loopw [4] (fun iv wr=>∃ (k:Nat) (cur:List ZD),iv=.int .i64 k∧k≤n∧OwS w g n c pbl cur k wr∧HeapIs wr pb #[.int .i64 pp,.int .i64 pk,.int .i64 ps,.slice pa n pc] 27∧HeapIs wr rb #[.int .i64 0,.int .i64 0,.int .i64 0,.slice none 0 0] 27) (fun iv _=>n-(intOf iv).toNat)
 case atStart=>exact⟨0,pbl,rfl,Nat.zero_le _,HO2.out,HPB2.out,HRB2.out⟩
 case round =>
  obtain⟨k,cur,rfl,hk,ho,hpb,hrb⟩:=hrel
  have HO:=Lib.hid ho
  have HPBr:=Lib.hid hpb
  have HRBr:=Lib.hid hrb
  clear ho hpb hrb HPB2 HRB2 HO2 HPB HRB
  by_cases hlt:k<n
  ·obtain⟨x,hx⟩:∃ x,pbl[k]? = some x:=⟨_,List.getElem?_eq_getElem (by rw[HN.out];exact hlt)⟩
   have hbk:=pls_blk HP.out hx
   have hto:=HTO.out x (List.mem_of_getElem? hx)
   obtain⟨ins,insv,fop,fa,fb,fto,ftov,fimm⟩:=x
   obtain⟨ia,ic,hiv,_⟩:=RowIn.shape hbk.1
   obtain⟨ta,tc,htv⟩:=Zb hbk.2.1
   dsimp only at hiv htv hto
   have hkb:=hbk.2.2
   dsimp only at hkb
   obtain⟨kn,hkn⟩:∃ z,ins.length=z:=⟨_,rfl⟩
   obtain⟨tn,htn⟩:∃ z,fto.length=z:=⟨_,rfl⟩
   rw[hkn]at hiv hkb
   rw[htn]at htv hto
   subst hiv htv
   have HX:=Lib.hid hx
   have HKN:=Lib.hid hkn
   have HTN:=Lib.hid htn
   have HSI:=Lib.hid (show JB w (.slice ia kn ic) kn (ins.flatMap plcells) from by have h:=Zdy hbk.1;dsimp only at h;rw[hkn]at h;exact h)
   have HOI:=Lib.hid (Zdz hbk.1)
   have HFI:=Lib.hid (show (ins.flatMap plcells).length=kn*9 from by rw[ZcD,hkn])
   have HIB:=Lib.hid (show ∀ q,(Value.slice ia kn ic).ownBlock=some q→ins.flatMap plcells=[]∨q<w.heap.size from fun q hq=>by
    rcases pls_where (show Pls w (.slice ia kn ic) ins from hbk.1) with ⟨_,_,h⟩|⟨b,off,rfl,hb,_⟩
    ·exact .inl (by rw[h];rfl)
    ·cases hq;exact .inr hb)
   have HTB:=Lib.hid (show ∀ q,(Value.slice ta tn tc).ownBlock=some q→fto.map (Value.int .i64)=[]∨q<w.heap.size from fun q hq=>by
    rcases (show Zi w (.slice ta tn tc) fto from hbk.2.1) with ⟨_,_,h⟩|⟨b,off,cap,h1,_,_,hb,_⟩
    ·exact .inl (by rw[h];rfl)
    ·cases h1;cases hq;exact .inr hb)
   have HST:=Lib.hid (show JB w (.slice ta tn tc) tn (fto.map (Value.int .i64)) from by have h:=Ju hbk.2.1;dsimp only at h;rw[htn]at h;exact h)
   have HFT:=Lib.hid (show (fto.map (Value.int .i64)).length=tn*1 from by rw[List.length_map,htn,Nat.mul_one])
   have HOT:=Lib.hid (show ∀ u∈fto.map (Value.int .i64),u.oneCell'=true from fun u hu=>by obtain⟨z,_,rfl⟩:=List.mem_map.1 hu;rfl)
   have hc:=ZaX YE HO.out.row (HO.out.at hx)
   have hc0:wr.cell? ⟨g,k*6,none⟩=some (.slice ia kn ic):=hc.1 0 (by decide)
   have hcl:=hc.2.1
   have hcf:=hc.2.2
   clear hx hkn htn hbk hc
   go_wp2_with (at_builtin;first | ((refine Yt (w0:=wr) rfl _ _ 30 rfl 38 (.agg #[.int .i64 0,.int .i64 0,.int .i64 0,.int .i64 0,.int .i64 0,.int .i64 0,.int .i32 0,.slice none 0 0,.int .i64 0]) 9 88 Tryz.underlying30 (by kernel_rfl) rfl (by decide) (by decide) (.slice (some ⟨wr.heap.size,0,none⟩) 0 0) (.slice ia kn ic) kn (ins.flatMap plcells) rfl rfl (IsNilOf.new (Nat.le_refl _)) (HSI.out.keep2 HIB.out (HO.out.old.trans ((Since.refl _).alloc _))) HFI.out hkb HOI.out (by simp) ?_);(intro v5 w5 ho5 hs5;obtain⟨a5,c5,hv5⟩:=Zf ho5;subst hv5;have HS5:=Lib.hid (((Since.refl wr).alloc _).trans hs5);have HO5:=Lib.hid ho5;have hr:=(HO.out.keep HS5.out);have hc:=ZaX YE hr.row (hr.at HX.out);have hr2:=ZaX YE (ZaO ins (.slice a5 kn c5) hr.row (hr.at HX.out)) (List.getElem?_set_self (List.getElem?_eq_some_iff.1 (hr.at HX.out)).1);clear hc0 hcl hcf ho5 hs5 hr;have hcl:=hc.2.1;have hcf:=hc.2.2;have hc0:w5.cell? ⟨g,k*6,none⟩=some (.slice ia kn ic):=hc.1 0 (by decide);have hc4:(w5.setCell ⟨g,k*6,none⟩ (.slice a5 kn c5)).cell? ⟨g,k*6+1+3,none⟩=some (.slice ta tn tc):=hr2.1 4 (by decide);have hc5:w5.cell? ⟨g,k*6+1+3,none⟩=some (.slice ta tn tc):=hc.1 4 (by decide);clear hc hr2)) | (
    have hz:w5.heap.size=(w5.setCell ⟨g,k*6,none⟩ (.slice a5 kn c5)).heap.size:=by simp
    rw[hz]
    have HT6:=Lib.hid ((Turn.refl (fun q=>q=g) w5).setCell (p:=⟨g,k*6,none⟩) rfl (.slice a5 kn c5))
    have HS6:=Lib.hid (HT6.out.toSince (HO.out.old.trans HS5.out) fun q hq e=>by have h1:=HG.out.1;have h2:=HS1.out.size;omega)
    have HR6:=Lib.hid (ZaO ins (.slice a5 kn c5) (HO.out.keep HS5.out).row ((HO.out.keep HS5.out).at HX.out))
    have HK6:=Lib.hid (show (cur.set k ⟨ins,.slice a5 kn c5,⟨fop,fa,fb,fto,.slice ta tn tc,fimm⟩⟩)[k]? = some _ from List.getElem?_set_self (List.getElem?_eq_some_iff.1 (HO.out.at HX.out)).1)
    obtain⟨w6,hw6⟩:∃ z,z=w5.setCell ⟨g,k*6,none⟩ (.slice a5 kn c5):=⟨_,rfl⟩
    rw[←hw6]at hc4 ⊢
    have HW6:=Lib.hid hw6
    rw[←hw6]at HT6 HS6 HR6
    clear hw6 hz hc4 hc5 hc0 hcl hcf
    (refine Yt (w0:=w6) rfl _ _ 22 rfl 3 (.int .i64 0) 1 8 Tryz.underlying22 (by kernel_rfl) rfl (by decide) (by decide) (.slice (some ⟨w6.heap.size,0,none⟩) 0 0) (.slice ta tn tc) tn (fto.map (Value.int .i64)) rfl rfl (IsNilOf.new (Nat.le_refl _)) (HST.out.keep2 HTB.out (HS6.out.trans ((Since.refl _).alloc _))) HFT.out hto HOT.out (by simp) ?_)
    intro v7 w7 ho7 hs7
    obtain⟨a7,c7,hv7⟩:=Zf ho7
    subst hv7
    have HS7:=Lib.hid (((Since.refl w6).alloc _).trans hs7)
    have HO7:=Lib.hid ho7
    have hc:=ZaX YE (show OwnRow blcells 6 34 _ w7 _ _ from Zs (show World.ownsRow _ _ _ _ _ _ _ from HR6.out) HS7.out) HK6.out
    have hc4:w7.cell? ⟨g,k*6+1+3,none⟩=some (.slice ta tn tc):=hc.1 4 (by decide)
    have hcl:=hc.2.1
    have hcf:=hc.2.2
    clear hc ho7 hs7))
   have hw6:=HW6.out
   subst hw6
   have HT8:=Lib.hid ((Turn.refl (fun q=>q=g) w7).setCell (p:=⟨g,k*6+1+3,none⟩) rfl (.slice a7 tn c7))
   have hne:=HPL.out
   have hgl:=HG.out.1
   refine⟨⟨k+1,_,by push_cast;rfl,by omega,HO.out.step HX.out HS5.out (show w5.ownsRow _ _ 9 _ ins.length _ from by rw[HKN.out];exact HO5.out) HS7.out (show w7.ownsRow _ _ 1 _ fto.length _ from by rw[HTN.out];exact HO7.out),?_,?_⟩,by simp[intOf];omega⟩
   ·exact (((HPBr.out.keep HS5.out).turn HT6.out (by omega)).keep HS7.out).turn HT8.out (by omega)
   ·exact (((HRBr.out.keep HS5.out).turn HT6.out (by omega)).keep HS7.out).turn HT8.out (by omega)
  ·obtain rfl:n=k:=by omega
   have hp:=HPBr.out
   have hp0:=hp.cell 0
   have hp1:=hp.cell 1
   have hp2:=hp.cell 2
   have hp3:=hp.cell 3
   have hpl:=hp.lt
   have hpf:=hp.frozen
   have hr:=HRBr.out
   have hr0:=hr.cell 0
   have hr1:=hr.cell 1
   have hr2:=hr.cell 2
   have hr3:=hr.cell 3
   have hrl:=hr.lt
   have hrf:=hr.frozen
   have hne:¬ pb=rb:=HLT.out.2.2
   have hne2:¬ rb=pb:=fun e=>HLT.out.2.2 e.symm
   clear hp hr
   go_wp2_with fail
   have t1:Turn (fun q=>q=pb∨q=rb) wr (wr.setCell ⟨pb,3,none⟩ (.slice (some ⟨g,0,none⟩) n c)):=(Turn.refl (fun q=>q=pb∨q=rb) wr).setCell (p:=⟨pb,3,none⟩) (.inl rfl) _
   have t5:=(((t1.setCell (p:=⟨rb,0,none⟩) (.inr rfl) (.int .i64 pp)).setCell (p:=⟨rb,1,none⟩) (.inr rfl) (.int .i64 pk)).setCell (p:=⟨rb,2,none⟩) (.inr rfl) (.int .i64 ps)).setCell (p:=⟨rb,3,none⟩) (.inr rfl) (.slice (some ⟨g,0,none⟩) n c)
   have hb:=HRBr.out.turn ((Turn.refl (fun q=>q=pb) wr).setCell (p:=⟨pb,3,none⟩) rfl (.slice (some ⟨g,0,none⟩) n c)) hne2
   have hres:=(((hb.set 0 (.int .i64 pp)).set 1 (.int .i64 pk)).set 2 (.int .i64 ps)).set 3 (.slice (some ⟨g,0,none⟩) n c)
   have hkin:Kin wr 27 (fun q=>q=pb∨q=rb):=fun q e=>by
    rcases e with rfl|rfl
    ·exact⟨_,HPBr.out⟩
    ·exact⟨_,HRBr.out⟩
   try simp only[Exit.inBlock,Exit.then]
   refine bodyPost_ret (results_cell_row rfl _ _ rb 27 #[.int .i64 pp,.int .i64 pk,.int .i64 ps,.slice (some ⟨g,0,none⟩) n c] (0,0) _ rfl hres Tryz.underlying27 rfl (by kernel_rfl)) rfl ?_
   refine⟨⟨pp,pk,ps,cur,.slice (some ⟨g,0,none⟩) n c⟩,rfl,⟨rfl,rfl,rfl,Zj (show wr.ownsRow _ _ _ _ _ _ from HO.out.row) t5 (hkin.apart (show wr.ownsRow _ _ _ _ _ _ from HO.out.row) (by decide)),HO.out.len,fun t x y hx hy=>?_⟩,t5.toSince HO.out.old fun q hq e=>by have:=HLT.out;omega⟩
   exact ((HO.out.each t x y hx hy).1 (by have:=(List.getElem?_eq_some_iff.1 hx).1;have h:=HN.out;dsimp only at this;omega)).turn t5 hkin (by decide) (by decide)
end Go.Proofs.YtimpddecdodddaaGreat
namespace Go.Proofs.YtimpddecdodddaaGreat
open Go.RowKit Go.ChangeShapes Go.WideShapes
set_option linter.unusedVariables false
def LowPl (B:Nat) (w:World) (z:PlV):Prop:=Zi w z.av z.m.args∧Yw z.m∧∀ q,z.av.ownBlock=some q→q<B
structure PsB (B:Nat) (w:World) (y:ZD):Prop where
 insv:OwnRow plcells 9 38 B w y.insv y.ins
 tov:w.ownsRow B 3 1 y.fin.tov y.fin.to.length (y.fin.to.map (Value.int .i64))
 low:∀ z∈y.ins,LowPl B w z
 few:y.ins.length≤100000
structure PsR (B g n c:Nat) (bl:List ZD) (w:World):Prop where
 row:OwnRow blcells 6 34 B w (.slice (some ⟨g,0,none⟩) n c) bl
 each:∀ y∈bl,PsB B w y
section
variable {B g n c:Nat} {bl:List ZD} {w w':World}
theorem PsR.turn {T : Nat→Prop} {U : TypeId} (h:PsR B g n c bl w) (t:Turn T w w') (k:Kin w U T) (hn:¬ T g) (h1:38≠U) (h2:3≠U) (hl:∀ q,T q→B≤q):PsR B g n c bl w':=
 ⟨Zj (show w.ownsRow _ _ _ _ _ _ from h.row) t fun q hq=>(by cases hq;exact hn),fun y hy=>⟨Zj (show w.ownsRow _ _ _ _ _ _ from (h.each y hy).insv) t (k.apart (show w.ownsRow _ _ _ _ _ _ from (h.each y hy).insv) h1),Zj (h.each y hy).tov t (k.apart (h.each y hy).tov h2),
  fun z hz=>⟨((h.each y hy).low z hz).1.turn t fun q hq e=>by have:=((h.each y hy).low z hz).2.2 q hq;have:=hl q e;omega,((h.each y hy).low z hz).2⟩,(h.each y hy).few⟩⟩
theorem PsR.keep (h:PsR B g n c bl w) (s:Since w w'):PsR B g n c bl w':=
 ⟨Zs h.row s,fun y hy=>⟨Zs (h.each y hy).insv s,Zs (h.each y hy).tov s,fun z hz=>⟨((h.each y hy).low z hz).1.keep s,((h.each y hy).low z hz).2⟩,(h.each y hy).few⟩⟩
theorem PsR.lt (h:PsR B g n c bl w):B≤g∧g<w.heap.size:=World.ownsRow.lt (show w.ownsRow _ _ _ _ _ _ from h.row) g rfl
theorem PsR.set (h:PsR B g n c bl w) {b : Nat} {y : ZD} (hy:bl[b]? = some y) {v : Value} {ins:List PlV} {B':Nat} (ho:w.ownsRow B' 38 9 v ins.length (ins.flatMap plcells)) (hB:B≤B') (hl:∀ z∈ins,LowPl B w z) (hf:ins.length≤100000) :
  PsR B g n c (bl.set b ⟨ins,v,y.fin⟩) (w.setCell ⟨g,b*6,none⟩ v):=by
 have t:Turn (fun q=>q=g) w (w.setCell ⟨g,b*6,none⟩ v):=(Turn.refl (fun q=>q=g) w).setCell (p:=⟨g,b*6,none⟩) rfl _
 have k:=own_kin h.row
 have hB2:∀ q,q=g→B≤q:=fun q e=>by rw[e];exact h.lt.1
 have low:∀ {l : List PlV},(∀ z∈l,LowPl B w z)→∀ z∈l,LowPl B (w.setCell ⟨g,b*6,none⟩ v) z:=fun hh z hz=>⟨(hh z hz).1.turn t fun q hq e=>by have:=(hh z hz).2.2 q hq;have:=hB2 q e;omega,(hh z hz).2⟩
 refine⟨ZaO ins v h.row hy,fun z hz=>?_⟩
 rcases List.mem_or_eq_of_mem_set hz with hz|rfl
 ·have e:=h.each z hz
  exact⟨Zj (show w.ownsRow _ _ _ _ _ _ from e.insv) t (k.apart (show w.ownsRow _ _ _ _ _ _ from e.insv) (by decide)),Zj e.tov t (k.apart e.tov (by decide)),low e.low,e.few⟩
 ·have e:=h.each y (List.mem_of_getElem? hy)
  exact⟨Vw (Zj ho t (k.apart ho (by decide))) hB,Zj e.tov t (k.apart e.tov (by decide)),low hl,hf⟩
theorem PsR.blk (h:PsR B g n c bl w) (hB:B≤w.heap.size):∀ y∈bl,JF w y:=fun y hy =>
 ⟨Yl ZE (h.each y hy).insv fun z hz=>⟨((h.each y hy).low z hz).1,((h.each y hy).low z hz).2.1,fun q hq=>Nat.lt_of_lt_of_le (((h.each y hy).low z hz).2.2 q hq) hB⟩,ZF (h.each y hy).tov,(h.each y hy).few⟩
theorem PsR.ok {a k s:Int} (h:PsR B g n c bl w) (hB:B≤w.heap.size) (hf:bl.length≤100000):Xu w ⟨a,k,s,bl,.slice (some ⟨g,0,none⟩) n c⟩:=⟨Yl YE h.row fun y hy=>h.blk hB y hy,hf⟩
end
theorem psr_own {B B':Nat} {w : World} {p q:Z2} {g n c:Nat} (h:OwnG B' w p q) (hB:B≤B') (hv:q.bv=.slice (some ⟨g,0,none⟩) n c) (hp:∀ x∈p.blocks,x.ins.length≤100000∧∀ z∈x.ins,LowPl B w z):PsR B g n c q.blocks w:=by
 refine⟨by have:=h.row;rw[hv]at this;exact Vw (show w.ownsRow _ _ _ _ _ _ from this) hB,fun y hy=>?_⟩
 obtain⟨t,ht⟩:=List.getElem?_of_mem hy
 have hl:t<p.blocks.length:=by have:=(List.getElem?_eq_some_iff.1 ht).1;rw[h.len]at this;exact this
 have e:=h.each t _ y (List.getElem?_eq_getElem hl) ht
 have hx:=hp _ (List.getElem_mem hl)
 exact⟨Vw (show w.ownsRow _ _ _ _ _ _ from e.insv) hB,Vw e.tov hB,fun z hz=>hx.2 z (by rw[←e.ins];exact hz),by rw[e.ins];exact hx.1⟩
theorem laid_in {B':Nat} {w : World} {p q:Z2} (h:OwnG B' w p q) {b : Nat} {x y:ZD} (hx:p.blocks[b]? = some x) (hy:q.blocks[b]? = some y) (i:Nat) (M:List PlV) (ins:List PlV) (v:Value) (bv:Value) (S:Int)
  (hm:(ins.map fun z=>z.m)=(x.ins.map fun z=>z.m).take i++((M.map fun z=>z.m)++(x.ins.map fun z=>z.m).drop i)) :
  Xx p ⟨p.params,p.k,S,q.blocks.set b ⟨ins,v,y.fin⟩,bv⟩ b i (M.map fun z=>z.m) S:=by
 refine⟨rfl,rfl,rfl,by rw[List.length_set,h.len],fun t x' y' hx' hy'=>?_⟩
 dsimp only at hy'
 by_cases e:t=b
 ·subst e
  rw[hx]at hx'
  cases hx'
  rw[List.getElem?_set_self (List.getElem?_eq_some_iff.1 hy).1]at hy'
  cases hy'
  have f:=(h.each t x y hx hy).fin
  rw[if_pos rfl]
  exact⟨(Xz _ _).2 ⟨f.1.symm,f.2.1.symm,f.2.2.1.symm,f.2.2.2.2.symm,f.2.2.2.1.symm⟩,hm⟩
 ·rw[List.getElem?_set_ne (fun e2=>e e2.symm)]at hy'
  have e2:=h.each t x' y' hx' hy'
  have f:=e2.fin
  rw[if_neg e,e2.ins]
  exact⟨(Xz _ _).2 ⟨f.1.symm,f.2.1.symm,f.2.2.1.symm,f.2.2.2.2.symm,f.2.2.2.1.symm⟩,rfl⟩
theorem and3_few (n:Int):∃ c:Nat,bits .and .i64 n 3=(c:Int)∧c<4:=by
 have h:(BitVec.ofInt 64 3).toNat=2 ^ 2-1:=by decide
 have key:(BitVec.ofInt 64 n &&& BitVec.ofInt 64 3).toNat=(n % ((2 ^ 64:Nat):Int)).toNat % 2 ^ 2:=by
  rw[BitVec.toNat_and,BitVec.toNat_ofInt,h,Nat.and_two_pow_sub_one_eq_mod]
 refine⟨(n % ((2 ^ 64:Nat):Int)).toNat % 4,?_,Nat.mod_lt _ (by decide)⟩
 show IntKind.i64.wrap ((BitVec.ofInt 64 n &&& BitVec.ofInt 64 3).toNat:Nat)=_
 rw[key,IntKind.wrap_i64]
 omega
theorem and64_rest (n:Int) (m:Nat) (hm:0<m):∃ q:Nat,(bits .and .i64 n 65535).tmod (m:Int)=(q:Int)∧q<m:=by
 have h:=ZeJ n
 have h1:0≤n % 65536:=Int.emod_nonneg _ (by omega)
 refine⟨((n % 65536) % (m:Int)).toNat,?_,?_⟩
 ·rw[h,Int.tmod_eq_emod_of_nonneg h1,Int.toNat_of_nonneg (Int.emod_nonneg _ (by omega))]
 ·have h2:=Int.emod_lt_of_pos (n % 65536) (show (0:Int)<m by omega)
  have h3:=Int.emod_nonneg (n % 65536) (show (m:Int)≠0 by omega)
  omega
def NewR (cs:Array Value) (T:TypeId) (n:Nat) (v:Value) (w:World):Prop:=∃ g,v=.slice (some ⟨g,0,none⟩) n n∧HeapIs w g cs T
theorem NewR.stable (cs:Array Value) (T:TypeId) (n:Nat):ZM (NewR cs T n):=fun v w w' ⟨g,h1,h2⟩ s=>⟨g,h1,h2.keep s⟩
def OwnP (B n:Nat) (l:List PlV) (v:Value) (w:World):Prop:=w.ownsRow B 38 9 v n (l.flatMap plcells)
theorem OwnP.stable (B n:Nat) (l:List PlV):ZM (OwnP B n l):=fun v w w' h s=>Zs h s
theorem low_nil {B : Nat} {w : World} {m : Mach} (hm:m.args=[]) (hf:Yw m) (src:Int):LowPl B w ⟨m,.slice none 0 0,src⟩:=⟨by rw[hm];exact .inl ⟨none,rfl,rfl⟩,hf,fun q hq=>by cases hq⟩
theorem pls_low {w : World} {B : Nat} {v : Value} {l : List PlV} (h:RowIn plcells 9 (fun _ _=>True) w v l) (hl:∀ z∈l,LowPl B w z) (hB:B≤w.heap.size):Pls w v l:=by
 have ok:∀ z∈l,J3 w z:=fun z hz=>⟨(hl z hz).1,(hl z hz).2.1,fun q hq=>Nat.lt_of_lt_of_le ((hl z hz).2.2 q hq) hB⟩
 rcases h with h|⟨b,off,cap,h1,h2,h3,h4,h5⟩
 ·exact .inl h
 ·exact .inr ⟨b,off,cap,h1,h2,h3,h4,fun j x hj=>⟨(h5 j x hj).1,ok x (List.mem_of_getElem? hj)⟩⟩
theorem Vp.few {n : Int} {e : Yb} (h:Vp n e):e.to.length≤100000:=by
 have h1:=h.fits
 unfold XC at h1
 repeat' split at h1
 all_goals first | (simp only[Bool.and_eq_true,decide_eq_true_eq]at h1;omega) | (cases h1;done)
theorem own_shape1 {B : Nat} {w : World} {pp pk ps:Int} {pbl:List ZD} {v : Value} {q : Z2} {n : Nat} (h:OwnG B w ⟨pp,pk,ps,pbl,v⟩ q) (hn:pbl.length=n) (h0:0<n):∃ g c bl,q=⟨pp,pk,ps,bl,.slice (some ⟨g,0,none⟩) n c⟩∧B≤g∧g<w.heap.size∧bl.length=n:=by
 obtain⟨qp,qk,qs,bl,bv⟩:=q
 have hl:bl.length=n:=h.len.trans hn
 obtain⟨g,c,hv,h1,h2,_⟩:=Zao (show w.ownsRow B 34 6 bv n (bl.flatMap blcells) from by rw[←hl];exact h.row) hl h0
 have e1:qp=pp:=h.params
 have e2:qk=pk:=h.k
 have e3:qs=ps:=h.slots
 exact⟨g,c,bl,by rw[hv,e1,e2,e3],h1,h2,hl⟩
theorem low_keep {B : Nat} {w w':World} {bl:List ZD} (h:∀ x∈bl,x.ins.length≤100000∧∀ z∈x.ins,LowPl B w z) (s:Since w w'):∀ x∈bl,x.ins.length≤100000∧∀ z∈x.ins,LowPl B w' z:=fun x hx=>⟨(h x hx).1,fun z hz=>⟨((h x hx).2 z hz).1.keep s,((h x hx).2 z hz).2⟩⟩
structure PsH (w2:World) (ab pb o1 o2 o3 g0 g1 g2 g3 n c0 c1 c2 c3:Nat) (X:Array Value) (pp pk ps s2:Int) (bl1 bl2 bl3:List ZD) (w:World):Prop where
 old:Since w2 w
 a:HeapIs w ab X 23
 bp:HeapIs w pb #[.int .i64 pp,.int .i64 pk,.int .i64 ps,.slice (some ⟨g0,0,none⟩) n c0] 27
 b1:HeapIs w o1 #[.int .i64 pp,.int .i64 pk,.int .i64 ps,.slice (some ⟨g1,0,none⟩) n c1] 27
 b2:HeapIs w o2 #[.int .i64 pp,.int .i64 pk,.int .i64 s2,.slice (some ⟨g2,0,none⟩) n c2] 27
 b3:HeapIs w o3 #[.int .i64 pp,.int .i64 pk,.int .i64 ps,.slice (some ⟨g3,0,none⟩) n c3] 27
 r1:PsR w2.heap.size g1 n c1 bl1 w
 r2:PsR w2.heap.size g2 n c2 bl2 w
 r3:PsR w2.heap.size g3 n c3 bl3 w
 ne:g1≠g2∧g1≠g3∧g2≠g3
 nb:pb≠o2∧o1≠o2∧o3≠o2∧w2.heap.size≤o2
section
variable {w2 w w':World} {ab pb o1 o2 o3 g0 g1 g2 g3 n c0 c1 c2 c3:Nat} {X : Array Value} {pp pk ps s2:Int} {bl1 bl2 bl3:List ZD}
theorem PsH.keep (h:PsH w2 ab pb o1 o2 o3 g0 g1 g2 g3 n c0 c1 c2 c3 X pp pk ps s2 bl1 bl2 bl3 w) (s:Since w w'):PsH w2 ab pb o1 o2 o3 g0 g1 g2 g3 n c0 c1 c2 c3 X pp pk ps s2 bl1 bl2 bl3 w':=⟨h.old.trans s,h.a.keep s,h.bp.keep s,h.b1.keep s,h.b2.keep s,h.b3.keep s,h.r1.keep s,h.r2.keep s,h.r3.keep s,h.ne,h.nb⟩
theorem PsH.set1 (h:PsH w2 ab pb o1 o2 o3 g0 g1 g2 g3 n c0 c1 c2 c3 X pp pk ps s2 bl1 bl2 bl3 w) {b : Nat} {y : ZD} (hy:bl1[b]? = some y) {v : Value} {ins:List PlV} {B':Nat} (ho:w.ownsRow B' 38 9 v ins.length (ins.flatMap plcells)) (hB:w2.heap.size≤B') (hl:∀ z∈ins,LowPl w2.heap.size w z) (hf:ins.length≤100000) :
  PsH w2 ab pb o1 o2 o3 g0 g1 g2 g3 n c0 c1 c2 c3 X pp pk ps s2 (bl1.set b ⟨ins,v,y.fin⟩) bl2 bl3 (w.setCell ⟨g1,b*6,none⟩ v):=by
 have t:Turn (fun q=>q=g1) w (w.setCell ⟨g1,b*6,none⟩ v):=(Turn.refl (fun q=>q=g1) w).setCell (p:=⟨g1,b*6,none⟩) rfl _
 have k:=own_kin h.r1.row
 have hlow:∀ q,q=g1→w2.heap.size≤q:=fun q e=>by rw[e];exact h.r1.lt.1
 exact⟨t.toSince h.old fun q hq e=>by have:=hlow q e;omega,h.a.turn t (k.heap h.a (by decide)),h.bp.turn t (k.heap h.bp (by decide)),h.b1.turn t (k.heap h.b1 (by decide)),h.b2.turn t (k.heap h.b2 (by decide)),h.b3.turn t (k.heap h.b3 (by decide)),h.r1.set hy ho hB hl hf,h.r2.turn t k (fun e=>h.ne.1 e.symm) (by decide) (by decide) hlow,h.r3.turn t k (fun e=>h.ne.2.1 e.symm) (by decide) (by decide) hlow,h.ne,h.nb⟩
theorem PsH.set2 (h:PsH w2 ab pb o1 o2 o3 g0 g1 g2 g3 n c0 c1 c2 c3 X pp pk ps s2 bl1 bl2 bl3 w) {b : Nat} {y : ZD} (hy:bl2[b]? = some y) {v : Value} {ins:List PlV} {B':Nat} (ho:w.ownsRow B' 38 9 v ins.length (ins.flatMap plcells)) (hB:w2.heap.size≤B') (hl:∀ z∈ins,LowPl w2.heap.size w z) (hf:ins.length≤100000) :
  PsH w2 ab pb o1 o2 o3 g0 g1 g2 g3 n c0 c1 c2 c3 X pp pk ps s2 bl1 (bl2.set b ⟨ins,v,y.fin⟩) bl3 (w.setCell ⟨g2,b*6,none⟩ v):=by
 have t:Turn (fun q=>q=g2) w (w.setCell ⟨g2,b*6,none⟩ v):=(Turn.refl (fun q=>q=g2) w).setCell (p:=⟨g2,b*6,none⟩) rfl _
 have k:=own_kin h.r2.row
 have hlow:∀ q,q=g2→w2.heap.size≤q:=fun q e=>by rw[e];exact h.r2.lt.1
 exact⟨t.toSince h.old fun q hq e=>by have:=hlow q e;omega,h.a.turn t (k.heap h.a (by decide)),h.bp.turn t (k.heap h.bp (by decide)),h.b1.turn t (k.heap h.b1 (by decide)),h.b2.turn t (k.heap h.b2 (by decide)),h.b3.turn t (k.heap h.b3 (by decide)),h.r1.turn t k (fun e=>h.ne.1 e) (by decide) (by decide) hlow,h.r2.set hy ho hB hl hf,h.r3.turn t k (fun e=>h.ne.2.2 e.symm) (by decide) (by decide) hlow,h.ne,h.nb⟩
theorem PsH.set3 (h:PsH w2 ab pb o1 o2 o3 g0 g1 g2 g3 n c0 c1 c2 c3 X pp pk ps s2 bl1 bl2 bl3 w) {b : Nat} {y : ZD} (hy:bl3[b]? = some y) {v : Value} {ins:List PlV} {B':Nat} (ho:w.ownsRow B' 38 9 v ins.length (ins.flatMap plcells)) (hB:w2.heap.size≤B') (hl:∀ z∈ins,LowPl w2.heap.size w z) (hf:ins.length≤100000) :
  PsH w2 ab pb o1 o2 o3 g0 g1 g2 g3 n c0 c1 c2 c3 X pp pk ps s2 bl1 bl2 (bl3.set b ⟨ins,v,y.fin⟩) (w.setCell ⟨g3,b*6,none⟩ v):=by
 have t:Turn (fun q=>q=g3) w (w.setCell ⟨g3,b*6,none⟩ v):=(Turn.refl (fun q=>q=g3) w).setCell (p:=⟨g3,b*6,none⟩) rfl _
 have k:=own_kin h.r3.row
 have hlow:∀ q,q=g3→w2.heap.size≤q:=fun q e=>by rw[e];exact h.r3.lt.1
 exact⟨t.toSince h.old fun q hq e=>by have:=hlow q e;omega,h.a.turn t (k.heap h.a (by decide)),h.bp.turn t (k.heap h.bp (by decide)),h.b1.turn t (k.heap h.b1 (by decide)),h.b2.turn t (k.heap h.b2 (by decide)),h.b3.turn t (k.heap h.b3 (by decide)),h.r1.turn t k (fun e=>h.ne.2.1 e) (by decide) (by decide) hlow,h.r2.turn t k (fun e=>h.ne.2.2 e) (by decide) (by decide) hlow,h.r3.set hy ho hB hl hf,h.ne,h.nb⟩
theorem PsH.slots (h:PsH w2 ab pb o1 o2 o3 g0 g1 g2 g3 n c0 c1 c2 c3 X pp pk ps s2 bl1 bl2 bl3 w) (s3:Int):PsH w2 ab pb o1 o2 o3 g0 g1 g2 g3 n c0 c1 c2 c3 X pp pk ps s3 bl1 bl2 bl3 (w.setCell ⟨o2,2,none⟩ (.int .i64 s3)):=by
 have t:Turn (fun q=>q=o2) w (w.setCell ⟨o2,2,none⟩ (.int .i64 s3)):=(Turn.refl (fun q=>q=o2) w).setCell (p:=⟨o2,2,none⟩) rfl _
 have k:=Kin.box h.b2
 have hlow:∀ q,q=o2→w2.heap.size≤q:=fun q e=>by rw[e];exact h.nb.2.2.2
 exact⟨t.toSince h.old fun q hq e=>by have:=hlow q e;omega,h.a.turn t (k.heap h.a (by decide)),h.bp.turn t h.nb.1,h.b1.turn t h.nb.2.1,h.b2.set 2 _,h.b3.turn t h.nb.2.2.1,h.r1.turn t k (k.apart (show w.ownsRow _ _ _ _ _ _ from h.r1.row) (by decide) _ rfl) (by decide) (by decide) hlow,h.r2.turn t k (k.apart (show w.ownsRow _ _ _ _ _ _ from h.r2.row) (by decide) _ rfl) (by decide) (by decide) hlow,h.r3.turn t k (k.apart (show w.ownsRow _ _ _ _ _ _ from h.r3.row) (by decide) _ rfl) (by decide) (by decide) hlow,h.ne,h.nb⟩
end
theorem out_shape {w : World} {base:Nat} {v : Value} {o : VV} (h:XR w base v o):∃ a c g n d,v=.agg #[.int .i64 o.e,.int .i32 o.v,.slice a o.mem.length c,.slice g n d,.int .i64 o.steps]:=by
 obtain⟨mv,cv,h1,h2,⟨evs,h3,_,_⟩,_⟩:=h
 obtain⟨a,c,rfl,_⟩:=h2.shape
 obtain⟨g,d,rfl⟩:=Zf h3
 exact⟨a,c,g,_,d,h1⟩
end Go.Proofs.YtimpddecdodddaaGreat
