import Derived.Test.YtimpddecdodddaaGreatSt33
namespace Go.Proofs.YtimpddecdodddaaGreat
open Go.Proofs.Tryz Go.RowKit Go.Lib
set_option linter.unusedVariables false
set_option maxHeartbeats 8000000
set_option maxRecDepth 1000000
structure MvC (m m':Zm) (a n i:Nat):Prop where
 at_:m'.at_≤m.at_+a
 next:m.next≤m'.next∧m'.next≤m.next+n
 total:m'.total≤m.total+i
 live:m'.live.length≤m.live.length+2*i
 same:m'.params=m.params∧(m'.bks.map fun b=>(b.phis,b.phv,b.term))=m.bks.map fun b=>(b.phis,b.phv,b.term)
theorem MvC.refl (m:Zm):MvC m m 0 0 0:=⟨zaK,zaK,zaK,zaK,rfl,rfl⟩
theorem MvC.trans {m m' m'':Zm} {a n i a' n' i':Nat} (h:MvC m m' a n i) (k:MvC m' m'' a' n' i'):MvC m m'' (a+a') (n+n') (i+i'):=
 ⟨by have:=h.at_;have:=k.at_;omega,by have:=h.next;have:=k.next;omega,by have:=h.total;have:=k.total;omega,by have:=h.live;have:=k.live;omega,k.same.1.trans h.same.1,k.same.2.trans h.same.2⟩
theorem MvC.more {m m':Zm} {a n i a' n' i':Nat} (h:MvC m m' a n i) (ha:a≤a':=by decide) (hn:n≤n':=by decide) (hi:i≤i':=by decide):MvC m m' a' n' i':=
 ⟨by have:=h.at_;omega,by have:=h.next;omega,by have:=h.total;omega,by have:=h.live;omega,h.same⟩
theorem Mv.c {mb:Nat} {bv:Value} {w w':World} {m m':Zm} {a n i:Nat} (h:Mv mb bv w m w' m' a n i):MvC m m' a n i:=⟨h.at_,h.next,h.total,h.live,h.same⟩
theorem MvC.sm {m m':Zm} {i : Nat} (h:MvC m m' (30*i) (6*i) (7*i)) (hs:m.at_≤5000∧m.next≤5000∧m.total≤5000∧m.live.length≤15000) (hi:i≤6):Sm 10 m':=
 ⟨by have:=h.at_;omega,by have:=h.next;omega,by have:=h.total;omega,by have:=h.live;omega⟩
theorem Zfo {m : Zm} {e : Ending} (h:K9 m e):e=.returned (.tuple #[]):=h
theorem ZdP (w:World) (ex:List Bx) (sa:Option Addr) (sl sc:Nat) (l:List Int) (rows:List (Value × List Int)) (m:Zm) (r mb bb n tb pb db tn b q:Nat) (a0:Act) (w1:World) (Q0:Exit→Act→World→Prop) (hk:Fr [(2,.pointer (some ⟨r,0,none⟩)),(3,.pointer (some ⟨mb,0,none⟩)),(4,.int .i64 n),(5,.slice (some ⟨tb,0,none⟩) n n),(7,.slice (some ⟨pb,0,none⟩) n n),(11,.slice (some ⟨db,0,none⟩) n n),(12,.int .i64 tn),(13,.int .i64 b),(23,.int .i64 q),(24,.int .i64 0)] a0)
  (ha:MSt w ex mb bb tb (.slice sa sl sc) l n rows m w1) (hb:b<n) (hp:n≤9) (ho:q≤6) (hh:m.at_≤5000∧m.next≤5000∧m.total≤5000∧m.live.length≤15000)
  (hQ:∀ a1 w2 m2,Fr [(2,.pointer (some ⟨r,0,none⟩)),(3,.pointer (some ⟨mb,0,none⟩)),(4,.int .i64 n),(5,.slice (some ⟨tb,0,none⟩) n n),(7,.slice (some ⟨pb,0,none⟩) n n),(11,.slice (some ⟨db,0,none⟩) n n),(12,.int .i64 tn),(13,.int .i64 b)] a1→MSt w ex mb bb tb (.slice sa sl sc) l n rows m2 w2→MvC m m2 180 36 42→Q0 .normal a1 w2):Code.wp prog (mkCode [1,1,1,1,1,1,1,1,1,1,1,0,1,0,0,1,0,0,1,0,0,1,0,0,1,1,1,1,1,1,1,1,1,1,0,1]) Q0 a0 w1:=by
 obtain⟨u,hc,hu⟩:=Zs hk;obtain⟨g1,g2,s2,s3,s4,s5,s7,s11,s12,s13,s23,s24,g3⟩:=hk;have e2:=hu 2 _ s2;have e3:=hu 3 _ s3;have e4:=hu 4 _ s4;have e5:=hu 5 _ s5;have e7:=hu 7 _ s7;have e11:=hu 11 _ s11;have e12:=hu 12 _ s12;have e13:=hu 13 _ s13;have e23:=hu 23 _ s23;have e24:=hu 24 _ s24;rw[e2,e3,e4,e5,e7,e11,e12,e13,e23,e24]at hc;subst hc;clear hu g1 g2 g3 e2 s2 e3 s3 e4 s4 e5 s5 e7 s7 e11 s11 e12 s12 e13 s13 e23 s23 e24 s24
 conv=>arg 2;whnf
 have HQ:=hid hQ;have HS:=hid hh;clear hQ hh;go_wp2_with fail
 refine ZS (fun t ac wr=>∃ (i:Nat) (m2:Zm),t=q-i∧i≤q∧Fr [(2,.pointer (some ⟨r,0,none⟩)),(3,.pointer (some ⟨mb,0,none⟩)),(4,.int .i64 n),(5,.slice (some ⟨tb,0,none⟩) n n),(7,.slice (some ⟨pb,0,none⟩) n n),(11,.slice (some ⟨db,0,none⟩) n n),(12,.int .i64 tn),(13,.int .i64 b),(23,.int .i64 q),(24,.int .i64 i)] ac∧MSt w ex mb bb tb (.slice sa sl sc) l n rows m2 wr∧MvC m m2 (30*i) (6*i) (7*i)) q ⟨0,m,rfl,Nat.zero_le _,(ZA rfl rfl zf0),ha,MvC.refl m⟩ ?_
 ·clear ha;intro t a1 wr K hJ hK;have hn:=hid hK;clear hK;obtain⟨i,m2,rfl,hr,hf,ha,hj⟩:=hJ;obtain⟨u,hc,hu⟩:=Zs hf;obtain⟨g1,g2,s2,s3,s4,s5,s7,s11,s12,s13,s23,s24,g3⟩:=hf;have e2:=hu 2 _ s2;have e3:=hu 3 _ s3;have e4:=hu 4 _ s4;have e5:=hu 5 _ s5;have e7:=hu 7 _ s7;have e11:=hu 11 _ s11;have e12:=hu 12 _ s12;have e13:=hu 13 _ s13;have e23:=hu 23 _ s23;have e24:=hu 24 _ s24;rw[e2,e3,e4,e5,e7,e11,e12,e13,e23,e24]at hc;subst hc;clear hu g1 g2 g3 e2 s2 e3 s3 e4 s4 e5 s5 e7 s7 e11 s11 e12 s12 e13 s13 e23 s23 e24 s24;have hd:=hid ha;have hg:=hid hj;clear ha hj;by_cases hq:i<q
  ·go_wp2_with fail
   refine (Qr hd.out.ok (hg.out.sm HS.out zaK) b (by rw[hd.out.len];exact hb)).mono ?_;rintro e w2 ⟨m3,hU,hi,he⟩;have hl:=hid (hd.out.mv hi he);have hm:=hid (hg.out.trans he.c);obtain rfl:=Zfo hU;clear hi he hU;go_wp2_with fail
   exact hn.out (q-(i+1)) _ _ zaK ⟨i+1,m3,rfl,zaK,(ZA rfl rfl zf0),hl.out,hm.out⟩
  ·obtain rfl:q=i:=zaK
   go_wp2_with fail
   exact HQ.out _ _ _ (ZA rfl rfl zf0) hd.out (hg.out.more zaK zaK zaK)
section
variable {w0 w w':World} {ex aex:List Bx} {mb bb tb r pb db:Nat} {sv v:Value} {l : List Int} {n : Nat} {rows:List (Value × List Int)} {m m' m1 m2 m3:Zm} {ph:List Int} {dn:List Bool} {aw:List (Nat × List Bool)} {x : Int}
theorem MSt.setDx (h:MSt w0 (exD r pb db ph dn++aex) mb bb tb sv l n rows m w) (ha:∀ x∈aex,x.q≠db) (j:Nat) (v:Bool):MSt w0 (exD r pb db ph (dn.set j v)++aex) mb bb tb sv l n rows m (w.setCell ⟨db,j,none⟩ (.bool v)):=by
 have t:Zb (fun q=>q=db) w (w.setCell ⟨db,j,none⟩ (.bool v)):=(Zb.refl (fun q=>q=db) w).setCell (p:=⟨db,j,none⟩) rfl _;have hb:∀ x∈exD r pb db ph dn++aex,HeapIs w x.q x.cs x.ty:=fun x hx=>(h.boxes x hx).1
 have hr:=hb (bxR r) zaH;have hp:=hb (bxP pb ph) zaH;have hd:=hb (bxD db dn) zaH;refine h.beside t (fun q _ e=>⟨bxD db dn,by simp[exD],e.symm⟩) fun x hx=>?_
 rcases List.mem_append.1 hx with hx|hx
 ·rcases List.mem_cons.1 hx with rfl|hx
  ·exact⟨hr.turn t (Yq hr hd (show (109:TypeId)≠4 by decide)),.inl ⟨bxR r,by simp[exD],rfl⟩⟩
  ·rcases List.mem_cons.1 hx with rfl|hx
   ·exact⟨hp.turn t (Yq hp hd (show (3:TypeId)≠4 by decide)),.inl ⟨bxP pb ph,by simp[exD],rfl⟩⟩
   ·rw[List.mem_singleton.1 hx];refine⟨?_,.inl ⟨bxD db dn,by simp[exD],rfl⟩⟩;have h1:=HeapIs.set hd j (.bool v);show HeapIs _ db ((dn.set j v).map Value.bool).toArray 4
    rw[List.map_set];simpa [bxD]using h1
 ·exact⟨(hb x (List.mem_append_right _ hx)).turn t (ha x hx),.inl ⟨x,List.mem_append_right _ hx,rfl⟩⟩
theorem MSt.away (h:MSt w0 (exD r pb db ph dn) mb bb tb sv l n rows m w) (ha:X5 w m.bks n v aw w') (hl:0<aw.length):∃ vb cap cur,v=.slice (some ⟨vb,0,none⟩) aw.length cap∧MSt w0 (exD r pb db ph dn++awEx vb cur aw) mb bb tb sv l n rows m w'∧(∀ x∈awEx vb cur aw,x.q≠db)∧∀ (a:Nat) (p:Nat × List Bool),aw[a]? = some p→cur[a]? = some (awv n p):=by
 obtain⟨vb,cap,cur,hv,_,_,hc,hx⟩:=ha.open hl;refine⟨vb,cap,cur,hv,h.beside (T:=fun _=>False) (Zb.since ha.old) (fun q _ e=>e.elim) fun x hb=>?_,fun x hb e=>?_,hc⟩
 ·rcases List.mem_append.1 hb with hb|hb
  ·exact⟨(h.boxes x hb).1.keep ha.old,.inl ⟨x,hb,rfl⟩⟩
  ·exact⟨(hx x hb).1,.inr (hx x hb).2⟩
 ·have h1:=(h.boxes (bxD db dn) zaH).1.lt;have h2:=(hx x hb).2;rw[e]at h2;exact absurd h1 (by simp only[bxD];omega)
theorem Zbv {bks:List Zt} {vb b:Nat} {cur:Array Value} (pre:List Bx) (ha:X5 w bks n v aw w') (hl:aw.length=n) (hc:∀ (a:Nat) (p:Nat × List Bool),aw[a]? = some p→cur[a]? = some (awv n p)) (hb:b<n):Zfm (pre++awEx vb cur aw) vb n b cur:=by
 refine⟨List.mem_append_right _ (List.mem_cons_self),fun a he=>?_⟩;obtain⟨p,hp⟩:∃ p,aw[a]? = some p:=⟨_,List.getElem?_eq_getElem (by rw[hl];exact he)⟩
 have hm:=List.mem_of_getElem? hp;obtain⟨rb,hd⟩:∃ z,p.2[b]? = some z:=⟨_,List.getElem?_eq_getElem (by rw[(ha.each p hm).2.2];exact hb)⟩
 exact⟨p.1,p.2,rb,hc a p hp,List.mem_append_right _ (List.mem_cons_of_mem _ (List.mem_map.2 ⟨p,hm,rfl⟩)),hd⟩
theorem ZdF {vb b:Nat} {cur:Array Value} {pre:List Bx} (h:MSt w0 (pre++awEx vb cur aw) mb bb tb sv l n rows m w') (ha:X5 w m.bks n v aw w') (hl:aw.length=n) (hc:∀ (a:Nat) (p:Nat × List Bool),aw[a]? = some p→cur[a]? = some (awv n p)) (hb:b<n) (ht:Yn rows n m.bks) (hg:XK rows n) :
  (∀ a,a<n→∃ (ob:Nat) (rb:Bool),w'.cell? ⟨vb,a,none⟩=some (.slice (some ⟨ob,0,none⟩) n n)∧vb<w'.heap.size∧w'.cell? ⟨ob,b,none⟩=some (.bool rb)∧ob<w'.heap.size) ∧
  ∀ (a ob:Nat) (rb:Bool),a<n→w'.cell? ⟨vb,a,none⟩=some (.slice (some ⟨ob,0,none⟩) n n)→w'.cell? ⟨ob,b,none⟩=some (.bool rb)→b<a→rb=true:=by
 obtain⟨hv,hi⟩:=Zbv (vb:=vb) (cur:=cur) pre ha hl hc hb;have he:=(h.boxes _ hv).1;have key:∀ a,a<n→∃ p,aw[a]? = some p∧w'.cell? ⟨vb,a,none⟩=some (awv n p)∧HeapIs w' p.1 (p.2.map Value.bool).toArray 4:=fun a hd=>by
  obtain⟨p,hp⟩:∃ p,aw[a]? = some p:=⟨_,List.getElem?_eq_getElem (by rw[hl];exact hd)⟩
  exact⟨p,hp,(he.cell a).trans (hc a p hp),(ha.each p (List.mem_of_getElem? hp)).1⟩
 refine⟨fun a hd=>?_,fun a ob rb hd h1 h2 hh=>?_⟩
 ·obtain⟨p,hp,h1,h2⟩:=key a hd;obtain⟨rb,hf⟩:∃ z,p.2[b]? = some z:=⟨_,List.getElem?_eq_getElem (by rw[(ha.each p (List.mem_of_getElem? hp)).2.2];exact hb)⟩
  refine⟨p.1,rb,h1,he.lt,?_,h2.lt⟩;rw[h2.cell b,List.getElem?_toArray,List.getElem?_map,hf];rfl
 ·obtain⟨p,hp,h3,h4⟩:=key a hd;rw[h3]at h1;have h1:p.1=ob:=by
   have h5:=Option.some.inj h1;unfold awv at h5;injection h5 with h6
   injection h6 with h7
   injection h7
  have h5:=JY (ha.cl a p hp) ht hg h.len (b+1) b zaK hh hb;rw[←h1,h4.cell b,List.getElem?_toArray,List.getElem?_map,h5]at h2;injection h2 with h2
  injection h2 with h2
  exact h2.symm
theorem MvC.at {a k i:Nat} (h:MvC m m' a k i) {j : Nat} {k':Zt} (hk:m'.bks[j]? = some k'):∃ k,m.bks[j]? = some k∧k'.phis=k.phis∧k'.term=k.term:=by
 have h1:=congrArg (fun x=>x[j]?) h.same.2;simp only[List.getElem?_map,hk,Option.map_some]at h1;obtain⟨k2,h2,h3⟩:=Option.map_eq_some_iff.1 h1.symm;exact⟨k2,h2,(congrArg (fun x=>x.1) h3).symm,(congrArg (fun x=>x.2.2) h3).symm⟩
theorem MvT.at {bv:Value} {a k i b:Nat} {t : YP} (h:MvT mb bv w m w' m' a k i b t) {j : Nat} {k':Zt} (hk:m'.bks[j]? = some k'):∃ k,m.bks[j]? = some k∧k'.phis=k.phis∧((j≠b∧k'.term=k.term)∨(j=b∧k'.term=t)):=by
 obtain⟨k0,hb,hs⟩:=h.same;have h1:=congrArg (fun x=>x[j]?) hs;simp only[List.getElem?_map,hk,Option.map_some]at h1;rcases ZJ h1.symm with ⟨rfl,h2⟩|⟨ha,h2⟩
 ·exact⟨k0,hb,congrArg (fun x=>x.1) h2,.inr ⟨rfl,congrArg (fun x=>x.2.2) h2⟩⟩
 ·rw[List.getElem?_map]at h2;obtain⟨k2,h3,h4⟩:=Option.map_eq_some_iff.1 h2;exact⟨k2,h3,(congrArg (fun x=>x.1) h4).symm,.inl ⟨ha,(congrArg (fun x=>x.2.2) h4).symm⟩⟩
theorem MvT.len {bv:Value} {a k i b:Nat} {t : YP} (h:MvT mb bv w m w' m' a k i b t):m'.bks.length=m.bks.length:=by
 obtain⟨k0,_,hs⟩:=h.same;have:=congrArg List.length hs;simpa using this
theorem PhI.same {n b i:Nat} (h:PhI ph n b i m) (hs:∀ (j:Nat) (k':Zt),m'.bks[j]? = some k'→∃ k,m.bks[j]? = some k∧k'.phis=k.phis) (hn:m.next≤m'.next):PhI ph n b i m':=by
 refine⟨h.len,h.few,h.zero,fun k hk p hp=>?_,fun j k v hj hk hv=>?_,fun k hk=>?_⟩
 ·obtain⟨j,hj⟩:=List.getElem?_of_mem hk;obtain⟨k0,h0,h1⟩:=hs j k hj;rw[h1]at hp;have:=h.phi k0 (List.mem_of_getElem? h0) p hp;exact j6
 ·obtain⟨k0,h0,h1⟩:=hs j k hk;rw[h1];exact h.cnt j k0 v hj h0 hv
 ·obtain⟨k0,h0,h1⟩:=hs b k hk;rw[h1];exact h.cur k0 h0
theorem Lp.more {bv:Value} {b : Nat} {t : YP} (h:Lp x ph n b m) (h1:m1.bks=m.bks∧m1.next=m.next∧m1.params=m.params∧m1.at_=m.at_+1) (hd:m1.live.length≤9004) (h2:MvC m1 m2 180 36 42) (h3:MvT mb bv w m2 w' m3 13 3 3 b t) (ht:Y7 m3.next n t):Lp x ph n (b+1) m3:=by
 have hp:∀ (j:Nat) (k':Zt),m3.bks[j]? = some k'→∃ k,m.bks[j]? = some k∧k'.phis=k.phis∧((j≠b∧k'.term=k.term)∨(j=b∧k'.term=t)):=fun j k' hk=>by
  obtain⟨k2,hc,e2,e3⟩:=h3.at hk;obtain⟨k1,hb,e4,e5⟩:=h2.at hc;rw[h1.1]at hb;refine⟨k1,hb,e2.trans e4,?_⟩;rcases e3 with ⟨a1,a2⟩|a1
  ·exact .inl ⟨a1,a2.trans e5⟩
  ·exact .inr a1
 have ha:m.next≤m3.next:=by have:=h2.next.1;have:=h3.next.1;have:=h1.2.1;omega
 refine⟨h.phs.same (fun j k' hk=>by obtain⟨k,a1,a2,_⟩:=hp j k' hk;exact⟨k,a1,a2⟩) ha,?_,?_,?_,?_,by have:=h2.live;have:=h3.live;omega,fun j k' hj hk=>?_⟩
 ·have:=h.at_;have:=h2.at_;have:=h3.at_;have:=h1.2.2.2;omega
 ·have:=h.next;have:=h2.next.2;have:=h3.next.2;have:=h1.2.1;omega
 ·exact h3.params.trans (h2.same.1.trans (h1.2.2.1.trans h.params))
 ·have e:m1.total=m.total:=by unfold Zm.total;rw[h1.1]
  have:=h.total;have:=h2.total;have:=h3.total;omega
 ·obtain⟨k,a1,_,a3⟩:=hp j k' hk;rcases a3 with ⟨a3,a4⟩|⟨a3,a4⟩
  ·rw[a4];exact (h.terms j k zaK a1).mono ha
  ·rw[a4];exact ht
theorem Yn.more {bv:Value} {b : Nat} {t : YP} {rw_:Value × List Int} (h:Yn rows n m1.bks) (h2:MvC m1 m2 180 36 42) (h3:MvT mb bv w m2 w' m3 13 3 3 b t) (hr:rows[b]? = some rw_) (ht:t.to=rw_.2):Yn rows n m3.bks:=fun j k' r hj hk ha=>by
 obtain⟨k2,hb,_,e3⟩:=h3.at hk
 obtain⟨k1,hc,_,e5⟩:=h2.at hb
 rcases e3 with ⟨_,a2⟩|⟨rfl,a2⟩
 ·rw[a2,e5];exact h j k1 r hj hc ha
 ·rw[a2,ht,Option.some.inj (hr.symm.trans ha)]
theorem Lp.blk {d : Nat} (h:Lp x ph n d m) (hl:m.bks.length=n) (hd:d≤9):∀ (a:Nat) (k:Zt),m.bks[a]? = some k→((∀ p∈k.phis,0≤p.dst∧p.dst<m.next)∧k.phis.length≤3)∧k.ins.length≤450:=fun a k hk=>by
 have ha:=List.mem_of_getElem? hk
 have hb:a<n:=by have:=(List.getElem?_eq_some_iff.1 hk).1;omega
 obtain⟨v,hv,h0,h3⟩:=h.phs.at hb
 have h1:=h.phs.cnt a k v zaK hk hv
 have h2:=Jn ha
 have h4:=h.total
 exact⟨⟨fun p hp=>(h.phs.phi k ha p hp).1,zaK⟩,zaK⟩
theorem Zay (w:World):(w.alloc (.cells #[] 3)).ownsRow 0 3 1 (.slice (some ⟨w.heap.size,0,none⟩) 0 0) ([]:List Int).length (([]:List Int).map (Value.int .i64)):=
 VV (f:=fun (y:Int)=>[Value.int .i64 y]) w 0 (Nat.zero_le _)
end
theorem Zer (w:World) (sa:Option Addr) (sl sc:Nat) (l:List Int) (rows:List (Value × List Int)) (m:Zm) (r mb bb n tb pb db tn d:Nat) (ph:List Int) (x:Int) (a0:Act) (w1:World) (Q0:Exit→Act→World→Prop) (Hq:Fr [(2,.pointer (some ⟨r,0,none⟩)),(3,.pointer (some ⟨mb,0,none⟩)),(4,.int .i64 n),(5,.slice (some ⟨tb,0,none⟩) n n),(7,.slice (some ⟨pb,0,none⟩) n n),(11,.slice (some ⟨db,0,none⟩) n n),(12,.int .i64 tn),(13,.int .i64 0)] a0)
  (hi:MSt w (exD r pb db ph (dnL n d)) mb bb tb (.slice sa sl sc) l n rows m w1) (hG:1≤n∧n≤9) (Hr:XK rows n) (hw:tn=0→d=0) (ht:tn≠0→d=n) (hj:Yn rows n m.bks) (hs:Lp x ph n d m)
  (hQ:∀ a1 w2 (d:Nat) (m:Zm),Fr [(2,.pointer (some ⟨r,0,none⟩)),(3,.pointer (some ⟨mb,0,none⟩)),(4,.int .i64 n),(5,.slice (some ⟨tb,0,none⟩) n n),(7,.slice (some ⟨pb,0,none⟩) n n),(11,.slice (some ⟨db,0,none⟩) n n),(12,.int .i64 tn)] a1→MSt w (exD r pb db ph (dnL n d)) mb bb tb (.slice sa sl sc) l n rows m w2→d=n→Yn rows n m.bks→Lp x ph n d m→Q0 .normal a1 w2):Code.wp prog (mkCode [1,1,1,1,1,1,1,1,1,1,1,0,1,0,0,1,0,0,1]) Q0 a0 w1:=by
 obtain⟨u,ha,hu⟩:=Zs Hq;obtain⟨g1,g2,s2,s3,s4,s5,s7,s11,s12,s13,g3⟩:=Hq;have e2:=hu 2 _ s2;have e3:=hu 3 _ s3;have e4:=hu 4 _ s4;have e5:=hu 5 _ s5;have e7:=hu 7 _ s7;have e11:=hu 11 _ s11;have e12:=hu 12 _ s12;have e13:=hu 13 _ s13;rw[e2,e3,e4,e5,e7,e11,e12,e13]at ha;subst ha;clear hu g1 g2 g3 e2 s2 e3 s3 e4 s4 e5 s5 e7 s7 e11 s11 e12 s12 e13 s13
 conv=>arg 2;whnf
 have HQ:=hid hQ;have HK:=hid Hr;have Hi:=hid (And.intro hw ht);have hl:=hid hj;have hb:=hid hs;clear hQ Hr hw ht hj hs;go_wp2_with fail
 refine ZS (fun t ac wr=>∃ (b d:Nat) (m:Zm),t=n-b∧b≤n∧(tn=0→d=b)∧(tn≠0→d=n)∧Fr [(2,.pointer (some ⟨r,0,none⟩)),(3,.pointer (some ⟨mb,0,none⟩)),(4,.int .i64 n),(5,.slice (some ⟨tb,0,none⟩) n n),(7,.slice (some ⟨pb,0,none⟩) n n),(11,.slice (some ⟨db,0,none⟩) n n),(12,.int .i64 tn),(13,.int .i64 b)] ac∧MSt w (exD r pb db ph (dnL n d)) mb bb tb (.slice sa sl sc) l n rows m wr∧Yn rows n m.bks∧Lp x ph n d m) n ⟨0,d,m,rfl,Nat.zero_le _,Hi.out.1,Hi.out.2,(ZA rfl rfl zf0),hi,hl.out,hb.out⟩ ?_
 ·clear hi Hi hl hb d m;intro t a1 wr K hJ hK;have Ht:=hid hK;clear hK;obtain⟨b,d,m,rfl,HN,hw,ht,hf,hi,hj,hs⟩:=hJ;obtain⟨u,ha,hu⟩:=Zs hf;obtain⟨g1,g2,s2,s3,s4,s5,s7,s11,s12,s13,g3⟩:=hf;have e2:=hu 2 _ s2;have e3:=hu 3 _ s3;have e4:=hu 4 _ s4;have e5:=hu 5 _ s5;have e7:=hu 7 _ s7;have e11:=hu 11 _ s11;have e12:=hu 12 _ s12;have e13:=hu 13 _ s13;rw[e2,e3,e4,e5,e7,e11,e12,e13]at ha;subst ha;clear hu g1 g2 g3 e2 s2 e3 s3 e4 s4 e5 s5 e7 s7 e11 s11 e12 s12 e13 s13;have hL:=hid hi;have hl:=hid hj;have hb:=hid hs;have HD:=hid (And.intro hw ht);clear hj hs hw ht;by_cases hd:b<n
  ·have hv:=hi.dnAt.cell b;rw[List.getElem?_toArray,List.getElem?_map,Ve hd]at hv
   replace hv:wr.cell? ⟨db,b,none⟩=some (.bool (decide (b<d))):=hv
   have HG:=hi.dnAt.lt;obtain⟨dbit,ho⟩:∃ z,decide (b<d)=z:=⟨_,rfl⟩
   rw[ho]at hv;have hN:=hid ho;clear ho hi;go_upto_block 10 with fail
   refine Zew w wr (exD r pb db ph (dnL n d)) sa sl sc l rows m r mb bb n tb pb db tn b 0 (some ⟨wr.heap.size,0,none⟩) (!dbit) _ _ _ (ZA rfl rfl zf0) hL.out hG.2 (X5.start wr m.bks n) ?_;intro a1 w2 va vc aw hf hI hx;obtain⟨u,ha,hu⟩:=Zs hf;obtain⟨g1,g2,s2,s3,s4,s5,s7,s11,s12,s13,s14,s15,g3⟩:=hf;have e2:=hu 2 _ s2;have e3:=hu 3 _ s3;have e4:=hu 4 _ s4;have e5:=hu 5 _ s5;have e7:=hu 7 _ s7;have e11:=hu 11 _ s11;have e12:=hu 12 _ s12;have e13:=hu 13 _ s13;have e14:=hu 14 _ s14;have e15:=hu 15 _ s15;rw[e2,e3,e4,e5,e7,e11,e12,e13,e14,e15]at ha;subst ha;clear hu g1 g2 g3 e2 s2 e3 s3 e4 s4 e5 s5 e7 s7 e11 s11 e12 s12 e13 s13 e14 s14 e15 s15;obtain⟨vb,vcap,cur,hO,hC,Ho,hE⟩:=hL.out.away hI (by rw[hx];omega);rw[hx]at hO;injection hO with HB HM HA
   subst HB;subst HA;have hg:=hid hC;have HJ:=hid Ho;have HL:=hid (fun pre=>Zbv (vb:=vb) (cur:=cur) (b:=b) pre hI hx hE hd)
   have Hh:=hid (ZdF hC hI hx hE hd hl.out HK.out);clear hI hx hC Ho hE hv HG;go_upto_block 12 with fail
   refine ZdN r mb n tb pb db tn b d vb vc dbit _ _ _ (ZA rfl rfl zf0) hG.2 hd (fun e=>⟨by
    have h1:=of_decide_eq_false (hN.out.trans e);by_cases h:tn=0
    ·exact HD.out.1 h
    ·have:=HD.out.2 h;omega,trivial,trivial⟩) (hg.out.boxes (bxD db (dnL n d)) zaH).1 Hh.out.1 Hh.out.2 ?_
   intro a1 hf;obtain⟨u,ha,hu⟩:=Zs hf;obtain⟨g1,g2,s2,s3,s4,s5,s7,s11,s12,s13,s14,s15,g3⟩:=hf;have e2:=hu 2 _ s2;have e3:=hu 3 _ s3;have e4:=hu 4 _ s4;have e5:=hu 5 _ s5;have e7:=hu 7 _ s7;have e11:=hu 11 _ s11;have e12:=hu 12 _ s12;have e13:=hu 13 _ s13;have e14:=hu 14 _ s14;have e15:=hu 15 _ s15;rw[e2,e3,e4,e5,e7,e11,e12,e13,e14,e15]at ha;subst ha;clear hu g1 g2 g3 e2 s2 e3 s3 e4 s4 e5 s5 e7 s7 e11 s11 e12 s12 e13 s13 e14 s14 e15 s15;clear Hh
   cases dbit
   ·have HH:d=b:=by
     have h1:=of_decide_eq_false hN.out;by_cases h:tn=0
     ·exact HD.out.1 h
     ·have:=HD.out.2 h;omega
    subst HH;have hR:tn=0:=by
     by_cases h:tn=0
     ·exact h
     ·have:=HD.out.2 h;omega
    have He:=hid hR;have hH:=(hg.out.boxes (bxD db (dnL n d)) zaH).1;have Hv:db<w2.heap.size:=hH.lt;have hD:=hH.cell d
    replace hD:w2.cell? ⟨db,d,none⟩=some (.bool false):=by
     refine hD.trans ?_;show ((dnL n d).map Value.bool).toArray[d]? = _
     rw[List.getElem?_toArray,List.getElem?_map,Ve hd,decide_eq_false zaK];rfl
    have Hw:w2.frozen? ⟨db,d,none⟩=false:=hH.frozen d;have hn:=hg.out.setDx HJ.out d true;rw[ZeC]at hn;have hm:=hid hn;have hp:=hn.box;have Hp:=hp.lt;have HF:=hp.frozen 5;have HI:=hp.cell 5;clear hH hn hp hR;go_upto_region 43 with fail
    generalize w2.setCell ⟨db,d,none⟩ (.bool true)=w3 at *;clear Hv hD Hw hg;go_upto_block 14 with fail
    have hM:=hid hm.out.ok.good.params;have Hs:=zH (x≤4∧0≤x) (by have h1:=hM.out;have h2:=hb.out.params;omega);refine Zae w (exD r pb db ph (dnL n (d+1))++awEx vb cur aw) sa sl sc l rows { m with live:=[],livev:=.slice (some ⟨w3.heap.size,0,none⟩) 0 0 } r mb bb n tb pb db tn d vb vc true _ _ _ (ZA rfl rfl zf0) (by
     have h:=hm.out.livePut (ys:=[]) (v:=.slice (some ⟨w3.heap.size,0,none⟩) 0 0) (Zay w3) ((Zb.refl _ _).alloc _) (fun q hq=>.inr (Nat.le_of_eq (Option.some.inj hq))) zaL
     rwa [World.setCell_alloc_past _ mb 5 _ Hp]at h) ⟨hM.out.1,hM.out.2.1⟩ hM.out.2.2 rfl ?_
    intro a1 w4 ys v hf hT Hk;obtain⟨u,ha,hu⟩:=Zs hf;obtain⟨g1,g2,s2,s3,s4,s5,s7,s11,s12,s13,s14,s15,g3⟩:=hf;have e2:=hu 2 _ s2;have e3:=hu 3 _ s3;have e4:=hu 4 _ s4;have e5:=hu 5 _ s5;have e7:=hu 7 _ s7;have e11:=hu 11 _ s11;have e12:=hu 12 _ s12;have e13:=hu 13 _ s13;have e14:=hu 14 _ s14;have e15:=hu 15 _ s15;rw[e2,e3,e4,e5,e7,e11,e12,e13,e14,e15]at ha;subst ha;clear hu g1 g2 g3 e2 s2 e3 s3 e4 s4 e5 s5 e7 s7 e11 s11 e12 s12 e13 s13 e14 s14 e15 s15;have Hg:=zH (MSt w (exD r pb db ph (dnL n (d+1))++awEx vb cur aw) mb bb tb (.slice sa sl sc) l n rows { m with live:=ys,livev:=v } w4) hT;have Hc:=hid Hk;clear hT Hk hm Hp HF HI;go_upto_block 16 with fail
    refine Zeu w (exD r pb db ph (dnL n (d+1))++awEx vb cur aw) sa sl sc l rows { m with live:=ys,livev:=v } r mb bb n tb pb db tn d vb vc true (dnL n (d+1)) cur _ _ _ (ZA rfl rfl zf0) Hg.out hd hG.2 (by simp[exD,bxD]) (Qu _ _) (HL.out _) (hb.out.blk hL.out.len zaK) (by have:=Hc.out;show ys.length≤10;omega) ?_;intro a1 w5 ys5 v5 hf hS Hj;obtain⟨u,ha,hu⟩:=Zs hf;obtain⟨g1,g2,s2,s3,s4,s5,s7,s11,s12,s13,s14,s15,g3⟩:=hf;have e2:=hu 2 _ s2;have e3:=hu 3 _ s3;have e4:=hu 4 _ s4;have e5:=hu 5 _ s5;have e7:=hu 7 _ s7;have e11:=hu 11 _ s11;have e12:=hu 12 _ s12;have e13:=hu 13 _ s13;have e14:=hu 14 _ s14;have e15:=hu 15 _ s15;rw[e2,e3,e4,e5,e7,e11,e12,e13,e14,e15]at ha;subst ha;clear hu g1 g2 g3 e2 s2 e3 s3 e4 s4 e5 s5 e7 s7 e11 s11 e12 s12 e13 s13 e14 s14 e15 s15;have hF:=zH (MSt w (exD r pb db ph (dnL n (d+1))++awEx vb cur aw) mb bb tb (.slice sa sl sc) l n rows { m with live:=ys5,livev:=v5 } w5) hS
    have Hb:=zH (ys5.length≤9004) (by have h1:ys5.length≤ys.length+1000*n:=Hj;have:=Hc.out;omega);clear hS Hj Hg Hc;go_wp2_with fail
    refine (ZF hF.out.ok 7 zaJ (by have h1:=hb.out.at_;show m.at_≤100000;omega)).mono ?_;rintro e w6 ⟨m6,⟨q0,rfl,⟨Hn,HC⟩,HE⟩,hY,hZ⟩;have Hf:=hid (hF.out.mv hY hZ);subst HE;obtain⟨q,rfl⟩:=Int.eq_ofNat_of_zero_le Hn;clear hY hZ hF;go_upto_block 22 with fail
    refine ZdP w (exD r pb db ph (dnL n (d+1))++awEx vb cur aw) sa sl sc l rows { m with live:=ys5,livev:=v5,at_:=m.at_+1 } r mb bb n tb pb db tn d q _ _ _ (ZA rfl rfl zf0) Hf.out hd hG.2 zaK (by
     have h1:=hb.out.at_;have h2:=hb.out.next;have h3:=hb.out.total;have h4:=Hs.out;have h5:=Hb.out;exact⟨by show m.at_+1≤5000;omega,by show m.next≤5000;omega,by show m.total≤5000;omega,by show ys5.length≤15000;omega⟩) ?_
    intro a1 w7 m7 hf hk h0;obtain⟨u,ha,hu⟩:=Zs hf;obtain⟨g1,g2,s2,s3,s4,s5,s7,s11,s12,s13,g3⟩:=hf;have e2:=hu 2 _ s2;have e3:=hu 3 _ s3;have e4:=hu 4 _ s4;have e5:=hu 5 _ s5;have e7:=hu 7 _ s7;have e11:=hu 11 _ s11;have e12:=hu 12 _ s12;have e13:=hu 13 _ s13;rw[e2,e3,e4,e5,e7,e11,e12,e13]at ha;subst ha;clear hu g1 g2 g3 e2 s2 e3 s3 e4 s4 e5 s5 e7 s7 e11 s11 e12 s12 e13 s13;have hc:=hid hk;have hh:=hid h0;obtain⟨⟨rv,rl⟩,hr,hV,hW⟩:=hk.row hd;obtain⟨ra,rc,hU⟩:=Zc (hk.tgt.row _ hV).1;dsimp only at hU;obtain⟨rn,Hm⟩:∃ z,rl.length=z:=⟨_,rfl⟩
    rw[Hm]at hU;subst hU;have HR:=hid (And.intro hr hV);have Hu:=hk.tgt.box.lt
    replace hW:w7.cell? ⟨tb,d,none⟩=some (.slice ra rn rc):=hW
    clear hk h0 hr hV Hm Hf Hn HC;go_wp2_with fail
    refine (Ze5 hc.out.ok (by
     have h1:=hb.out.at_;have h2:=hb.out.next;have h3:=hb.out.total;have h4:=Hs.out;have h5:=Hb.out;have h6:m7.at_≤m.at_+1+180:=hh.out.at_;have h7:m7.next≤m.next+36:=hh.out.next.2;have h8:m7.total≤m.total+42:=hh.out.total;have h9:m7.live.length≤ys5.length+84:=hh.out.live;exact⟨zaK,zaK,zaK,zaK⟩) d (by rw[hc.out.len];exact hd) (.slice ra rn rc) rl (hc.out.tgt.row _ HR.out.2) (fun y hy=>by rw[hc.out.len];exact hc.out.inr _ HR.out.2 y hy) (by have:=hc.out.few _ HR.out.2;dsimp only at this;omega)).mono ?_
    rintro e w8 ⟨m8,t8,rfl,hX,he,hP,hA⟩;rw[hc.out.len]at hA;have hB:=hc.out.step hX ⟨he.turn,he.new⟩ he.len;have Hy:=hid (hB.beside (ex':=exD r pb db ph (dnL n (d+1))) (T:=fun _=>False) (Zb.refl _ _) (fun q _ e=>e.elim) fun z hz=>⟨(hB.boxes z (List.mem_append_left _ hz)).1,.inl ⟨z,List.mem_append_left _ hz,rfl⟩⟩)
    have Hz:=hid (hb.out.more (m1:={ m with live:=ys5,livev:=v5,at_:=m.at_+1 }) ⟨rfl,rfl,rfl,rfl⟩ Hb.out hh.out he hA);have Hx:=hid (Yn.more (m1:={ m with live:=ys5,livev:=v5,at_:=m.at_+1 }) hl.out hh.out he HR.out.1 hP);clear hX he hP hA hB hW Hu hc;go_wp2_with fail
    exact Ht.out (n-(d+1)) _ _ zaK ⟨d+1,d+1,m8,rfl,zaK,fun _=>rfl,fun h=>absurd He.out h,(ZA rfl rfl zf0),Hy.out,Hx.out,Hz.out⟩
   ·have Ha:d=n:=by
     have h1:=of_decide_eq_true hN.out;by_cases h:tn=0
     ·have:=HD.out.1 h;omega
     ·exact HD.out.2 h
    have Hl:tn≠0:=fun h=>by
     have h1:=of_decide_eq_true hN.out;have:=HD.out.1 h;omega
    have He:=hid Hl;have HO:=hid Ha;have hm:=hid (hg.out.beside (ex':=exD r pb db ph (dnL n d)) (T:=fun _=>False) (Zb.refl _ _) (fun q _ e=>e.elim) fun z hz=>⟨(hg.out.boxes z (List.mem_append_left _ hz)).1,.inl ⟨z,List.mem_append_left _ hz,rfl⟩⟩)
    clear Ha Hl;go_wp2_with fail
    exact Ht.out (n-(b+1)) _ _ zaK ⟨b+1,d,m,rfl,zaK,fun h=>absurd h He.out,HD.out.2,(ZA rfl rfl zf0),hm.out,hl.out,hb.out⟩
  ·obtain rfl:n=b:=zaK
   clear hi;go_wp2_with fail
   exact HQ.out _ _ d m (ZA rfl rfl zf0) hL.out (by
    by_cases h:tn=0
    ·exact HD.out.1 h
    ·exact HD.out.2 h) hl.out hb.out
theorem ZdM (w:World) (sa:Option Addr) (sl sc:Nat) (l:List Int) (rows:List (Value × List Int)) (m:Zm) (r mb bb n tb pb db:Nat) (ph:List Int) (x:Int) (a0:Act) (w1:World) (Q0:Exit→Act→World→Prop) (hk:Fr [(2,.pointer (some ⟨r,0,none⟩)),(3,.pointer (some ⟨mb,0,none⟩)),(4,.int .i64 n),(5,.slice (some ⟨tb,0,none⟩) n n),(7,.slice (some ⟨pb,0,none⟩) n n),(11,.slice (some ⟨db,0,none⟩) n n),(12,.int .i64 0)] a0)
  (hc:MSt w (exD r pb db ph (dnL n 0)) mb bb tb (.slice sa sl sc) l n rows m w1) (ht:1≤n∧n≤9) (ho:XK rows n) (hb:Yn rows n m.bks) (hd:Lp x ph n 0 m)
  (hQ:∀ a1 w2 (m:Zm),Fr [(2,.pointer (some ⟨r,0,none⟩)),(3,.pointer (some ⟨mb,0,none⟩)),(4,.int .i64 n),(5,.slice (some ⟨tb,0,none⟩) n n),(7,.slice (some ⟨pb,0,none⟩) n n),(11,.slice (some ⟨db,0,none⟩) n n)] a1→MSt w (exD r pb db ph (dnL n n)) mb bb tb (.slice sa sl sc) l n rows m w2→Yn rows n m.bks→Lp x ph n n m→Q0 .normal a1 w2):Code.wp prog (mkCode [1,1,1,1,1,1,1,1,1,1,1,0,1]) Q0 a0 w1:=by
 obtain⟨u,ha,hu⟩:=Zs hk;obtain⟨g1,g2,s2,s3,s4,s5,s7,s11,s12,g3⟩:=hk;have e2:=hu 2 _ s2;have e3:=hu 3 _ s3;have e4:=hu 4 _ s4;have e5:=hu 5 _ s5;have e7:=hu 7 _ s7;have e11:=hu 11 _ s11;have e12:=hu 12 _ s12;rw[e2,e3,e4,e5,e7,e11,e12]at ha;subst ha;clear hu g1 g2 g3 e2 s2 e3 s3 e4 s4 e5 s5 e7 s7 e11 s11 e12 s12
 conv=>arg 2;whnf
 have HQ:=hid hQ;have hx:=hid ho;have he:=hid hb;have hg:=hid hd;clear hQ ho hb hd;go_wp2_with fail
 refine ZS (fun t ac wr=>∃ (tn d:Nat) (m:Zm),t=n-tn∧tn≤n∧(tn=0→d=0)∧(tn≠0→d=n)∧Fr [(2,.pointer (some ⟨r,0,none⟩)),(3,.pointer (some ⟨mb,0,none⟩)),(4,.int .i64 n),(5,.slice (some ⟨tb,0,none⟩) n n),(7,.slice (some ⟨pb,0,none⟩) n n),(11,.slice (some ⟨db,0,none⟩) n n),(12,.int .i64 tn)] ac∧MSt w (exD r pb db ph (dnL n d)) mb bb tb (.slice sa sl sc) l n rows m wr∧Yn rows n m.bks∧Lp x ph n d m) n ⟨0,0,m,rfl,Nat.zero_le _,fun _=>rfl,fun h=>absurd rfl h,(ZA rfl rfl zf0),hc,he.out,hg.out⟩ ?_
 ·clear hc he hg m;intro t a1 wr K hJ hK;have hv:=hid hK;clear hK;obtain⟨tn,d,m,rfl,hz,hn,hl,hf,hc,hb,hd⟩:=hJ;obtain⟨u,ha,hu⟩:=Zs hf;obtain⟨g1,g2,s2,s3,s4,s5,s7,s11,s12,g3⟩:=hf;have e2:=hu 2 _ s2;have e3:=hu 3 _ s3;have e4:=hu 4 _ s4;have e5:=hu 5 _ s5;have e7:=hu 7 _ s7;have e11:=hu 11 _ s11;have e12:=hu 12 _ s12;rw[e2,e3,e4,e5,e7,e11,e12]at ha;subst ha;clear hu g1 g2 g3 e2 s2 e3 s3 e4 s4 e5 s5 e7 s7 e11 s11 e12 s12;have hp:=hid hc;have he:=hid hb;have hg:=hid hd;have HD:=hid (And.intro hn hl);clear hb hd hn hl hc;by_cases hy:tn<n
  ·go_upto_block 8 with fail
   refine Zer w sa sl sc l rows m r mb bb n tb pb db tn d ph x _ _ _ (ZA rfl rfl zf0) hp.out ht hx.out HD.out.1 HD.out.2 he.out hg.out ?_;intro a1 w2 d2 m2 hf hi hm hh hj;obtain⟨u,ha,hu⟩:=Zs hf;obtain⟨g1,g2,s2,s3,s4,s5,s7,s11,s12,g3⟩:=hf;have e2:=hu 2 _ s2;have e3:=hu 3 _ s3;have e4:=hu 4 _ s4;have e5:=hu 5 _ s5;have e7:=hu 7 _ s7;have e11:=hu 11 _ s11;have e12:=hu 12 _ s12;rw[e2,e3,e4,e5,e7,e11,e12]at ha;subst ha;clear hu g1 g2 g3 e2 s2 e3 s3 e4 s4 e5 s5 e7 s7 e11 s11 e12 s12;have hr:=hid hi;have hq:=hid hh;have hs:=hid hj;have hw:=hid hm;clear hi hh hj hm;go_wp2_with fail
   exact hv.out (n-(tn+1)) _ _ zaK ⟨tn+1,d2,m2,rfl,zaK,fun h=>absurd h zaK,fun _=>hw.out,(ZA rfl rfl zf0),hr.out,hq.out,hs.out⟩
  ·obtain rfl:n=tn:=zaK
   go_wp2_with fail
   exact HQ.out _ _ m (ZA rfl rfl zf0) (by have h:=hp.out;rwa [HD.out.2 zaK]at h) he.out (by have h:=hg.out;rwa [HD.out.2 zaK]at h)
structure Xo (x:Int) (ph:List Int) (n c:Nat) (m:Zm):Prop where
 phs:ph.length=n∧(∀ v∈ph,0≤v∧v≤3)∧ph[0]? = some 0
 cnt:∀ (j:Nat) (k:Zt) (v:Int),m.bks[j]? = some k→ph[j]? = some v→(k.phis.length:Int)=v
 phi:∀ k∈m.bks,∀ p∈k.phis,(0≤p.dst∧p.dst<700)∧p.ins.length≤9∧∀ y∈p.ins,(0≤y.1∧y.1<(n:Int))∧0≤y.2∧y.2<700
 at_:m.at_≤2000+3*c
 next:m.next≤391+c
 params:m.params=x
 total:m.total≤450+c
 live:m.live.length≤10000+2*c
 terms:∀ k∈m.bks,Y7 700 n k.term
section
variable {x : Int} {ph:List Int} {n c d:Nat} {m m':Zm} {w w':World} {v : Value} {xs:List Int} {bx:List Bx}
theorem Xo.start (h:Lp x ph n n m) (hl:m.bks.length=n) (hn:n≤9) (hx:x≤4):Xo x ph n 0 m:=by
 have h1:=h.at_;have h2:=h.next;have h3:=h.total;have h4:=h.live;refine⟨⟨h.phs.len,h.phs.few,h.phs.zero⟩,fun j k v hk hv=>h.phs.cnt j k v ?_ hk hv,fun k hk p hp=>?_,zaK,zaK,h.params,zaK,zaK,fun k hk=>?_⟩
 ·have:=(List.getElem?_eq_some_iff.1 hk).1;omega
 ·obtain⟨a1,a2⟩:=h.phs.phi k hk p hp;rw[a2];exact⟨⟨a1.1,zaK⟩,by simp,fun y hy=>by cases hy⟩
 ·obtain⟨j,hj⟩:=List.getElem?_of_mem hk;exact (h.terms j k (by have:=(List.getElem?_eq_some_iff.1 hj).1;omega) hj).mono zaK
theorem Xo.mv {a i e:Nat} (h:Xo x ph n c m) (hm:MvC m m' a i e) (ha:a≤3*d) (hi:i≤d) (he:e≤d):Xo x ph n (c+d) m':=by
 have hs:∀ k'∈m'.bks,∃ k∈m.bks,k'.phis=k.phis∧k'.term=k.term:=fun k' hb=>by
  obtain⟨j,hj⟩:=List.getElem?_of_mem hb;obtain⟨k,h1,h2⟩:=hm.at hj;exact⟨k,List.mem_of_getElem? h1,h2⟩
 refine⟨h.phs,fun j k v hk hv=>?_,fun k hk p hp=>?_,by have:=h.at_;have:=hm.at_;omega,by have:=h.next;have:=hm.next.2;omega,hm.same.1.trans h.params,by have:=h.total;have:=hm.total;omega,by have:=h.live;have:=hm.live;omega,fun k hk=>?_⟩
 ·obtain⟨k0,h1,h2,_⟩:=hm.at hk;rw[h2];exact h.cnt j k0 v h1 hv
 ·obtain⟨k0,h1,h2,_⟩:=hs k hk;rw[h2]at hp;exact h.phi k0 h1 p hp
 ·obtain⟨k0,h1,_,h2⟩:=hs k hk;rw[h2];exact h.terms k0 h1
theorem Xo.few (h:Xo x ph n c m) (hl:m.bks.length=n) (hn:n≤9) (hc:c≤300) (hg:∀ b∈m.bks,∀ y∈b.ins,Ye m.next y):Qh 700 m.bks:=by
 refine⟨zaK,fun b hb=>⟨?_,fun p hp=>⟨(h.phi b hb p hp).1,by have:=(h.phi b hb p hp).2.1;omega⟩⟩,fun b hb=>⟨?_,fun y hy=>(hg b hb y hy).mono (by have:=h.next;omega)⟩⟩
 ·obtain⟨j,hj⟩:=List.getElem?_of_mem hb;obtain⟨v,hv⟩:∃ v,ph[j]? = some v:=⟨_,List.getElem?_eq_getElem (by rw[h.phs.1,←hl];exact (List.getElem?_eq_some_iff.1 hj).1)⟩
  have h1:=h.cnt j b v hj hv;have h2:=h.phs.2.1 v (List.mem_of_getElem? hv);omega
 ·have h1:=Jn hb;have h2:=h.total;omega
theorem ZaL {α β:Type} {f : α→β} {l : List α} {b : Nat} {k k':α} (hb:l[b]? = some k) (hf:f k'=f k):(l.set b k').map f=l.map f:=by
 rw[List.map_set,hf];apply List.ext_getElem?
 intro t;rw[List.getElem?_set];split
 ·rename_i e
  subst e;rw[if_pos (by rw[List.length_map];exact (List.getElem?_eq_some_iff.1 hb).1),List.getElem?_map,hb];rfl
 ·rfl
theorem Xo.setIn {b i:Nat} {k : Zt} {p : YW} {ins:List (Int × Int)} {iv:Value} (h:Xo x ph n c m) (hb:m.bks[b]? = some k) (hi:k.phis[i]? = some p) (hl:ins.length≤9) (hc:∀ y∈ins,(0≤y.1∧y.1<(n:Int))∧0≤y.2∧y.2<700) :
  Xo x ph n c { m with bks:=m.bks.set b { k with phis:=k.phis.set i { p with ins:=ins,inv:=iv } } }:=by
 have ha:=List.mem_of_getElem? hb;refine⟨h.phs,fun j k2 v hk hv=>?_,fun k2 hk q hq=>?_,h.at_,h.next,h.params,?_,h.live,fun k2 hk=>?_⟩
 ·rcases ZJ hk with ⟨rfl,rfl⟩|⟨_,h2⟩
  ·have:=h.cnt _ k v hb hv;simpa using this
  ·exact h.cnt j k2 v h2 hv
 ·rcases Yk hk with rfl|⟨j,_,hj⟩
  ·rcases List.mem_or_eq_of_mem_set hq with hq|rfl
   ·exact h.phi k ha q hq
   ·exact⟨(h.phi k ha p (List.mem_of_getElem? hi)).1,hl,hc⟩
  ·exact h.phi k2 (List.mem_of_getElem? hj) q hq
 ·show Zm.total _≤_
  unfold Zm.total;dsimp only;rw[ZaL (f:=fun b=>b.ins.length) (k':={ k with phis:=k.phis.set i { p with ins:=ins,inv:=iv } }) hb rfl];exact h.total
 ·rcases Yk hk with rfl|⟨j,_,hj⟩
  ·exact h.terms k ha
  ·exact h.terms k2 (List.mem_of_getElem? hj)
def BV (v:Value) (xs:List Int) (bx:List Bx):Prop:=
 (v=.slice none 0 0∧xs=[]∧bx=[])∨∃ g cap cur,v=.slice (some ⟨g,0,none⟩) xs.length cap∧bx=[⟨g,cur,3⟩]∧∀ (j:Nat) (y:Int),xs[j]? = some y→cur[j]? = some (.int .i64 y)
theorem Zcd {base:Nat} (h:w.ownsRow base 3 1 v xs.length (xs.map (Value.int .i64))):∃ bx,BV v xs bx∧∀ x∈bx,(HeapIs w x.q x.cs x.ty∧base≤x.q)∧x.ty=3:=by
 obtain⟨hd,⟨hv,hn⟩|⟨g,cap,cur,hv,hb,hg,he,hh,hf,hc⟩⟩:=h
 ·exact⟨[],.inl ⟨hv,List.length_eq_zero_iff.1 hn,rfl⟩,fun x hx=>by cases hx⟩
 ·refine⟨[⟨g,cur,3⟩],.inr ⟨g,cap,cur,hv,rfl,fun j y hj=>?_⟩,fun x hx=>?_⟩
  ·have h1:=congrArg (fun l=>l[j]?) hc;have ha:=(List.getElem?_eq_some_iff.1 hj).1;simp only[List.getElem?_map,hj,Option.map_some,List.getElem?_take,Nat.mul_one,if_pos ha]at h1;rw[←Array.getElem?_toList];exact h1
  ·rw[List.mem_singleton.1 hx];exact⟨⟨hg,hb⟩,rfl⟩
theorem BV.cell (h:BV v xs bx) (hb:∀ x∈bx,HeapIs w x.q x.cs x.ty) {j : Nat} {y : Int} (hj:xs[j]? = some y):∃ g cap,v=.slice (some ⟨g,0,none⟩) xs.length cap∧w.cell? ⟨g,j,none⟩=some (.int .i64 y)∧g<w.heap.size:=by
 rcases h with ⟨_,rfl,_⟩|⟨g,cap,cur,hv,rfl,hc⟩
 ·cases hj
 ·have h1:=hb _ (List.mem_singleton.2 rfl);exact⟨g,cap,hv,(h1.cell j).trans (hc j y hj),h1.lt⟩
theorem BV.own (h:BV v xs bx) {q : Nat} (hq:v.ownBlock=some q):CE bx q:=by
 rcases h with ⟨rfl,_,_⟩|⟨g,cap,cur,rfl,rfl,hc⟩
 ·cases hq
 ·exact⟨_,List.mem_singleton.2 rfl,Option.some.inj hq⟩
end
end Go.Proofs.YtimpddecdodddaaGreat
