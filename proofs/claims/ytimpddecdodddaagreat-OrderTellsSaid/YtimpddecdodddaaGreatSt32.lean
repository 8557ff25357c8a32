import Derived.Test.YtimpddecdodddaaGreatSt31
namespace Go.Proofs.YtimpddecdodddaaGreat
open Go.Proofs.Tryz Go.RowKit Go.Lib
set_option linter.unusedVariables false
set_option maxHeartbeats 8000000
set_option maxRecDepth 1000000
theorem zr {P:Prop} (h:P:=by
 intro a1 w3 ys3 v3 hf hd hi;obtain⟨u,ha,hu⟩:=Zs hf;obtain⟨g1,g2,s2,s3,s4,s5,s7,s11,s12,s13,s14,s15,s19,g3⟩:=hf;have e2:=hu 2 _ s2;have e3:=hu 3 _ s3;have e4:=hu 4 _ s4;have e5:=hu 5 _ s5;have e7:=hu 7 _ s7;have e11:=hu 11 _ s11;have e12:=hu 12 _ s12;have e13:=hu 13 _ s13;have e14:=hu 14 _ s14;have e15:=hu 15 _ s15;have e19:=hu 19 _ s19;rw[e2,e3,e4,e5,e7,e11,e12,e13,e14,e15,e19]at ha;subst ha;clear hu g1 g2 g3 e2 s2 e3 s3 e4 s4 e5 s5 e7 s7 e11 s11 e12 s12 e13 s13 e14 s14 e15 s15 e19 s19;have hp:=zH (MSt w ex mb bb tb (.slice sa sl sc) l n rows { m with live:=ys3,livev:=v3 } w3) hd
 have hA:=zH (ys3.length≤ys2.length+2*k.ins.length) hi;clear hd hi;go_wp2_with fail
 exact ht.out (n-(a+1)) _ _ (by omega) ⟨a+1,ys3,v3,rfl,by omega,(ZA rfl rfl zf0),hp.out,by have:=hm.out;have:=hn.out;have:=hA.out;have:=hh.out.2;omega⟩):P:=h
theorem yG {P:Prop} (h:P:=by
 go_wp2_with fail
 exact ht.out (n-(a+1)) _ _ (by omega) ⟨a+1,ys,v,rfl,by omega,(ZA rfl rfl zf0),ho.out,by have:=hm.out;omega⟩):P:=h
theorem j0 {P:Prop} (h:P:=by
 have hl:=hb.1.made.lt;go_wp2
 exact⟨_,rfl,rfl,Since.refl _,hb⟩):P:=h
theorem kx {P:Prop} (h:P:=by
 go_wp2
 exact⟨_,rfl,rfl,Since.refl _,hb⟩):P:=h
section
variable {w0 w w':World} {ex:List Bx} {mb bb tb:Nat} {sv:Value} {l : List Int} {n : Nat} {rows:List (Value × List Int)} {m : Zm}
theorem MSt.liveAdd (h:MSt w0 ex mb bb tb sv l n rows m w) {more:List Int} {v : Value} (ha:w'.ownsRow 0 3 1 v (m.live++more).length ((m.live++more).map (Value.int .i64))) (t:Zb (fun q=>m.livev.ownBlock=some q) w w') (hb:Yb w m.livev v) (hg:∀ y∈more,0≤y∧y<m.next) :
  MSt w0 ex mb bb tb sv l n rows { m with live:=m.live++more,livev:=v } (w'.setCell ⟨mb,5,none⟩ v):=by
 have h1:=h.ok.setLive ha t hb hg;exact h.step h1.1 ⟨h1.2.2,h1.2.1⟩ rfl
theorem MSt.livePut (h:MSt w0 ex mb bb tb sv l n rows m w) {ys:List Int} {v : Value} (ha:w'.ownsRow 0 3 1 v ys.length (ys.map (Value.int .i64))) (t:Zb (fun q=>m.livev.ownBlock=some q) w w') (hb:Yb w m.livev v) (hg:∀ y∈ys,0≤y∧y<m.next) :
  MSt w0 ex mb bb tb sv l n rows { m with live:=ys,livev:=v } (w'.setCell ⟨mb,5,none⟩ v):=by
 have h1:=h.ok.putLive ha t hb hg;exact h.step h1.1 ⟨h1.2.2,h1.2.1⟩ rfl
end
theorem Wn {α:Type} {f : α→List Value} {sz:Nat} {e : TypeId} {base:Nat} {w : World} {v : Value} {l : List α} (hf:∀ x,(f x).length=sz) (h:OwnRow f sz e base w v l) (hl:0<l.length):∃ g cap cur,v=.slice (some ⟨g,0,none⟩) l.length cap∧HeapIs w g cur e∧∀ (i t:Nat) (x:α),l[i]? = some x→t<sz→cur[i*sz+t]? = (f x)[t]?:=by
 obtain⟨hd,⟨hv,hn⟩|⟨g,cap,cur,hv,hb,hg,he,hi,hh,hc⟩⟩:=h
 ·omega
 ·refine⟨g,cap,cur,hv,hg,fun i t x hx ht=>?_⟩;have h1:=congrArg (fun l=>l[i*sz+t]?) hc;have h2:=Wk f sz hf l i t x hx ht;have ha:=(List.getElem?_eq_some_iff.1 hx).1;have h3:i*sz+t<l.length*sz:=by
   have:=Nat.mul_le_mul_right sz (show i+1≤l.length from ha);rw[Nat.succ_mul]at this;omega
  simp only[h2,List.getElem?_take,if_pos h3]at h1;rw[←Array.getElem?_toList,h1]
def Wf (S:Nat→Prop) (d:Int) (v:Value) (w:World):Prop:=∃ q,v=.slice (some ⟨q,0,none⟩) 1 1∧HeapIs w q #[.int .i64 d] 3∧¬ S q
theorem Wf.stable (S:Nat→Prop) (d:Int):ZH (Wf S d):=fun v w w' ⟨q,h1,h2,h3⟩ s=>⟨q,h1,h2.keep s,h3⟩
theorem Wf.stableT (S:Nat→Prop) (d:Int):Yw S (Wf S d):=fun v w w' ⟨q,h1,h2,h3⟩ t=>⟨q,h1,h2.turn t h3,h3⟩
theorem Wf.new {S : Nat→Prop} {w : World} (d:Int) (h:¬ S w.heap.size):Wf S d (.slice (some ⟨w.heap.size,0,none⟩) 1 1) (w.alloc (.cells #[.int .i64 d] 3)):=⟨_,rfl,HeapIs.new _ _ _,h⟩
theorem Wf.nums {S : Nat→Prop} {d : Int} {v : Value} {w : World} (h:Wf S d v w):Zd w v [d]:=by
 obtain⟨q,rfl,h2,_⟩:=h;exact Wc [d] _ 1 (Nat.le_refl _) zap (show w.heap[q]? = _ from h2) fun j n hj=>by
  match j,hj with
  | 0,hj=>simpa using hj
def Qx (w0:World) (v0:Value) (xs:List Int) (v:Value) (w:World):Prop:=∃ wa,Since w0 wa∧Zb (fun q=>v0.ownBlock=some q) wa w∧Yb wa v0 v∧w.ownsRow 0 3 1 v xs.length (xs.map (Value.int .i64))
theorem Qx.stable (w0:World) (v0:Value) (xs:List Int):ZH (Qx w0 v0 xs):=fun v w w' ⟨wa,h1,h2,h3,h4⟩ s=>⟨wa,h1,h2.trans (Zb.since s),h3,Zv h4 s⟩
structure LvM (mb bb fb:Nat) (c1 c2 c3:Array Value) (w:World):Prop where
 made:HeapIs w mb c1 111
 bk:HeapIs w bb c2 177
 pk:HeapIs w fb c3 138
def Zd6 (w1:World) (mb bb fb:Nat) (c1 c2 c3:Array Value) (p:Nat) (w:World):Prop:=LvM mb bb fb c1 c2 c3 w∧(p=0→Since w1 w)
theorem LvM.keep {mb bb fb:Nat} {c1 c2 c3:Array Value} {w w':World} (h:LvM mb bb fb c1 c2 c3 w) (s:Since w w'):LvM mb bb fb c1 c2 c3 w':=⟨h.made.keep s,h.bk.keep s,h.pk.keep s⟩
theorem Zae (w:World) (ex:List Bx) (sa:Option Addr) (sl sc:Nat) (l:List Int) (rows:List (Value × List Int)) (m:Zm) (r mb bb n tb pb db tn b vb vc:Nat) (rdy:Bool) (a0:Act) (w1:World) (Q0:Exit→Act→World→Prop) (ht:Fr [(2,.pointer (some ⟨r,0,none⟩)),(3,.pointer (some ⟨mb,0,none⟩)),(4,.int .i64 n),(5,.slice (some ⟨tb,0,none⟩) n n),(7,.slice (some ⟨pb,0,none⟩) n n),(11,.slice (some ⟨db,0,none⟩) n n),(12,.int .i64 tn),(13,.int .i64 b),(14,.bool rdy),(15,.slice (some ⟨vb,0,none⟩) n vc),(18,.int .i64 0)] a0)
  (ha:MSt w ex mb bb tb (.slice sa sl sc) l n rows m w1) (hm:0≤m.params∧m.params≤4) (hr:m.params≤m.next) (hh:m.live=[])
  (hQ:∀ a1 w2 ys v,Fr [(2,.pointer (some ⟨r,0,none⟩)),(3,.pointer (some ⟨mb,0,none⟩)),(4,.int .i64 n),(5,.slice (some ⟨tb,0,none⟩) n n),(7,.slice (some ⟨pb,0,none⟩) n n),(11,.slice (some ⟨db,0,none⟩) n n),(12,.int .i64 tn),(13,.int .i64 b),(14,.bool rdy),(15,.slice (some ⟨vb,0,none⟩) n vc)] a1→MSt w ex mb bb tb (.slice sa sl sc) l n rows { m with live:=ys,livev:=v } w2→ys.length≤4→Q0 .normal a1 w2):Code.wp prog (mkCode [1,1,1,1,1,1,1,1,1,1,1,0,1,0,0,1,0,0,1,0,0,1,0,0,1,1,1,1,1,1,1,0,1]) Q0 a0 w1:=by
 obtain⟨u,hv,hu⟩:=Zs ht;obtain⟨g1,g2,s2,s3,s4,s5,s7,s11,s12,s13,s14,s15,s18,g3⟩:=ht;have e2:=hu 2 _ s2;have e3:=hu 3 _ s3;have e4:=hu 4 _ s4;have e5:=hu 5 _ s5;have e7:=hu 7 _ s7;have e11:=hu 11 _ s11;have e12:=hu 12 _ s12;have e13:=hu 13 _ s13;have e14:=hu 14 _ s14;have e15:=hu 15 _ s15;have e18:=hu 18 _ s18;rw[e2,e3,e4,e5,e7,e11,e12,e13,e14,e15,e18]at hv;subst hv;clear hu g1 g2 g3 e2 s2 e3 s3 e4 s4 e5 s5 e7 s7 e11 s11 e12 s12 e13 s13 e14 s14 e15 s15 e18 s18
 conv=>arg 2;whnf
 have HQ:=hid hQ;have HS:=hid (And.intro hm hr);have hA:=hid hh;clear hQ hm hr hh;go_wp2_with fail
 go_loopw [18] (fun i wr=>∃ (j:Nat) (ys:List Int) (v:Value),(j:Int)≤m.params∧i=.int .i64 j∧MSt w ex mb bb tb (.slice sa sl sc) l n rows { m with live:=ys,livev:=v } wr∧ys.length=j) (fun i _=>(m.params-intOf i).toNat)
 case atStart=>exact⟨0,m.live,m.livev,HS.out.1.1,rfl,ha,by rw[hA.out];rfl⟩
 case round =>
  clear ha;obtain⟨j,ys,v,hs,rfl,ha,hk⟩:=hrel;obtain⟨pp,hc⟩:∃ z,z=m.params:=⟨_,rfl⟩
  have hB:(j:Int)≤pp∧pp≤4:=by rw[hc];exact⟨hs,HS.out.1.2⟩
  have hz:=zH (pp≤m.next) (by rw[hc];exact HS.out.2);have hn:=hid ha;have hj:=hid hk;have hd:=ha.box;have hG:wr.cell? ⟨mb,2,none⟩=some (.int .i64 pp):=by rw[hc];exact hd.cell 2
  have hD:=hd.lt;have hE:=hd.frozen;obtain⟨la,lc,hg⟩:=Ze ha.ok.live
  replace hg:v=.slice la ys.length lc:=hg
  rw[hk]at hg;subst hg;have hF:wr.cell? ⟨mb,5,none⟩=some (.slice la j lc):=hd.cell 5;have hw:=hid hc;clear ha hk hd hs hc;by_cases hC:(j:Int)<pp
  ·go_wp2_with (refine Zl (base:=0) .i64 rfl _ _ 22 rfl 3 (.int .i64 0) 8 underlying22 Tryz.info3 rfl zaJ (.slice la j lc) _ ys [(j:Int)] rfl rfl (Zv (by exact hn.out.ok.live) ((Since.refl _).alloc _)) (Ym _ _ _) (by rw[hj.out];simp;omega) (Nat.zero_le _) ?_;intro v6 w6 hb hl hf;obtain⟨a6,c6,hq⟩:=Ze hb;rw[show (ys++[(j:Int)]).length=j+1 from by rw[List.length_append,hj.out];rfl]at hq;subst hq;have he:=hid (hn.out.keep ((Since.refl _).alloc (.cells #[.int .i64 j] 3)));have hi:HeapIs w6 mb _ _:=HeapIs.turn (he.out.box) hl (he.out.ok.mb_live);have k5:=hi.cell 5;have kl:=hi.lt;have kf:=hi.frozen;have ho:=hid hb;have hx:=hid hl;have hp:=hid hf;clear hi hb hl hf)
   go_roundw
   case rel=>exact⟨j+1,ys++[(j:Int)],.slice a6 (j+1) c6,by rw[←hw.out];omega,by go_num,he.out.liveAdd ho.out hx.out hp.out (by intro y hy;rw[List.mem_singleton.1 hy];have:=hz.out;exact⟨zaK,(by omega:(j:Int)<m.next)⟩),by rw[List.length_append,hj.out];rfl⟩
   case measure=>rw[←hw.out];simp[intOf];omega
  ·have HE:=zH ((j:Int)=pp) zaK;go_wp2_with fail
   exact HQ.out _ _ _ _ (ZA rfl rfl zf0) hn.out (by rw[hj.out];omega)
theorem J0 (w:World) (ex:List Bx) (sa:Option Addr) (sl sc:Nat) (l:List Int) (rows:List (Value × List Int)) (m:Zm) (r mb bb n tb pb db tn b vb vc:Nat) (rdy:Bool) (a:Nat) (k:Zt) (a0:Act) (w1:World) (Q0:Exit→Act→World→Prop) (hU:Fr [(2,.pointer (some ⟨r,0,none⟩)),(3,.pointer (some ⟨mb,0,none⟩)),(4,.int .i64 n),(5,.slice (some ⟨tb,0,none⟩) n n),(7,.slice (some ⟨pb,0,none⟩) n n),(11,.slice (some ⟨db,0,none⟩) n n),(12,.int .i64 tn),(13,.int .i64 b),(14,.bool rdy),(15,.slice (some ⟨vb,0,none⟩) n vc),(19,.int .i64 a),(20,.int .i64 0)] a0)
  (hd:MSt w ex mb bb tb (.slice sa sl sc) l n rows m w1) (ha:a<n) (Hg:n≤9) (hk:m.bks[a]? = some k) (hr:(∀ p∈k.phis,0≤p.dst∧p.dst<m.next)∧k.phis.length≤3) (hT:m.live.length≤20000)
  (hQ:∀ a1 w2 ys v,Fr [(2,.pointer (some ⟨r,0,none⟩)),(3,.pointer (some ⟨mb,0,none⟩)),(4,.int .i64 n),(5,.slice (some ⟨tb,0,none⟩) n n),(7,.slice (some ⟨pb,0,none⟩) n n),(11,.slice (some ⟨db,0,none⟩) n n),(12,.int .i64 tn),(13,.int .i64 b),(14,.bool rdy),(15,.slice (some ⟨vb,0,none⟩) n vc),(19,.int .i64 a)] a1→MSt w ex mb bb tb (.slice sa sl sc) l n rows { m with live:=ys,livev:=v } w2→ys.length≤m.live.length+3→Q0 .normal a1 w2):Code.wp prog (mkCode [1,1,1,1,1,1,1,1,1,1,1,0,1,0,0,1,0,0,1,0,0,1,0,0,1,1,1,1,1,1,1,1,0,1,0,0,1,0,0,1,0,1]) Q0 a0 w1:=by
 obtain⟨u,hW,hu⟩:=Zs hU;obtain⟨g1,g2,s2,s3,s4,s5,s7,s11,s12,s13,s14,s15,s19,s20,g3⟩:=hU;have e2:=hu 2 _ s2;have e3:=hu 3 _ s3;have e4:=hu 4 _ s4;have e5:=hu 5 _ s5;have e7:=hu 7 _ s7;have e11:=hu 11 _ s11;have e12:=hu 12 _ s12;have e13:=hu 13 _ s13;have e14:=hu 14 _ s14;have e15:=hu 15 _ s15;have e19:=hu 19 _ s19;have e20:=hu 20 _ s20;rw[e2,e3,e4,e5,e7,e11,e12,e13,e14,e15,e19,e20]at hW;subst hW;clear hu g1 g2 g3 e2 s2 e3 s3 e4 s4 e5 s5 e7 s7 e11 s11 e12 s12 e13 s13 e14 s14 e15 s15 e19 s19 e20 s20
 conv=>arg 2;whnf
 have HQ:=hid hQ;have HF:=hid hr;have HK:=hid hk;have HM:=hid hT;clear hQ hr hT hk;go_wp2_with fail
 go_loopw [20] (fun i wr=>∃ (t:Nat) (ys:List Int) (v:Value),t≤k.phis.length∧i=.int .i64 t∧MSt w ex mb bb tb (.slice sa sl sc) l n rows { m with live:=ys,livev:=v } wr∧ys.length=m.live.length+t) (fun i _=>k.phis.length-(intOf i).toNat)
 case atStart=>exact⟨0,m.live,m.livev,Nat.zero_le _,rfl,hd,rfl⟩
 case round =>
  clear hd;obtain⟨i,ys,v,h3,rfl,hd,hm⟩:=hrel;obtain⟨pl,hf⟩:∃ z,k.phis.length=z:=⟨_,rfl⟩
  obtain⟨j,hj⟩:∃ z,m.live.length+i=z:=⟨_,rfl⟩
  rw[hf]at h3;rw[hj]at hm;have hH:=hid hf;have HJ:=hid hj;have hG:=hid hd;have hv:=hid hm;have ho:=hd.box;have Ho:=ho.cell 3;have Hj:=ho.lt;obtain⟨la,lc,he⟩:=Ze hd.ok.live
  replace he:v=.slice la ys.length lc:=he
  rw[hm]at he;have hs:=hd.ok.each k (List.mem_of_getElem? HK.out);obtain⟨fa,fc,hn⟩:=Ze (show wr.ownsRow _ _ _ _ _ _ from hs.phis);have hF:=hd.cell HK.out (show 0<6 by decide);rw[show (fbcells k)[0]? = some k.phv from rfl,hn,Nat.add_zero]at hF
  rw[hf]at hF hn;have Hn:=hd.blkAt.lt;have Hk:a<n:=ha;have hK:=hid he;have Hf:pl≤3:=by rw[←hf];exact HF.out.2
  have Hl:j≤20003:=by have:=HM.out;omega
  by_cases Hh:i<pl
  ·obtain⟨fb,fc2,cur,hp,hC,hE⟩:=Wn Xm hs.phis zaK;rw[hf]at hp;rw[hn]at hp;injection hp with e1 e2 e3
   subst e1;subst e3;obtain⟨x,hx⟩:∃ x,k.phis[i]? = some x:=⟨_,List.getElem?_eq_getElem zaK⟩
   obtain⟨y,hy⟩:∃ y,x.dst=y:=⟨_,rfl⟩
   have hD:=hE i 0 x hx zaJ;rw[Nat.add_zero,show (fpcells x)[0]? = some (.int .i64 y) from by rw[←hy];rfl]at hD
   have Hc:=hid hD;have HG:=zH (0≤y∧y<m.next) (by rw[←hy];exact HF.out.1 x (List.mem_of_getElem? hx))
   have hP:=hd.blkAt.cell (a*6);have He:=zH ((m.bks.flatMap fbcells).toArray[a*6]? = some (.slice (some ⟨fb,0,none⟩) pl fc)) (hP.symm.trans hF);obtain⟨at_,hV⟩:∃ z:Int,(m.at_:Int)=z:=⟨_,rfl⟩
   obtain⟨pp,hO⟩:∃ z,m.params=z:=⟨_,rfl⟩
   obtain⟨nx,hR⟩:∃ z,m.next=z:=⟨_,rfl⟩
   have hB:HeapIs wr mb #[.slice sa sl sc,.int .i64 at_,.int .i64 pp,.slice (some ⟨bb,0,none⟩) n n,.int .i64 nx,.slice la j lc] 111:=by rw[←hV,←hO,←hR,←he];exact ho
   have Hb:=zH (∀ q,(Value.slice la j lc).ownBlock=some q→q<wr.heap.size) (fun q hq=>(World.ownsRow.lt hd.ok.live q (by dsimp only;rw[he];exact hq)).2)
   have hL:=hid (show ¬ (Value.slice la j lc).ownBlock=some mb∧¬ (Value.slice la j lc).ownBlock=some bb∧¬ (Value.slice la j lc).ownBlock=some fb from by
    rw[←he];exact⟨Zn hd.ok.live hB zaJ,Zn hd.ok.live hd.blkAt zaJ,Zn hd.ok.live hC zaJ⟩)
   have hZ:=zH (Zd6 wr mb bb fb #[.slice sa sl sc,.int .i64 at_,.int .i64 pp,.slice (some ⟨bb,0,none⟩) n n,.int .i64 nx,.slice la j lc] (m.bks.flatMap fbcells).toArray cur 0 wr.drew) ⟨(LvM.mk hB hd.blkAt hC).keep ((Since.refl _).drew),fun _=>(Since.refl _).drew⟩;clear hd hm ho he hs hn hP hD hx hy hE hC hB hV hO hR hf hj;go_wp2_with fail
   refine Xa 20 19 [19] [0,0,0,0,0,0,0,0,0,0,0,0,0,0,0,0,0,0,0,0] [1,0,0,0,0,0,0,0,0,0,0,0,0,0,0,0,0,0,0,0] [0,0,0,0,0,0,0,0,0,0,0,0,0,0,0,0,0,0,0,1] (fun q=>(Value.slice la j lc).ownBlock=some q) (Zd6 wr mb bb fb #[.slice sa sl sc,.int .i64 at_,.int .i64 pp,.slice (some ⟨bb,0,none⟩) n n,.int .i64 nx,.slice la j lc] (m.bks.flatMap fbcells).toArray cur) rfl zaC zaC zaC zaJ zaC
    [Is (.pointer (some ⟨mb,0,none⟩)),Is (.pointer (some ⟨mb,0,none⟩)),Is (.pointer (some ⟨mb,0,none⟩)),Is (.pointer (some ⟨mb,5,none⟩)),Is (.slice la j lc),Is (.pointer (some ⟨mb,0,none⟩)),Is (.pointer (some ⟨mb,0,none⟩)),Is (.pointer (some ⟨mb,2,none⟩)),Is (.pointer (some ⟨mb,3,none⟩)),Is (.slice (some ⟨bb,0,none⟩) n n),Is (.int .i64 a),Is (.pointer (some ⟨bb,a*6,none⟩)),Is (.pointer (some ⟨bb,a*6,none⟩)),Is (.slice (some ⟨fb,0,none⟩) pl fc),Is (.int .i64 i),Is (.pointer (some ⟨fb,i*2,none⟩)),Is (.pointer (some ⟨fb,i*2,none⟩)),Is (.int .i64 y),Wf (fun q=>(Value.slice la j lc).ownBlock=some q) y,Qx wr (.slice la j lc) (ys++[y])]
    (by repeat (first | exact trivial | refine⟨fun h=>absurd rfl h,?_⟩ | refine⟨fun _=>Is.stableT _ _,?_⟩ | refine⟨fun _=>Any.stableT _,?_⟩ | refine⟨fun _=>Wf.stableT _ _,?_⟩)) (by repeat (first | exact trivial | refine⟨Is.stable _,?_⟩ | refine⟨Any.stable,?_⟩ | refine⟨Wf.stable _ _,?_⟩ | refine⟨Qx.stable _ _ _,?_⟩)) hZ.out ⟨?_,?_,?_,?_,?_,?_,?_,?_,?_,?_,?_,?_,?_,?_,?_,?_,?_,?_,?_,?_,trivial⟩ ?_
   rotate_right
   ·intro vs w2 ht hb hk;revert hk;refine zs0 ?_;intro hk
    obtain⟨wa,hN,hM,hh,hg⟩:Qx wr (.slice la j lc) (ys++[y]) (vs 19) w2:=by exact hk.2.2.2.2.2.2.2.2.2.2.2.2.2.2.2.2.2.2.2.1
    generalize vs 19=nv at *;have k5:=hb.1.made.cell 5;have kl:=hb.1.made.lt;have kf:=hb.1.made.frozen;have h6:=hid hN;have h4:=hid hM;have h0:=hid hh;have hJ:=hid hg;clear hk hb ht hN hM hh hg;obtain⟨na,nc,hS⟩:=Ze hJ.out;rw[show (ys++[y]).length=j+1 from by rw[List.length_append,hv.out];rfl]at hS
    subst hS;go_wp2
    go_roundw
    case rel=>exact⟨i+1,ys++[y],.slice na (j+1) nc,by rw[hH.out];omega,by go_num,(hG.out.keep h6.out).liveAdd hJ.out (by dsimp only;rw[hK.out];exact h4.out) (by dsimp only;rw[hK.out];exact h0.out) (by intro z hz;rw[List.mem_singleton.1 hz];exact HG.out),by rw[List.length_append,hv.out];show j+1=_;have:=HJ.out;omega⟩
    case measure=>rw[hH.out];simp[intOf];omega
   all_goals
    intro p vs w2 Hi Hm ht hb hk;revert hk;refine zs1 ?_;intro hk
   iterate 2
    ·exact kx
   ·exact j0
   ·exact kx
   ·have hc:=hb.1.made.cell 5;exact j0
   ·exact kx
   ·exact j0
   iterate 2
    ·exact kx
   ·have hc:=hb.1.made.cell 3;exact j0
   iterate 3
    ·exact kx
   ·have hc:=(hb.1.bk.cell (a*6)).trans He.out;have hl:=hb.1.bk.lt;exact kx
   iterate 3
    ·exact kx
   ·have hc:=(hb.1.pk.cell (i*2)).trans Hc.out;have hl:=hb.1.pk.lt;exact kx
   ·have h2:¬ (Value.slice la j lc).ownBlock=some w2.heap.size:=fun e=>by have:=Hb.out _ e;have:=ht.size;omega
    have hw:=(Since.refl w2).alloc (.cells #[.int .i64 y] 3);have HP:=zH (Zd6 wr mb bb fb #[.slice sa sl sc,.int .i64 at_,.int .i64 pp,.slice (some ⟨bb,0,none⟩) n n,.int .i64 nx,.slice la j lc] (m.bks.flatMap fbcells).toArray cur p _) (And.intro (hb.1.keep hw) (fun (e:p=0)=>(hb.2 e).trans hw))
    clear hk hb;go_wp2
    exact⟨_,rfl,⟨_,rfl,HeapIs.new _ _ _,h2⟩,hw,HP.out⟩
   ·obtain rfl:p=0:=zaK
    have hA:=hb.2 rfl;have h1:Wf (fun q=>(Value.slice la j lc).ownBlock=some q) y (vs 18) w2:=hk.2.1
    have hX:=h1.nums;have hY:=hid (hG.out.keep hA);have hI:=hid hb.1;have h7:=hid hA;have Ha:=hid hX;try simp only[hk.1]
    generalize vs 18=xv at *;clear hk hb hA h1 hX;refine Zl (base:=0) .i64 rfl _ _ 22 rfl 3 (.int .i64 0) 8 underlying22 Tryz.info3 rfl zaJ (.slice la j lc) _ ys [y] rfl rfl (by have h9:=hY.out.ok.live;dsimp only at h9;rw[hK.out]at h9;exact h9) Ha.out (by rw[hv.out];simp;omega) (Nat.zero_le _) ?_;intro v' w3 hg hi hh;have HA:=zH (Qx wr (.slice la j lc) (ys++[y]) v' w3) ⟨w2,h7.out,hi,hh,hg⟩;have h8:=zH (LvM mb bb fb #[.slice sa sl sc,.int .i64 at_,.int .i64 pp,.slice (some ⟨bb,0,none⟩) n n,.int .i64 nx,.slice la j lc] (m.bks.flatMap fbcells).toArray cur w3) ⟨hI.out.made.turn hi hL.out.1,hI.out.bk.turn hi hL.out.2.1,hI.out.pk.turn hi hL.out.2.2⟩;have h5:=hid hi;clear hg hi hh;go_wp2
    exact⟨_,rfl,HA.out,h5.out,h8.out,fun e=>absurd e zaJ⟩
  ·obtain rfl:pl=i:=zaK
   have Hp:=hid hd;clear hd ho he hs hn hf hj hm;go_wp2_with fail
   exact HQ.out _ _ _ _ (ZA rfl rfl zf0) hG.out (by rw[hv.out];have:=HJ.out;have:=HF.out.2;have:=hH.out;omega)
theorem KL (w:World) (ex:List Bx) (sa:Option Addr) (sl sc:Nat) (l:List Int) (rows:List (Value × List Int)) (m:Zm) (r mb bb n tb pb db tn b vb vc:Nat) (rdy:Bool) (a:Nat) (k:Zt) (a0:Act) (w1:World) (Q0:Exit→Act→World→Prop) (hK:Fr [(2,.pointer (some ⟨r,0,none⟩)),(3,.pointer (some ⟨mb,0,none⟩)),(4,.int .i64 n),(5,.slice (some ⟨tb,0,none⟩) n n),(7,.slice (some ⟨pb,0,none⟩) n n),(11,.slice (some ⟨db,0,none⟩) n n),(12,.int .i64 tn),(13,.int .i64 b),(14,.bool rdy),(15,.slice (some ⟨vb,0,none⟩) n vc),(19,.int .i64 a),(21,.int .i64 0)] a0)
  (hb:MSt w ex mb bb tb (.slice sa sl sc) l n rows m w1) (ha:a<n) (hZ:n≤9) (hk:m.bks[a]? = some k) (hc:k.ins.length≤1000) (hJ:m.live.length≤20000)
  (hQ:∀ a1 w2 ys v,Fr [(2,.pointer (some ⟨r,0,none⟩)),(3,.pointer (some ⟨mb,0,none⟩)),(4,.int .i64 n),(5,.slice (some ⟨tb,0,none⟩) n n),(7,.slice (some ⟨pb,0,none⟩) n n),(11,.slice (some ⟨db,0,none⟩) n n),(12,.int .i64 tn),(13,.int .i64 b),(14,.bool rdy),(15,.slice (some ⟨vb,0,none⟩) n vc),(19,.int .i64 a)] a1→MSt w ex mb bb tb (.slice sa sl sc) l n rows { m with live:=ys,livev:=v } w2→ys.length≤m.live.length+2*k.ins.length→Q0 .normal a1 w2):Code.wp prog (mkCode [1,1,1,1,1,1,1,1,1,1,1,0,1,0,0,1,0,0,1,0,0,1,0,0,1,1,1,1,1,1,1,1,0,1,0,0,1,0,0,1,1,1]) Q0 a0 w1:=by
 obtain⟨u,hL,hu⟩:=Zs hK;obtain⟨g1,g2,s2,s3,s4,s5,s7,s11,s12,s13,s14,s15,s19,s21,g3⟩:=hK;have e2:=hu 2 _ s2;have e3:=hu 3 _ s3;have e4:=hu 4 _ s4;have e5:=hu 5 _ s5;have e7:=hu 7 _ s7;have e11:=hu 11 _ s11;have e12:=hu 12 _ s12;have e13:=hu 13 _ s13;have e14:=hu 14 _ s14;have e15:=hu 15 _ s15;have e19:=hu 19 _ s19;have e21:=hu 21 _ s21;rw[e2,e3,e4,e5,e7,e11,e12,e13,e14,e15,e19,e21]at hL;subst hL;clear hu g1 g2 g3 e2 s2 e3 s3 e4 s4 e5 s5 e7 s7 e11 s11 e12 s12 e13 s13 e14 s14 e15 s15 e19 s19 e21 s21
 conv=>arg 2;whnf
 have HQ:=hid hQ;have HK:=hid hk;have HM:=hid hJ;have hW:=hid hc;clear hQ hJ hk hc;go_wp2_with fail
 go_loopw [21] (fun i wr=>∃ (t:Nat) (ys:List Int) (v:Value),t≤k.ins.length∧i=.int .i64 t∧MSt w ex mb bb tb (.slice sa sl sc) l n rows { m with live:=ys,livev:=v } wr∧ys.length≤m.live.length+2*t) (fun i _=>k.ins.length-(intOf i).toNat)
 case atStart=>exact⟨0,m.live,m.livev,Nat.zero_le _,rfl,hb,Nat.le_refl _⟩
 case round =>
  clear hb;obtain⟨i,ys,v,hR,rfl,hb,ht⟩:=hrel;obtain⟨il,hc⟩:∃ z,k.ins.length=z:=⟨_,rfl⟩
  rw[hc]at hR;have hD:=hid hc;have hY:il≤1000:=by rw[←hc];exact hW.out
  have hM:=hid hb;have hB:=hid ht;have hp:=hb.box;have hT:=hp.cell 3;have hP:=hp.lt;have hi:=hb.ok.each k (List.mem_of_getElem? HK.out);obtain⟨ia,ic,hl⟩:=Ze (show wr.ownsRow _ _ _ _ _ _ from hi.ins);have hA:=hb.cell HK.out (show 1<6 by decide);rw[show (fbcells k)[1]? = some k.inv from rfl,hl]at hA
  rw[hc]at hA hl;have hS:=hb.blkAt.lt;have h2:a<n:=ha;by_cases h0:i<il
  ·obtain⟨ib,ic2,cur,hm,hf,hd⟩:=Wn VC hi.ins zaK;rw[hc]at hm;rw[hl]at hm;injection hm with e1 e2 e3
   subst e1;subst e3;obtain⟨x,hx⟩:∃ x,k.ins[i]? = some x:=⟨_,List.getElem?_eq_getElem zaK⟩
   have hv:=List.mem_of_getElem? hx;have HG:=hid (Js (hb.ok.good.ins k (List.mem_of_getElem? HK.out) x hv));obtain⟨ya,yc,hr⟩:=Zc (hi.arg x hv).1;obtain⟨yop,ydst,ytwo,yargs,yav,yimm⟩:=x;dsimp only at hr;obtain⟨yl,hs⟩:∃ z,yargs.length=z:=⟨_,rfl⟩
   rw[hs]at hr;subst hr;have i0:=(hf.cell (i*5)).trans (hd i 0 _ hx zaJ);have i1:=(hf.cell (i*5+1)).trans (hd i 1 _ hx zaJ);have i2:=(hf.cell (i*5+2)).trans (hd i 2 _ hx zaJ);have i3:=(hf.cell (i*5+3)).trans (hd i 3 _ hx zaJ);have i4:=(hf.cell (i*5+4)).trans (hd i 4 _ hx zaJ);have hO:=hf.lt;simp only[Z6,List.getElem?_cons_zero,List.getElem?_cons_succ]at i0 i1 i2 i3 i4;clear hb ht hp hl hd hx hv hf hc hs hi;go_wp2_with fail
   refine (KU ⟨yop,ydst,ytwo,yargs,.slice ya yl yc,yimm⟩ wr).mono ?_;rintro e w5 ⟨mv,rfl,hz,hH⟩;obtain⟨ma,mc,hI⟩:=Zc hz;have hV:=hid hz;have he:=hid (hM.out.keep hH);have hX:=zH (∀ z∈fmakes ⟨yop,ydst,ytwo,yargs,.slice ya yl yc,yimm⟩,0≤z∧z<m.next) HG.out;have hN:=VZ ⟨yop,ydst,ytwo,yargs,.slice ya yl yc,yimm⟩;generalize fmakes ⟨yop,ydst,ytwo,yargs,.slice ya yl yc,yimm⟩=mks at *;obtain⟨mn,hy⟩:∃ z,mks.length=z:=⟨_,rfl⟩
   rw[hy]at hI hN;subst hI;have hC:=hid hy;obtain⟨la,lc,ho⟩:=Ze he.out.ok.live
   replace ho:v=.slice la ys.length lc:=ho
   obtain⟨j,hj⟩:∃ z,ys.length=z:=⟨_,rfl⟩
   rw[hj]at ho;subst ho;have h3:j≤22000:=by have:=hB.out;have:=HM.out;omega
   have HJ:=hid hj;have hh:=he.out.box;have h5:w5.cell? ⟨mb,5,none⟩=some (.slice la j lc):=hh.cell 5;have h1:=hh.lt;have h4:=hh.frozen;clear hz hH hy hj hh i0 i1 i2 i3 i4 hO hP hT hA hS HG;go_wp2_with (refine Zl (base:=0) .i64 rfl _ _ 22 rfl 3 (.int .i64 0) 8 underlying22 Tryz.info3 rfl zaJ (.slice la j lc) _ ys mks rfl rfl (by have h9:=he.out.ok.live;exact h9) hV.out (by rw[HJ.out,hC.out];omega) (Nat.zero_le _) ?_;intro v6 w6 hg hw hn;obtain⟨a6,c6,hG⟩:=Ze hg;rw[show (ys++mks).length=j+mn from by rw[List.length_append,HJ.out,hC.out]]at hG;subst hG;have hq:HeapIs w6 mb _ _:=HeapIs.turn (he.out.box) hw (he.out.ok.mb_live);have k5:=hq.cell 5;have kl:=hq.lt;have kf:=hq.frozen;have hE:=hid hg;have hU:=hid hw;have hF:=hid hn;clear hq hg hw hn)
   go_roundw
   case rel=>exact⟨i+1,ys++mks,.slice a6 (j+mn) c6,by rw[hD.out];omega,by go_num,he.out.liveAdd hE.out hU.out hF.out hX.out,by rw[List.length_append,hC.out];have:=hB.out;omega⟩
   case measure=>rw[hD.out];simp[intOf];omega
  ·obtain rfl:il=i:=zaK
   clear hb ht hp hl hc hi;go_wp2_with fail
   exact HQ.out _ _ _ _ (ZA rfl rfl zf0) hM.out (by have:=hB.out;have:=hD.out;omega)
def Zfm (ex:List Bx) (vb n b:Nat) (vcur:Array Value):Prop:=⟨vb,vcur,144⟩∈ex∧∀ a,a<n→∃ (ob:Nat) (o:List Bool) (rb:Bool),vcur[a]? = some (.slice (some ⟨ob,0,none⟩) n n)∧⟨ob,(o.map Value.bool).toArray,4⟩∈ex∧o[b]? = some rb
theorem ZS {P : Program} {Q : Exit→Act→World→Prop} {a : Act} {w : World} {c : Code} (J:Nat→Act→World→Prop) (n₀:Nat) (h₀:J n₀ a w)
  (round:∀ (t:Nat) (a:Act) (w:World) (K:Act→World→Prop),J t a w→(∀ (t':Nat) (a':Act) (w':World),t' < t→J t' a' w'→K a' w')→c.wp P (Exit.then K Q) a w):(Code.loop c).wp P Q a w:=
 wp_loop_ghost J n₀ h₀ fun n a w h=>round n a w _ h fun t' a' w' h1 h2=>⟨t',h1,h2⟩
theorem Zeu (w:World) (ex:List Bx) (sa:Option Addr) (sl sc:Nat) (l:List Int) (rows:List (Value × List Int)) (m:Zm) (r mb bb n tb pb db tn b vb vc:Nat) (rdy:Bool) (dn:List Bool) (vcur:Array Value) (a0:Act) (w1:World) (Q0:Exit→Act→World→Prop) (hG:Fr [(2,.pointer (some ⟨r,0,none⟩)),(3,.pointer (some ⟨mb,0,none⟩)),(4,.int .i64 n),(5,.slice (some ⟨tb,0,none⟩) n n),(7,.slice (some ⟨pb,0,none⟩) n n),(11,.slice (some ⟨db,0,none⟩) n n),(12,.int .i64 tn),(13,.int .i64 b),(14,.bool rdy),(15,.slice (some ⟨vb,0,none⟩) n vc),(19,.int .i64 0)] a0)
  (hc:MSt w ex mb bb tb (.slice sa sl sc) l n rows m w1) (hb:b<n) (hr:n≤9) (hH:⟨db,(dn.map Value.bool).toArray,4⟩∈ex) (hl:dn.length=n) (hM:Zfm ex vb n b vcur) (hL:∀ (a:Nat) (k:Zt),m.bks[a]? = some k→((∀ p∈k.phis,0≤p.dst∧p.dst<m.next)∧k.phis.length≤3)∧k.ins.length≤450) (hF:m.live.length≤10)
  (hQ:∀ a1 w2 ys v,Fr [(2,.pointer (some ⟨r,0,none⟩)),(3,.pointer (some ⟨mb,0,none⟩)),(4,.int .i64 n),(5,.slice (some ⟨tb,0,none⟩) n n),(7,.slice (some ⟨pb,0,none⟩) n n),(11,.slice (some ⟨db,0,none⟩) n n),(12,.int .i64 tn),(13,.int .i64 b),(14,.bool rdy),(15,.slice (some ⟨vb,0,none⟩) n vc)] a1→MSt w ex mb bb tb (.slice sa sl sc) l n rows { m with live:=ys,livev:=v } w2→ys.length≤m.live.length+1000*n→Q0 .normal a1 w2):Code.wp prog (mkCode [1,1,1,1,1,1,1,1,1,1,1,0,1,0,0,1,0,0,1,0,0,1,0,0,1,1,1,1,1,1,1,1,0,1]) Q0 a0 w1:=by
 obtain⟨u,ha,hu⟩:=Zs hG;obtain⟨g1,g2,s2,s3,s4,s5,s7,s11,s12,s13,s14,s15,s19,g3⟩:=hG;have e2:=hu 2 _ s2;have e3:=hu 3 _ s3;have e4:=hu 4 _ s4;have e5:=hu 5 _ s5;have e7:=hu 7 _ s7;have e11:=hu 11 _ s11;have e12:=hu 12 _ s12;have e13:=hu 13 _ s13;have e14:=hu 14 _ s14;have e15:=hu 15 _ s15;have e19:=hu 19 _ s19;rw[e2,e3,e4,e5,e7,e11,e12,e13,e14,e15,e19]at ha;subst ha;clear hu g1 g2 g3 e2 s2 e3 s3 e4 s4 e5 s5 e7 s7 e11 s11 e12 s12 e13 s13 e14 s14 e15 s15 e19 s19
 conv=>arg 2;whnf
 have HQ:=hid hQ;have HD:=hid (And.intro hH hl);have HA:=hid hM;have hP:=hid hL;have HM:=hid hF;clear hQ hF hH hl hM hL;go_wp2_with fail
 refine ZS (fun t ac wr=>∃ (a:Nat) (ys:List Int) (v:Value),t=n-a∧a≤n∧Fr [(2,.pointer (some ⟨r,0,none⟩)),(3,.pointer (some ⟨mb,0,none⟩)),(4,.int .i64 n),(5,.slice (some ⟨tb,0,none⟩) n n),(7,.slice (some ⟨pb,0,none⟩) n n),(11,.slice (some ⟨db,0,none⟩) n n),(12,.int .i64 tn),(13,.int .i64 b),(14,.bool rdy),(15,.slice (some ⟨vb,0,none⟩) n vc),(19,.int .i64 a)] ac∧MSt w ex mb bb tb (.slice sa sl sc) l n rows { m with live:=ys,livev:=v } wr∧ys.length≤m.live.length+1000*a) n ⟨0,m.live,m.livev,rfl,Nat.zero_le _,(ZA rfl rfl zf0),hc,Nat.le_refl _⟩ ?_
 ·clear hc;intro t a1 wr K hJ hK;have ht:=hid hK;clear hK;obtain⟨a,ys,v,rfl,hU,hf,hc,hB⟩:=hJ;obtain⟨u,ha,hu⟩:=Zs hf;obtain⟨g1,g2,s2,s3,s4,s5,s7,s11,s12,s13,s14,s15,s19,g3⟩:=hf;have e2:=hu 2 _ s2;have e3:=hu 3 _ s3;have e4:=hu 4 _ s4;have e5:=hu 5 _ s5;have e7:=hu 7 _ s7;have e11:=hu 11 _ s11;have e12:=hu 12 _ s12;have e13:=hu 13 _ s13;have e14:=hu 14 _ s14;have e15:=hu 15 _ s15;have e19:=hu 19 _ s19;rw[e2,e3,e4,e5,e7,e11,e12,e13,e14,e15,e19]at ha;subst ha;clear hu g1 g2 g3 e2 s2 e3 s3 e4 s4 e5 s5 e7 s7 e11 s11 e12 s12 e13 s13 e14 s14 e15 s15 e19 s19;have ho:=hid hc;have hs:=zH (ys.length≤10+1000*a) (by have:=HM.out;omega);have hm:=hid hB;clear hB;by_cases hg:a<n
  ·obtain⟨k,hk⟩:=hc.at hg;have HK:=zH (m.bks[a]? = some k) hk;have hh:=hid (hP.out a k hk);by_cases hN:a=b
   ·subst hN;have hO:((a:Int) != (a:Int))=false:=by simp
    clear hc hk;go_upto_block 18 with fail
    refine J0 w ex sa sl sc l rows { m with live:=ys,livev:=v } r mb bb n tb pb db tn a vb vc rdy a k _ _ _ (ZA rfl rfl zf0) ho.out hg hr HK.out (hh.out.1) (by have:=hs.out;show ys.length≤_;omega) ?_;intro a1 w2 ys2 v2 hf he hj;obtain⟨u,ha,hu⟩:=Zs hf;obtain⟨g1,g2,s2,s3,s4,s5,s7,s11,s12,s13,s14,s15,s19,g3⟩:=hf;have e2:=hu 2 _ s2;have e3:=hu 3 _ s3;have e4:=hu 4 _ s4;have e5:=hu 5 _ s5;have e7:=hu 7 _ s7;have e11:=hu 11 _ s11;have e12:=hu 12 _ s12;have e13:=hu 13 _ s13;have e14:=hu 14 _ s14;have e15:=hu 15 _ s15;have e19:=hu 19 _ s19;rw[e2,e3,e4,e5,e7,e11,e12,e13,e14,e15,e19]at ha;subst ha;clear hu g1 g2 g3 e2 s2 e3 s3 e4 s4 e5 s5 e7 s7 e11 s11 e12 s12 e13 s13 e14 s14 e15 s15 e19 s19;have hq:=zH (MSt w ex mb bb tb (.slice sa sl sc) l n rows { m with live:=ys2,livev:=v2 } w2) he;have hn:=zH (ys2.length≤ys.length+3) hj
    clear he hj;go_upto_block 20 with fail
    refine KL w ex sa sl sc l rows { m with live:=ys2,livev:=v2 } r mb bb n tb pb db tn a vb vc rdy a k _ _ _ (ZA rfl rfl zf0) hq.out hg hr HK.out (by have:=hh.out.2;omega) (by have:=hs.out;have:=hn.out;show ys2.length≤_;omega) ?_;exact zr
   ·have hO:((a:Int) != (b:Int))=true:=by simp;omega
    obtain⟨d1,hI⟩:∃ d1,dn[a]? = some d1:=⟨_,List.getElem?_eq_getElem (by rw[HD.out.2];exact hg)⟩
    have hy:=(hc.boxes _ HD.out.1).1;have hz:=hy.cell a;rw[List.getElem?_toArray,List.getElem?_map,hI]at hz
    replace hz:wr.cell? ⟨db,a,none⟩=some (.bool d1):=hz
    have hl:=hy.lt
    replace hl:db<wr.heap.size:=hl
    obtain⟨ob,o,rb,hC,hD,hE⟩:=HA.out.2 a hg;have hv:=(hc.boxes _ HA.out.1).1;have hS:wr.cell? ⟨vb,a,none⟩=some (.slice (some ⟨ob,0,none⟩) n n):=(hv.cell a).trans hC;have hR:vb<wr.heap.size:=hv.lt;have hw:=(hc.boxes _ hD).1;have hx:=hw.cell b;rw[List.getElem?_toArray,List.getElem?_map,hE]at hx
    replace hx:wr.cell? ⟨ob,b,none⟩=some (.bool rb):=hx
    have hT:ob<wr.heap.size:=hw.lt;clear hc hk hy hv hw hC hD hE hI
    cases d1
    ·exact yG
    ·cases rb
     ·clear hN;go_upto_block 18 with fail
      refine J0 w ex sa sl sc l rows { m with live:=ys,livev:=v } r mb bb n tb pb db tn b vb vc rdy a k _ _ _ (ZA rfl rfl zf0) ho.out hg hr HK.out (hh.out.1) (by have:=hs.out;show ys.length≤_;omega) ?_;intro a1 w2 ys2 v2 hf he hj;obtain⟨u,ha,hu⟩:=Zs hf;obtain⟨g1,g2,s2,s3,s4,s5,s7,s11,s12,s13,s14,s15,s19,g3⟩:=hf;have e2:=hu 2 _ s2;have e3:=hu 3 _ s3;have e4:=hu 4 _ s4;have e5:=hu 5 _ s5;have e7:=hu 7 _ s7;have e11:=hu 11 _ s11;have e12:=hu 12 _ s12;have e13:=hu 13 _ s13;have e14:=hu 14 _ s14;have e15:=hu 15 _ s15;have e19:=hu 19 _ s19;rw[e2,e3,e4,e5,e7,e11,e12,e13,e14,e15,e19]at ha;subst ha;clear hu g1 g2 g3 e2 s2 e3 s3 e4 s4 e5 s5 e7 s7 e11 s11 e12 s12 e13 s13 e14 s14 e15 s15 e19 s19;have hq:=zH (MSt w ex mb bb tb (.slice sa sl sc) l n rows { m with live:=ys2,livev:=v2 } w2) he;have hn:=zH (ys2.length≤ys.length+3) hj
      clear he hj;go_upto_block 20 with fail
      refine KL w ex sa sl sc l rows { m with live:=ys2,livev:=v2 } r mb bb n tb pb db tn b vb vc rdy a k _ _ _ (ZA rfl rfl zf0) hq.out hg hr HK.out (by have:=hh.out.2;omega) (by have:=hs.out;have:=hn.out;show ys2.length≤_;omega) ?_;exact zr
     ·exact yG
  ·obtain rfl:n=a:=zaK
   clear hc;go_wp2_with fail
   exact HQ.out _ _ _ _ (ZA rfl rfl zf0) ho.out hm.out
theorem Ze3 (w:World) (ex:List Bx) (sa:Option Addr) (sl sc:Nat) (l:List Int) (rows:List (Value × List Int)) (m:Zm) (r mb bb n tb:Nat) (a0:Act) (w1:World) (Q0:Exit→Act→World→Prop) (hw:Fr [(2,.pointer (some ⟨r,0,none⟩)),(3,.pointer (some ⟨mb,0,none⟩)),(4,.int .i64 n),(5,.slice (some ⟨tb,0,none⟩) n n),(6,.int .i64 0)] a0)
  (he:MSt w ex mb bb tb (.slice sa sl sc) l n rows m w1) (hF:1≤n∧n≤9) (hd:∀ k∈m.bks,k.phis=[]∧k.ins=[])
  (hQ:∀ a1 w2 (bks:List Zt),Fr [(2,.pointer (some ⟨r,0,none⟩)),(3,.pointer (some ⟨mb,0,none⟩)),(4,.int .i64 n),(5,.slice (some ⟨tb,0,none⟩) n n)] a1→MSt w ex mb bb tb (.slice sa sl sc) l n rows { m with bks:=bks } w2→Yn rows n bks→(∀ k∈bks,k.phis=[]∧k.ins=[])→Q0 .normal a1 w2):Code.wp prog (mkCode [1,1,1,1,1,1,1,0,1]) Q0 a0 w1:=by
 obtain⟨u,hg,hu⟩:=Zs hw;obtain⟨g1,g2,s2,s3,s4,s5,s6,g3⟩:=hw;have e2:=hu 2 _ s2;have e3:=hu 3 _ s3;have e4:=hu 4 _ s4;have e5:=hu 5 _ s5;have e6:=hu 6 _ s6;rw[e2,e3,e4,e5,e6]at hg;subst hg;clear hu g1 g2 g3 e2 s2 e3 s3 e4 s4 e5 s5 e6 s6
 conv=>arg 2;whnf
 have HQ:=hid hQ;have hz:=hid hd;clear hQ hd;go_wp2_with fail
 refine ZS (fun t ac wr=>∃ (b:Nat) (bks:List Zt),t=n-b∧b≤n∧Fr [(2,.pointer (some ⟨r,0,none⟩)),(3,.pointer (some ⟨mb,0,none⟩)),(4,.int .i64 n),(5,.slice (some ⟨tb,0,none⟩) n n),(6,.int .i64 b)] ac∧MSt w ex mb bb tb (.slice sa sl sc) l n rows { m with bks:=bks } wr∧Yn rows b bks∧∀ k∈bks,k.phis=[]∧k.ins=[]) n ⟨0,m.bks,rfl,Nat.zero_le _,(ZA rfl rfl zf0),he,(fun j k r hj _ _=>by omega),hz.out⟩ ?_
 ·clear he hz;intro t a1 wr K hJ hK;have hE:=hid hK;clear hK;obtain⟨b,bks,rfl,hL,hf,he,hm,hd⟩:=hJ;obtain⟨u,hg,hu⟩:=Zs hf;obtain⟨g1,g2,s2,s3,s4,s5,s6,g3⟩:=hf;have e2:=hu 2 _ s2;have e3:=hu 3 _ s3;have e4:=hu 4 _ s4;have e5:=hu 5 _ s5;have e6:=hu 6 _ s6;rw[e2,e3,e4,e5,e6]at hg;subst hg;clear hu g1 g2 g3 e2 s2 e3 s3 e4 s4 e5 s5 e6 s6;have ha:=hid he;have hp:=hid hm;have hi:=hid hd;clear he hm hd;by_cases hv:b<n
  ·obtain⟨k,hk⟩:=ha.out.at hv;obtain⟨⟨rv,rl⟩,hr,ho,ht⟩:=ha.out.row hv;obtain⟨ra,rc,hn⟩:=Zc (ha.out.tgt.row _ ho).1;dsimp only at hn;obtain⟨rn,hq⟩:∃ z,rl.length=z:=⟨_,rfl⟩
   rw[hq]at hn;subst hn;have HK:=hid hk;have HR:=hid (And.intro hr ho);have hD:=hid ht;have hy:=hid (ha.out.tgt.box.lt);clear hk hr ho ht hq;go_wp2_with fail
   refine Zh 10 rfl zaC zaC zaC zaJ
    [Is (.pointer (some ⟨mb,0,none⟩)),Is (.pointer (some ⟨mb,0,none⟩)),Is (.pointer (some ⟨mb,2,none⟩)),Is (.pointer (some ⟨mb,3,none⟩)),Is (.slice (some ⟨bb,0,none⟩) n n),Is (.int .i64 b),Is (.slice (some ⟨tb,0,none⟩) n n),Is (.int .i64 b),Is (.pointer (some ⟨tb,b,none⟩)),Is (.slice ra rn rc)]
    kP ⟨?_,?_,?_,?_,?_,?_,?_,?_,?_,?_,trivial⟩ ?_
   rotate_right
   ·intro vs w1 hs hk;revert hk;refine zs0 ?_;intro hk
    have hb:=hid (ha.out.keep hs);have hI:=hb.out.cell HK.out (show 4<6 by decide);have hG:=hb.out.blkAt.lt;have hH:=hb.out.blkAt.frozen (b*6+4);clear hs hk;go_wp2
    have hh:=hb.out.ok.setTo HK.out rfl (.slice ra rn rc) rl (hb.out.tgt.row _ HR.out.2);have hA:=hid (hb.out.step hh.1 hh.2 zaL);clear hh;exact hE.out (n-(b+1)) _ _ zaK ⟨b+1,_,rfl,zaK,(ZA rfl rfl zf0),hA.out,hp.out.next (fun r hr=>by have h:=HR.out.1;rw[hr]at h;rw[Option.some.inj h]),fun k2 hC=>by
     rcases Yk hC with rfl|⟨j,_,hj⟩
     ·exact hi.out k (List.mem_of_getElem? HK.out)
     ·exact hi.out k2 (List.mem_of_getElem? hj)⟩
   all_goals
    intro vs w1 hs hk _;revert hk;refine zs1 ?_;intro hk
   ·exact kH
   ·have hB:=(ha.out.keep hs).box.lt;exact kH
   iterate 2
    ·exact kH
   ·have hx:=(ha.out.keep hs).box;have hM:=hx.cell 3;have hB:=hx.lt;exact kH
   iterate 4
    ·exact kH
   ·have hc:=(hs.cell (p:=⟨tb,b,none⟩) hy.out).trans hD.out;have hl:=Nat.lt_of_lt_of_le hy.out hs.size;exact kH
  ·obtain rfl:n=b:=zaK
   go_wp2_with fail
   exact HQ.out _ _ bks (ZA rfl rfl zf0) ha.out hp.out hi.out
end Go.Proofs.YtimpddecdodddaaGreat
