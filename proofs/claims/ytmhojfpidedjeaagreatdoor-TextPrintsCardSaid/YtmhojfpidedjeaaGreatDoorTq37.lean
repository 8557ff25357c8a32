/- MkLive MkLive2 MkLive3 MkTos -/
import Derived.Test.YtmhojfpidedjeaaGreatDoorTq36
namespace Go.Proofs.YtmhojfpidedjeaaGreatDoor
open Go.RowKit
set_option linter.unusedVariables false
section
variable {w0 w w':World} {ex:List Bx} {mb bb tb:Nat} {sv:Value} {l : List Int} {n : Nat} {rows:List (Value × List Int)} {m : MkSt}
theorem MSt.liveAdd (h:MSt w0 ex mb bb tb sv l n rows m w) {more:List Int} {v : Value} (hown:w'.ownsRow 0 3 1 v (m.live++more).length ((m.live++more).map (Value.int .i64))) (t:Turn (fun q=>m.livev.ownBlock=some q) w w') (hnew:NewOr w m.livev v) (hg:∀ y∈more,0≤y∧y<m.next) :
  MSt w0 ex mb bb tb sv l n rows { m with live:=m.live++more,livev:=v } (w'.setCell ⟨mb,5,none⟩ v):=by
 have h1:=h.ok.setLive hown t hnew hg
 exact h.step h1.1 ⟨h1.2.2,h1.2.1⟩ rfl
theorem MSt.livePut (h:MSt w0 ex mb bb tb sv l n rows m w) {ys:List Int} {v : Value} (hown:w'.ownsRow 0 3 1 v ys.length (ys.map (Value.int .i64))) (t:Turn (fun q=>m.livev.ownBlock=some q) w w') (hnew:NewOr w m.livev v) (hg:∀ y∈ys,0≤y∧y<m.next) :
  MSt w0 ex mb bb tb sv l n rows { m with live:=ys,livev:=v } (w'.setCell ⟨mb,5,none⟩ v):=by
 have h1:=h.ok.putLive hown t hnew hg
 exact h.step h1.1 ⟨h1.2.2,h1.2.1⟩ rfl
end
theorem own_row_at {α:Type} {f : α→List Value} {sz:Nat} {e : TypeId} {base:Nat} {w : World} {v : Value} {l : List α} (hf:∀ x,(f x).length=sz) (h:OwnRow f sz e base w v l) (hl:0<l.length):∃ g cap cur,v=.slice (some ⟨g,0,none⟩) l.length cap∧HeapIs w g cur e∧∀ (i t:Nat) (x:α),l[i]? = some x→t<sz→cur[i*sz+t]? = (f x)[t]?:=by
 obtain⟨hx0,⟨hv,hn⟩|⟨g,cap,cur,hv,hb,hg,hnc,hcm,hcs,htake⟩⟩:=h
 ·omega
 ·refine⟨g,cap,cur,hv,hg,fun i t x hx ht=>?_⟩
  have h1:=congrArg (fun l=>l[i*sz+t]?) htake
  have h2:=flat_at f sz hf l i t x hx ht
  have ha:=(List.getElem?_eq_some_iff.1 hx).1
  have h3:i*sz+t<l.length*sz:=by
   have:=Nat.mul_le_mul_right sz (show i+1≤l.length from ha)
   rw[Nat.succ_mul]at this
   omega
  simp only[h2,List.getElem?_take,if_pos h3]at h1
  rw[←Array.getElem?_toList,h1]
def OneN (S:Nat→Prop) (d:Int) (v:Value) (w:World):Prop:=∃ q,v=.slice (some ⟨q,0,none⟩) 1 1∧HeapIs w q #[.int .i64 d] 3∧¬ S q
theorem OneN.stable (S:Nat→Prop) (d:Int):Stable (OneN S d):=fun v w w' ⟨q,h1,h2,h3⟩ s=>⟨q,h1,h2.keep s,h3⟩
theorem OneN.stableT (S:Nat→Prop) (d:Int):StableT S (OneN S d):=fun v w w' ⟨q,h1,h2,h3⟩ t=>⟨q,h1,h2.turn t h3,h3⟩
theorem OneN.new {S : Nat→Prop} {w : World} (d:Int) (h:¬ S w.heap.size):OneN S d (.slice (some ⟨w.heap.size,0,none⟩) 1 1) (w.alloc (.cells #[.int .i64 d] 3)):=⟨_,rfl,HeapIs.new _ _ _,h⟩
theorem OneN.nums {S : Nat→Prop} {d : Int} {v : Value} {w : World} (h:OneN S d v w):Ints w v [d]:=by
 obtain⟨q,rfl,h2,_⟩:=h
 exact nums_new [d] _ 1 (Nat.le_refl _) (by show 1≤maxLen;decide) (show w.heap[q]? = _ from h2) fun j n hj=>by
  match j,hj with
  | 0,hj=>simpa using hj
def AppN (w0:World) (v0:Value) (xs:List Int) (v:Value) (w:World):Prop:=∃ wa,Since w0 wa∧Turn (fun q=>v0.ownBlock=some q) wa w∧NewOr wa v0 v∧w.ownsRow 0 3 1 v xs.length (xs.map (Value.int .i64))
theorem AppN.stable (w0:World) (v0:Value) (xs:List Int):Stable (AppN w0 v0 xs):=fun v w w' ⟨wa,h1,h2,h3,h4⟩ s=>⟨wa,h1,h2.trans (Turn.since s),h3,own_keep h4 s⟩
structure LvM (mb bb fb:Nat) (c1 c2 c3:Array Value) (w:World):Prop where
 made:HeapIs w mb c1 101
 bk:HeapIs w bb c2 57
 pk:HeapIs w fb c3 60
def LvPh (w1:World) (mb bb fb:Nat) (c1 c2 c3:Array Value) (p:Nat) (w:World):Prop:=LvM mb bb fb c1 c2 c3 w∧(p=0→Since w1 w)
theorem LvM.keep {mb bb fb:Nat} {c1 c2 c3:Array Value} {w w':World} (h:LvM mb bb fb c1 c2 c3 w) (s:Since w w'):LvM mb bb fb c1 c2 c3 w':=⟨h.made.keep s,h.bk.keep s,h.pk.keep s⟩
set_option maxHeartbeats 8000000 in
set_option maxRecDepth 1000000 in
theorem mk_liveParams (w:World) (ex:List Bx) (sa:Option Addr) (sl sc:Nat) (l:List Int) (rows:List (Value × List Int)) (m:MkSt) (r mb bb n tb pb db tn b vb vc:Nat) (rdy:Bool) (a0:Act) (w1:World) (Q0:Exit→Act→World→Prop) (hfr:Fr [(2,.pointer (some ⟨r,0,none⟩)),(3,.pointer (some ⟨mb,0,none⟩)),(4,.int .i64 n),(5,.slice (some ⟨tb,0,none⟩) n n),(7,.slice (some ⟨pb,0,none⟩) n n),(11,.slice (some ⟨db,0,none⟩) n n),(12,.int .i64 tn),(13,.int .i64 b),(14,.bool rdy),(15,.slice (some ⟨vb,0,none⟩) n vc),(18,.int .i64 0)] a0)
  (hst:MSt w ex mb bb tb (.slice sa sl sc) l n rows m w1) (hpar:0≤m.params∧m.params≤4) (hmn:m.params≤m.next) (hlive:m.live=[])
  (hQ:∀ a1 w2 ys v,Fr [(2,.pointer (some ⟨r,0,none⟩)),(3,.pointer (some ⟨mb,0,none⟩)),(4,.int .i64 n),(5,.slice (some ⟨tb,0,none⟩) n n),(7,.slice (some ⟨pb,0,none⟩) n n),(11,.slice (some ⟨db,0,none⟩) n n),(12,.int .i64 tn),(13,.int .i64 b),(14,.bool rdy),(15,.slice (some ⟨vb,0,none⟩) n vc)] a1→MSt w ex mb bb tb (.slice sa sl sc) l n rows { m with live:=ys,livev:=v } w2→ys.length≤4→Q0 .normal a1 w2):Code.wp Tryz.prog (mkCode [1,1,1,1,1,1,1,1,1,1,1,0,1,0,0,1,0,0,1,0,0,1,0,0,1,1,1,1,1,1,1,0,1]) Q0 a0 w1:=by
 obtain⟨u,ha0,hu⟩:=frame_ex hfr
 obtain⟨g1,g2,s2,s3,s4,s5,s7,s11,s12,s13,s14,s15,s18,g3⟩:=hfr
 have e2:=hu 2 _ s2
 have e3:=hu 3 _ s3
 have e4:=hu 4 _ s4
 have e5:=hu 5 _ s5
 have e7:=hu 7 _ s7
 have e11:=hu 11 _ s11
 have e12:=hu 12 _ s12
 have e13:=hu 13 _ s13
 have e14:=hu 14 _ s14
 have e15:=hu 15 _ s15
 have e18:=hu 18 _ s18
 rw[e2,e3,e4,e5,e7,e11,e12,e13,e14,e15,e18]at ha0
 subst ha0
 clear hu g1 g2 g3 e2 s2 e3 s3 e4 s4 e5 s5 e7 s7 e11 s11 e12 s12 e13 s13 e14 s14 e15 s15 e18 s18
 conv=>arg 2;whnf
 have HQ:=Lib.hid hQ
 have HS:=Lib.hid (And.intro hpar hmn)
 have HL0:=Lib.hid hlive
 clear hQ hpar hmn hlive
 go_wp2_with fail
 go_loopw [18] (fun i wr=>∃ (j:Nat) (ys:List Int) (v:Value),(j:Int)≤m.params∧i=.int .i64 j∧MSt w ex mb bb tb (.slice sa sl sc) l n rows { m with live:=ys,livev:=v } wr∧ys.length=j) (fun i _=>(m.params-intOf i).toNat)
 case atStart=>exact⟨0,m.live,m.livev,HS.out.1.1,rfl,hst,by rw[HL0.out];rfl⟩
 case round =>
  clear hst
  obtain⟨j,ys,v,hjp,rfl,hst,hyl⟩:=hrel
  obtain⟨pp,hpp⟩:∃ z,z=m.params:=⟨_,rfl⟩
  have hp4:(j:Int)≤pp∧pp≤4:=by rw[hpp];exact⟨hjp,HS.out.1.2⟩
  have HPN:=Lib.hid (show pp≤m.next from by rw[hpp];exact HS.out.2)
  have HST:=Lib.hid hst
  have HYL:=Lib.hid hyl
  have hbx:=hst.box
  have hb2:wr.cell? ⟨mb,2,none⟩=some (.int .i64 pp):=by rw[hpp];exact hbx.cell 2
  have hl3:=hbx.lt
  have hf3:=hbx.frozen
  obtain⟨la,lc,hlv⟩:=own_shape hst.ok.live
  replace hlv:v=.slice la ys.length lc:=hlv
  rw[hyl]at hlv
  subst hlv
  have hb5:wr.cell? ⟨mb,5,none⟩=some (.slice la j lc):=hbx.cell 5
  have HPP:=Lib.hid hpp
  clear hst hyl hbx hjp hpp
  by_cases hlt:(j:Int)<pp
  ·go_wp2_with (refine wpList_append_nums2 (base:=0) .i64 rfl _ _ 32 rfl 3 (.int .i64 0) 8 Tryz.underlying32 Tryz.info3 rfl (by decide) (.slice la j lc) _ ys [(j:Int)] rfl rfl (own_keep (by exact HST.out.ok.live) ((Since.refl _).alloc _)) (one_nums _ _ _) (by rw[HYL.out];simp;omega) (Nat.zero_le _) ?_;intro v6 w6 hown6 ht6 hnew6;obtain⟨a6,c6,hv6⟩:=own_shape hown6;rw[show (ys++[(j:Int)]).length=j+1 from by rw[List.length_append,HYL.out];rfl]at hv6;subst hv6;have HST5:=Lib.hid (HST.out.keep ((Since.refl _).alloc (.cells #[.int .i64 j] 3)));have hM6:HeapIs w6 mb _ _:=HeapIs.turn (HST5.out.box) ht6 (HST5.out.ok.mb_live);have k5:=hM6.cell 5;have kl:=hM6.lt;have kf:=hM6.frozen;have HOWN6:=Lib.hid hown6;have HT6:=Lib.hid ht6;have HNEW6:=Lib.hid hnew6;clear hM6 hown6 ht6 hnew6)
   go_roundw
   case rel=>exact⟨j+1,ys++[(j:Int)],.slice a6 (j+1) c6,by rw[←HPP.out];omega,by go_num,HST5.out.liveAdd HOWN6.out HT6.out HNEW6.out (by intro y hy;rw[List.mem_singleton.1 hy];have:=HPN.out;exact⟨by omega,(by omega:(j:Int)<m.next)⟩),by rw[List.length_append,HYL.out];rfl⟩
   case measure=>rw[←HPP.out];simp[intOf];omega
  ·have HE:=Lib.hid (show (j:Int)=pp from by omega)
   go_wp2_with fail
   exact HQ.out _ _ _ _ (fr_mk rfl rfl (sl_cons rfl (sl_cons rfl (sl_cons rfl (sl_cons rfl (sl_cons rfl (sl_cons rfl (sl_cons rfl (sl_cons rfl (sl_cons rfl (sl_cons rfl (sl_nil _)))))))))))) HST.out (by rw[HYL.out];omega)
set_option maxHeartbeats 8000000 in
set_option maxRecDepth 1000000 in
theorem mk_livePhis (w:World) (ex:List Bx) (sa:Option Addr) (sl sc:Nat) (l:List Int) (rows:List (Value × List Int)) (m:MkSt) (r mb bb n tb pb db tn b vb vc:Nat) (rdy:Bool) (a:Nat) (k:FBlk) (a0:Act) (w1:World) (Q0:Exit→Act→World→Prop) (hfr:Fr [(2,.pointer (some ⟨r,0,none⟩)),(3,.pointer (some ⟨mb,0,none⟩)),(4,.int .i64 n),(5,.slice (some ⟨tb,0,none⟩) n n),(7,.slice (some ⟨pb,0,none⟩) n n),(11,.slice (some ⟨db,0,none⟩) n n),(12,.int .i64 tn),(13,.int .i64 b),(14,.bool rdy),(15,.slice (some ⟨vb,0,none⟩) n vc),(19,.int .i64 a),(20,.int .i64 0)] a0)
  (hst:MSt w ex mb bb tb (.slice sa sl sc) l n rows m w1) (ha:a<n) (hn9:n≤9) (hk:m.bks[a]? = some k) (hphis:(∀ p∈k.phis,0≤p.dst∧p.dst<m.next)∧k.phis.length≤3) (hml:m.live.length≤20000)
  (hQ:∀ a1 w2 ys v,Fr [(2,.pointer (some ⟨r,0,none⟩)),(3,.pointer (some ⟨mb,0,none⟩)),(4,.int .i64 n),(5,.slice (some ⟨tb,0,none⟩) n n),(7,.slice (some ⟨pb,0,none⟩) n n),(11,.slice (some ⟨db,0,none⟩) n n),(12,.int .i64 tn),(13,.int .i64 b),(14,.bool rdy),(15,.slice (some ⟨vb,0,none⟩) n vc),(19,.int .i64 a)] a1→MSt w ex mb bb tb (.slice sa sl sc) l n rows { m with live:=ys,livev:=v } w2→ys.length≤m.live.length+3→Q0 .normal a1 w2):Code.wp Tryz.prog (mkCode [1,1,1,1,1,1,1,1,1,1,1,0,1,0,0,1,0,0,1,0,0,1,0,0,1,1,1,1,1,1,1,1,0,1,0,0,1,0,0,1,0,1]) Q0 a0 w1:=by
 obtain⟨u,ha0,hu⟩:=frame_ex hfr
 obtain⟨g1,g2,s2,s3,s4,s5,s7,s11,s12,s13,s14,s15,s19,s20,g3⟩:=hfr
 have e2:=hu 2 _ s2
 have e3:=hu 3 _ s3
 have e4:=hu 4 _ s4
 have e5:=hu 5 _ s5
 have e7:=hu 7 _ s7
 have e11:=hu 11 _ s11
 have e12:=hu 12 _ s12
 have e13:=hu 13 _ s13
 have e14:=hu 14 _ s14
 have e15:=hu 15 _ s15
 have e19:=hu 19 _ s19
 have e20:=hu 20 _ s20
 rw[e2,e3,e4,e5,e7,e11,e12,e13,e14,e15,e19,e20]at ha0
 subst ha0
 clear hu g1 g2 g3 e2 s2 e3 s3 e4 s4 e5 s5 e7 s7 e11 s11 e12 s12 e13 s13 e14 s14 e15 s15 e19 s19 e20 s20
 conv=>arg 2;whnf
 have HQ:=Lib.hid hQ
 have HF:=Lib.hid hphis
 have HK:=Lib.hid hk
 have HM:=Lib.hid hml
 clear hQ hphis hml hk
 go_wp2_with fail
 go_loopw [20] (fun i wr=>∃ (t:Nat) (ys:List Int) (v:Value),t≤k.phis.length∧i=.int .i64 t∧MSt w ex mb bb tb (.slice sa sl sc) l n rows { m with live:=ys,livev:=v } wr∧ys.length=m.live.length+t) (fun i _=>k.phis.length-(intOf i).toNat)
 case atStart=>exact⟨0,m.live,m.livev,Nat.zero_le _,rfl,hst,rfl⟩
 case round =>
  clear hst
  obtain⟨i,ys,v,hip,rfl,hst,hyl⟩:=hrel
  obtain⟨pl,hpl⟩:∃ z,k.phis.length=z:=⟨_,rfl⟩
  obtain⟨j,hj⟩:∃ z,m.live.length+i=z:=⟨_,rfl⟩
  rw[hpl]at hip
  rw[hj]at hyl
  have HPL:=Lib.hid hpl
  have HJ:=Lib.hid hj
  have HST:=Lib.hid hst
  have HYL:=Lib.hid hyl
  have hbx:=hst.box
  have hb3:=hbx.cell 3
  have hl3:=hbx.lt
  obtain⟨la,lc,hlv⟩:=own_shape hst.ok.live
  replace hlv:v=.slice la ys.length lc:=hlv
  rw[hyl]at hlv
  have hko:=hst.ok.each k (List.mem_of_getElem? HK.out)
  obtain⟨fa,fc,hfv⟩:=own_shape (show wr.ownsRow _ _ _ _ _ _ from hko.phis)
  have hcf:=hst.cell HK.out (show 0<6 by decide)
  rw[show (fbcells k)[0]? = some k.phv from rfl,hfv,Nat.add_zero]at hcf
  rw[hpl]at hcf hfv
  have hbl:=hst.blkAt.lt
  have hkn:a<n:=ha
  have HLV:=Lib.hid hlv
  have hpl3:pl≤3:=by rw[←hpl];exact HF.out.2
  have hj2:j≤20003:=by have:=HM.out;omega
  by_cases hlt:i<pl
  ·obtain⟨fb,fc2,cur,hfv2,hfb,hcur⟩:=own_row_at fpcells_len hko.phis (by omega)
   rw[hpl]at hfv2
   rw[hfv]at hfv2
   injection hfv2 with e1 e2 e3
   subst e1
   subst e3
   obtain⟨x,hx⟩:∃ x,k.phis[i]? = some x:=⟨_,List.getElem?_eq_getElem (by omega)⟩
   obtain⟨y,hy⟩:∃ y,x.dst=y:=⟨_,rfl⟩
   have hcy:=hcur i 0 x hx (by decide)
   rw[Nat.add_zero,show (fpcells x)[0]? = some (.int .i64 y) from by rw[←hy];rfl]at hcy
   have HCY:=Lib.hid hcy
   have HG:=Lib.hid (show 0≤y∧y<m.next from by rw[←hy];exact HF.out.1 x (List.mem_of_getElem? hx))
   have hpk:=hst.blkAt.cell (a*6)
   have HCF:=Lib.hid (show (m.bks.flatMap fbcells).toArray[a*6]? = some (.slice (some ⟨fb,0,none⟩) pl fc) from hpk.symm.trans hcf)
   obtain⟨at_,hat⟩:∃ z:Int,(m.at_:Int)=z:=⟨_,rfl⟩
   obtain⟨pp,hpp⟩:∃ z,m.params=z:=⟨_,rfl⟩
   obtain⟨nx,hnx⟩:∃ z,m.next=z:=⟨_,rfl⟩
   have hmk:HeapIs wr mb #[.slice sa sl sc,.int .i64 at_,.int .i64 pp,.slice (some ⟨bb,0,none⟩) n n,.int .i64 nx,.slice la j lc] 101:=by rw[←hat,←hpp,←hnx,←hlv];exact hbx
   have HIL:=Lib.hid (show ∀ q,(Value.slice la j lc).ownBlock=some q→q<wr.heap.size from fun q hq=>(World.ownsRow.lt hst.ok.live q (by dsimp only;rw[hlv];exact hq)).2)
   have HAP:=Lib.hid (show ¬ (Value.slice la j lc).ownBlock=some mb∧¬ (Value.slice la j lc).ownBlock=some bb∧¬ (Value.slice la j lc).ownBlock=some fb from by
    rw[←hlv]
    exact⟨own_not hst.ok.live hmk (by decide),own_not hst.ok.live hst.blkAt (by decide),own_not hst.ok.live hfb (by decide)⟩)
   have HPH0:=Lib.hid (show LvPh wr mb bb fb #[.slice sa sl sc,.int .i64 at_,.int .i64 pp,.slice (some ⟨bb,0,none⟩) n n,.int .i64 nx,.slice la j lc] (m.bks.flatMap fbcells).toArray cur 0 wr.drew from⟨(LvM.mk hmk hst.blkAt hfb).keep ((Since.refl _).drew),fun _=>(Since.refl _).drew⟩)
   clear hst hyl hbx hlv hko hfv hpk hcy hx hy hcur hfb hmk hat hpp hnx hpl hj
   go_wp2_with fail
   refine wp_region_one 20 19 [19] [0,0,0,0,0,0,0,0,0,0,0,0,0,0,0,0,0,0,0,0] [1,0,0,0,0,0,0,0,0,0,0,0,0,0,0,0,0,0,0,0] [0,0,0,0,0,0,0,0,0,0,0,0,0,0,0,0,0,0,0,1] (fun q=>(Value.slice la j lc).ownBlock=some q) (LvPh wr mb bb fb #[.slice sa sl sc,.int .i64 at_,.int .i64 pp,.slice (some ⟨bb,0,none⟩) n n,.int .i64 nx,.slice la j lc] (m.bks.flatMap fbcells).toArray cur) rfl (by decide +kernel) (by decide +kernel) (by decide +kernel) (by decide) (by decide +kernel)
    [Is (.pointer (some ⟨mb,0,none⟩)),Is (.pointer (some ⟨mb,0,none⟩)),Is (.pointer (some ⟨mb,0,none⟩)),Is (.pointer (some ⟨mb,5,none⟩)),Is (.slice la j lc),Is (.pointer (some ⟨mb,0,none⟩)),Is (.pointer (some ⟨mb,0,none⟩)),Is (.pointer (some ⟨mb,2,none⟩)),Is (.pointer (some ⟨mb,3,none⟩)),Is (.slice (some ⟨bb,0,none⟩) n n),Is (.int .i64 a),Is (.pointer (some ⟨bb,a*6,none⟩)),Is (.pointer (some ⟨bb,a*6,none⟩)),Is (.slice (some ⟨fb,0,none⟩) pl fc),Is (.int .i64 i),Is (.pointer (some ⟨fb,i*2,none⟩)),Is (.pointer (some ⟨fb,i*2,none⟩)),Is (.int .i64 y),OneN (fun q=>(Value.slice la j lc).ownBlock=some q) y,AppN wr (.slice la j lc) (ys++[y])]
    (by repeat (first | exact trivial | refine⟨fun h=>absurd rfl h,?_⟩ | refine⟨fun _=>Is.stableT _ _,?_⟩ | refine⟨fun _=>Any.stableT _,?_⟩ | refine⟨fun _=>OneN.stableT _ _,?_⟩)) (by repeat (first | exact trivial | refine⟨Is.stable _,?_⟩ | refine⟨Any.stable,?_⟩ | refine⟨OneN.stable _ _,?_⟩ | refine⟨AppN.stable _ _ _,?_⟩)) HPH0.out ⟨?_,?_,?_,?_,?_,?_,?_,?_,?_,?_,?_,?_,?_,?_,?_,?_,?_,?_,?_,?_,trivial⟩ ?_
   rotate_right
   ·intro vs w2 ht hph hk
    simp only[List.take,List.drop,putAll,Act.put,KnowsAll,nthF,Is,List.setIfInBounds_toArray,List.set_cons_zero,List.set_cons_succ,Nat.reduceAdd]at hk ⊢
    try simp only[hk]
    obtain⟨wa,hsa,hta,hnew,hown⟩:AppN wr (.slice la j lc) (ys++[y]) (vs 19) w2:=by exact hk.2.2.2.2.2.2.2.2.2.2.2.2.2.2.2.2.2.2.2.1
    generalize vs 19=nv at *
    have k5:=hph.1.made.cell 5
    have kl:=hph.1.made.lt
    have kf:=hph.1.made.frozen
    have HSA:=Lib.hid hsa
    have HTA:=Lib.hid hta
    have HNEW:=Lib.hid hnew
    have HOWN:=Lib.hid hown
    clear hk hph ht hsa hta hnew hown
    obtain⟨na,nc,hnv⟩:=own_shape HOWN.out
    rw[show (ys++[y]).length=j+1 from by rw[List.length_append,HYL.out];rfl]at hnv
    subst hnv
    go_wp2
    go_roundw
    case rel=>exact⟨i+1,ys++[y],.slice na (j+1) nc,by rw[HPL.out];omega,by go_num,(HST.out.keep HSA.out).liveAdd HOWN.out (by dsimp only;rw[HLV.out];exact HTA.out) (by dsimp only;rw[HLV.out];exact HNEW.out) (by intro z hz;rw[List.mem_singleton.1 hz];exact HG.out),by rw[List.length_append,HYL.out];show j+1=_;have:=HJ.out;omega⟩
    case measure=>rw[HPL.out];simp[intOf];omega
   all_goals
    intro p vs w2 hlo hhi ht hph hk
    simp only[List.take,putAll,Act.put,Knows,nthF,Is,List.setIfInBounds_toArray,List.set_cons_zero,List.set_cons_succ,Nat.reduceAdd]at hk ⊢
    try simp only[hk]
   ·go_wp2
    exact⟨_,rfl,rfl,Since.refl _,hph⟩
   ·go_wp2
    exact⟨_,rfl,rfl,Since.refl _,hph⟩
   ·have hl:=hph.1.made.lt
    go_wp2
    exact⟨_,rfl,rfl,Since.refl _,hph⟩
   ·go_wp2
    exact⟨_,rfl,rfl,Since.refl _,hph⟩
   ·have hc:=hph.1.made.cell 5
    have hl:=hph.1.made.lt
    go_wp2
    exact⟨_,rfl,rfl,Since.refl _,hph⟩
   ·go_wp2
    exact⟨_,rfl,rfl,Since.refl _,hph⟩
   ·have hl:=hph.1.made.lt
    go_wp2
    exact⟨_,rfl,rfl,Since.refl _,hph⟩
   ·go_wp2
    exact⟨_,rfl,rfl,Since.refl _,hph⟩
   ·go_wp2
    exact⟨_,rfl,rfl,Since.refl _,hph⟩
   ·have hc:=hph.1.made.cell 3
    have hl:=hph.1.made.lt
    go_wp2
    exact⟨_,rfl,rfl,Since.refl _,hph⟩
   ·go_wp2
    exact⟨_,rfl,rfl,Since.refl _,hph⟩
   ·go_wp2
    exact⟨_,rfl,rfl,Since.refl _,hph⟩
   ·go_wp2
    exact⟨_,rfl,rfl,Since.refl _,hph⟩
   ·have hc:=(hph.1.bk.cell (a*6)).trans HCF.out
    have hl:=hph.1.bk.lt
    go_wp2
    exact⟨_,rfl,rfl,Since.refl _,hph⟩
   ·go_wp2
    exact⟨_,rfl,rfl,Since.refl _,hph⟩
   ·go_wp2
    exact⟨_,rfl,rfl,Since.refl _,hph⟩
   ·go_wp2
    exact⟨_,rfl,rfl,Since.refl _,hph⟩
   ·have hc:=(hph.1.pk.cell (i*2)).trans HCY.out
    have hl:=hph.1.pk.lt
    go_wp2
    exact⟨_,rfl,rfl,Since.refl _,hph⟩
   ·have hne:¬ (Value.slice la j lc).ownBlock=some w2.heap.size:=fun e=>by have:=HIL.out _ e;have:=ht.size;omega
    have hs2:=(Since.refl w2).alloc (.cells #[.int .i64 y] 3)
    have HP:=Lib.hid (show LvPh wr mb bb fb #[.slice sa sl sc,.int .i64 at_,.int .i64 pp,.slice (some ⟨bb,0,none⟩) n n,.int .i64 nx,.slice la j lc] (m.bks.flatMap fbcells).toArray cur p _ from And.intro (hph.1.keep hs2) (fun (e:p=0)=>(hph.2 e).trans hs2))
    clear hk hph
    go_wp2
    exact⟨_,rfl,⟨_,rfl,HeapIs.new _ _ _,hne⟩,hs2,HP.out⟩
   ·obtain rfl:p=0:=by omega
    have hs0:=hph.2 rfl
    have h1:OneN (fun q=>(Value.slice la j lc).ownBlock=some q) y (vs 18) w2:=hk.2.1
    have h1n:=h1.nums
    have HST9:=Lib.hid (HST.out.keep hs0)
    have HPH:=Lib.hid hph.1
    have HS0:=Lib.hid hs0
    have HNN:=Lib.hid h1n
    try simp only[hk.1]
    generalize vs 18=xv at *
    clear hk hph hs0 h1 h1n
    refine wpList_append_nums2 (base:=0) .i64 rfl _ _ 32 rfl 3 (.int .i64 0) 8 Tryz.underlying32 Tryz.info3 rfl (by decide) (.slice la j lc) _ ys [y] rfl rfl (by have h9:=HST9.out.ok.live;dsimp only at h9;rw[HLV.out]at h9;exact h9) HNN.out (by rw[HYL.out];simp;omega) (Nat.zero_le _) ?_
    intro v' w3 hown ht3 hnew
    have HA:=Lib.hid (show AppN wr (.slice la j lc) (ys++[y]) v' w3 from⟨w2,HS0.out,ht3,hnew,hown⟩)
    have HP3:=Lib.hid (show LvM mb bb fb #[.slice sa sl sc,.int .i64 at_,.int .i64 pp,.slice (some ⟨bb,0,none⟩) n n,.int .i64 nx,.slice la j lc] (m.bks.flatMap fbcells).toArray cur w3 from⟨HPH.out.made.turn ht3 HAP.out.1,HPH.out.bk.turn ht3 HAP.out.2.1,HPH.out.pk.turn ht3 HAP.out.2.2⟩)
    have HT3:=Lib.hid ht3
    clear hown ht3 hnew
    go_wp2
    exact⟨_,rfl,HA.out,HT3.out,HP3.out,fun e=>absurd e (by decide)⟩
  ·obtain rfl:pl=i:=by omega
   have HCE:=Lib.hid hst
   clear hst hbx hlv hko hfv hpl hj hyl
   go_wp2_with fail
   exact HQ.out _ _ _ _ (fr_mk rfl rfl (sl_cons rfl (sl_cons rfl (sl_cons rfl (sl_cons rfl (sl_cons rfl (sl_cons rfl (sl_cons rfl (sl_cons rfl (sl_cons rfl (sl_cons rfl (sl_cons rfl (sl_nil _))))))))))))) HST.out (by rw[HYL.out];have:=HJ.out;have:=HF.out.2;have:=HPL.out;omega)
set_option maxHeartbeats 8000000 in
set_option maxRecDepth 1000000 in
theorem mk_liveIns (w:World) (ex:List Bx) (sa:Option Addr) (sl sc:Nat) (l:List Int) (rows:List (Value × List Int)) (m:MkSt) (r mb bb n tb pb db tn b vb vc:Nat) (rdy:Bool) (a:Nat) (k:FBlk) (a0:Act) (w1:World) (Q0:Exit→Act→World→Prop) (hfr:Fr [(2,.pointer (some ⟨r,0,none⟩)),(3,.pointer (some ⟨mb,0,none⟩)),(4,.int .i64 n),(5,.slice (some ⟨tb,0,none⟩) n n),(7,.slice (some ⟨pb,0,none⟩) n n),(11,.slice (some ⟨db,0,none⟩) n n),(12,.int .i64 tn),(13,.int .i64 b),(14,.bool rdy),(15,.slice (some ⟨vb,0,none⟩) n vc),(19,.int .i64 a),(21,.int .i64 0)] a0)
  (hst:MSt w ex mb bb tb (.slice sa sl sc) l n rows m w1) (ha:a<n) (hn9:n≤9) (hk:m.bks[a]? = some k) (hil:k.ins.length≤1000) (hml:m.live.length≤20000)
  (hQ:∀ a1 w2 ys v,Fr [(2,.pointer (some ⟨r,0,none⟩)),(3,.pointer (some ⟨mb,0,none⟩)),(4,.int .i64 n),(5,.slice (some ⟨tb,0,none⟩) n n),(7,.slice (some ⟨pb,0,none⟩) n n),(11,.slice (some ⟨db,0,none⟩) n n),(12,.int .i64 tn),(13,.int .i64 b),(14,.bool rdy),(15,.slice (some ⟨vb,0,none⟩) n vc),(19,.int .i64 a)] a1→MSt w ex mb bb tb (.slice sa sl sc) l n rows { m with live:=ys,livev:=v } w2→ys.length≤m.live.length+2*k.ins.length→Q0 .normal a1 w2):Code.wp Tryz.prog (mkCode [1,1,1,1,1,1,1,1,1,1,1,0,1,0,0,1,0,0,1,0,0,1,0,0,1,1,1,1,1,1,1,1,0,1,0,0,1,0,0,1,1,1]) Q0 a0 w1:=by
 obtain⟨u,ha0,hu⟩:=frame_ex hfr
 obtain⟨g1,g2,s2,s3,s4,s5,s7,s11,s12,s13,s14,s15,s19,s21,g3⟩:=hfr
 have e2:=hu 2 _ s2
 have e3:=hu 3 _ s3
 have e4:=hu 4 _ s4
 have e5:=hu 5 _ s5
 have e7:=hu 7 _ s7
 have e11:=hu 11 _ s11
 have e12:=hu 12 _ s12
 have e13:=hu 13 _ s13
 have e14:=hu 14 _ s14
 have e15:=hu 15 _ s15
 have e19:=hu 19 _ s19
 have e21:=hu 21 _ s21
 rw[e2,e3,e4,e5,e7,e11,e12,e13,e14,e15,e19,e21]at ha0
 subst ha0
 clear hu g1 g2 g3 e2 s2 e3 s3 e4 s4 e5 s5 e7 s7 e11 s11 e12 s12 e13 s13 e14 s14 e15 s15 e19 s19 e21 s21
 conv=>arg 2;whnf
 have HQ:=Lib.hid hQ
 have HK:=Lib.hid hk
 have HM:=Lib.hid hml
 have HIC:=Lib.hid hil
 clear hQ hml hk hil
 go_wp2_with fail
 go_loopw [21] (fun i wr=>∃ (t:Nat) (ys:List Int) (v:Value),t≤k.ins.length∧i=.int .i64 t∧MSt w ex mb bb tb (.slice sa sl sc) l n rows { m with live:=ys,livev:=v } wr∧ys.length≤m.live.length+2*t) (fun i _=>k.ins.length-(intOf i).toNat)
 case atStart=>exact⟨0,m.live,m.livev,Nat.zero_le _,rfl,hst,Nat.le_refl _⟩
 case round =>
  clear hst
  obtain⟨i,ys,v,hip,rfl,hst,hyl⟩:=hrel
  obtain⟨il,hil⟩:∃ z,k.ins.length=z:=⟨_,rfl⟩
  rw[hil]at hip
  have HIL:=Lib.hid hil
  have hil3:il≤1000:=by rw[←hil];exact HIC.out
  have HST:=Lib.hid hst
  have HYL:=Lib.hid hyl
  have hbx:=hst.box
  have hb3:=hbx.cell 3
  have hl3:=hbx.lt
  have hko:=hst.ok.each k (List.mem_of_getElem? HK.out)
  obtain⟨ia,ic,hiv⟩:=own_shape (show wr.ownsRow _ _ _ _ _ _ from hko.ins)
  have hci:=hst.cell HK.out (show 1<6 by decide)
  rw[show (fbcells k)[1]? = some k.inv from rfl,hiv]at hci
  rw[hil]at hci hiv
  have hbl:=hst.blkAt.lt
  have hkn:a<n:=ha
  by_cases hlt:i<il
  ·obtain⟨ib,ic2,cur,hiv2,hib,hcur⟩:=own_row_at ficells_len hko.ins (by omega)
   rw[hil]at hiv2
   rw[hiv]at hiv2
   injection hiv2 with e1 e2 e3
   subst e1
   subst e3
   obtain⟨x,hx⟩:∃ x,k.ins[i]? = some x:=⟨_,List.getElem?_eq_getElem (by omega)⟩
   have hxm:=List.mem_of_getElem? hx
   have HG:=Lib.hid (fmakes_in (hst.ok.good.ins k (List.mem_of_getElem? HK.out) x hxm))
   obtain⟨ya,yc,hyv⟩:=nums_lenI (hko.arg x hxm).1
   obtain⟨yop,ydst,ytwo,yargs,yav,yimm⟩:=x
   dsimp only at hyv
   obtain⟨yl,hyl2⟩:∃ z,yargs.length=z:=⟨_,rfl⟩
   rw[hyl2]at hyv
   subst hyv
   have i0:=(hib.cell (i*5)).trans (hcur i 0 _ hx (by decide))
   have i1:=(hib.cell (i*5+1)).trans (hcur i 1 _ hx (by decide))
   have i2:=(hib.cell (i*5+2)).trans (hcur i 2 _ hx (by decide))
   have i3:=(hib.cell (i*5+3)).trans (hcur i 3 _ hx (by decide))
   have i4:=(hib.cell (i*5+4)).trans (hcur i 4 _ hx (by decide))
   have hibl:=hib.lt
   simp only[ficells,List.getElem?_cons_zero,List.getElem?_cons_succ]at i0 i1 i2 i3 i4
   clear hst hyl hbx hiv hcur hx hxm hib hil hyl2 hko
   go_wp2_with fail
   refine (fmakes_any ⟨yop,ydst,ytwo,yargs,.slice ya yl yc,yimm⟩ wr).mono ?_
   rintro e w5 ⟨mv,rfl,hmk,hs5⟩
   obtain⟨ma,mc,hmv⟩:=nums_lenI hmk
   have HMK:=Lib.hid hmk
   have HST5:=Lib.hid (HST.out.keep hs5)
   have HG2:=Lib.hid (show ∀ z∈fmakes ⟨yop,ydst,ytwo,yargs,.slice ya yl yc,yimm⟩,0≤z∧z<m.next from HG.out)
   have hmn2:=fmakes_len ⟨yop,ydst,ytwo,yargs,.slice ya yl yc,yimm⟩
   generalize fmakes ⟨yop,ydst,ytwo,yargs,.slice ya yl yc,yimm⟩=mks at *
   obtain⟨mn,hmn⟩:∃ z,mks.length=z:=⟨_,rfl⟩
   rw[hmn]at hmv hmn2
   subst hmv
   have HMN:=Lib.hid hmn
   obtain⟨la,lc,hlv⟩:=own_shape HST5.out.ok.live
   replace hlv:v=.slice la ys.length lc:=hlv
   obtain⟨j,hj⟩:∃ z,ys.length=z:=⟨_,rfl⟩
   rw[hj]at hlv
   subst hlv
   have hj2:j≤22000:=by have:=HYL.out;have:=HM.out;omega
   have HJ:=Lib.hid hj
   have hbx5:=HST5.out.box
   have hb5:w5.cell? ⟨mb,5,none⟩=some (.slice la j lc):=hbx5.cell 5
   have hl5:=hbx5.lt
   have hf5:=hbx5.frozen
   clear hmk hs5 hmn hj hbx5 i0 i1 i2 i3 i4 hibl hl3 hb3 hci hbl HG
   go_wp2_with (refine wpList_append_nums2 (base:=0) .i64 rfl _ _ 32 rfl 3 (.int .i64 0) 8 Tryz.underlying32 Tryz.info3 rfl (by decide) (.slice la j lc) _ ys mks rfl rfl (by have h9:=HST5.out.ok.live;exact h9) HMK.out (by rw[HJ.out,HMN.out];omega) (Nat.zero_le _) ?_;intro v6 w6 hown6 ht6 hnew6;obtain⟨a6,c6,hv6⟩:=own_shape hown6;rw[show (ys++mks).length=j+mn from by rw[List.length_append,HJ.out,HMN.out]]at hv6;subst hv6;have hM6:HeapIs w6 mb _ _:=HeapIs.turn (HST5.out.box) ht6 (HST5.out.ok.mb_live);have k5:=hM6.cell 5;have kl:=hM6.lt;have kf:=hM6.frozen;have HOWN6:=Lib.hid hown6;have HT6:=Lib.hid ht6;have HNEW6:=Lib.hid hnew6;clear hM6 hown6 ht6 hnew6)
   go_roundw
   case rel=>exact⟨i+1,ys++mks,.slice a6 (j+mn) c6,by rw[HIL.out];omega,by go_num,HST5.out.liveAdd HOWN6.out HT6.out HNEW6.out HG2.out,by rw[List.length_append,HMN.out];have:=HYL.out;omega⟩
   case measure=>rw[HIL.out];simp[intOf];omega
  ·obtain rfl:il=i:=by omega
   clear hst hyl hbx hiv hil hko
   go_wp2_with fail
   exact HQ.out _ _ _ _ (fr_mk rfl rfl (sl_cons rfl (sl_cons rfl (sl_cons rfl (sl_cons rfl (sl_cons rfl (sl_cons rfl (sl_cons rfl (sl_cons rfl (sl_cons rfl (sl_cons rfl (sl_cons rfl (sl_nil _))))))))))))) HST.out (by have:=HYL.out;have:=HIL.out;omega)
def AwIn (ex:List Bx) (vb n b:Nat) (vcur:Array Value):Prop:=⟨vb,vcur,129⟩∈ex∧∀ a,a<n→∃ (ob:Nat) (o:List Bool) (rb:Bool),vcur[a]? = some (.slice (some ⟨ob,0,none⟩) n n)∧⟨ob,(o.map Value.bool).toArray,4⟩∈ex∧o[b]? = some rb
set_option maxHeartbeats 8000000 in
set_option maxRecDepth 1000000 in
theorem mk_live (w:World) (ex:List Bx) (sa:Option Addr) (sl sc:Nat) (l:List Int) (rows:List (Value × List Int)) (m:MkSt) (r mb bb n tb pb db tn b vb vc:Nat) (rdy:Bool) (dn:List Bool) (vcur:Array Value) (a0:Act) (w1:World) (Q0:Exit→Act→World→Prop) (hfr:Fr [(2,.pointer (some ⟨r,0,none⟩)),(3,.pointer (some ⟨mb,0,none⟩)),(4,.int .i64 n),(5,.slice (some ⟨tb,0,none⟩) n n),(7,.slice (some ⟨pb,0,none⟩) n n),(11,.slice (some ⟨db,0,none⟩) n n),(12,.int .i64 tn),(13,.int .i64 b),(14,.bool rdy),(15,.slice (some ⟨vb,0,none⟩) n vc),(19,.int .i64 0)] a0)
  (hst:MSt w ex mb bb tb (.slice sa sl sc) l n rows m w1) (hb:b<n) (hn9:n≤9) (hdx:⟨db,(dn.map Value.bool).toArray,4⟩∈ex) (hdl:dn.length=n) (haw:AwIn ex vb n b vcur) (hbk:∀ (a:Nat) (k:FBlk),m.bks[a]? = some k→((∀ p∈k.phis,0≤p.dst∧p.dst<m.next)∧k.phis.length≤3)∧k.ins.length≤450) (hml:m.live.length≤10)
  (hQ:∀ a1 w2 ys v,Fr [(2,.pointer (some ⟨r,0,none⟩)),(3,.pointer (some ⟨mb,0,none⟩)),(4,.int .i64 n),(5,.slice (some ⟨tb,0,none⟩) n n),(7,.slice (some ⟨pb,0,none⟩) n n),(11,.slice (some ⟨db,0,none⟩) n n),(12,.int .i64 tn),(13,.int .i64 b),(14,.bool rdy),(15,.slice (some ⟨vb,0,none⟩) n vc)] a1→MSt w ex mb bb tb (.slice sa sl sc) l n rows { m with live:=ys,livev:=v } w2→ys.length≤m.live.length+1000*n→Q0 .normal a1 w2):Code.wp Tryz.prog (mkCode [1,1,1,1,1,1,1,1,1,1,1,0,1,0,0,1,0,0,1,0,0,1,0,0,1,1,1,1,1,1,1,1,0,1]) Q0 a0 w1:=by
 obtain⟨u,ha0,hu⟩:=frame_ex hfr
 obtain⟨g1,g2,s2,s3,s4,s5,s7,s11,s12,s13,s14,s15,s19,g3⟩:=hfr
 have e2:=hu 2 _ s2
 have e3:=hu 3 _ s3
 have e4:=hu 4 _ s4
 have e5:=hu 5 _ s5
 have e7:=hu 7 _ s7
 have e11:=hu 11 _ s11
 have e12:=hu 12 _ s12
 have e13:=hu 13 _ s13
 have e14:=hu 14 _ s14
 have e15:=hu 15 _ s15
 have e19:=hu 19 _ s19
 rw[e2,e3,e4,e5,e7,e11,e12,e13,e14,e15,e19]at ha0
 subst ha0
 clear hu g1 g2 g3 e2 s2 e3 s3 e4 s4 e5 s5 e7 s7 e11 s11 e12 s12 e13 s13 e14 s14 e15 s15 e19 s19
 conv=>arg 2;whnf
 have HQ:=Lib.hid hQ
 have HD:=Lib.hid (And.intro hdx hdl)
 have HA:=Lib.hid haw
 have HBK:=Lib.hid hbk
 have HM:=Lib.hid hml
 clear hQ hml hdx hdl haw hbk
 go_wp2_with fail
 refine wp_loop_fr (fun t ac wr=>∃ (a:Nat) (ys:List Int) (v:Value),t=n-a∧a≤n∧Fr [(2,.pointer (some ⟨r,0,none⟩)),(3,.pointer (some ⟨mb,0,none⟩)),(4,.int .i64 n),(5,.slice (some ⟨tb,0,none⟩) n n),(7,.slice (some ⟨pb,0,none⟩) n n),(11,.slice (some ⟨db,0,none⟩) n n),(12,.int .i64 tn),(13,.int .i64 b),(14,.bool rdy),(15,.slice (some ⟨vb,0,none⟩) n vc),(19,.int .i64 a)] ac∧MSt w ex mb bb tb (.slice sa sl sc) l n rows { m with live:=ys,livev:=v } wr∧ys.length≤m.live.length+1000*a) n ⟨0,m.live,m.livev,rfl,Nat.zero_le _,(fr_mk rfl rfl (sl_cons rfl (sl_cons rfl (sl_cons rfl (sl_cons rfl (sl_cons rfl (sl_cons rfl (sl_cons rfl (sl_cons rfl (sl_cons rfl (sl_cons rfl (sl_cons rfl (sl_nil _))))))))))))),hst,Nat.le_refl _⟩ ?_
 ·clear hst
  intro t a1 wr K hJ hK
  have HK9:=Lib.hid hK
  clear hK
  obtain⟨a,ys,v,rfl,han,hf,hst,hyl⟩:=hJ
  obtain⟨u,ha0,hu⟩:=frame_ex hf
  obtain⟨g1,g2,s2,s3,s4,s5,s7,s11,s12,s13,s14,s15,s19,g3⟩:=hf
  have e2:=hu 2 _ s2
  have e3:=hu 3 _ s3
  have e4:=hu 4 _ s4
  have e5:=hu 5 _ s5
  have e7:=hu 7 _ s7
  have e11:=hu 11 _ s11
  have e12:=hu 12 _ s12
  have e13:=hu 13 _ s13
  have e14:=hu 14 _ s14
  have e15:=hu 15 _ s15
  have e19:=hu 19 _ s19
  rw[e2,e3,e4,e5,e7,e11,e12,e13,e14,e15,e19]at ha0
  subst ha0
  clear hu g1 g2 g3 e2 s2 e3 s3 e4 s4 e5 s5 e7 s7 e11 s11 e12 s12 e13 s13 e14 s14 e15 s15 e19 s19
  have HST:=Lib.hid hst
  have HYL:=Lib.hid (show ys.length≤10+1000*a from by have:=HM.out;omega)
  have HYM:=Lib.hid hyl
  clear hyl
  by_cases hlt:a<n
  ·obtain⟨k,hk⟩:=hst.at hlt
   have HK:=Lib.hid (show m.bks[a]? = some k from hk)
   have HKG:=Lib.hid (HBK.out a k hk)
   by_cases hab:a=b
   ·subst hab
    have haq:((a:Int) != (a:Int))=false:=by simp
    clear hst hk
    go_upto_block 18 with fail
    refine mk_livePhis w ex sa sl sc l rows { m with live:=ys,livev:=v } r mb bb n tb pb db tn a vb vc rdy a k _ _ _ (fr_mk rfl rfl (sl_cons rfl (sl_cons rfl (sl_cons rfl (sl_cons rfl (sl_cons rfl (sl_cons rfl (sl_cons rfl (sl_cons rfl (sl_cons rfl (sl_cons rfl (sl_cons rfl (sl_cons rfl (sl_nil _)))))))))))))) HST.out hlt hn9 HK.out (HKG.out.1) (by have:=HYL.out;show ys.length≤_;omega) ?_
    intro a1 w2 ys2 v2 hf hst2 hy2
    obtain⟨u,ha0,hu⟩:=frame_ex hf
    obtain⟨g1,g2,s2,s3,s4,s5,s7,s11,s12,s13,s14,s15,s19,g3⟩:=hf
    have e2:=hu 2 _ s2
    have e3:=hu 3 _ s3
    have e4:=hu 4 _ s4
    have e5:=hu 5 _ s5
    have e7:=hu 7 _ s7
    have e11:=hu 11 _ s11
    have e12:=hu 12 _ s12
    have e13:=hu 13 _ s13
    have e14:=hu 14 _ s14
    have e15:=hu 15 _ s15
    have e19:=hu 19 _ s19
    rw[e2,e3,e4,e5,e7,e11,e12,e13,e14,e15,e19]at ha0
    subst ha0
    clear hu g1 g2 g3 e2 s2 e3 s3 e4 s4 e5 s5 e7 s7 e11 s11 e12 s12 e13 s13 e14 s14 e15 s15 e19 s19
    have HST2:=Lib.hid (show MSt w ex mb bb tb (.slice sa sl sc) l n rows { m with live:=ys2,livev:=v2 } w2 from hst2)
    have HY2:=Lib.hid (show ys2.length≤ys.length+3 from hy2)
    clear hst2 hy2
    go_upto_block 20 with fail
    refine mk_liveIns w ex sa sl sc l rows { m with live:=ys2,livev:=v2 } r mb bb n tb pb db tn a vb vc rdy a k _ _ _ (fr_mk rfl rfl (sl_cons rfl (sl_cons rfl (sl_cons rfl (sl_cons rfl (sl_cons rfl (sl_cons rfl (sl_cons rfl (sl_cons rfl (sl_cons rfl (sl_cons rfl (sl_cons rfl (sl_cons rfl (sl_nil _)))))))))))))) HST2.out hlt hn9 HK.out (by have:=HKG.out.2;omega) (by have:=HYL.out;have:=HY2.out;show ys2.length≤_;omega) ?_
    intro a1 w3 ys3 v3 hf hst3 hy3
    obtain⟨u,ha0,hu⟩:=frame_ex hf
    obtain⟨g1,g2,s2,s3,s4,s5,s7,s11,s12,s13,s14,s15,s19,g3⟩:=hf
    have e2:=hu 2 _ s2
    have e3:=hu 3 _ s3
    have e4:=hu 4 _ s4
    have e5:=hu 5 _ s5
    have e7:=hu 7 _ s7
    have e11:=hu 11 _ s11
    have e12:=hu 12 _ s12
    have e13:=hu 13 _ s13
    have e14:=hu 14 _ s14
    have e15:=hu 15 _ s15
    have e19:=hu 19 _ s19
    rw[e2,e3,e4,e5,e7,e11,e12,e13,e14,e15,e19]at ha0
    subst ha0
    clear hu g1 g2 g3 e2 s2 e3 s3 e4 s4 e5 s5 e7 s7 e11 s11 e12 s12 e13 s13 e14 s14 e15 s15 e19 s19
    have HST3:=Lib.hid (show MSt w ex mb bb tb (.slice sa sl sc) l n rows { m with live:=ys3,livev:=v3 } w3 from hst3)
    have HY3:=Lib.hid (show ys3.length≤ys2.length+2*k.ins.length from hy3)
    clear hst3 hy3
    go_wp2_with fail
    exact HK9.out (n-(a+1)) _ _ (by omega) ⟨a+1,ys3,v3,rfl,by omega,(fr_mk rfl rfl (sl_cons rfl (sl_cons rfl (sl_cons rfl (sl_cons rfl (sl_cons rfl (sl_cons rfl (sl_cons rfl (sl_cons rfl (sl_cons rfl (sl_cons rfl (sl_cons rfl (sl_nil _))))))))))))),HST3.out,by have:=HYM.out;have:=HY2.out;have:=HY3.out;have:=HKG.out.2;omega⟩
   ·have haq:((a:Int) != (b:Int))=true:=by simp;omega
    obtain⟨d1,hd1⟩:∃ d1,dn[a]? = some d1:=⟨_,List.getElem?_eq_getElem (by rw[HD.out.2];exact hlt)⟩
    have hdh:=(hst.boxes _ HD.out.1).1
    have hdc:=hdh.cell a
    rw[List.getElem?_toArray,List.getElem?_map,hd1]at hdc
    replace hdc:wr.cell? ⟨db,a,none⟩=some (.bool d1):=hdc
    have hdl:=hdh.lt
    replace hdl:db<wr.heap.size:=hdl
    obtain⟨ob,o,rb,hva,hox,hob⟩:=HA.out.2 a hlt
    have hvh:=(hst.boxes _ HA.out.1).1
    have hvc:wr.cell? ⟨vb,a,none⟩=some (.slice (some ⟨ob,0,none⟩) n n):=(hvh.cell a).trans hva
    have hvl:vb<wr.heap.size:=hvh.lt
    have hoh:=(hst.boxes _ hox).1
    have hoc:=hoh.cell b
    rw[List.getElem?_toArray,List.getElem?_map,hob]at hoc
    replace hoc:wr.cell? ⟨ob,b,none⟩=some (.bool rb):=hoc
    have hol:ob<wr.heap.size:=hoh.lt
    clear hst hk hdh hvh hoh hva hox hob hd1
    cases d1
    ·go_wp2_with fail
     exact HK9.out (n-(a+1)) _ _ (by omega) ⟨a+1,ys,v,rfl,by omega,(fr_mk rfl rfl (sl_cons rfl (sl_cons rfl (sl_cons rfl (sl_cons rfl (sl_cons rfl (sl_cons rfl (sl_cons rfl (sl_cons rfl (sl_cons rfl (sl_cons rfl (sl_cons rfl (sl_nil _))))))))))))),HST.out,by have:=HYM.out;omega⟩
    ·cases rb
     ·clear hab
      go_upto_block 18 with fail
      refine mk_livePhis w ex sa sl sc l rows { m with live:=ys,livev:=v } r mb bb n tb pb db tn b vb vc rdy a k _ _ _ (fr_mk rfl rfl (sl_cons rfl (sl_cons rfl (sl_cons rfl (sl_cons rfl (sl_cons rfl (sl_cons rfl (sl_cons rfl (sl_cons rfl (sl_cons rfl (sl_cons rfl (sl_cons rfl (sl_cons rfl (sl_nil _)))))))))))))) HST.out hlt hn9 HK.out (HKG.out.1) (by have:=HYL.out;show ys.length≤_;omega) ?_
      intro a1 w2 ys2 v2 hf hst2 hy2
      obtain⟨u,ha0,hu⟩:=frame_ex hf
      obtain⟨g1,g2,s2,s3,s4,s5,s7,s11,s12,s13,s14,s15,s19,g3⟩:=hf
      have e2:=hu 2 _ s2
      have e3:=hu 3 _ s3
      have e4:=hu 4 _ s4
      have e5:=hu 5 _ s5
      have e7:=hu 7 _ s7
      have e11:=hu 11 _ s11
      have e12:=hu 12 _ s12
      have e13:=hu 13 _ s13
      have e14:=hu 14 _ s14
      have e15:=hu 15 _ s15
      have e19:=hu 19 _ s19
      rw[e2,e3,e4,e5,e7,e11,e12,e13,e14,e15,e19]at ha0
      subst ha0
      clear hu g1 g2 g3 e2 s2 e3 s3 e4 s4 e5 s5 e7 s7 e11 s11 e12 s12 e13 s13 e14 s14 e15 s15 e19 s19
      have HST2:=Lib.hid (show MSt w ex mb bb tb (.slice sa sl sc) l n rows { m with live:=ys2,livev:=v2 } w2 from hst2)
      have HY2:=Lib.hid (show ys2.length≤ys.length+3 from hy2)
      clear hst2 hy2
      go_upto_block 20 with fail
      refine mk_liveIns w ex sa sl sc l rows { m with live:=ys2,livev:=v2 } r mb bb n tb pb db tn b vb vc rdy a k _ _ _ (fr_mk rfl rfl (sl_cons rfl (sl_cons rfl (sl_cons rfl (sl_cons rfl (sl_cons rfl (sl_cons rfl (sl_cons rfl (sl_cons rfl (sl_cons rfl (sl_cons rfl (sl_cons rfl (sl_cons rfl (sl_nil _)))))))))))))) HST2.out hlt hn9 HK.out (by have:=HKG.out.2;omega) (by have:=HYL.out;have:=HY2.out;show ys2.length≤_;omega) ?_
      intro a1 w3 ys3 v3 hf hst3 hy3
      obtain⟨u,ha0,hu⟩:=frame_ex hf
      obtain⟨g1,g2,s2,s3,s4,s5,s7,s11,s12,s13,s14,s15,s19,g3⟩:=hf
      have e2:=hu 2 _ s2
      have e3:=hu 3 _ s3
      have e4:=hu 4 _ s4
      have e5:=hu 5 _ s5
      have e7:=hu 7 _ s7
      have e11:=hu 11 _ s11
      have e12:=hu 12 _ s12
      have e13:=hu 13 _ s13
      have e14:=hu 14 _ s14
      have e15:=hu 15 _ s15
      have e19:=hu 19 _ s19
      rw[e2,e3,e4,e5,e7,e11,e12,e13,e14,e15,e19]at ha0
      subst ha0
      clear hu g1 g2 g3 e2 s2 e3 s3 e4 s4 e5 s5 e7 s7 e11 s11 e12 s12 e13 s13 e14 s14 e15 s15 e19 s19
      have HST3:=Lib.hid (show MSt w ex mb bb tb (.slice sa sl sc) l n rows { m with live:=ys3,livev:=v3 } w3 from hst3)
      have HY3:=Lib.hid (show ys3.length≤ys2.length+2*k.ins.length from hy3)
      clear hst3 hy3
      go_wp2_with fail
      exact HK9.out (n-(a+1)) _ _ (by omega) ⟨a+1,ys3,v3,rfl,by omega,(fr_mk rfl rfl (sl_cons rfl (sl_cons rfl (sl_cons rfl (sl_cons rfl (sl_cons rfl (sl_cons rfl (sl_cons rfl (sl_cons rfl (sl_cons rfl (sl_cons rfl (sl_cons rfl (sl_nil _))))))))))))),HST3.out,by have:=HYM.out;have:=HY2.out;have:=HY3.out;have:=HKG.out.2;omega⟩
     ·go_wp2_with fail
      exact HK9.out (n-(a+1)) _ _ (by omega) ⟨a+1,ys,v,rfl,by omega,(fr_mk rfl rfl (sl_cons rfl (sl_cons rfl (sl_cons rfl (sl_cons rfl (sl_cons rfl (sl_cons rfl (sl_cons rfl (sl_cons rfl (sl_cons rfl (sl_cons rfl (sl_cons rfl (sl_nil _))))))))))))),HST.out,by have:=HYM.out;omega⟩
  ·obtain rfl:n=a:=by omega
   clear hst
   go_wp2_with fail
   exact HQ.out _ _ _ _ (fr_mk rfl rfl (sl_cons rfl (sl_cons rfl (sl_cons rfl (sl_cons rfl (sl_cons rfl (sl_cons rfl (sl_cons rfl (sl_cons rfl (sl_cons rfl (sl_cons rfl (sl_nil _)))))))))))) HST.out HYM.out
set_option maxHeartbeats 8000000 in
set_option maxRecDepth 1000000 in
theorem mk_tos (w:World) (ex:List Bx) (sa:Option Addr) (sl sc:Nat) (l:List Int) (rows:List (Value × List Int)) (m:MkSt) (r mb bb n tb:Nat) (a0:Act) (w1:World) (Q0:Exit→Act→World→Prop) (hfr:Fr [(2,.pointer (some ⟨r,0,none⟩)),(3,.pointer (some ⟨mb,0,none⟩)),(4,.int .i64 n),(5,.slice (some ⟨tb,0,none⟩) n n),(6,.int .i64 0)] a0)
  (hst:MSt w ex mb bb tb (.slice sa sl sc) l n rows m w1) (hn9:1≤n∧n≤9) (hemp:∀ k∈m.bks,k.phis=[]∧k.ins=[])
  (hQ:∀ a1 w2 (bks:List FBlk),Fr [(2,.pointer (some ⟨r,0,none⟩)),(3,.pointer (some ⟨mb,0,none⟩)),(4,.int .i64 n),(5,.slice (some ⟨tb,0,none⟩) n n)] a1→MSt w ex mb bb tb (.slice sa sl sc) l n rows { m with bks:=bks } w2→TosOk rows n bks→(∀ k∈bks,k.phis=[]∧k.ins=[])→Q0 .normal a1 w2):Code.wp Tryz.prog (mkCode [1,1,1,1,1,1,1,0,1]) Q0 a0 w1:=by
 obtain⟨u,ha0,hu⟩:=frame_ex hfr
 obtain⟨g1,g2,s2,s3,s4,s5,s6,g3⟩:=hfr
 have e2:=hu 2 _ s2
 have e3:=hu 3 _ s3
 have e4:=hu 4 _ s4
 have e5:=hu 5 _ s5
 have e6:=hu 6 _ s6
 rw[e2,e3,e4,e5,e6]at ha0
 subst ha0
 clear hu g1 g2 g3 e2 s2 e3 s3 e4 s4 e5 s5 e6 s6
 conv=>arg 2;whnf
 have HQ:=Lib.hid hQ
 have HEM:=Lib.hid hemp
 clear hQ hemp
 go_wp2_with fail
 refine wp_loop_fr (fun t ac wr=>∃ (b:Nat) (bks:List FBlk),t=n-b∧b≤n∧Fr [(2,.pointer (some ⟨r,0,none⟩)),(3,.pointer (some ⟨mb,0,none⟩)),(4,.int .i64 n),(5,.slice (some ⟨tb,0,none⟩) n n),(6,.int .i64 b)] ac∧MSt w ex mb bb tb (.slice sa sl sc) l n rows { m with bks:=bks } wr∧TosOk rows b bks∧∀ k∈bks,k.phis=[]∧k.ins=[]) n ⟨0,m.bks,rfl,Nat.zero_le _,(fr_mk rfl rfl (sl_cons rfl (sl_cons rfl (sl_cons rfl (sl_cons rfl (sl_cons rfl (sl_nil _))))))),hst,(fun j k r hj _ _=>by omega),HEM.out⟩ ?_
 ·clear hst HEM
  intro t a1 wr K hJ hK
  have HK9:=Lib.hid hK
  clear hK
  obtain⟨b,bks,rfl,hbn,hf,hst,htos,hemp⟩:=hJ
  obtain⟨u,ha0,hu⟩:=frame_ex hf
  obtain⟨g1,g2,s2,s3,s4,s5,s6,g3⟩:=hf
  have e2:=hu 2 _ s2
  have e3:=hu 3 _ s3
  have e4:=hu 4 _ s4
  have e5:=hu 5 _ s5
  have e6:=hu 6 _ s6
  rw[e2,e3,e4,e5,e6]at ha0
  subst ha0
  clear hu g1 g2 g3 e2 s2 e3 s3 e4 s4 e5 s5 e6 s6
  have HST2:=Lib.hid hst
  have HTOS:=Lib.hid htos
  have HEMP:=Lib.hid hemp
  clear hst htos hemp
  by_cases hlt:b<n
  ·obtain⟨k,hk⟩:=HST2.out.at hlt
   obtain⟨⟨rv,rl⟩,hr,hrm,hrc⟩:=HST2.out.row hlt
   obtain⟨ra,rc,hrv⟩:=nums_lenI (HST2.out.tgt.row _ hrm).1
   dsimp only at hrv
   obtain⟨rn,hrn⟩:∃ z,rl.length=z:=⟨_,rfl⟩
   rw[hrn]at hrv
   subst hrv
   have HK:=Lib.hid hk
   have HR:=Lib.hid (And.intro hr hrm)
   have HRC:=Lib.hid hrc
   have HTB:=Lib.hid (HST2.out.tgt.box.lt)
   clear hk hr hrm hrc hrn
   go_wp2_with fail
   refine wp_region_since_tail 10 rfl (by decide +kernel) (by decide +kernel) (by decide +kernel) (by decide)
    [Is (.pointer (some ⟨mb,0,none⟩)),Is (.pointer (some ⟨mb,0,none⟩)),Is (.pointer (some ⟨mb,2,none⟩)),Is (.pointer (some ⟨mb,3,none⟩)),Is (.slice (some ⟨bb,0,none⟩) n n),Is (.int .i64 b),Is (.slice (some ⟨tb,0,none⟩) n n),Is (.int .i64 b),Is (.pointer (some ⟨tb,b,none⟩)),Is (.slice ra rn rc)]
    (by repeat (first | exact trivial | refine⟨Is.stable _,?_⟩ | refine⟨Any.stable,?_⟩ | refine⟨IsNums.stable _ _,?_⟩)) ⟨?_,?_,?_,?_,?_,?_,?_,?_,?_,?_,trivial⟩ ?_
   rotate_right
   ·intro vs w1 hs hk
    simp only[List.take,List.drop,putAll,Act.put,KnowsAll,nthF,Is,List.setIfInBounds_toArray,List.set_cons_zero,List.set_cons_succ,Nat.reduceAdd]at hk ⊢
    try simp only[hk]
    have HST3:=Lib.hid (HST2.out.keep hs)
    have hc4:=HST3.out.cell HK.out (show 4<6 by decide)
    have hl4:=HST3.out.blkAt.lt
    have hf4:=HST3.out.blkAt.frozen (b*6+4)
    clear hs hk
    go_wp2
    have hset:=HST3.out.ok.setTo HK.out rfl (.slice ra rn rc) rl (HST3.out.tgt.row _ HR.out.2)
    have HSET:=Lib.hid (HST3.out.step hset.1 hset.2 (by simp))
    clear hset
    exact HK9.out (n-(b+1)) _ _ (by omega) ⟨b+1,_,rfl,by omega,(fr_mk rfl rfl (sl_cons rfl (sl_cons rfl (sl_cons rfl (sl_cons rfl (sl_cons rfl (sl_nil _))))))),HSET.out,HTOS.out.next (fun r hr=>by have h:=HR.out.1;rw[hr]at h;rw[Option.some.inj h]),fun k2 hk2=>by
     rcases mem_set_idx hk2 with rfl|⟨j,_,hj⟩
     ·exact HEMP.out k (List.mem_of_getElem? HK.out)
     ·exact HEMP.out k2 (List.mem_of_getElem? hj)⟩
   all_goals
    intro vs w1 hs hk _
    simp only[List.take,putAll,Act.put,Knows,nthF,Is,List.setIfInBounds_toArray,List.set_cons_zero,List.set_cons_succ,Nat.reduceAdd]at hk ⊢
    try simp only[hk]
   ·go_wp2
    exact⟨_,rfl,rfl,Since.refl _⟩
   ·have hl3:=(HST2.out.keep hs).box.lt
    go_wp2
    exact⟨_,rfl,rfl,Since.refl _⟩
   ·go_wp2
    exact⟨_,rfl,rfl,Since.refl _⟩
   ·go_wp2
    exact⟨_,rfl,rfl,Since.refl _⟩
   ·have hbx:=(HST2.out.keep hs).box
    have hb3:=hbx.cell 3
    have hl3:=hbx.lt
    go_wp2
    exact⟨_,rfl,rfl,Since.refl _⟩
   ·go_wp2
    exact⟨_,rfl,rfl,Since.refl _⟩
   ·go_wp2
    exact⟨_,rfl,rfl,Since.refl _⟩
   ·go_wp2
    exact⟨_,rfl,rfl,Since.refl _⟩
   ·go_wp2
    exact⟨_,rfl,rfl,Since.refl _⟩
   ·have hc:=(hs.cell (p:=⟨tb,b,none⟩) HTB.out).trans HRC.out
    have hl:=Nat.lt_of_lt_of_le HTB.out hs.size
    go_wp2
    exact⟨_,rfl,rfl,Since.refl _⟩
  ·obtain rfl:n=b:=by omega
   go_wp2_with fail
   exact HQ.out _ _ bks (fr_mk rfl rfl (sl_cons rfl (sl_cons rfl (sl_cons rfl (sl_cons rfl (sl_nil _)))))) HST2.out HTOS.out HEMP.out
end Go.Proofs.YtmhojfpidedjeaaGreatDoor
