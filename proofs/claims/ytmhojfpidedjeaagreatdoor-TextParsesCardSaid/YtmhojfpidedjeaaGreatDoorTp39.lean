import Derived.Test.YtmhojfpidedjeaaGreatDoorTp38
namespace Go.Proofs.YtmhojfpidedjeaaGreatDoor
open Go.RowKit Go.Lib
set_option linter.unusedVariables false
set_option maxHeartbeats 8000000
set_option maxRecDepth 1000000
section
variable {S : Nat→Prop} {w w':World} {v : Value} {xs:List Int} {bx:List Bx}
def I32 (v:Value) (w:World):Prop:=∃ z,v=.int .i32 z∧In32 z
theorem I32.stableT (S:Nat→Prop):Yd S I32:=fun _ _ _ h _=>h
def I7 (v:Value) (w:World):Prop:=∃ z:Int,v=.int .i64 z∧0≤z∧z<700
theorem I7.stableT (S:Nat→Prop):Yd S I7:=fun _ _ _ h _=>h
def ILt (n:Nat) (v:Value) (w:World):Prop:=∃ t:Nat,v=.int .i64 t∧t<n
theorem ILt.stableT (S:Nat→Prop) (n:Nat):Yd S (ILt n):=fun _ _ _ h _=>h
def PLt (g n:Nat) (v:Value) (w:World):Prop:=∃ t:Nat,v=.pointer (some ⟨g,t,none⟩)∧t<n
theorem PLt.stableT (S:Nat→Prop) (g n:Nat):Yd S (PLt g n):=fun _ _ _ h _=>h
def Pr7 (y:Int) (v:Value) (w:World):Prop:=∃ z:Int,v=.agg #[.int .i64 y,.int .i64 z]∧0≤z∧z<700
theorem Pr7.stableT (S:Nat→Prop) (y:Int):Yd S (Pr7 y):=fun _ _ _ h _=>h
def Kj (S:Nat→Prop) (y:Int) (v:Value) (w:World):Prop:=∃ (q:Nat) (z:Int),v=.slice (some ⟨q,0,none⟩) 1 1∧HeapIs w q #[.int .i64 y,.int .i64 z] 71∧¬ S q∧0≤z∧z<700
theorem Kj.stableT (S:Nat→Prop) (y:Int):Yd S (Kj S y):=fun v w w' ⟨q,z,h1,h2,h3,h4⟩ t=>⟨q,z,h1,h2.turn t h3,h3,h4⟩
def Zb7 (S:Nat→Prop) (v:Value) (w:World):Prop:=∃ z,Wl S z v w∧0≤z∧z<700
theorem Zb7.stableT (S:Nat→Prop):Yd S (Zb7 S):=fun v w w' ⟨z,h1,h2⟩ t=>⟨z,Wl.stableT S z v w w' h1 t,h2⟩
structure PhW (w0:World) (ex:List Bx) (mb bb tb:Nat) (sv:Value) (l:List Int) (n:Nat) (rows:List (Value × List Int)) (m:Zj) (pg k yn p:Nat) (w:World):Prop where
 zero:p=0→MSt w0 ex mb bb tb sv l n rows m w
 one:p=1→MSt w0 ex mb bb tb sv l n rows { m with at_:=m.at_+2 } w
 two:p=2→∃ m2,MSt w0 ex mb bb tb sv l n rows m2 w∧MvC m m2 2 1 1
 pc:w.cell? ⟨pg,k,none⟩=some (.int .i64 yn)
 pl:pg<w.heap.size
theorem BV.mem (h:BV v xs bx) {x : Bx} (hx:x∈bx):v.ownBlock=some x.q:=by
 rcases h with ⟨_,_,rfl⟩|⟨g,cap,cur,rfl,rfl,hc⟩
 ·cases hx
 ·rw[List.mem_singleton.1 hx];rfl
structure PhT (w0:World) (ex:List Bx) (mb bb tb:Nat) (sv:Value) (l:List Int) (n:Nat) (rows:List (Value × List Int)) (m:Zj) (p:Nat) (w:World):Prop where
 zero:p=0→MSt w0 ex mb bb tb sv l n rows m w
 one:p=1→MSt w0 ex mb bb tb sv l n rows { m with at_:=m.at_+1 } w
 bx:∀ x∈ex,HeapIs w x.q x.cs x.ty
theorem PhT.keep {w0:World} {ex:List Bx} {mb bb tb:Nat} {sv:Value} {l : List Int} {n : Nat} {rows:List (Value × List Int)} {m : Zj} {p : Nat} (h:PhT w0 ex mb bb tb sv l n rows m p w) (s:Since w w'):PhT w0 ex mb bb tb sv l n rows m p w':=
 ⟨fun e=>(h.zero e).keep s,fun e=>(h.one e).keep s,fun x hx=>(h.bx x hx).keep s⟩
theorem BV.at {g n c:Nat} (h:BV (.slice (some ⟨g,0,none⟩) n c) xs bx) (hb:∀ x∈bx,HeapIs w x.q x.cs x.ty) {j : Nat} {y : Int} (hj:xs[j]? = some y):w.cell? ⟨g,j,none⟩=some (.int .i64 y)∧g<w.heap.size:=by
 obtain⟨g2,c2,hv,h1,h2⟩:=h.cell hb hj;injection hv with e
 injection e with e
 injection e with e
 rw[←e]at h1 h2;exact⟨h1,h2⟩
end
theorem Zfk (w:World) (ex pbx:List Bx) (sa pa:Option Addr) (sl sc pc:Nat) (l ps:List Int) (rows:List (Value × List Int)) (m:Zj) (r mb bb n tb pb b i pl q cap c:Nat) (cur:Array Value) (ph:List Int) (x:Int) (a0:Act) (w1:World) (Q0:Exit→Act→World→Prop) (tm:Fr [(2,.pointer (some ⟨r,0,none⟩)),(3,.pointer (some ⟨mb,0,none⟩)),(4,.int .i64 n),(7,.slice (some ⟨pb,0,none⟩) n n),(25,.int .i64 b),(26,.slice pa pl pc),(27,.int .i64 i),(28,.slice (some ⟨q,0,none⟩) 0 cap),(29,.int .i64 0)] a0)
  (hL:MSt w ((⟨q,cur,71⟩:Bx)::ex) mb bb tb (.slice sa sl sc) l n rows m w1) (te:1≤n∧n≤9) (hE:∀ z∈ex,z.ty≠71) (td:BV (.slice pa pl pc) ps pbx) (H5:∀ z∈pbx,z∈ex) (H7:ps.length=pl) (tA:pl≤9) (ta:∀ y∈ps,0≤y∧y<(n:Int)) (hn:OwnRow prcells 2 71 0 w1 (.slice (some ⟨q,0,none⟩) 0 cap) []) (He:Xn x ph n c m) (hc:c≤250)
  (hQ:∀ a1 w2 (q cap:Nat) (cur:Array Value) (prs:List (Int × Int)) (m:Zj),Fr [(2,.pointer (some ⟨r,0,none⟩)),(3,.pointer (some ⟨mb,0,none⟩)),(4,.int .i64 n),(7,.slice (some ⟨pb,0,none⟩) n n),(25,.int .i64 b),(26,.slice pa pl pc),(27,.int .i64 i),(28,.slice (some ⟨q,0,none⟩) pl cap)] a1→MSt w ((⟨q,cur,71⟩:Bx)::ex) mb bb tb (.slice sa sl sc) l n rows m w2→OwnRow prcells 2 71 0 w2 (.slice (some ⟨q,0,none⟩) pl cap) prs→prs.length=pl→(∀ y∈prs,(0≤y.1∧y.1<(n:Int))∧0≤y.2∧y.2<700)→Xn x ph n (c+pl) m→Q0 .normal a1 w2):Code.wp Tryz.prog (mkCode [1,1,1,1,1,1,1,1,1,1,1,1,0,1,0,0,1,0,0,1,1,0,0,1,0,0,1,0,1]) Q0 a0 w1:=by
 obtain⟨u,Hf,hu⟩:=Zr tm;obtain⟨g1,g2,s2,s3,s4,s7,s25,s26,s27,s28,s29,g3⟩:=tm;have e2:=hu 2 _ s2;have e3:=hu 3 _ s3;have e4:=hu 4 _ s4;have e7:=hu 7 _ s7;have e25:=hu 25 _ s25;have e26:=hu 26 _ s26;have e27:=hu 27 _ s27;have e28:=hu 28 _ s28;have e29:=hu 29 _ s29;rw[e2,e3,e4,e7,e25,e26,e27,e28,e29]at Hf;subst Hf;clear hu g1 g2 g3 e2 s2 e3 s3 e4 s4 e7 s7 e25 s25 e26 s26 e27 s27 e28 s28 e29 s29
 conv=>arg 2;whnf
 have HQ:=hid hQ;have HE:=hid hE;have hv:=hid (And.intro td H5);have HI:=hid (And.intro H7 ta);have hD:=hid hn;have hh:=hid He;clear hQ hE td H5 H7 ta hn He;go_wp2_with fail
 refine YC (fun t ac wr=>∃ (k:Nat) (prs:List (Int × Int)) (q cap:Nat) (cur:Array Value) (m:Zj),t=pl-k∧k≤pl∧prs.length=k∧Fr [(2,.pointer (some ⟨r,0,none⟩)),(3,.pointer (some ⟨mb,0,none⟩)),(4,.int .i64 n),(7,.slice (some ⟨pb,0,none⟩) n n),(25,.int .i64 b),(26,.slice pa pl pc),(27,.int .i64 i),(28,.slice (some ⟨q,0,none⟩) k cap),(29,.int .i64 k)] ac∧MSt w ((⟨q,cur,71⟩:Bx)::ex) mb bb tb (.slice sa sl sc) l n rows m wr∧OwnRow prcells 2 71 0 wr (.slice (some ⟨q,0,none⟩) k cap) prs∧(∀ y∈prs,(0≤y.1∧y.1<(n:Int))∧0≤y.2∧y.2<700)∧Xn x ph n (c+k) m) pl ⟨0,[],q,cap,cur,m,rfl,Nat.zero_le _,rfl,(Zv rfl rfl (Za rfl (Za rfl (Za rfl (Za rfl (Za rfl (Za rfl (Za rfl (Za rfl (Za rfl (Zo _))))))))))),hL,hD.out,(fun y hy=>by cases hy),hh.out⟩ ?_
 ·clear hL hD hh q cap cur m;intro t a1 wr K hJ hK;have ts:=hid hK;clear hK;obtain⟨k,prs,q,cap,cur,m,rfl,tD,H9,hf,hL,hn,Ht,He⟩:=hJ;obtain⟨u,Hf,hu⟩:=Zr hf;obtain⟨g1,g2,s2,s3,s4,s7,s25,s26,s27,s28,s29,g3⟩:=hf;have e2:=hu 2 _ s2;have e3:=hu 3 _ s3;have e4:=hu 4 _ s4;have e7:=hu 7 _ s7;have e25:=hu 25 _ s25;have e26:=hu 26 _ s26;have e27:=hu 27 _ s27;have e28:=hu 28 _ s28;have e29:=hu 29 _ s29;rw[e2,e3,e4,e7,e25,e26,e27,e28,e29]at Hf;subst Hf;clear hu g1 g2 g3 e2 s2 e3 s3 e4 s4 e7 s7 e25 s25 e26 s26 e27 s27 e28 s28 e29 s29;have Hv:=hid hL;have hD:=hid hn;have HW:=hid Ht;have hh:=hid He;have hC:=hid H9;clear hn Ht He H9;by_cases tx:k<pl
  ·obtain⟨y,hy⟩:∃ y,ps[k]? = some y:=⟨_,List.getElem?_eq_getElem (by rw[HI.out.1];exact tx)⟩
   obtain⟨pg,pc2,H6,tc,Hz⟩:=hv.out.1.cell (fun z hz=>(hL.boxes z (List.mem_cons_of_mem _ (hv.out.2 z hz))).1) hy
   rw[HI.out.1]at H6;injection H6 with e1 e2 e3
   subst e1;subst e3;have HY:=hid (HI.out.2 y (List.mem_of_getElem? hy));obtain⟨yn,tw⟩:=Int.eq_ofNat_of_zero_le HY.out.1;subst tw;have Hg:=hid hy;have HL:=hid (And.intro tc Hz);obtain⟨pp,H8⟩:∃ z,m.params=z:=⟨_,rfl⟩
   have HJ:=hid H8;clear hL hy tc Hz H8;go_wp2_with fail
   refine Zb 8 rfl (by decide +kernel) (by decide +kernel) (by decide +kernel) (by decide)
    [Is (.pointer (some ⟨mb,0,none⟩)),Is (.pointer (some ⟨mb,0,none⟩)),Is (.pointer (some ⟨mb,2,none⟩)),Is (.agg #[.int .i64 pp,.slice (some ⟨bb,0,none⟩) n n]),Is (.slice (some ⟨pg,0,none⟩) pl pc),Is (.int .i64 k),Is (.pointer (some ⟨pg,k,none⟩)),Is (.int .i64 yn)]
    (by repeat (first | exact trivial | refine⟨Is.stable _,?_⟩ | refine⟨Any.stable,?_⟩ | refine⟨ZV.stable _ _,?_⟩)) ⟨?_,?_,?_,?_,?_,?_,?_,?_,trivial⟩ ?_
   rotate_right
   ·intro vs w2 hs hk;simp only[List.take,List.drop,putAll,Act.put,Zc,Zd,Is,List.setIfInBounds_toArray,List.set_cons_zero,List.set_cons_succ,Nat.reduceAdd]at hk ⊢;try simp only[hk]
    have hp:=hid (Hv.out.keep hs);have tv:=hid (OwnRow.keep hD.out hs);clear hs hk;go_wp2_with fail
    refine (Zbn 700 pp m.bks (.slice (some ⟨bb,0,none⟩) n n) w2 (by rw[←HJ.out];exact hp.out.fn) (hh.out.few hp.out.len te.2 (by omega) hp.out.ok.good.ins) (by rw[hp.out.len];exact te) (by rw[←HJ.out];have:=hp.out.ok.good.params;have:=hh.out.next;omega) (yn:Int) (by rw[hp.out.len];exact HY.out)).mono ?_;rintro e w3 ⟨lv,ls,rfl,hn,h7,ti,tj⟩;obtain⟨la,lc,tf⟩:=Ze hn;obtain⟨ll,hT⟩:∃ z,ls.length=z:=⟨_,rfl⟩
    obtain⟨lbx,tk,HB⟩:=ZdA hn;rw[hT]at tf;subst tf;have Hi:=hid hT;have Hj:=hid tk;have tr:=hid tj;have tq:=hid hn;have tn:=hid h7.size;have HS:=hid (OwnRow.keep tv.out h7);have Hq:=zH (∀ z∈(⟨q,cur,71⟩:Bx)::ex,z.q<w2.heap.size) (fun z hz=>(hp.out.boxes z hz).1.lt)
    have ho:=hid (hp.out.beside (ex':=((⟨q,cur,71⟩:Bx)::ex)++lbx) (T:=fun _=>False) (Turn.since h7) (fun q _ e=>e.elim) fun z hz=>by
     rcases List.mem_append.1 hz with hz|hz
     ·exact⟨(hp.out.boxes z hz).1.keep h7,.inl ⟨z,hz,rfl⟩⟩
     ·exact⟨(HB z hz).1.1,.inr (HB z hz).1.2⟩)
    obtain⟨wb,H2⟩:∃ z,z=w2.heap.size:=⟨_,rfl⟩
    rw[←H2]at tq tn Hq;have tz:ll≤500000:=by rw[←hT];exact ti
    clear hn h7 ti tj tk HB hT hp H2 Hv hD;by_cases hz:ll=0
    ·subst hz;have Hk:=zH (∀ q2,Own mb (.slice (some ⟨bb,0,none⟩) n n) m q2→q2<w3.heap.size) (fun q2 h2=>ho.out.ok.ltOwnC (.inl h2))
     have HK:=zH (w3.drew.cell? ⟨pg,k,none⟩=some (.int .i64 yn)∧pg<w3.drew.heap.size) (hv.out.1.at (fun z hz=>(((ho.out.keep (Since.refl _).drew).boxes z (List.mem_append_left _ (List.mem_cons_of_mem _ (hv.out.2 z hz)))).1)) Hg.out)
     go_wp2_with fail
     refine XN 10 [7,8] [0,0,0,0,0,0,0,0,1,2] [2,1,1,1,1,1,0,0,1,2] [0,0,0,0,0,0,0,1,1,0] (fun q2=>Own mb (.slice (some ⟨bb,0,none⟩) n n) m q2) (fun p w4=>PhW w ((⟨q,cur,71⟩::ex)++lbx) mb bb tb (.slice sa sl sc) l n rows m pg k yn p w4) rfl (by decide +kernel) (by decide +kernel) (by decide +kernel) (by decide) (by decide +kernel)
      [Is (.slice la 0 lc),Is (.pointer (some ⟨mb,0,none⟩)),Is (.slice (some ⟨pg,0,none⟩) pl pc),Is (.int .i64 k),Is (.pointer (some ⟨pg,k,none⟩)),Is (.int .i64 yn),Is (.pointer (some ⟨mb,0,none⟩)),I32,I7,Zb7 (fun q2=>Own mb (.slice (some ⟨bb,0,none⟩) n n) m q2)]
      (by repeat (first | exact trivial | refine⟨Is.stableT _ _,?_⟩ | refine⟨I32.stableT _,?_⟩ | refine⟨I7.stableT _,?_⟩ | refine⟨Zb7.stableT _,?_⟩)) ⟨fun _=>ho.out.keep (Since.refl _).drew,fun e=>(by cases e),fun e=>(by cases e),HK.out.1,HK.out.2⟩ ⟨?_,?_,?_,?_,?_,?_,?_,?_,?_,?_,trivial⟩ ?_
     rotate_right
     ·intro vs w5 ht ha hk;simp only[List.take,List.drop,putAll,Act.put,Zc,Zd,Is,List.setIfInBounds_toArray,List.set_cons_zero,List.set_cons_succ,Nat.reduceAdd]at hk ⊢;try simp only[hk]
      obtain⟨z,hz,hY⟩:Zb7 (fun q2=>Own mb (.slice (some ⟨bb,0,none⟩) n n) m q2) (vs 9) w5:=by exact hk.2.2.2.2.2.2.2.2.2.1
      have H1:=hz.nums;obtain⟨m2,Hb,hM⟩:=ha.two rfl;have HM:=hid Hb;have hR:=hid hM;have tp:=hid H1;have Hu:=hid hY;have hX:=hid (Zi tq.out ht fun q2 hj e=>(ho.out.ok.aside q2 (by obtain⟨x2,h0,e2⟩:=Hj.out.own hj;exact⟨x2,List.mem_append_right _ h0,e2⟩)).2 e)
      have hF:=zH (OwnRow prcells 2 71 0 w5 (.slice (some ⟨q,0,none⟩) k cap) prs) (Zi HS.out ht fun q2 hj e=>(ho.out.ok.aside q2 ⟨_,List.mem_append_left _ List.mem_cons_self,Option.some.inj hj⟩).2 e)
      have HG:=zH (wb≤w5.heap.size) (by have:=tn.out;have:=ht.size;omega);generalize vs 9=xv at *;clear hk ha ht hz H1 Hb hM hY;go_wp2_with (refine Zl (base:=wb) .i64 rfl _ _ 32 rfl 3 (.int .i64 0) 8 Tryz.underlying32 Tryz.info3 rfl (by decide) (.slice la 0 lc) xv ls [z] rfl rfl (by have h9:=hX.out;exact h9) tp.out (by rw[Hi.out];simp) HG.out ?_;intro v6 w6 Hr H4 Hs;have hV:=hid Hr;have hr:=hid H4;have Hw:=hid Hs;clear Hr H4 Hs)
      obtain⟨a6,c6,H3⟩:=Ze hV.out;rw[show (ls++[z]).length=1 from by rw[List.length_append,Hi.out];rfl]at H3
      subst H3;obtain⟨lbz,Ho,HA⟩:=ZdA hV.out;have hP:=hid (HM.out.beside (ex':=((⟨q,cur,71⟩:Bx)::ex)++lbz) hr.out (fun q2 _ hj=>by obtain⟨x2,h0,e2⟩:=Hj.out.own hj;exact⟨x2,List.mem_append_right _ h0,e2⟩) fun z2 hd=>by
       rcases List.mem_append.1 hd with hd|hd
       ·exact⟨(HM.out.boxes z2 (List.mem_append_left _ hd)).1.turn hr.out (fun e=>by have h1:=Hq.out z2 hd;have h2:=(World.ownsRow.lt hX.out _ e).1;omega),.inl ⟨z2,List.mem_append_left _ hd,rfl⟩⟩
       ·refine⟨(HA z2 hd).1.1,?_⟩;rcases Hw.out z2.q (Ho.mem hd) with h|h
        ·obtain⟨x2,h0,e2⟩:=Hj.out.own h;exact .inl ⟨x2,List.mem_append_right _ h0,e2⟩
        ·exact .inr h)
      have tu:=zH (OwnRow prcells 2 71 0 w6 (.slice (some ⟨q,0,none⟩) k cap) prs) (Zi hF.out hr.out fun q2 hj e=>by have h1:=Hq.out (⟨q,cur,71⟩:Bx) List.mem_cons_self;have h2:=(World.ownsRow.lt hX.out _ e).1;have h3:q=q2:=Option.some.inj hj;dsimp only at h1;omega)
      have HR:=hid Ho;have HO:=zH ((ls++[z]).length=1) (by rw[List.length_append,Hi.out];rfl);have tt:=hid (show ∀ y∈ls++[z],0≤y∧y<700 from fun y hy=>by
       rcases List.mem_append.1 hy with hy|hy
       ·exact tr.out y hy
       ·rw[List.mem_singleton.1 hy];exact Hu.out)
      clear Ho HA hV hr Hw tp hX hF HG HM Hu;obtain⟨y0,hZ⟩:∃ y0,(ls++[z])[0]? = some y0:=⟨_,List.getElem?_eq_getElem (by rw[HO.out];omega)⟩
      obtain⟨lg,lc2,Hn,_,_⟩:=HR.out.cell (fun z2 hd=>(hP.out.boxes z2 (List.mem_append_right _ hd)).1) hZ
      injection Hn with e1 e2 e3
      subst e1;clear e2 e3 hZ;have Hk:=zH (∀ q2,Own mb (.slice (some ⟨bb,0,none⟩) n n) m2 q2→q2<w6.heap.size) (fun q2 h2=>hP.out.ok.ltOwnC (.inl h2))
      refine XN 14 [9] [0,0,0,0,0,0,0,0,0,0,1,1,1,1] [1,1,1,1,1,1,0,0,0,0,1,1,1,1] [0,0,0,0,0,0,0,0,0,1,0,0,0,0] (fun q2=>Own mb (.slice (some ⟨bb,0,none⟩) n n) m2 q2) (fun p w4=>PhT w ((⟨q,cur,71⟩::ex)++lbz) mb bb tb (.slice sa sl sc) l n rows m2 p w4) rfl (by decide +kernel) (by decide +kernel) (by decide +kernel) (by decide) (by decide +kernel)
       [Is (.slice (some ⟨q,0,none⟩) k cap),Is (.slice (some ⟨pg,0,none⟩) pl pc),Is (.int .i64 k),Is (.pointer (some ⟨pg,k,none⟩)),Is (.int .i64 yn),Is (.slice (some ⟨lg,0,none⟩) 1 c6),Is (.pointer (some ⟨mb,0,none⟩)),Is (.slice (some ⟨lg,0,none⟩) 1 c6),Is (.int .i64 (1:Nat)),ILt 1,PLt lg 1,I7,Pr7 yn,Kj (fun q2=>Own mb (.slice (some ⟨bb,0,none⟩) n n) m2 q2) yn]
       (by repeat (first | exact trivial | refine⟨Is.stableT _ _,?_⟩ | refine⟨ILt.stableT _ _,?_⟩ | refine⟨PLt.stableT _ _ _,?_⟩ | refine⟨I7.stableT _,?_⟩ | refine⟨Pr7.stableT _ _,?_⟩ | refine⟨Kj.stableT _ _,?_⟩)) ⟨fun _=>hP.out.keep (Since.refl _).drew,fun e=>(by cases e),fun z3 he=>((hP.out.keep (Since.refl _).drew).boxes z3 he).1⟩ ⟨?_,?_,?_,?_,?_,?_,?_,?_,?_,?_,?_,?_,?_,?_,trivial⟩ ?_
      rotate_right
      ·intro vs w5 ht ha hk;simp only[List.take,List.drop,putAll,Act.put,Zc,Zd,Is,List.setIfInBounds_toArray,List.set_cons_zero,List.set_cons_succ,Nat.reduceAdd]at hk ⊢;try simp only[hk]
       obtain⟨qn,y3,hH,hN,hS,hi⟩:Kj (fun q2=>Own mb (.slice (some ⟨bb,0,none⟩) n n) m2 q2) yn (vs 13) w5:=by exact hk.2.2.2.2.2.2.2.2.2.2.2.2.2.1
       simp only[hH];have HM:=hid (ha.one rfl);have hF:=zH (OwnRow prcells 2 71 0 w5 (.slice (some ⟨q,0,none⟩) k cap) prs) (Zi tu.out ht fun q2 hj e=>(hP.out.ok.aside q2 ⟨_,List.mem_append_left _ List.mem_cons_self,Option.some.inj hj⟩).2 e)
       have HH:=hid hN;have hO:=hid hi;clear hk ha ht hH hN hS hi;go_wp2_with (refine Zf (base:=0) prcells 2 YB (by decide) rfl _ _ 58 rfl 71 (.agg #[.int .i64 0,.int .i64 0]) 16 Tryz.underlying58 (by kernel_rfl) rfl (.slice (some ⟨q,0,none⟩) k cap) prs ((yn:Int),y3) qn 1 71 rfl rfl hF.out HH.out (by intro u hu;simp only[prcells,List.mem_cons,List.not_mem_nil,or_false]at hu;rcases hu with rfl | rfl<;>rfl) (by rw[hC.out];unfold maxLen;omega) (by rw[hC.out];omega) (Nat.zero_le _) ?_;intro v7 w7 hq h6 hB;obtain⟨g7,c7,cur7,h4,Hc,_⟩:=Wz YB hq (by simp);rw[show (prs++[((yn:Int),y3)]).length=k+1 from by rw[List.length_append,hC.out];rfl]at h4;subst h4;have hU:=hid hq;have Hh:=hid h6;have hW:=hid hB;have HT:=hid Hc;clear hq h6 hB Hc)
       have H0:=hid (HM.out.boxes (⟨q,cur,71⟩:Bx) (List.mem_append_left _ List.mem_cons_self)).1;have Hp:=hid (HM.out.beside (ex':=(⟨g7,cur7,71⟩:Bx)::ex) Hh.out (fun q2 _ hj=>⟨_,List.mem_append_left _ List.mem_cons_self,Option.some.inj hj⟩) fun z2 hd=>by
        rcases List.mem_cons.1 hd with rfl|hd
        ·refine⟨HT.out,?_⟩;rcases hW.out g7 rfl with h|h
         ·exact .inl ⟨_,List.mem_append_left _ List.mem_cons_self,Option.some.inj h⟩
         ·exact .inr h
        ·have he:=HM.out.boxes z2 (List.mem_append_left _ (List.mem_cons_of_mem _ hd));exact⟨he.1.turn Hh.out fun e=>Y4 he.1 H0.out (HE.out z2 hd) (Option.some.inj e).symm,.inl ⟨z2,List.mem_append_left _ (List.mem_cons_of_mem _ hd),rfl⟩⟩)
       have HX:=hid (hh.out.mv (d:=1) (hR.out.trans (show MvC m2 { m2 with at_:=m2.at_+1 } 1 0 0 from⟨Nat.le_refl _,⟨Int.le_refl _,Int.le_of_eq (Int.add_zero _).symm⟩,Nat.le_refl _,Nat.le_refl _,rfl,rfl⟩)) (by omega) (by omega) (by omega));have HV:=hid (show ∀ y∈prs++[((yn:Int),y3)],(0≤y.1∧y.1<(n:Int))∧0≤y.2∧y.2<700 from fun y hy=>by
        rcases List.mem_append.1 hy with hy|hy
        ·exact HW.out y hy
        ·rw[List.mem_singleton.1 hy];exact⟨HY.out,hO.out⟩)
       exact ts.out (pl-(k+1)) _ _ (by omega) ⟨k+1,_,g7,c7,cur7,_,rfl,by omega,by rw[List.length_append,hC.out];rfl,(Zv rfl rfl (Za rfl (Za rfl (Za rfl (Za rfl (Za rfl (Za rfl (Za rfl (Za rfl (Za rfl (Zo _))))))))))),Hp.out,hU.out,HV.out,HX.out⟩
      all_goals
       intro p vs w5 th tl ht ha hk;simp only[List.take,putAll,Act.put,Zh,Zd,Is,List.setIfInBounds_toArray,List.set_cons_zero,List.set_cons_succ,Nat.reduceAdd]at hk ⊢;try simp only[hk]
      iterate 4
       ·go_wp2
        exact⟨_,rfl,rfl,Turn.refl _ _,ha⟩
      ·obtain⟨hc,hl⟩:=hv.out.1.at (fun z3 he=>ha.bx z3 (List.mem_append_left _ (List.mem_cons_of_mem _ (hv.out.2 z3 he)))) Hg.out
       go_wp2
       exact⟨_,rfl,rfl,Turn.refl _ _,ha⟩
      iterate 4
       ·go_wp2
        exact⟨_,rfl,rfl,Turn.refl _ _,ha⟩
      ·obtain rfl:p=0:=by omega
       have HM:=hid (ha.zero rfl);clear ha hk ht;go_wp2_with fail
       refine (Zz HM.out.ok (1:Nat) (by omega) (by have h1:=hh.out.at_;have h2:=hR.out.at_;omega)).mono ?_;rintro e w6 ⟨m6,⟨u,rfl,⟨hG,h5⟩,Ha⟩,hm,hb⟩;have hr:=hid hb.turn;have hx:=hid (HM.out.mv hm hb);subst Ha;obtain⟨un,rfl⟩:=Int.eq_ofNat_of_zero_le hG;have HU:=zH (un<1) (by omega);clear hm hb hG h5;go_wp2
       exact⟨_,rfl,⟨un,rfl,HU.out⟩,hr.out,⟨fun e=>(by omega),fun _=>hx.out,fun z3 he=>(hx.out.boxes z3 he).1⟩⟩
      ·obtain⟨t,Hy,hI⟩:ILt 1 (vs 9) w5:=by exact hk.2.1
       simp only[Hy];clear hk;go_wp2
       exact⟨_,rfl,⟨t,rfl,hI⟩,Turn.refl _ _,ha⟩
      ·obtain⟨t,Hm,hI⟩:PLt lg 1 (vs 10) w5:=by exact hk.1
       simp only[Hm];obtain⟨y3,hg⟩:∃ y3,(ls++[z])[t]? = some y3:=⟨_,List.getElem?_eq_getElem (by rw[HO.out];exact hI)⟩
       obtain⟨hc,hl⟩:=HR.out.at (fun z3 he=>ha.bx z3 (List.mem_append_right _ he)) hg
       have HF:=hid (tt.out y3 (List.mem_of_getElem? hg));clear hk hg;go_wp2
       exact⟨_,rfl,⟨y3,rfl,HF.out⟩,Turn.refl _ _,ha⟩
      ·obtain⟨y3,hg,hi⟩:I7 (vs 11) w5:=by exact hk.2.1
       simp only[hg];clear hk;go_wp2
       exact⟨_,rfl,⟨y3,rfl,hi⟩,Turn.refl _ _,ha⟩
      ·obtain⟨y3,hg,hi⟩:Pr7 yn (vs 12) w5:=by exact hk.1
       simp only[hg];have hA:=(Since.refl w5).alloc (.cells #[.int .i64 yn,.int .i64 y3] 71);have HP:=hid (ha.keep hA);have h8:¬ (fun q2=>Own mb (.slice (some ⟨bb,0,none⟩) n n) m2 q2) w5.heap.size:=fun e=>by have:=Hk.out _ e;have:=ht.size;omega
       have hO:=hid hi;clear ha hk hg hi;go_wp2
       exact⟨_,rfl,⟨_,y3,rfl,HeapIs.new _ _ _,h8,hO.out⟩,Turn.since hA,HP.out⟩
     all_goals
      intro p vs w5 th tl ht ha hk;simp only[List.take,putAll,Act.put,Zh,Zd,Is,List.setIfInBounds_toArray,List.set_cons_zero,List.set_cons_succ,Nat.reduceAdd]at hk ⊢;try simp only[hk]
     iterate 5
      ·go_wp2
       exact⟨_,rfl,rfl,Turn.refl _ _,ha⟩
     ·have hc:=ha.pc;have hl:=ha.pl;go_wp2
      exact⟨_,rfl,rfl,Turn.refl _ _,ha⟩
     ·go_wp2
      exact⟨_,rfl,rfl,Turn.refl _ _,ha⟩
     ·obtain rfl:p=0:=by omega
      have HM:=hid (ha.zero rfl);clear ha hk ht;go_wp2_with fail
      refine (Wo HM.out.ok (by have:=hh.out.at_;omega)).mono ?_;rintro e w6 ⟨m6,⟨z,rfl,hz,Ha⟩,hm,hb⟩;have hr:=hid hb.turn;have hx:=hid (HM.out.mv hm hb);have Hl:=zH (w6.cell? ⟨pg,k,none⟩=some (.int .i64 yn)∧pg<w6.heap.size) (hv.out.1.at (fun z hz=>(hx.out.boxes z (List.mem_append_left _ (List.mem_cons_of_mem _ (hv.out.2 z hz)))).1) Hg.out)
      subst Ha;have HZ:=hid hz;clear hm hb hz;go_wp2
      exact⟨_,rfl,⟨z,rfl,HZ.out⟩,hr.out,⟨fun e=>(by omega),fun _=>hx.out,fun e=>(by omega),Hl.out.1,Hl.out.2⟩⟩
     ·obtain rfl:p=1:=by omega
      obtain⟨z,hz,Hx⟩:I32 (vs 7) w5:=by exact hk.2.2.1
      simp only[hz];have HM:=hid (ha.one rfl);have HZ:=hid Hx;clear ha hk ht hz Hx;go_wp2_with fail
      refine (Yn HM.out.ok (by have:=hh.out.at_;have:=hh.out.next;have:=hh.out.total;have:=hh.out.live;exact⟨by show m.at_+2≤_;omega,by show m.next≤_;omega,by show m.total≤_;omega,by show m.live.length≤_;omega⟩) yn (by rw[HM.out.len];have:=HY.out;omega) z HZ.out).mono ?_;rintro e w6 ⟨m6,⟨u,rfl,hG,h5⟩,hm,hb⟩;have hr:=hid hb.turn;have hx:=hid (HM.out.mv hm hb);have HN:=zH (MvC m m6 2 1 1) ⟨by have:=hb.at_;exact this,hb.next,hb.total,hb.live,hb.same⟩;have HU:=zH (0≤u∧u<700) ⟨hG,by have:=hh.out.next;have:=HN.out.next.2;omega⟩;have Hl:=zH (w6.cell? ⟨pg,k,none⟩=some (.int .i64 yn)∧pg<w6.heap.size) (hv.out.1.at (fun z hz=>(hx.out.boxes z (List.mem_append_left _ (List.mem_cons_of_mem _ (hv.out.2 z hz)))).1) Hg.out)
      clear hm hb hG h5;go_wp2
      exact⟨_,rfl,⟨u,rfl,HU.out⟩,hr.out,⟨fun e=>(by omega),fun e=>(by omega),fun _=>⟨m6,hx.out,HN.out⟩,Hl.out.1,Hl.out.2⟩⟩
     ·obtain rfl:p=2:=by omega
      obtain⟨z,hz,hY⟩:I7 (vs 8) w5:=by exact hk.1
      simp only[hz];obtain⟨m2,Hb,hM⟩:=ha.two rfl;have hA:=(Since.refl w5).alloc (.cells #[.int .i64 z] 3);have HM:=hid (Hb.keep hA);have hR:=hid hM;have HC:=hid (And.intro ((hA.cell (p:=⟨pg,k,none⟩) ha.pl).trans ha.pc) (Nat.lt_of_lt_of_le ha.pl hA.size));have h8:¬ (fun q2=>Own mb (.slice (some ⟨bb,0,none⟩) n n) m q2) w5.heap.size:=fun e=>by have:=Hk.out _ e;have:=ht.size;omega
      have Hu:=hid hY;clear ha hk hz Hb hM hY;go_wp2
      exact⟨_,rfl,⟨z,Wl.new z h8,Hu.out⟩,Turn.since hA,⟨fun e=>(by omega),fun e=>(by omega),fun _=>⟨m2,HM.out,hR.out⟩,HC.out.1,HC.out.2⟩⟩
    ·have tB:((ll:Int)==0)=false:=by simp;omega
     have hR:=zH (MvC m m 2 1 1) ((MvC.refl m).more (by omega) (by omega) (by omega));go_wp2_with fail
     obtain⟨y0,hZ⟩:∃ y0,(ls)[0]? = some y0:=⟨_,List.getElem?_eq_getElem (by rw[Hi.out];omega)⟩
     obtain⟨lg,lc2,Hn,_,_⟩:=Hj.out.cell (fun z2 hd=>(ho.out.boxes z2 (List.mem_append_right _ hd)).1) hZ
     injection Hn with e1 e2 e3
     subst e1;clear e2 e3 hZ;have Hk:=zH (∀ q2,Own mb (.slice (some ⟨bb,0,none⟩) n n) m q2→q2<w3.heap.size) (fun q2 h2=>ho.out.ok.ltOwnC (.inl h2))
     refine XN 14 [9] [0,0,0,0,0,0,0,0,0,0,1,1,1,1] [1,1,1,1,1,1,0,0,0,0,1,1,1,1] [0,0,0,0,0,0,0,0,0,1,0,0,0,0] (fun q2=>Own mb (.slice (some ⟨bb,0,none⟩) n n) m q2) (fun p w4=>PhT w ((⟨q,cur,71⟩::ex)++lbx) mb bb tb (.slice sa sl sc) l n rows m p w4) rfl (by decide +kernel) (by decide +kernel) (by decide +kernel) (by decide) (by decide +kernel)
      [Is (.slice (some ⟨q,0,none⟩) k cap),Is (.slice (some ⟨pg,0,none⟩) pl pc),Is (.int .i64 k),Is (.pointer (some ⟨pg,k,none⟩)),Is (.int .i64 yn),Is (.slice (some ⟨lg,0,none⟩) ll lc),Is (.pointer (some ⟨mb,0,none⟩)),Is (.slice (some ⟨lg,0,none⟩) ll lc),Is (.int .i64 (ll:Nat)),ILt ll,PLt lg ll,I7,Pr7 yn,Kj (fun q2=>Own mb (.slice (some ⟨bb,0,none⟩) n n) m q2) yn]
      (by repeat (first | exact trivial | refine⟨Is.stableT _ _,?_⟩ | refine⟨ILt.stableT _ _,?_⟩ | refine⟨PLt.stableT _ _ _,?_⟩ | refine⟨I7.stableT _,?_⟩ | refine⟨Pr7.stableT _ _,?_⟩ | refine⟨Kj.stableT _ _,?_⟩)) ⟨fun _=>ho.out.keep (Since.refl _).drew,fun e=>(by cases e),fun z3 he=>((ho.out.keep (Since.refl _).drew).boxes z3 he).1⟩ ⟨?_,?_,?_,?_,?_,?_,?_,?_,?_,?_,?_,?_,?_,?_,trivial⟩ ?_
     rotate_right
     ·intro vs w5 ht ha hk;simp only[List.take,List.drop,putAll,Act.put,Zc,Zd,Is,List.setIfInBounds_toArray,List.set_cons_zero,List.set_cons_succ,Nat.reduceAdd]at hk ⊢;try simp only[hk]
      obtain⟨qn,y3,hH,hN,hS,hi⟩:Kj (fun q2=>Own mb (.slice (some ⟨bb,0,none⟩) n n) m q2) yn (vs 13) w5:=by exact hk.2.2.2.2.2.2.2.2.2.2.2.2.2.1
      simp only[hH];have HM:=hid (ha.one rfl);have hF:=zH (OwnRow prcells 2 71 0 w5 (.slice (some ⟨q,0,none⟩) k cap) prs) (Zi HS.out ht fun q2 hj e=>(ho.out.ok.aside q2 ⟨_,List.mem_append_left _ List.mem_cons_self,Option.some.inj hj⟩).2 e)
      have HH:=hid hN;have hO:=hid hi;clear hk ha ht hH hN hS hi;go_wp2_with (refine Zf (base:=0) prcells 2 YB (by decide) rfl _ _ 58 rfl 71 (.agg #[.int .i64 0,.int .i64 0]) 16 Tryz.underlying58 (by kernel_rfl) rfl (.slice (some ⟨q,0,none⟩) k cap) prs ((yn:Int),y3) qn 1 71 rfl rfl hF.out HH.out (by intro u hu;simp only[prcells,List.mem_cons,List.not_mem_nil,or_false]at hu;rcases hu with rfl | rfl<;>rfl) (by rw[hC.out];unfold maxLen;omega) (by rw[hC.out];omega) (Nat.zero_le _) ?_;intro v7 w7 hq h6 hB;obtain⟨g7,c7,cur7,h4,Hc,_⟩:=Wz YB hq (by simp);rw[show (prs++[((yn:Int),y3)]).length=k+1 from by rw[List.length_append,hC.out];rfl]at h4;subst h4;have hU:=hid hq;have Hh:=hid h6;have hW:=hid hB;have HT:=hid Hc;clear hq h6 hB Hc)
      have H0:=hid (HM.out.boxes (⟨q,cur,71⟩:Bx) (List.mem_append_left _ List.mem_cons_self)).1;have Hp:=hid (HM.out.beside (ex':=(⟨g7,cur7,71⟩:Bx)::ex) Hh.out (fun q2 _ hj=>⟨_,List.mem_append_left _ List.mem_cons_self,Option.some.inj hj⟩) fun z2 hd=>by
       rcases List.mem_cons.1 hd with rfl|hd
       ·refine⟨HT.out,?_⟩;rcases hW.out g7 rfl with h|h
        ·exact .inl ⟨_,List.mem_append_left _ List.mem_cons_self,Option.some.inj h⟩
        ·exact .inr h
       ·have he:=HM.out.boxes z2 (List.mem_append_left _ (List.mem_cons_of_mem _ hd));exact⟨he.1.turn Hh.out fun e=>Y4 he.1 H0.out (HE.out z2 hd) (Option.some.inj e).symm,.inl ⟨z2,List.mem_append_left _ (List.mem_cons_of_mem _ hd),rfl⟩⟩)
      have HX:=hid (hh.out.mv (d:=1) (hR.out.trans (show MvC m { m with at_:=m.at_+1 } 1 0 0 from⟨Nat.le_refl _,⟨Int.le_refl _,Int.le_of_eq (Int.add_zero _).symm⟩,Nat.le_refl _,Nat.le_refl _,rfl,rfl⟩)) (by omega) (by omega) (by omega));have HV:=hid (show ∀ y∈prs++[((yn:Int),y3)],(0≤y.1∧y.1<(n:Int))∧0≤y.2∧y.2<700 from fun y hy=>by
       rcases List.mem_append.1 hy with hy|hy
       ·exact HW.out y hy
       ·rw[List.mem_singleton.1 hy];exact⟨HY.out,hO.out⟩)
      exact ts.out (pl-(k+1)) _ _ (by omega) ⟨k+1,_,g7,c7,cur7,_,rfl,by omega,by rw[List.length_append,hC.out];rfl,(Zv rfl rfl (Za rfl (Za rfl (Za rfl (Za rfl (Za rfl (Za rfl (Za rfl (Za rfl (Za rfl (Zo _))))))))))),Hp.out,hU.out,HV.out,HX.out⟩
     all_goals
      intro p vs w5 th tl ht ha hk;simp only[List.take,putAll,Act.put,Zh,Zd,Is,List.setIfInBounds_toArray,List.set_cons_zero,List.set_cons_succ,Nat.reduceAdd]at hk ⊢;try simp only[hk]
     iterate 4
      ·go_wp2
       exact⟨_,rfl,rfl,Turn.refl _ _,ha⟩
     ·obtain⟨hc,hl⟩:=hv.out.1.at (fun z3 he=>ha.bx z3 (List.mem_append_left _ (List.mem_cons_of_mem _ (hv.out.2 z3 he)))) Hg.out
      go_wp2
      exact⟨_,rfl,rfl,Turn.refl _ _,ha⟩
     iterate 4
      ·go_wp2
       exact⟨_,rfl,rfl,Turn.refl _ _,ha⟩
     ·obtain rfl:p=0:=by omega
      have HM:=hid (ha.zero rfl);clear ha hk ht;go_wp2_with fail
      refine (Zz HM.out.ok (ll:Nat) (by omega) (by have h1:=hh.out.at_;have h2:=hR.out.at_;omega)).mono ?_;rintro e w6 ⟨m6,⟨u,rfl,⟨hG,h5⟩,Ha⟩,hm,hb⟩;have hr:=hid hb.turn;have hx:=hid (HM.out.mv hm hb);subst Ha;obtain⟨un,rfl⟩:=Int.eq_ofNat_of_zero_le hG;have HU:=zH (un<ll) (by omega);clear hm hb hG h5;go_wp2
      exact⟨_,rfl,⟨un,rfl,HU.out⟩,hr.out,⟨fun e=>(by omega),fun _=>hx.out,fun z3 he=>(hx.out.boxes z3 he).1⟩⟩
     ·obtain⟨t,Hy,hI⟩:ILt ll (vs 9) w5:=by exact hk.2.1
      simp only[Hy];clear hk;go_wp2
      exact⟨_,rfl,⟨t,rfl,hI⟩,Turn.refl _ _,ha⟩
     ·obtain⟨t,Hm,hI⟩:PLt lg ll (vs 10) w5:=by exact hk.1
      simp only[Hm];obtain⟨y3,hg⟩:∃ y3,(ls)[t]? = some y3:=⟨_,List.getElem?_eq_getElem (by rw[Hi.out];exact hI)⟩
      obtain⟨hc,hl⟩:=Hj.out.at (fun z3 he=>ha.bx z3 (List.mem_append_right _ he)) hg
      have HF:=hid (tr.out y3 (List.mem_of_getElem? hg));clear hk hg;go_wp2
      exact⟨_,rfl,⟨y3,rfl,HF.out⟩,Turn.refl _ _,ha⟩
     ·obtain⟨y3,hg,hi⟩:I7 (vs 11) w5:=by exact hk.2.1
      simp only[hg];clear hk;go_wp2
      exact⟨_,rfl,⟨y3,rfl,hi⟩,Turn.refl _ _,ha⟩
     ·obtain⟨y3,hg,hi⟩:Pr7 yn (vs 12) w5:=by exact hk.1
      simp only[hg];have hA:=(Since.refl w5).alloc (.cells #[.int .i64 yn,.int .i64 y3] 71);have HP:=hid (ha.keep hA);have h8:¬ (fun q2=>Own mb (.slice (some ⟨bb,0,none⟩) n n) m q2) w5.heap.size:=fun e=>by have:=Hk.out _ e;have:=ht.size;omega
      have hO:=hid hi;clear ha hk hg hi;go_wp2
      exact⟨_,rfl,⟨_,y3,rfl,HeapIs.new _ _ _,h8,hO.out⟩,Turn.since hA,HP.out⟩
   all_goals
    intro vs w2 hs hk _;simp only[List.take,putAll,Act.put,Zh,Zd,Is,List.setIfInBounds_toArray,List.set_cons_zero,List.set_cons_succ,Nat.reduceAdd]at hk ⊢;try simp only[hk]
   iterate 2
    ·go_wp2
     exact⟨_,rfl,rfl,.refl _⟩
    ·have HD:=(Hv.out.keep hs).box;have tF:w2.cell? ⟨mb,2,none⟩=some (.int .i64 pp):=by rw[←HJ.out];exact HD.cell 2
     have tE:=HD.cell 3;have tC:=HD.lt;go_wp2
     exact⟨_,rfl,rfl,.refl _⟩
   iterate 3
    ·go_wp2
     exact⟨_,rfl,rfl,.refl _⟩
   ·have hc:=(hs.cell (p:=⟨pg,k,none⟩) HL.out.2).trans HL.out.1;have hl:=Nat.lt_of_lt_of_le HL.out.2 hs.size;go_wp2
    exact⟨_,rfl,rfl,.refl _⟩
  ·obtain rfl:pl=k:=by omega
   clear hL;go_wp2_with fail
   exact HQ.out _ _ _ _ _ _ _ (Zv rfl rfl (Za rfl (Za rfl (Za rfl (Za rfl (Za rfl (Za rfl (Za rfl (Za rfl (Zo _)))))))))) Hv.out hD.out hC.out HW.out hh.out
theorem Zgg (w:World) (ex pbx:List Bx) (sa pa:Option Addr) (sl sc pc:Nat) (l ps:List Int) (rows:List (Value × List Int)) (m:Zj) (r mb bb n tb pb b pl vn c:Nat) (ph:List Int) (x:Int) (a0:Act) (w1:World) (Q0:Exit→Act→World→Prop) (hM:Fr [(2,.pointer (some ⟨r,0,none⟩)),(3,.pointer (some ⟨mb,0,none⟩)),(4,.int .i64 n),(7,.slice (some ⟨pb,0,none⟩) n n),(25,.int .i64 b),(26,.slice pa pl pc),(27,.int .i64 0)] a0)
  (hg:MSt w ex mb bb tb (.slice sa sl sc) l n rows m w1) (hV:1≤n∧n≤9) (hb:b<n) (hE:∀ z∈ex,z.ty≠71) (hI:BV (.slice pa pl pc) ps pbx) (hD:∀ z∈pbx,z∈ex) (hG:ps.length=pl) (hv:pl≤9) (hH:∀ y∈ps,0≤y∧y<(n:Int)) (hx:bxP pb ph∈ex) (hF:ph[b]? = some (vn:Int)) (hZ:vn≤3) (hh:Xn x ph n c m) (hc:c≤216)
  (hQ:∀ a1 w2 (m:Zj),Fr [(2,.pointer (some ⟨r,0,none⟩)),(3,.pointer (some ⟨mb,0,none⟩)),(4,.int .i64 n),(7,.slice (some ⟨pb,0,none⟩) n n),(25,.int .i64 b),(26,.slice pa pl pc)] a1→MSt w ex mb bb tb (.slice sa sl sc) l n rows m w2→Xn x ph n (c+pl*vn) m→Q0 .normal a1 w2):Code.wp Tryz.prog (mkCode [1,1,1,1,1,1,1,1,1,1,1,1,0,1,0,0,1,0,0,1,1]) Q0 a0 w1:=by
 obtain⟨u,hd,hu⟩:=Zr hM;obtain⟨g1,g2,s2,s3,s4,s7,s25,s26,s27,g3⟩:=hM;have e2:=hu 2 _ s2;have e3:=hu 3 _ s3;have e4:=hu 4 _ s4;have e7:=hu 7 _ s7;have e25:=hu 25 _ s25;have e26:=hu 26 _ s26;have e27:=hu 27 _ s27;rw[e2,e3,e4,e7,e25,e26,e27]at hd;subst hd;clear hu g1 g2 g3 e2 s2 e3 s3 e4 s4 e7 s7 e25 s25 e26 s26 e27 s27
 conv=>arg 2;whnf
 have HQ:=hid hQ;have HE:=hid hE;have hO:=hid (And.intro hI hD);have hN:=hid (And.intro hG hH);have hi:=hid hh;have ht:=hid (And.intro hx hF);clear hQ hE hI hD hG hH hh hx hF;go_wp2_with fail
 refine YC (fun t ac wr=>∃ (i:Nat) (m:Zj),t=vn-i∧i≤vn∧Fr [(2,.pointer (some ⟨r,0,none⟩)),(3,.pointer (some ⟨mb,0,none⟩)),(4,.int .i64 n),(7,.slice (some ⟨pb,0,none⟩) n n),(25,.int .i64 b),(26,.slice pa pl pc),(27,.int .i64 i)] ac∧MSt w ex mb bb tb (.slice sa sl sc) l n rows m wr∧Xn x ph n (c+pl*i) m) vn ⟨0,m,rfl,Nat.zero_le _,(Zv rfl rfl (Za rfl (Za rfl (Za rfl (Za rfl (Za rfl (Za rfl (Za rfl (Zo _))))))))),hg,hi.out⟩ ?_
 ·clear hg hi m;intro t a1 wr K hJ hK;have hX:=hid hK;clear hK;obtain⟨i,m,rfl,h4,hf,hg,hh⟩:=hJ;obtain⟨u,hd,hu⟩:=Zr hf;obtain⟨g1,g2,s2,s3,s4,s7,s25,s26,s27,g3⟩:=hf;have e2:=hu 2 _ s2;have e3:=hu 3 _ s3;have e4:=hu 4 _ s4;have e7:=hu 7 _ s7;have e25:=hu 25 _ s25;have e26:=hu 26 _ s26;have e27:=hu 27 _ s27;rw[e2,e3,e4,e7,e25,e26,e27]at hd;subst hd;clear hu g1 g2 g3 e2 s2 e3 s3 e4 s4 e7 s7 e25 s25 e26 s26 e27 s27;have hC:=hid hg;have hi:=hid hh;have ho:=(hg.boxes _ ht.out.1).1.cell b;rw[show (bxP pb ph).cs=(ph.map (Value.int .i64)).toArray from rfl,List.getElem?_toArray,List.getElem?_map,ht.out.2]at ho
  replace ho:wr.cell? ⟨pb,b,none⟩=some (.int .i64 vn):=ho
  have hU:pb<wr.heap.size:=(hg.boxes _ ht.out.1).1.lt;clear hg hh;by_cases h1:i<vn
  ·have h0:pl*i≤18:=Nat.mul_le_mul hv (show i≤2 by omega);go_upto_block 28 with fail
   refine Zfk w ex pbx sa pa sl sc pc l ps rows m r mb bb n tb pb b i pl wr.heap.size 0 (c+pl*i) #[] ph x _ _ _ (Zv rfl rfl (Za rfl (Za rfl (Za rfl (Za rfl (Za rfl (Za rfl (Za rfl (Za rfl (Za rfl (Zo _))))))))))) (hC.out.beside (T:=fun _=>False) (Turn.since ((Since.refl _).alloc _)) (fun q _ e=>e.elim) fun z hz=>by
    rcases List.mem_cons.1 hz with rfl|hz
    ·exact⟨HeapIs.new _ _ _,.inr (Nat.le_refl _)⟩
    ·exact⟨(hC.out.boxes z hz).1.keep ((Since.refl _).alloc _),.inl ⟨z,hz,rfl⟩⟩) hV HE.out hO.out.1 hO.out.2 hN.out.1 hv hN.out.2 (Jt wr 0 (Nat.zero_le _)) hi.out (by omega) ?_
   intro a1 w2 q cap cur prs m2 hf he hp hP hq hl;obtain⟨u,hd,hu⟩:=Zr hf;obtain⟨g1,g2,s2,s3,s4,s7,s25,s26,s27,s28,g3⟩:=hf;have e2:=hu 2 _ s2;have e3:=hu 3 _ s3;have e4:=hu 4 _ s4;have e7:=hu 7 _ s7;have e25:=hu 25 _ s25;have e26:=hu 26 _ s26;have e27:=hu 27 _ s27;have e28:=hu 28 _ s28;rw[e2,e3,e4,e7,e25,e26,e27,e28]at hd;subst hd;clear hu g1 g2 g3 e2 s2 e3 s3 e4 s4 e7 s7 e25 s25 e26 s26 e27 s27 e28 s28;have hB:=(he.boxes (⟨q,cur,71⟩:Bx) List.mem_cons_self).1;have ha:MSt w ex mb bb tb (.slice sa sl sc) l n rows m2 w2:=he.beside (T:=fun _=>False) (Turn.refl _ _) (fun q _ e=>e.elim) fun z hz=>⟨(he.boxes z (List.mem_cons_of_mem _ hz)).1,.inl ⟨z,List.mem_cons_of_mem _ hz,rfl⟩⟩
   have hm:Stays (Zx (CE ex) mb (.slice (some ⟨bb,0,none⟩) n n) m2) w2 (.slice (some ⟨q,0,none⟩) pl cap):=fun q2 hT=>by
    have e:q=q2:=Option.some.inj hT;subst e;refine⟨fun h=>?_,hB.lt⟩;rcases h with h|⟨z,hz,hS⟩
    ·exact (he.ok.aside q ⟨_,List.mem_cons_self,rfl⟩).2 h
    ·exact Y4 (ha.boxes z hz).1 hB (HE.out z hz) hS
   obtain⟨k,hk⟩:=ha.at hb;have hR:=hl.cnt b k vn hk ht.out.2;have hL:=ha.ok.each k (List.mem_of_getElem? hk);obtain⟨fb,fc,fcur,hy,hs,hr⟩:=Wz YR hL.phis (by omega);have hW:=ha.cell hk (show 0<6 by decide);rw[show (fbcells k)[0]? = some k.phv from rfl,hy,Nat.add_zero,show k.phis.length=vn from by omega]at hW
   obtain⟨pp,hn⟩:∃ pp,k.phis[i]? = some pp:=⟨_,List.getElem?_eq_getElem (by omega)⟩
   have hj:=ha.ok.setIn (ins:=prs) hk rfl hy hn ⟨Vu YB hp (fun _ _=>trivial),hm⟩;have HN:=hid (ha.step hj.1 hj.2 (by simp));have hY:=hid (hl.setIn (iv:=.slice (some ⟨q,0,none⟩) pl cap) hk hn (by omega) hq);have hA:=ha.box;have h9:=hA.cell 3;have h2:=hA.lt;have h8:=ha.blkAt.lt;have h5:=hs.lt;have h6:=hs.frozen (i*2+1);have h3:b<n:=hb;have h7:w2.cell? ⟨fb,i*2+1,none⟩=some pp.inv:=(hs.cell (i*2+1)).trans (hr i 1 pp hn (by decide));clear he hp hP hq hl hB ha hm hk hR hL hy hs hn hj hA ho hU hr;go_wp2_with fail
   exact hX.out (vn-(i+1)) _ _ (by omega) ⟨i+1,_,rfl,by omega,(Zv rfl rfl (Za rfl (Za rfl (Za rfl (Za rfl (Za rfl (Za rfl (Za rfl (Zo _))))))))),HN.out,by rw[Nat.mul_add,Nat.mul_one,←Nat.add_assoc];exact hY.out⟩
  ·obtain rfl:vn=i:=by omega
   go_wp2_with fail
   exact HQ.out _ _ m (Zv rfl rfl (Za rfl (Za rfl (Za rfl (Za rfl (Za rfl (Za rfl (Zo _)))))))) hC.out hi.out
theorem Zgi (w:World) (ex:List Bx) (sa:Option Addr) (sl sc:Nat) (l:List Int) (rows:List (Value × List Int)) (m:Zj) (r mb bb n tb pb:Nat) (ph:List Int) (x:Int) (a0:Act) (w1:World) (Q0:Exit→Act→World→Prop) (hy:Fr [(2,.pointer (some ⟨r,0,none⟩)),(3,.pointer (some ⟨mb,0,none⟩)),(4,.int .i64 n),(7,.slice (some ⟨pb,0,none⟩) n n),(25,.int .i64 (1:Nat))] a0)
  (ha:MSt w ex mb bb tb (.slice sa sl sc) l n rows m w1) (ht:1≤n∧n≤9) (hE:∀ z∈ex,z.ty≠71) (hn:bxP pb ph∈ex) (he:Xn x ph n 0 m)
  (hQ:∀ a1 w2 (m:Zj) (c:Nat),Fr [(2,.pointer (some ⟨r,0,none⟩)),(3,.pointer (some ⟨mb,0,none⟩)),(4,.int .i64 n),(7,.slice (some ⟨pb,0,none⟩) n n)] a1→MSt w ex mb bb tb (.slice sa sl sc) l n rows m w2→Xn x ph n c m→c≤216→Q0 .normal a1 w2):Code.wp Tryz.prog (mkCode [1,1,1,1,1,1,1,1,1,1,1,1,0,1]) Q0 a0 w1:=by
 obtain⟨u,hb,hu⟩:=Zr hy;obtain⟨g1,g2,s2,s3,s4,s7,s25,g3⟩:=hy;have e2:=hu 2 _ s2;have e3:=hu 3 _ s3;have e4:=hu 4 _ s4;have e7:=hu 7 _ s7;have e25:=hu 25 _ s25;rw[e2,e3,e4,e7,e25]at hb;subst hb;clear hu g1 g2 g3 e2 s2 e3 s3 e4 s4 e7 s7 e25 s25
 conv=>arg 2;whnf
 have HQ:=hid hQ;have HE:=hid hE;have hd:=hid he;have hM:=hid hn;clear hQ hE he hn;go_wp2_with fail
 refine YC (fun t ac wr=>∃ (b:Nat) (m:Zj),t=n-b∧(1≤b∧b≤n)∧Fr [(2,.pointer (some ⟨r,0,none⟩)),(3,.pointer (some ⟨mb,0,none⟩)),(4,.int .i64 n),(7,.slice (some ⟨pb,0,none⟩) n n),(25,.int .i64 b)] ac∧MSt w ex mb bb tb (.slice sa sl sc) l n rows m wr∧∃ c,c≤27*(b-1)∧Xn x ph n c m) (n-1) ⟨1,m,rfl,⟨Nat.le_refl _,ht.1⟩,(Zv rfl rfl (Za rfl (Za rfl (Za rfl (Za rfl (Za rfl (Zo _))))))),ha,0,Nat.zero_le _,hd.out⟩ ?_
 ·clear ha hd m;intro t a1 wr K hJ hK;have hR:=hid hK;clear hK;obtain⟨b,m,rfl,⟨hV,hU⟩,hf,ha,c,hc,he⟩:=hJ;obtain⟨u,hb,hu⟩:=Zr hf;obtain⟨g1,g2,s2,s3,s4,s7,s25,g3⟩:=hf;have e2:=hu 2 _ s2;have e3:=hu 3 _ s3;have e4:=hu 4 _ s4;have e7:=hu 7 _ s7;have e25:=hu 25 _ s25;rw[e2,e3,e4,e7,e25]at hb;subst hb;clear hu g1 g2 g3 e2 s2 e3 s3 e4 s4 e7 s7 e25 s25;have hl:=hid ha;have hd:=hid he;by_cases hx:b<n
  ·have hk:=ha.box;have hI:=hk.cell 2;have hH:=hk.cell 3;have hG:=hk.lt;have hA:=hid (ZaJ m.params m.bks (.slice (some ⟨bb,0,none⟩) n n) wr ha.fn.tos (by rw[ha.len];omega) b);clear ha he hk;go_wp2_with fail
   refine hA.out.mono ?_;rintro e w2 ⟨pv,ps,rfl,hi,hm,hr,ho⟩;rw[hl.out.len]at hr ho;obtain⟨pa,pc,hq⟩:=Ze hi;obtain⟨pl,hh⟩:∃ z,ps.length=z:=⟨_,rfl⟩
   obtain⟨pbx,hs,hj⟩:=ZdA hi;rw[hh]at hq hr;subst hq;obtain⟨v,hv,hF,hT⟩:∃ v,ph[b]? = some v∧0≤v∧v≤3:=by
    obtain⟨v,hv⟩:∃ v,ph[b]? = some v:=⟨_,List.getElem?_eq_getElem (by rw[hd.out.phs.1];exact hx)⟩
    exact⟨v,hv,hd.out.phs.2.1 v (List.mem_of_getElem? hv)⟩
   obtain⟨vn,rfl⟩:=Int.eq_ofNat_of_zero_le hF;have HV:=hid hv;have hP:=hid hs;have hO:=hid ho;have hN:=hid hh;have hL:=hid (show ∀ z∈ex++pbx,z.ty≠71 from fun z hz=>by
    rcases List.mem_append.1 hz with hz|hz
    ·exact HE.out z hz
    ·rw[(hj z hz).2];decide)
   have hC:=hid (hl.out.beside (ex':=ex++pbx) (T:=fun _=>False) (Turn.since hm) (fun q _ e=>e.elim) fun z hz=>by
    rcases List.mem_append.1 hz with hz|hz
    ·exact⟨(hl.out.boxes z hz).1.keep hm,.inl ⟨z,hz,rfl⟩⟩
    ·exact⟨(hj z hz).1.1,.inr (hj z hz).1.2⟩)
   clear hi hm ho hs hj hh hv hI hH hG hA;go_upto_block 26 with fail
   refine Zgg w (ex++pbx) pbx sa pa sl sc pc l ps rows m r mb bb n tb pb b pl vn c ph x _ _ _ (Zv rfl rfl (Za rfl (Za rfl (Za rfl (Za rfl (Za rfl (Za rfl (Za rfl (Zo _))))))))) hC.out ht hx hL.out hP.out (fun z hz=>List.mem_append_right _ hz) hN.out (by omega) hO.out (List.mem_append_left _ hM.out) HV.out (by omega) hd.out (by omega) ?_;intro a1 w3 m3 hf hg hp;obtain⟨u,hb,hu⟩:=Zr hf;obtain⟨g1,g2,s2,s3,s4,s7,s25,s26,g3⟩:=hf;have e2:=hu 2 _ s2;have e3:=hu 3 _ s3;have e4:=hu 4 _ s4;have e7:=hu 7 _ s7;have e25:=hu 25 _ s25;have e26:=hu 26 _ s26;rw[e2,e3,e4,e7,e25,e26]at hb;subst hb;clear hu g1 g2 g3 e2 s2 e3 s3 e4 s4 e7 s7 e25 s25 e26 s26;have hB:=hid (hg.beside (ex':=ex) (T:=fun _=>False) (Turn.refl _ _) (fun q _ e=>e.elim) fun z hz=>⟨(hg.boxes z (List.mem_append_left _ hz)).1,.inl ⟨z,List.mem_append_left _ hz,rfl⟩⟩)
   have hD:=hid hp;have hS:pl*vn≤27:=Nat.mul_le_mul (show pl≤9 by omega) (show vn≤3 by omega);clear hg hp;go_wp2_with fail
   exact hR.out (n-(b+1)) _ _ (by omega) ⟨b+1,m3,rfl,⟨by omega,by omega⟩,(Zv rfl rfl (Za rfl (Za rfl (Za rfl (Za rfl (Za rfl (Zo _))))))),hB.out,_,by omega,hD.out⟩
  ·obtain rfl:n=b:=by omega
   clear ha he;go_wp2_with fail
   exact HQ.out _ _ m c (Zv rfl rfl (Za rfl (Za rfl (Za rfl (Za rfl (Zo _)))))) hl.out hd.out (by omega)
end Go.Proofs.YtmhojfpidedjeaaGreatDoor
