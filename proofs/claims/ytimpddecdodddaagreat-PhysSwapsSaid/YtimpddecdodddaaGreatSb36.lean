import Derived.Test.YtimpddecdodddaaGreatSb35
namespace Go.Proofs.YtimpddecdodddaaGreat
open Go.RowKit Go.Lib
set_option linter.unusedVariables false
set_option maxHeartbeats 8000000
set_option maxRecDepth 1000000
theorem zu {P:Prop} (h:P:=by
 have HT:=hid (show ∀ y∈prs++[((yn:Int),y3)],(0≤y.1∧y.1<(n:Int))∧0≤y.2∧y.2<700 from fun y hy=>by
  rcases List.mem_append.1 hy with hy|hy
  ·exact HV.out y hy
  ·rw[List.mem_singleton.1 hy];exact⟨HY.out,hN.out⟩)
 exact tr.out (pl-(k+1)) _ _ (by omega) ⟨k+1,_,g7,c7,cur7,_,rfl,by omega,by rw[List.length_append,hB.out];rfl,(Zu rfl rfl (Za rfl (Za rfl (Za rfl (Za rfl (Za rfl (Za rfl (Za rfl (Za rfl (Za rfl (Zh _))))))))))),Ho.out,hT.out,HT.out,HW.out⟩):P:=h
theorem qq {P:Prop} (h:P:=by
 obtain⟨hc,hl⟩:=hv.out.1.at (fun z3 he=>ha.bx z3 (List.mem_append_left _ (List.mem_cons_of_mem _ (hv.out.2 z3 he)))) Hf.out
 go_wp2
 exact⟨_,rfl,rfl,Turn.refl _ _,ha⟩):P:=h
theorem qN {P:Prop} (h:P:=by
 clear hm hb hF h4;go_wp2
 exact⟨_,rfl,⟨un,rfl,HU.out⟩,hr.out,⟨fun e=>(by omega),fun _=>hw.out,fun z3 he=>(hw.out.boxes z3 he).1⟩⟩):P:=h
theorem qR {P:Prop} (h:P:=by
 obtain⟨y3,hg,hi⟩:I7 (vs 11) w5:=by exact hk.2.1
 simp only[hg];clear hk;go_wp2
 exact⟨_,rfl,⟨y3,rfl,hi⟩,Turn.refl _ _,ha⟩):P:=h
theorem ye {P:Prop} (h:P:=by
 have hN:=hid hi;clear ha hk hg hi;go_wp2
 exact⟨_,rfl,⟨_,y3,rfl,HeapIs.new _ _ _,h7,hN.out⟩,Turn.since hx,HP.out⟩):P:=h
theorem yX {P:Prop} (h:P:=by
 simp only[Hx];clear hk;go_wp2
 exact⟨_,rfl,⟨t,rfl,hH⟩,Turn.refl _ _,ha⟩):P:=h
section
variable {S : Nat→Prop} {w w':World} {v : Value} {xs:List Int} {bx:List Bx}
def I32 (v:Value) (w:World):Prop:=∃ z,v=.int .i32 z∧In32 z
theorem I32.stableT (S:Nat→Prop):Yg S I32:=fun _ _ _ h _=>h
def I7 (v:Value) (w:World):Prop:=∃ z:Int,v=.int .i64 z∧0≤z∧z<700
theorem I7.stableT (S:Nat→Prop):Yg S I7:=fun _ _ _ h _=>h
def ILt (n:Nat) (v:Value) (w:World):Prop:=∃ t:Nat,v=.int .i64 t∧t<n
theorem ILt.stableT (S:Nat→Prop) (n:Nat):Yg S (ILt n):=fun _ _ _ h _=>h
def PLt (g n:Nat) (v:Value) (w:World):Prop:=∃ t:Nat,v=.pointer (some ⟨g,t,none⟩)∧t<n
theorem PLt.stableT (S:Nat→Prop) (g n:Nat):Yg S (PLt g n):=fun _ _ _ h _=>h
def Pr7 (y:Int) (v:Value) (w:World):Prop:=∃ z:Int,v=.agg #[.int .i64 y,.int .i64 z]∧0≤z∧z<700
theorem Pr7.stableT (S:Nat→Prop) (y:Int):Yg S (Pr7 y):=fun _ _ _ h _=>h
def Jp (S:Nat→Prop) (y:Int) (v:Value) (w:World):Prop:=∃ (q:Nat) (z:Int),v=.slice (some ⟨q,0,none⟩) 1 1∧HeapIs w q #[.int .i64 y,.int .i64 z] 141∧¬ S q∧0≤z∧z<700
theorem Jp.stableT (S:Nat→Prop) (y:Int):Yg S (Jp S y):=fun v w w' ⟨q,z,h1,h2,h3,h4⟩ t=>⟨q,z,h1,h2.turn t h3,h3,h4⟩
def Zaj (S:Nat→Prop) (v:Value) (w:World):Prop:=∃ z,X1 S z v w∧0≤z∧z<700
theorem Zaj.stableT (S:Nat→Prop):Yg S (Zaj S):=fun v w w' ⟨z,h1,h2⟩ t=>⟨z,X1.stableT S z v w w' h1 t,h2⟩
structure PhW (w0:World) (ex:List Bx) (mb bb tb:Nat) (sv:Value) (l:List Int) (n:Nat) (rows:List (Value × List Int)) (m:MkSt) (pg k yn p:Nat) (w:World):Prop where
 zero:p=0→MSt w0 ex mb bb tb sv l n rows m w
 one:p=1→MSt w0 ex mb bb tb sv l n rows { m with at_:=m.at_+2 } w
 two:p=2→∃ m2,MSt w0 ex mb bb tb sv l n rows m2 w∧MvC m m2 2 1 1
 pc:w.cell? ⟨pg,k,none⟩=some (.int .i64 yn)
 pl:pg<w.heap.size
theorem BV.mem (h:BV v xs bx) {x : Bx} (hx:x∈bx):v.ownBlock=some x.q:=by
 rcases h with ⟨_,_,rfl⟩|⟨g,cap,cur,rfl,rfl,hc⟩
 ·cases hx
 ·rw[List.mem_singleton.1 hx];rfl
structure PhT (w0:World) (ex:List Bx) (mb bb tb:Nat) (sv:Value) (l:List Int) (n:Nat) (rows:List (Value × List Int)) (m:MkSt) (p:Nat) (w:World):Prop where
 zero:p=0→MSt w0 ex mb bb tb sv l n rows m w
 one:p=1→MSt w0 ex mb bb tb sv l n rows { m with at_:=m.at_+1 } w
 bx:∀ x∈ex,HeapIs w x.q x.cs x.ty
theorem PhT.keep {w0:World} {ex:List Bx} {mb bb tb:Nat} {sv:Value} {l : List Int} {n : Nat} {rows:List (Value × List Int)} {m : MkSt} {p : Nat} (h:PhT w0 ex mb bb tb sv l n rows m p w) (s:Since w w'):PhT w0 ex mb bb tb sv l n rows m p w':=
 ⟨fun e=>(h.zero e).keep s,fun e=>(h.one e).keep s,fun x hx=>(h.bx x hx).keep s⟩
theorem BV.at {g n c:Nat} (h:BV (.slice (some ⟨g,0,none⟩) n c) xs bx) (hb:∀ x∈bx,HeapIs w x.q x.cs x.ty) {j : Nat} {y : Int} (hj:xs[j]? = some y):w.cell? ⟨g,j,none⟩=some (.int .i64 y)∧g<w.heap.size:=by
 obtain⟨g2,c2,hv,h1,h2⟩:=h.cell hb hj;injection hv with e
 injection e with e
 injection e with e
 rw[←e]at h1 h2;exact⟨h1,h2⟩
end
theorem ZcM (w:World) (ex pbx:List Bx) (sa pa:Option Addr) (sl sc pc:Nat) (l ps:List Int) (rows:List (Value × List Int)) (m:MkSt) (r mb bb n tb pb b i pl q cap c:Nat) (cur:Array Value) (ph:List Int) (x:Int) (a0:Act) (w1:World) (Q0:Exit→Act→World→Prop) (tl:Fr [(2,.pointer (some ⟨r,0,none⟩)),(3,.pointer (some ⟨mb,0,none⟩)),(4,.int .i64 n),(7,.slice (some ⟨pb,0,none⟩) n n),(25,.int .i64 b),(26,.slice pa pl pc),(27,.int .i64 i),(28,.slice (some ⟨q,0,none⟩) 0 cap),(29,.int .i64 0)] a0)
  (hI:MSt w ((⟨q,cur,141⟩:Bx)::ex) mb bb tb (.slice sa sl sc) l n rows m w1) (td:1≤n∧n≤9) (hE:∀ z∈ex,z.ty≠141) (tc:BV (.slice pa pl pc) ps pbx) (H4:∀ z∈pbx,z∈ex) (H6:ps.length=pl) (tz:pl≤9) (H9:∀ y∈ps,0≤y∧y<(n:Int)) (hn:OwnRow prcells 2 141 0 w1 (.slice (some ⟨q,0,none⟩) 0 cap) []) (Hc:Xk x ph n c m) (hc:c≤250)
  (hQ:∀ a1 w2 (q cap:Nat) (cur:Array Value) (prs:List (Int × Int)) (m:MkSt),Fr [(2,.pointer (some ⟨r,0,none⟩)),(3,.pointer (some ⟨mb,0,none⟩)),(4,.int .i64 n),(7,.slice (some ⟨pb,0,none⟩) n n),(25,.int .i64 b),(26,.slice pa pl pc),(27,.int .i64 i),(28,.slice (some ⟨q,0,none⟩) pl cap)] a1→MSt w ((⟨q,cur,141⟩:Bx)::ex) mb bb tb (.slice sa sl sc) l n rows m w2→OwnRow prcells 2 141 0 w2 (.slice (some ⟨q,0,none⟩) pl cap) prs→prs.length=pl→(∀ y∈prs,(0≤y.1∧y.1<(n:Int))∧0≤y.2∧y.2<700)→Xk x ph n (c+pl) m→Q0 .normal a1 w2):Code.wp Tryz.prog (mkCode [1,1,1,1,1,1,1,1,1,1,1,1,0,1,0,0,1,0,0,1,1,0,0,1,0,0,1,0,1]) Q0 a0 w1:=by
 obtain⟨u,He,hu⟩:=Zq tl;obtain⟨g1,g2,s2,s3,s4,s7,s25,s26,s27,s28,s29,g3⟩:=tl;have e2:=hu 2 _ s2;have e3:=hu 3 _ s3;have e4:=hu 4 _ s4;have e7:=hu 7 _ s7;have e25:=hu 25 _ s25;have e26:=hu 26 _ s26;have e27:=hu 27 _ s27;have e28:=hu 28 _ s28;have e29:=hu 29 _ s29;rw[e2,e3,e4,e7,e25,e26,e27,e28,e29]at He;subst He;clear hu g1 g2 g3 e2 s2 e3 s3 e4 s4 e7 s7 e25 s25 e26 s26 e27 s27 e28 s28 e29 s29
 conv=>arg 2;whnf
 have HQ:=hid hQ;have HE:=hid hE;have hv:=hid (And.intro tc H4);have HG:=hid (And.intro H6 H9);have hC:=hid hn;have hh:=hid Hc;clear hQ hE tc H4 H6 H9 hn Hc;go_wp2_with fail
 refine ZO (fun t ac wr=>∃ (k:Nat) (prs:List (Int × Int)) (q cap:Nat) (cur:Array Value) (m:MkSt),t=pl-k∧k≤pl∧prs.length=k∧Fr [(2,.pointer (some ⟨r,0,none⟩)),(3,.pointer (some ⟨mb,0,none⟩)),(4,.int .i64 n),(7,.slice (some ⟨pb,0,none⟩) n n),(25,.int .i64 b),(26,.slice pa pl pc),(27,.int .i64 i),(28,.slice (some ⟨q,0,none⟩) k cap),(29,.int .i64 k)] ac∧MSt w ((⟨q,cur,141⟩:Bx)::ex) mb bb tb (.slice sa sl sc) l n rows m wr∧OwnRow prcells 2 141 0 wr (.slice (some ⟨q,0,none⟩) k cap) prs∧(∀ y∈prs,(0≤y.1∧y.1<(n:Int))∧0≤y.2∧y.2<700)∧Xk x ph n (c+k) m) pl ⟨0,[],q,cap,cur,m,rfl,Nat.zero_le _,rfl,(Zu rfl rfl (Za rfl (Za rfl (Za rfl (Za rfl (Za rfl (Za rfl (Za rfl (Za rfl (Za rfl (Zh _))))))))))),hI,hC.out,(fun y hy=>by cases hy),hh.out⟩ ?_
 ·clear hI hC hh q cap cur m;intro t a1 wr K hJ hK;have tr:=hid hK;clear hK;obtain⟨k,prs,q,cap,cur,m,rfl,tC,H8,hf,hI,hn,Hs,Hc⟩:=hJ;obtain⟨u,He,hu⟩:=Zq hf;obtain⟨g1,g2,s2,s3,s4,s7,s25,s26,s27,s28,s29,g3⟩:=hf;have e2:=hu 2 _ s2;have e3:=hu 3 _ s3;have e4:=hu 4 _ s4;have e7:=hu 7 _ s7;have e25:=hu 25 _ s25;have e26:=hu 26 _ s26;have e27:=hu 27 _ s27;have e28:=hu 28 _ s28;have e29:=hu 29 _ s29;rw[e2,e3,e4,e7,e25,e26,e27,e28,e29]at He;subst He;clear hu g1 g2 g3 e2 s2 e3 s3 e4 s4 e7 s7 e25 s25 e26 s26 e27 s27 e28 s28 e29 s29;have Hu:=hid hI;have hC:=hid hn;have HV:=hid Hs;have hh:=hid Hc;have hB:=hid H8;clear hn Hs Hc H8;by_cases tw:k<pl
  ·obtain⟨y,hy⟩:∃ y,ps[k]? = some y:=⟨_,List.getElem?_eq_getElem (by rw[HG.out.1];exact tw)⟩
   obtain⟨pg,pc2,H5,ta,Hy⟩:=hv.out.1.cell (fun z hz=>(hI.boxes z (List.mem_cons_of_mem _ (hv.out.2 z hz))).1) hy
   rw[HG.out.1]at H5;injection H5 with e1 e2 e3
   subst e1;subst e3;have HY:=hid (HG.out.2 y (List.mem_of_getElem? hy));obtain⟨yn,tv⟩:=Int.eq_ofNat_of_zero_le HY.out.1;subst tv;have Hf:=hid hy;have HK:=hid (And.intro ta Hy);obtain⟨pp,H7⟩:∃ z,m.params=z:=⟨_,rfl⟩
   have HI:=hid H7;clear hI hy ta Hy H7;go_wp2_with fail
   refine Zg 8 rfl kK kK kK kS
    [Is (.pointer (some ⟨mb,0,none⟩)),Is (.pointer (some ⟨mb,0,none⟩)),Is (.pointer (some ⟨mb,2,none⟩)),Is (.agg #[.int .i64 pp,.slice (some ⟨bb,0,none⟩) n n]),Is (.slice (some ⟨pg,0,none⟩) pl pc),Is (.int .i64 k),Is (.pointer (some ⟨pg,k,none⟩)),Is (.int .i64 yn)]
    jT ⟨?_,?_,?_,?_,?_,?_,?_,?_,trivial⟩ ?_
   rotate_right
   ·intro vs w2 hs hk;simp only[List.take,List.drop,putAll,Act.put,Zc,Ze,Is,List.setIfInBounds_toArray,List.set_cons_zero,List.set_cons_succ,Nat.reduceAdd]at hk ⊢;try simp only[hk]
    have hp:=hid (Hu.out.keep hs);have tu:=hid (OwnRow.keep hC.out hs);clear hs hk;go_wp2_with fail
    refine (QR 700 pp m.bks (.slice (some ⟨bb,0,none⟩) n n) w2 (by rw[←HI.out];exact hp.out.fn) (hh.out.few hp.out.len td.2 kT hp.out.ok.good.ins) (by rw[hp.out.len];exact td) (by rw[←HI.out];have:=hp.out.ok.good.params;have:=hh.out.next;omega) (yn:Int) (by rw[hp.out.len];exact HY.out)).mono ?_;rintro e w3 ⟨lv,ls,rfl,hn,h6,tg,th⟩;obtain⟨la,lc,te⟩:=Zf hn;obtain⟨ll,hS⟩:∃ z,ls.length=z:=⟨_,rfl⟩
    obtain⟨lbx,ti,HA⟩:=Zbh hn;rw[hS]at te;subst te;have Hh:=hid hS;have Hi:=hid ti;have tq:=hid th;have tp:=hid hn;have tm:=hid h6.size;have HR:=hid (OwnRow.keep tu.out h6);have Hp:=zH (∀ z∈(⟨q,cur,141⟩:Bx)::ex,z.q<w2.heap.size) (fun z hz=>(hp.out.boxes z hz).1.lt)
    have ho:=hid (hp.out.beside (ex':=((⟨q,cur,141⟩:Bx)::ex)++lbx) (T:=fun _=>False) (Turn.since h6) (fun q _ e=>e.elim) fun z hz=>by
     rcases List.mem_append.1 hz with hz|hz
     ·exact⟨(hp.out.boxes z hz).1.keep h6,.inl ⟨z,hz,rfl⟩⟩
     ·exact⟨(HA z hz).1.1,.inr (HA z hz).1.2⟩)
    obtain⟨wb,H1⟩:∃ z,z=w2.heap.size:=⟨_,rfl⟩
    rw[←H1]at tp tm Hp;have tx:ll≤500000:=by rw[←hS];exact tg
    clear hn h6 tg th ti HA hS hp H1 Hu hC;by_cases hz:ll=0
    ·subst hz;have Hj:=zH (∀ q2,Own mb (.slice (some ⟨bb,0,none⟩) n n) m q2→q2<w3.heap.size) (fun q2 h2=>ho.out.ok.ltOwnC (.inl h2))
     have HJ:=zH (w3.drew.cell? ⟨pg,k,none⟩=some (.int .i64 yn)∧pg<w3.drew.heap.size) (hv.out.1.at (fun z hz=>(((ho.out.keep (Since.refl _).drew).boxes z (List.mem_append_left _ (List.mem_cons_of_mem _ (hv.out.2 z hz)))).1)) Hf.out)
     go_wp2_with fail
     refine Ys 10 [7,8] [0,0,0,0,0,0,0,0,1,2] [2,1,1,1,1,1,0,0,1,2] [0,0,0,0,0,0,0,1,1,0] (fun q2=>Own mb (.slice (some ⟨bb,0,none⟩) n n) m q2) (fun p w4=>PhW w ((⟨q,cur,141⟩::ex)++lbx) mb bb tb (.slice sa sl sc) l n rows m pg k yn p w4) rfl kK kK kK kS kK
      [Is (.slice la 0 lc),Is (.pointer (some ⟨mb,0,none⟩)),Is (.slice (some ⟨pg,0,none⟩) pl pc),Is (.int .i64 k),Is (.pointer (some ⟨pg,k,none⟩)),Is (.int .i64 yn),Is (.pointer (some ⟨mb,0,none⟩)),I32,I7,Zaj (fun q2=>Own mb (.slice (some ⟨bb,0,none⟩) n n) m q2)]
      (by repeat (first | exact trivial | refine⟨Is.stableT _ _,?_⟩ | refine⟨I32.stableT _,?_⟩ | refine⟨I7.stableT _,?_⟩ | refine⟨Zaj.stableT _,?_⟩)) ⟨fun _=>ho.out.keep (Since.refl _).drew,fun e=>(by cases e),fun e=>(by cases e),HJ.out.1,HJ.out.2⟩ ⟨?_,?_,?_,?_,?_,?_,?_,?_,?_,?_,trivial⟩ ?_
     rotate_right
     ·intro vs w5 ht ha hk;simp only[List.take,List.drop,putAll,Act.put,Zc,Ze,Is,List.setIfInBounds_toArray,List.set_cons_zero,List.set_cons_succ,Nat.reduceAdd]at hk ⊢;try simp only[hk]
      obtain⟨z,hz,hX⟩:Zaj (fun q2=>Own mb (.slice (some ⟨bb,0,none⟩) n n) m q2) (vs 9) w5:=by exact hk.2.2.2.2.2.2.2.2.2.1
      have H0:=hz.nums;obtain⟨m2,Ha,hL⟩:=ha.two rfl;have HM:=hid Ha;have hP:=hid hL;have tn:=hid H0;have Ht:=hid hX;have hW:=hid (Zj tp.out ht fun q2 hj e=>(ho.out.ok.aside q2 (by obtain⟨x2,hZ,e2⟩:=Hi.out.own hj;exact⟨x2,List.mem_append_right _ hZ,e2⟩)).2 e)
      have hD:=zH (OwnRow prcells 2 141 0 w5 (.slice (some ⟨q,0,none⟩) k cap) prs) (Zj HR.out ht fun q2 hj e=>(ho.out.ok.aside q2 ⟨_,List.mem_append_left _ List.mem_cons_self,Option.some.inj hj⟩).2 e)
      have HF:=zH (wb≤w5.heap.size) (by have:=tm.out;have:=ht.size;omega);generalize vs 9=xv at *;clear hk ha ht hz H0 Ha hL hX;go_wp2_with (refine Zo (base:=wb) .i64 rfl _ _ 22 rfl 3 (.int .i64 0) 8 Tryz.underlying22 Tryz.info3 rfl kS (.slice la 0 lc) xv ls [z] rfl rfl (by have h9:=hW.out;exact h9) tn.out (by rw[Hh.out];simp) HF.out ?_;intro v6 w6 Hq H3 Hr;have hU:=hid Hq;have hr:=hid H3;have Hv:=hid Hr;clear Hq H3 Hr)
      obtain⟨a6,c6,H2⟩:=Zf hU.out;rw[show (ls++[z]).length=1 from by rw[List.length_append,Hh.out];rfl]at H2
      subst H2;obtain⟨lbz,Hn,Hz⟩:=Zbh hU.out;have hO:=hid (HM.out.beside (ex':=((⟨q,cur,141⟩:Bx)::ex)++lbz) hr.out (fun q2 _ hj=>by obtain⟨x2,hZ,e2⟩:=Hi.out.own hj;exact⟨x2,List.mem_append_right _ hZ,e2⟩) fun z2 hd=>by
       rcases List.mem_append.1 hd with hd|hd
       ·exact⟨(HM.out.boxes z2 (List.mem_append_left _ hd)).1.turn hr.out (fun e=>by have h1:=Hp.out z2 hd;have h2:=(World.ownsRow.lt hW.out _ e).1;omega),.inl ⟨z2,List.mem_append_left _ hd,rfl⟩⟩
       ·refine⟨(Hz z2 hd).1.1,?_⟩;rcases Hv.out z2.q (Hn.mem hd) with h|h
        ·obtain⟨x2,hZ,e2⟩:=Hi.out.own h;exact .inl ⟨x2,List.mem_append_right _ hZ,e2⟩
        ·exact .inr h)
      have tt:=zH (OwnRow prcells 2 141 0 w6 (.slice (some ⟨q,0,none⟩) k cap) prs) (Zj hD.out hr.out fun q2 hj e=>by have h1:=Hp.out (⟨q,cur,141⟩:Bx) List.mem_cons_self;have h2:=(World.ownsRow.lt hW.out _ e).1;have h3:q=q2:=Option.some.inj hj;dsimp only at h1;omega)
      have HO:=hid Hn;have HN:=zH ((ls++[z]).length=1) (by rw[List.length_append,Hh.out];rfl);have ts:=hid (show ∀ y∈ls++[z],0≤y∧y<700 from fun y hy=>by
       rcases List.mem_append.1 hy with hy|hy
       ·exact tq.out y hy
       ·rw[List.mem_singleton.1 hy];exact Ht.out)
      clear Hn Hz hU hr Hv tn hW hD HF HM Ht;obtain⟨y0,hY⟩:∃ y0,(ls++[z])[0]? = some y0:=⟨_,List.getElem?_eq_getElem (by rw[HN.out];omega)⟩
      obtain⟨lg,lc2,Hm,_,_⟩:=HO.out.cell (fun z2 hd=>(hO.out.boxes z2 (List.mem_append_right _ hd)).1) hY
      injection Hm with e1 e2 e3
      subst e1;clear e2 e3 hY;have Hj:=zH (∀ q2,Own mb (.slice (some ⟨bb,0,none⟩) n n) m2 q2→q2<w6.heap.size) (fun q2 h2=>hO.out.ok.ltOwnC (.inl h2))
      refine Ys 14 [9] [0,0,0,0,0,0,0,0,0,0,1,1,1,1] [1,1,1,1,1,1,0,0,0,0,1,1,1,1] [0,0,0,0,0,0,0,0,0,1,0,0,0,0] (fun q2=>Own mb (.slice (some ⟨bb,0,none⟩) n n) m2 q2) (fun p w4=>PhT w ((⟨q,cur,141⟩::ex)++lbz) mb bb tb (.slice sa sl sc) l n rows m2 p w4) rfl kK kK kK kS kK
       [Is (.slice (some ⟨q,0,none⟩) k cap),Is (.slice (some ⟨pg,0,none⟩) pl pc),Is (.int .i64 k),Is (.pointer (some ⟨pg,k,none⟩)),Is (.int .i64 yn),Is (.slice (some ⟨lg,0,none⟩) 1 c6),Is (.pointer (some ⟨mb,0,none⟩)),Is (.slice (some ⟨lg,0,none⟩) 1 c6),Is (.int .i64 (1:Nat)),ILt 1,PLt lg 1,I7,Pr7 yn,Jp (fun q2=>Own mb (.slice (some ⟨bb,0,none⟩) n n) m2 q2) yn]
       (by repeat (first | exact trivial | refine⟨Is.stableT _ _,?_⟩ | refine⟨ILt.stableT _ _,?_⟩ | refine⟨PLt.stableT _ _ _,?_⟩ | refine⟨I7.stableT _,?_⟩ | refine⟨Pr7.stableT _ _,?_⟩ | refine⟨Jp.stableT _ _,?_⟩)) ⟨fun _=>hO.out.keep (Since.refl _).drew,fun e=>(by cases e),fun z3 he=>((hO.out.keep (Since.refl _).drew).boxes z3 he).1⟩ ⟨?_,?_,?_,?_,?_,?_,?_,?_,?_,?_,?_,?_,?_,?_,trivial⟩ ?_
      rotate_right
      ·intro vs w5 ht ha hk;simp only[List.take,List.drop,putAll,Act.put,Zc,Ze,Is,List.setIfInBounds_toArray,List.set_cons_zero,List.set_cons_succ,Nat.reduceAdd]at hk ⊢;try simp only[hk]
       obtain⟨qn,y3,hG,hM,hR,hi⟩:Jp (fun q2=>Own mb (.slice (some ⟨bb,0,none⟩) n n) m2 q2) yn (vs 13) w5:=by exact hk.2.2.2.2.2.2.2.2.2.2.2.2.2.1
       simp only[hG];have HM:=hid (ha.one rfl);have hD:=zH (OwnRow prcells 2 141 0 w5 (.slice (some ⟨q,0,none⟩) k cap) prs) (Zj tt.out ht fun q2 hj e=>(hO.out.ok.aside q2 ⟨_,List.mem_append_left _ List.mem_cons_self,Option.some.inj hj⟩).2 e)
       have HH:=hid hM;have hN:=hid hi;clear hk ha ht hG hM hR hi;go_wp2_with (refine ZL (base:=0) prcells 2 Y4 kS rfl _ _ 136 rfl 141 (.agg #[.int .i64 0,.int .i64 0]) 16 Tryz.underlying136 kO rfl (.slice (some ⟨q,0,none⟩) k cap) prs ((yn:Int),y3) qn 1 141 rfl rfl hD.out HH.out (by intro u hu;simp only[prcells,List.mem_cons,List.not_mem_nil,or_false]at hu;rcases hu with rfl | rfl<;>rfl) (by rw[hB.out];unfold maxLen;omega) (by rw[hB.out];omega) (Nat.zero_le _) ?_;intro v7 w7 hq h5 hA;obtain⟨g7,c7,cur7,h0,Hb,_⟩:=Wa Y4 hq kU;rw[show (prs++[((yn:Int),y3)]).length=k+1 from by rw[List.length_append,hB.out];rfl]at h0;subst h0;have hT:=hid hq;have Hg:=hid h5;have hV:=hid hA;have HS:=hid Hb;clear hq h5 hA Hb)
       have HX:=hid (HM.out.boxes (⟨q,cur,141⟩:Bx) (List.mem_append_left _ List.mem_cons_self)).1;have Ho:=hid (HM.out.beside (ex':=(⟨g7,cur7,141⟩:Bx)::ex) Hg.out (fun q2 _ hj=>⟨_,List.mem_append_left _ List.mem_cons_self,Option.some.inj hj⟩) fun z2 hd=>by
        rcases List.mem_cons.1 hd with rfl|hd
        ·refine⟨HS.out,?_⟩;rcases hV.out g7 rfl with h|h
         ·exact .inl ⟨_,List.mem_append_left _ List.mem_cons_self,Option.some.inj h⟩
         ·exact .inr h
        ·have he:=HM.out.boxes z2 (List.mem_append_left _ (List.mem_cons_of_mem _ hd));exact⟨he.1.turn Hg.out fun e=>Yf he.1 HX.out (HE.out z2 hd) (Option.some.inj e).symm,.inl ⟨z2,List.mem_append_left _ (List.mem_cons_of_mem _ hd),rfl⟩⟩)
       have HW:=hid (hh.out.mv (d:=1) (hP.out.trans (show MvC m2 { m2 with at_:=m2.at_+1 } 1 0 0 from⟨Nat.le_refl _,⟨Int.le_refl _,Int.le_of_eq (Int.add_zero _).symm⟩,Nat.le_refl _,Nat.le_refl _,rfl,rfl⟩)) kT kT kT);exact zu
      all_goals
       intro p vs w5 tf tj ht ha hk;simp only[List.take,putAll,Act.put,Zk,Ze,Is,List.setIfInBounds_toArray,List.set_cons_zero,List.set_cons_succ,Nat.reduceAdd]at hk ⊢;try simp only[hk]
      iterate 4
       ·exact jy
      ·exact qq
      iterate 4
       ·exact jy
      ·obtain rfl:p=0:=kT
       have HM:=hid (ha.zero rfl);clear ha hk ht;go_wp2_with fail
       refine (ZB HM.out.ok (1:Nat) kT (by have h1:=hh.out.at_;have h2:=hP.out.at_;omega)).mono ?_;rintro e w6 ⟨m6,⟨u,rfl,⟨hF,h4⟩,h8⟩,hm,hb⟩;have hr:=hid hb.turn;have hw:=hid (HM.out.mv hm hb);subst h8;obtain⟨un,rfl⟩:=Int.eq_ofNat_of_zero_le hF;have HU:=zH (un<1) kT;exact qN
      ·obtain⟨t,Hx,hH⟩:ILt 1 (vs 9) w5:=by exact hk.2.1
       exact yX
      ·obtain⟨t,Hl,hH⟩:PLt lg 1 (vs 10) w5:=by exact hk.1
       simp only[Hl];obtain⟨y3,hg⟩:∃ y3,(ls++[z])[t]? = some y3:=⟨_,List.getElem?_eq_getElem (by rw[HN.out];exact hH)⟩
       obtain⟨hc,hl⟩:=HO.out.at (fun z3 he=>ha.bx z3 (List.mem_append_right _ he)) hg
       have HD:=hid (ts.out y3 (List.mem_of_getElem? hg));clear hk hg;go_wp2
       exact⟨_,rfl,⟨y3,rfl,HD.out⟩,Turn.refl _ _,ha⟩
      ·exact qR
      ·obtain⟨y3,hg,hi⟩:Pr7 yn (vs 12) w5:=by exact hk.1
       simp only[hg];have hx:=(Since.refl w5).alloc (.cells #[.int .i64 yn,.int .i64 y3] 141);have HP:=hid (ha.keep hx);have h7:¬ (fun q2=>Own mb (.slice (some ⟨bb,0,none⟩) n n) m2 q2) w5.heap.size:=fun e=>by have:=Hj.out _ e;have:=ht.size;omega
       exact ye
     all_goals
      intro p vs w5 tf tj ht ha hk;simp only[List.take,putAll,Act.put,Zk,Ze,Is,List.setIfInBounds_toArray,List.set_cons_zero,List.set_cons_succ,Nat.reduceAdd]at hk ⊢;try simp only[hk]
     iterate 5
      ·exact jy
     ·have hc:=ha.pc;have hl:=ha.pl;exact jy
     ·exact jy
     ·obtain rfl:p=0:=kT
      have HM:=hid (ha.zero rfl);clear ha hk ht;go_wp2_with fail
      refine (X5 HM.out.ok (by have:=hh.out.at_;omega)).mono ?_;rintro e w6 ⟨m6,⟨z,rfl,hz,h8⟩,hm,hb⟩;have hr:=hid hb.turn;have hw:=hid (HM.out.mv hm hb);have Hk:=zH (w6.cell? ⟨pg,k,none⟩=some (.int .i64 yn)∧pg<w6.heap.size) (hv.out.1.at (fun z hz=>(hw.out.boxes z (List.mem_append_left _ (List.mem_cons_of_mem _ (hv.out.2 z hz)))).1) Hf.out)
      subst h8;have HZ:=hid hz;clear hm hb hz;go_wp2
      exact⟨_,rfl,⟨z,rfl,HZ.out⟩,hr.out,⟨fun e=>kT,fun _=>hw.out,fun e=>kT,Hk.out.1,Hk.out.2⟩⟩
     ·obtain rfl:p=1:=kT
      obtain⟨z,hz,Hw⟩:I32 (vs 7) w5:=by exact hk.2.2.1
      simp only[hz];have HM:=hid (ha.one rfl);have HZ:=hid Hw;clear ha hk ht hz Hw;go_wp2_with fail
      refine (Yk HM.out.ok (by have:=hh.out.at_;have:=hh.out.next;have:=hh.out.total;have:=hh.out.live;exact⟨by show m.at_+2≤_;omega,by show m.next≤_;omega,by show m.total≤_;omega,by show m.live.length≤_;omega⟩) yn (by rw[HM.out.len];have:=HY.out;omega) z HZ.out).mono ?_;rintro e w6 ⟨m6,⟨u,rfl,hF,h4⟩,hm,hb⟩;have hr:=hid hb.turn;have hw:=hid (HM.out.mv hm hb);have HL:=zH (MvC m m6 2 1 1) ⟨by have:=hb.at_;exact this,hb.next,hb.total,hb.live,hb.same⟩;have HU:=zH (0≤u∧u<700) ⟨hF,by have:=hh.out.next;have:=HL.out.next.2;omega⟩;have Hk:=zH (w6.cell? ⟨pg,k,none⟩=some (.int .i64 yn)∧pg<w6.heap.size) (hv.out.1.at (fun z hz=>(hw.out.boxes z (List.mem_append_left _ (List.mem_cons_of_mem _ (hv.out.2 z hz)))).1) Hf.out)
      clear hm hb hF h4;go_wp2
      exact⟨_,rfl,⟨u,rfl,HU.out⟩,hr.out,⟨fun e=>kT,fun e=>kT,fun _=>⟨m6,hw.out,HL.out⟩,Hk.out.1,Hk.out.2⟩⟩
     ·obtain rfl:p=2:=kT
      obtain⟨z,hz,hX⟩:I7 (vs 8) w5:=by exact hk.1
      simp only[hz];obtain⟨m2,Ha,hL⟩:=ha.two rfl;have hx:=(Since.refl w5).alloc (.cells #[.int .i64 z] 3);have HM:=hid (Ha.keep hx);have hP:=hid hL;have HC:=hid (And.intro ((hx.cell (p:=⟨pg,k,none⟩) ha.pl).trans ha.pc) (Nat.lt_of_lt_of_le ha.pl hx.size));have h7:¬ (fun q2=>Own mb (.slice (some ⟨bb,0,none⟩) n n) m q2) w5.heap.size:=fun e=>by have:=Hj.out _ e;have:=ht.size;omega
      have Ht:=hid hX;clear ha hk hz Ha hL hX;go_wp2
      exact⟨_,rfl,⟨z,X1.new z h7,Ht.out⟩,Turn.since hx,⟨fun e=>kT,fun e=>kT,fun _=>⟨m2,HM.out,hP.out⟩,HC.out.1,HC.out.2⟩⟩
    ·have tA:((ll:Int)==0)=false:=by simp;omega
     have hP:=zH (MvC m m 2 1 1) ((MvC.refl m).more kT kT kT);go_wp2_with fail
     obtain⟨y0,hY⟩:∃ y0,(ls)[0]? = some y0:=⟨_,List.getElem?_eq_getElem (by rw[Hh.out];omega)⟩
     obtain⟨lg,lc2,Hm,_,_⟩:=Hi.out.cell (fun z2 hd=>(ho.out.boxes z2 (List.mem_append_right _ hd)).1) hY
     injection Hm with e1 e2 e3
     subst e1;clear e2 e3 hY;have Hj:=zH (∀ q2,Own mb (.slice (some ⟨bb,0,none⟩) n n) m q2→q2<w3.heap.size) (fun q2 h2=>ho.out.ok.ltOwnC (.inl h2))
     refine Ys 14 [9] [0,0,0,0,0,0,0,0,0,0,1,1,1,1] [1,1,1,1,1,1,0,0,0,0,1,1,1,1] [0,0,0,0,0,0,0,0,0,1,0,0,0,0] (fun q2=>Own mb (.slice (some ⟨bb,0,none⟩) n n) m q2) (fun p w4=>PhT w ((⟨q,cur,141⟩::ex)++lbx) mb bb tb (.slice sa sl sc) l n rows m p w4) rfl kK kK kK kS kK
      [Is (.slice (some ⟨q,0,none⟩) k cap),Is (.slice (some ⟨pg,0,none⟩) pl pc),Is (.int .i64 k),Is (.pointer (some ⟨pg,k,none⟩)),Is (.int .i64 yn),Is (.slice (some ⟨lg,0,none⟩) ll lc),Is (.pointer (some ⟨mb,0,none⟩)),Is (.slice (some ⟨lg,0,none⟩) ll lc),Is (.int .i64 (ll:Nat)),ILt ll,PLt lg ll,I7,Pr7 yn,Jp (fun q2=>Own mb (.slice (some ⟨bb,0,none⟩) n n) m q2) yn]
      (by repeat (first | exact trivial | refine⟨Is.stableT _ _,?_⟩ | refine⟨ILt.stableT _ _,?_⟩ | refine⟨PLt.stableT _ _ _,?_⟩ | refine⟨I7.stableT _,?_⟩ | refine⟨Pr7.stableT _ _,?_⟩ | refine⟨Jp.stableT _ _,?_⟩)) ⟨fun _=>ho.out.keep (Since.refl _).drew,fun e=>(by cases e),fun z3 he=>((ho.out.keep (Since.refl _).drew).boxes z3 he).1⟩ ⟨?_,?_,?_,?_,?_,?_,?_,?_,?_,?_,?_,?_,?_,?_,trivial⟩ ?_
     rotate_right
     ·intro vs w5 ht ha hk;simp only[List.take,List.drop,putAll,Act.put,Zc,Ze,Is,List.setIfInBounds_toArray,List.set_cons_zero,List.set_cons_succ,Nat.reduceAdd]at hk ⊢;try simp only[hk]
      obtain⟨qn,y3,hG,hM,hR,hi⟩:Jp (fun q2=>Own mb (.slice (some ⟨bb,0,none⟩) n n) m q2) yn (vs 13) w5:=by exact hk.2.2.2.2.2.2.2.2.2.2.2.2.2.1
      simp only[hG];have HM:=hid (ha.one rfl);have hD:=zH (OwnRow prcells 2 141 0 w5 (.slice (some ⟨q,0,none⟩) k cap) prs) (Zj HR.out ht fun q2 hj e=>(ho.out.ok.aside q2 ⟨_,List.mem_append_left _ List.mem_cons_self,Option.some.inj hj⟩).2 e)
      have HH:=hid hM;have hN:=hid hi;clear hk ha ht hG hM hR hi;go_wp2_with (refine ZL (base:=0) prcells 2 Y4 kS rfl _ _ 136 rfl 141 (.agg #[.int .i64 0,.int .i64 0]) 16 Tryz.underlying136 kO rfl (.slice (some ⟨q,0,none⟩) k cap) prs ((yn:Int),y3) qn 1 141 rfl rfl hD.out HH.out (by intro u hu;simp only[prcells,List.mem_cons,List.not_mem_nil,or_false]at hu;rcases hu with rfl | rfl<;>rfl) (by rw[hB.out];unfold maxLen;omega) (by rw[hB.out];omega) (Nat.zero_le _) ?_;intro v7 w7 hq h5 hA;obtain⟨g7,c7,cur7,h0,Hb,_⟩:=Wa Y4 hq kU;rw[show (prs++[((yn:Int),y3)]).length=k+1 from by rw[List.length_append,hB.out];rfl]at h0;subst h0;have hT:=hid hq;have Hg:=hid h5;have hV:=hid hA;have HS:=hid Hb;clear hq h5 hA Hb)
      have HX:=hid (HM.out.boxes (⟨q,cur,141⟩:Bx) (List.mem_append_left _ List.mem_cons_self)).1;have Ho:=hid (HM.out.beside (ex':=(⟨g7,cur7,141⟩:Bx)::ex) Hg.out (fun q2 _ hj=>⟨_,List.mem_append_left _ List.mem_cons_self,Option.some.inj hj⟩) fun z2 hd=>by
       rcases List.mem_cons.1 hd with rfl|hd
       ·refine⟨HS.out,?_⟩;rcases hV.out g7 rfl with h|h
        ·exact .inl ⟨_,List.mem_append_left _ List.mem_cons_self,Option.some.inj h⟩
        ·exact .inr h
       ·have he:=HM.out.boxes z2 (List.mem_append_left _ (List.mem_cons_of_mem _ hd));exact⟨he.1.turn Hg.out fun e=>Yf he.1 HX.out (HE.out z2 hd) (Option.some.inj e).symm,.inl ⟨z2,List.mem_append_left _ (List.mem_cons_of_mem _ hd),rfl⟩⟩)
      have HW:=hid (hh.out.mv (d:=1) (hP.out.trans (show MvC m { m with at_:=m.at_+1 } 1 0 0 from⟨Nat.le_refl _,⟨Int.le_refl _,Int.le_of_eq (Int.add_zero _).symm⟩,Nat.le_refl _,Nat.le_refl _,rfl,rfl⟩)) kT kT kT);exact zu
     all_goals
      intro p vs w5 tf tj ht ha hk;simp only[List.take,putAll,Act.put,Zk,Ze,Is,List.setIfInBounds_toArray,List.set_cons_zero,List.set_cons_succ,Nat.reduceAdd]at hk ⊢;try simp only[hk]
     iterate 4
      ·exact jy
     ·exact qq
     iterate 4
      ·exact jy
     ·obtain rfl:p=0:=kT
      have HM:=hid (ha.zero rfl);clear ha hk ht;go_wp2_with fail
      refine (ZB HM.out.ok (ll:Nat) kT (by have h1:=hh.out.at_;have h2:=hP.out.at_;omega)).mono ?_;rintro e w6 ⟨m6,⟨u,rfl,⟨hF,h4⟩,h8⟩,hm,hb⟩;have hr:=hid hb.turn;have hw:=hid (HM.out.mv hm hb);subst h8;obtain⟨un,rfl⟩:=Int.eq_ofNat_of_zero_le hF;have HU:=zH (un<ll) kT;exact qN
     ·obtain⟨t,Hx,hH⟩:ILt ll (vs 9) w5:=by exact hk.2.1
      exact yX
     ·obtain⟨t,Hl,hH⟩:PLt lg ll (vs 10) w5:=by exact hk.1
      simp only[Hl];obtain⟨y3,hg⟩:∃ y3,(ls)[t]? = some y3:=⟨_,List.getElem?_eq_getElem (by rw[Hh.out];exact hH)⟩
      obtain⟨hc,hl⟩:=Hi.out.at (fun z3 he=>ha.bx z3 (List.mem_append_right _ he)) hg
      have HD:=hid (tq.out y3 (List.mem_of_getElem? hg));clear hk hg;go_wp2
      exact⟨_,rfl,⟨y3,rfl,HD.out⟩,Turn.refl _ _,ha⟩
     ·exact qR
     ·obtain⟨y3,hg,hi⟩:Pr7 yn (vs 12) w5:=by exact hk.1
      simp only[hg];have hx:=(Since.refl w5).alloc (.cells #[.int .i64 yn,.int .i64 y3] 141);have HP:=hid (ha.keep hx);have h7:¬ (fun q2=>Own mb (.slice (some ⟨bb,0,none⟩) n n) m q2) w5.heap.size:=fun e=>by have:=Hj.out _ e;have:=ht.size;omega
      exact ye
   all_goals
    intro vs w2 hs hk _;simp only[List.take,putAll,Act.put,Zk,Ze,Is,List.setIfInBounds_toArray,List.set_cons_zero,List.set_cons_succ,Nat.reduceAdd]at hk ⊢;try simp only[hk]
   iterate 2
    ·exact jK
    ·have HB:=(Hu.out.keep hs).box;have tE:w2.cell? ⟨mb,2,none⟩=some (.int .i64 pp):=by rw[←HI.out];exact HB.cell 2
     have tD:=HB.cell 3;have tB:=HB.lt;exact jK
   iterate 3
    ·exact jK
   ·have hc:=(hs.cell (p:=⟨pg,k,none⟩) HK.out.2).trans HK.out.1;have hl:=Nat.lt_of_lt_of_le HK.out.2 hs.size;exact jK
  ·obtain rfl:pl=k:=kT
   clear hI;go_wp2_with fail
   exact HQ.out _ _ _ _ _ _ _ (Zu rfl rfl (Za rfl (Za rfl (Za rfl (Za rfl (Za rfl (Za rfl (Za rfl (Za rfl (Zh _)))))))))) Hu.out hC.out hB.out HV.out hh.out
theorem ZdG (w:World) (ex pbx:List Bx) (sa pa:Option Addr) (sl sc pc:Nat) (l ps:List Int) (rows:List (Value × List Int)) (m:MkSt) (r mb bb n tb pb b pl vn c:Nat) (ph:List Int) (x:Int) (a0:Act) (w1:World) (Q0:Exit→Act→World→Prop) (hL:Fr [(2,.pointer (some ⟨r,0,none⟩)),(3,.pointer (some ⟨mb,0,none⟩)),(4,.int .i64 n),(7,.slice (some ⟨pb,0,none⟩) n n),(25,.int .i64 b),(26,.slice pa pl pc),(27,.int .i64 0)] a0)
  (hg:MSt w ex mb bb tb (.slice sa sl sc) l n rows m w1) (hU:1≤n∧n≤9) (hb:b<n) (hE:∀ z∈ex,z.ty≠141) (hH:BV (.slice pa pl pc) ps pbx) (hC:∀ z∈pbx,z∈ex) (hF:ps.length=pl) (hv:pl≤9) (hG:∀ y∈ps,0≤y∧y<(n:Int)) (hw:bxP pb ph∈ex) (hD:ph[b]? = some (vn:Int)) (hY:vn≤3) (hh:Xk x ph n c m) (hc:c≤216)
  (hQ:∀ a1 w2 (m:MkSt),Fr [(2,.pointer (some ⟨r,0,none⟩)),(3,.pointer (some ⟨mb,0,none⟩)),(4,.int .i64 n),(7,.slice (some ⟨pb,0,none⟩) n n),(25,.int .i64 b),(26,.slice pa pl pc)] a1→MSt w ex mb bb tb (.slice sa sl sc) l n rows m w2→Xk x ph n (c+pl*vn) m→Q0 .normal a1 w2):Code.wp Tryz.prog (mkCode [1,1,1,1,1,1,1,1,1,1,1,1,0,1,0,0,1,0,0,1,1]) Q0 a0 w1:=by
 obtain⟨u,hd,hu⟩:=Zq hL;obtain⟨g1,g2,s2,s3,s4,s7,s25,s26,s27,g3⟩:=hL;have e2:=hu 2 _ s2;have e3:=hu 3 _ s3;have e4:=hu 4 _ s4;have e7:=hu 7 _ s7;have e25:=hu 25 _ s25;have e26:=hu 26 _ s26;have e27:=hu 27 _ s27;rw[e2,e3,e4,e7,e25,e26,e27]at hd;subst hd;clear hu g1 g2 g3 e2 s2 e3 s3 e4 s4 e7 s7 e25 s25 e26 s26 e27 s27
 conv=>arg 2;whnf
 have HQ:=hid hQ;have HE:=hid hE;have hN:=hid (And.intro hH hC);have hM:=hid (And.intro hF hG);have hi:=hid hh;have ht:=hid (And.intro hw hD);clear hQ hE hH hC hF hG hh hw hD;go_wp2_with fail
 refine ZO (fun t ac wr=>∃ (i:Nat) (m:MkSt),t=vn-i∧i≤vn∧Fr [(2,.pointer (some ⟨r,0,none⟩)),(3,.pointer (some ⟨mb,0,none⟩)),(4,.int .i64 n),(7,.slice (some ⟨pb,0,none⟩) n n),(25,.int .i64 b),(26,.slice pa pl pc),(27,.int .i64 i)] ac∧MSt w ex mb bb tb (.slice sa sl sc) l n rows m wr∧Xk x ph n (c+pl*i) m) vn ⟨0,m,rfl,Nat.zero_le _,(Zu rfl rfl (Za rfl (Za rfl (Za rfl (Za rfl (Za rfl (Za rfl (Za rfl (Zh _))))))))),hg,hi.out⟩ ?_
 ·clear hg hi m;intro t a1 wr K hJ hK;have hW:=hid hK;clear hK;obtain⟨i,m,rfl,h3,hf,hg,hh⟩:=hJ;obtain⟨u,hd,hu⟩:=Zq hf;obtain⟨g1,g2,s2,s3,s4,s7,s25,s26,s27,g3⟩:=hf;have e2:=hu 2 _ s2;have e3:=hu 3 _ s3;have e4:=hu 4 _ s4;have e7:=hu 7 _ s7;have e25:=hu 25 _ s25;have e26:=hu 26 _ s26;have e27:=hu 27 _ s27;rw[e2,e3,e4,e7,e25,e26,e27]at hd;subst hd;clear hu g1 g2 g3 e2 s2 e3 s3 e4 s4 e7 s7 e25 s25 e26 s26 e27 s27;have hB:=hid hg;have hi:=hid hh;have ho:=(hg.boxes _ ht.out.1).1.cell b;rw[show (bxP pb ph).cs=(ph.map (Value.int .i64)).toArray from rfl,List.getElem?_toArray,List.getElem?_map,ht.out.2]at ho
  replace ho:wr.cell? ⟨pb,b,none⟩=some (.int .i64 vn):=ho
  have hT:pb<wr.heap.size:=(hg.boxes _ ht.out.1).1.lt;clear hg hh;by_cases h0:i<vn
  ·have hZ:pl*i≤18:=Nat.mul_le_mul hv (show i≤2 by omega);go_upto_block 28 with fail
   refine ZcM w ex pbx sa pa sl sc pc l ps rows m r mb bb n tb pb b i pl wr.heap.size 0 (c+pl*i) #[] ph x _ _ _ (Zu rfl rfl (Za rfl (Za rfl (Za rfl (Za rfl (Za rfl (Za rfl (Za rfl (Za rfl (Za rfl (Zh _))))))))))) (hB.out.beside (T:=fun _=>False) (Turn.since ((Since.refl _).alloc _)) (fun q _ e=>e.elim) fun z hz=>by
    rcases List.mem_cons.1 hz with rfl|hz
    ·exact⟨HeapIs.new _ _ _,.inr (Nat.le_refl _)⟩
    ·exact⟨(hB.out.boxes z hz).1.keep ((Since.refl _).alloc _),.inl ⟨z,hz,rfl⟩⟩) hU HE.out hN.out.1 hN.out.2 hM.out.1 hv hM.out.2 (VL wr 0 (Nat.zero_le _)) hi.out kT ?_
   intro a1 w2 q cap cur prs m2 hf he hp hO hq hl;obtain⟨u,hd,hu⟩:=Zq hf;obtain⟨g1,g2,s2,s3,s4,s7,s25,s26,s27,s28,g3⟩:=hf;have e2:=hu 2 _ s2;have e3:=hu 3 _ s3;have e4:=hu 4 _ s4;have e7:=hu 7 _ s7;have e25:=hu 25 _ s25;have e26:=hu 26 _ s26;have e27:=hu 27 _ s27;have e28:=hu 28 _ s28;rw[e2,e3,e4,e7,e25,e26,e27,e28]at hd;subst hd;clear hu g1 g2 g3 e2 s2 e3 s3 e4 s4 e7 s7 e25 s25 e26 s26 e27 s27 e28 s28;have hA:=(he.boxes (⟨q,cur,141⟩:Bx) List.mem_cons_self).1;have ha:MSt w ex mb bb tb (.slice sa sl sc) l n rows m2 w2:=he.beside (T:=fun _=>False) (Turn.refl _ _) (fun q _ e=>e.elim) fun z hz=>⟨(he.boxes z (List.mem_cons_of_mem _ hz)).1,.inl ⟨z,List.mem_cons_of_mem _ hz,rfl⟩⟩
   have hm:Stays (Zy (CE ex) mb (.slice (some ⟨bb,0,none⟩) n n) m2) w2 (.slice (some ⟨q,0,none⟩) pl cap):=fun q2 hS=>by
    have e:q=q2:=Option.some.inj hS;subst e;refine⟨fun h=>?_,hA.lt⟩;rcases h with h|⟨z,hz,hR⟩
    ·exact (he.ok.aside q ⟨_,List.mem_cons_self,rfl⟩).2 h
    ·exact Yf (ha.boxes z hz).1 hA (HE.out z hz) hR
   obtain⟨k,hk⟩:=ha.at hb;have hP:=hl.cnt b k vn hk ht.out.2;have hI:=ha.ok.each k (List.mem_of_getElem? hk);obtain⟨fb,fc,fcur,hx,hs,hr⟩:=Wa Xi hI.phis kT;have hV:=ha.cell hk (show 0<6 by decide);rw[show (fbcells k)[0]? = some k.phv from rfl,hx,Nat.add_zero,show k.phis.length=vn from by omega]at hV
   obtain⟨pp,hn⟩:∃ pp,k.phis[i]? = some pp:=⟨_,List.getElem?_eq_getElem kT⟩
   have hj:=ha.ok.setIn (ins:=prs) hk rfl hx hn ⟨Yl Y4 hp (fun _ _=>trivial),hm⟩;have HN:=hid (ha.step hj.1 hj.2 kU);have hX:=hid (hl.setIn (iv:=.slice (some ⟨q,0,none⟩) pl cap) hk hn kT hq);have hy:=ha.box;have h8:=hy.cell 3;have h1:=hy.lt;have h7:=ha.blkAt.lt;have h4:=hs.lt;have h5:=hs.frozen (i*2+1);have h2:b<n:=hb;have h6:w2.cell? ⟨fb,i*2+1,none⟩=some pp.inv:=(hs.cell (i*2+1)).trans (hr i 1 pp hn kS);clear he hp hO hq hl hA ha hm hk hP hI hx hs hn hj hy ho hT hr;go_wp2_with fail
   exact hW.out (vn-(i+1)) _ _ kT ⟨i+1,_,rfl,kT,(Zu rfl rfl (Za rfl (Za rfl (Za rfl (Za rfl (Za rfl (Za rfl (Za rfl (Zh _))))))))),HN.out,by rw[Nat.mul_add,Nat.mul_one,←Nat.add_assoc];exact hX.out⟩
  ·obtain rfl:vn=i:=kT
   go_wp2_with fail
   exact HQ.out _ _ m (Zu rfl rfl (Za rfl (Za rfl (Za rfl (Za rfl (Za rfl (Za rfl (Zh _)))))))) hB.out hi.out
end Go.Proofs.YtimpddecdodddaaGreat
