import Derived.Test.YtimpddecdodddaaGreatSt34
namespace Go.Proofs.YtimpddecdodddaaGreat
open Go.Proofs.Tryz Go.RowKit Go.Lib
set_option linter.unusedVariables false
set_option maxHeartbeats 8000000
set_option maxRecDepth 1000000
theorem zB {P:Prop} (h:P:=by
 have HT:=hid (show ∀ y∈prs++[((yn:Int),y3)],(0≤y.1∧y.1<(n:Int))∧0≤y.2∧y.2<700 from fun y hy=>by
  rcases List.mem_append.1 hy with hy|hy
  ·exact HV.out y hy
  ·rw[List.mem_singleton.1 hy];exact⟨HY.out,hN.out⟩)
 exact ts.out (pl-(k+1)) _ _ (by omega) ⟨k+1,_,g7,c7,cur7,_,rfl,by omega,by rw[List.length_append,hB.out];rfl,(ZA rfl rfl zf0),Ho.out,hT.out,HT.out,HW.out⟩):P:=h
theorem qF {P:Prop} (h:P:=by
 obtain⟨hc,hl⟩:=hv.out.1.at (fun z3 he=>ha.bx z3 (List.mem_append_left _ (List.mem_cons_of_mem _ (hv.out.2 z3 he)))) Hf.out
 go_wp2
 exact⟨_,rfl,rfl,Zb.refl _ _,ha⟩):P:=h
theorem yy {P:Prop} (h:P:=by
 clear hm hb hF h4;go_wp2
 exact⟨_,rfl,⟨un,rfl,HU.out⟩,hr.out,⟨fun e=>(by omega),fun _=>hw.out,fun z3 he=>(hw.out.boxes z3 he).1⟩⟩):P:=h
theorem yF {P:Prop} (h:P:=by
 obtain⟨y3,hg,hi⟩:I7 (vs 11) w5:=by exact hk.2.1
 simp only[hg];clear hk;go_wp2
 exact⟨_,rfl,⟨y3,rfl,hi⟩,Zb.refl _ _,ha⟩):P:=h
theorem yQ {P:Prop} (h:P:=by
 have hN:=hid hi;clear ha hk hg hi;go_wp2
 exact⟨_,rfl,⟨_,y3,rfl,HeapIs.new _ _ _,h7,hN.out⟩,Zb.since hx,HP.out⟩):P:=h
theorem jT {P:Prop} (h:P:=by
 simp only[Hx];clear hk;go_wp2
 exact⟨_,rfl,⟨t,rfl,hH⟩,Zb.refl _ _,ha⟩):P:=h
theorem kz {P:Prop} (h:P:=by
 go_wp2
 exact⟨_,rfl,rfl,Zb.refl _ _,ha⟩):P:=h
section
variable {S : Nat→Prop} {w w':World} {v : Value} {xs:List Int} {bx:List Bx}
def I32 (v:Value) (w:World):Prop:=∃ z,v=.int .i32 z∧In32 z
theorem I32.stableT (S:Nat→Prop):Yw S I32:=fun _ _ _ h _=>h
def I7 (v:Value) (w:World):Prop:=∃ z:Int,v=.int .i64 z∧0≤z∧z<700
theorem I7.stableT (S:Nat→Prop):Yw S I7:=fun _ _ _ h _=>h
def ILt (n:Nat) (v:Value) (w:World):Prop:=∃ t:Nat,v=.int .i64 t∧t<n
theorem ILt.stableT (S:Nat→Prop) (n:Nat):Yw S (ILt n):=fun _ _ _ h _=>h
def PLt (g n:Nat) (v:Value) (w:World):Prop:=∃ t:Nat,v=.pointer (some ⟨g,t,none⟩)∧t<n
theorem PLt.stableT (S:Nat→Prop) (g n:Nat):Yw S (PLt g n):=fun _ _ _ h _=>h
def Pr7 (y:Int) (v:Value) (w:World):Prop:=∃ z:Int,v=.agg #[.int .i64 y,.int .i64 z]∧0≤z∧z<700
theorem Pr7.stableT (S:Nat→Prop) (y:Int):Yw S (Pr7 y):=fun _ _ _ h _=>h
def JD (S:Nat→Prop) (y:Int) (v:Value) (w:World):Prop:=∃ (q:Nat) (z:Int),v=.slice (some ⟨q,0,none⟩) 1 1∧HeapIs w q #[.int .i64 y,.int .i64 z] 141∧¬ S q∧0≤z∧z<700
theorem JD.stableT (S:Nat→Prop) (y:Int):Yw S (JD S y):=fun v w w' ⟨q,z,h1,h2,h3,h4⟩ t=>⟨q,z,h1,h2.turn t h3,h3,h4⟩
def Za3 (S:Nat→Prop) (v:Value) (w:World):Prop:=∃ z,Wf S z v w∧0≤z∧z<700
theorem Za3.stableT (S:Nat→Prop):Yw S (Za3 S):=fun v w w' ⟨z,h1,h2⟩ t=>⟨z,Wf.stableT S z v w w' h1 t,h2⟩
structure PhW (w0:World) (ex:List Bx) (mb bb tb:Nat) (sv:Value) (l:List Int) (n:Nat) (rows:List (Value × List Int)) (m:Zm) (pg k yn p:Nat) (w:World):Prop where
 zero:p=0→MSt w0 ex mb bb tb sv l n rows m w
 one:p=1→MSt w0 ex mb bb tb sv l n rows { m with at_:=m.at_+2 } w
 two:p=2→∃ m2,MSt w0 ex mb bb tb sv l n rows m2 w∧MvC m m2 2 1 1
 pc:w.cell? ⟨pg,k,none⟩=some (.int .i64 yn)
 pl:pg<w.heap.size
theorem BV.mem (h:BV v xs bx) {x : Bx} (hx:x∈bx):v.ownBlock=some x.q:=by
 rcases h with ⟨_,_,rfl⟩|⟨g,cap,cur,rfl,rfl,hc⟩
 ·cases hx
 ·rw[List.mem_singleton.1 hx];rfl
structure PhT (w0:World) (ex:List Bx) (mb bb tb:Nat) (sv:Value) (l:List Int) (n:Nat) (rows:List (Value × List Int)) (m:Zm) (p:Nat) (w:World):Prop where
 zero:p=0→MSt w0 ex mb bb tb sv l n rows m w
 one:p=1→MSt w0 ex mb bb tb sv l n rows { m with at_:=m.at_+1 } w
 bx:∀ x∈ex,HeapIs w x.q x.cs x.ty
theorem PhT.keep {w0:World} {ex:List Bx} {mb bb tb:Nat} {sv:Value} {l : List Int} {n : Nat} {rows:List (Value × List Int)} {m : Zm} {p : Nat} (h:PhT w0 ex mb bb tb sv l n rows m p w) (s:Since w w'):PhT w0 ex mb bb tb sv l n rows m p w':=
 ⟨fun e=>(h.zero e).keep s,fun e=>(h.one e).keep s,fun x hx=>(h.bx x hx).keep s⟩
theorem BV.at {g n c:Nat} (h:BV (.slice (some ⟨g,0,none⟩) n c) xs bx) (hb:∀ x∈bx,HeapIs w x.q x.cs x.ty) {j : Nat} {y : Int} (hj:xs[j]? = some y):w.cell? ⟨g,j,none⟩=some (.int .i64 y)∧g<w.heap.size:=by
 obtain⟨g2,c2,hv,h1,h2⟩:=h.cell hb hj;injection hv with e
 injection e with e
 injection e with e
 rw[←e]at h1 h2;exact⟨h1,h2⟩
end
theorem ZdO (w:World) (ex pbx:List Bx) (sa pa:Option Addr) (sl sc pc:Nat) (l ps:List Int) (rows:List (Value × List Int)) (m:Zm) (r mb bb n tb pb b i pl q cap c:Nat) (cur:Array Value) (ph:List Int) (x:Int) (a0:Act) (w1:World) (Q0:Exit→Act→World→Prop) (tm:Fr [(2,.pointer (some ⟨r,0,none⟩)),(3,.pointer (some ⟨mb,0,none⟩)),(4,.int .i64 n),(7,.slice (some ⟨pb,0,none⟩) n n),(25,.int .i64 b),(26,.slice pa pl pc),(27,.int .i64 i),(28,.slice (some ⟨q,0,none⟩) 0 cap),(29,.int .i64 0)] a0)
  (hI:MSt w ((⟨q,cur,141⟩:Bx)::ex) mb bb tb (.slice sa sl sc) l n rows m w1) (td:1≤n∧n≤9) (hE:∀ z∈ex,z.ty≠141) (tc:BV (.slice pa pl pc) ps pbx) (H4:∀ z∈pbx,z∈ex) (H6:ps.length=pl) (tA:pl≤9) (H9:∀ y∈ps,0≤y∧y<(n:Int)) (hn:OwnRow prcells 2 141 0 w1 (.slice (some ⟨q,0,none⟩) 0 cap) []) (Hc:Xo x ph n c m) (hc:c≤250)
  (hQ:∀ a1 w2 (q cap:Nat) (cur:Array Value) (prs:List (Int × Int)) (m:Zm),Fr [(2,.pointer (some ⟨r,0,none⟩)),(3,.pointer (some ⟨mb,0,none⟩)),(4,.int .i64 n),(7,.slice (some ⟨pb,0,none⟩) n n),(25,.int .i64 b),(26,.slice pa pl pc),(27,.int .i64 i),(28,.slice (some ⟨q,0,none⟩) pl cap)] a1→MSt w ((⟨q,cur,141⟩:Bx)::ex) mb bb tb (.slice sa sl sc) l n rows m w2→OwnRow prcells 2 141 0 w2 (.slice (some ⟨q,0,none⟩) pl cap) prs→prs.length=pl→(∀ y∈prs,(0≤y.1∧y.1<(n:Int))∧0≤y.2∧y.2<700)→Xo x ph n (c+pl) m→Q0 .normal a1 w2):Code.wp prog (mkCode [1,1,1,1,1,1,1,1,1,1,1,1,0,1,0,0,1,0,0,1,1,0,0,1,0,0,1,0,1]) Q0 a0 w1:=by
 obtain⟨u,He,hu⟩:=Zs tm;obtain⟨g1,g2,s2,s3,s4,s7,s25,s26,s27,s28,s29,g3⟩:=tm;have e2:=hu 2 _ s2;have e3:=hu 3 _ s3;have e4:=hu 4 _ s4;have e7:=hu 7 _ s7;have e25:=hu 25 _ s25;have e26:=hu 26 _ s26;have e27:=hu 27 _ s27;have e28:=hu 28 _ s28;have e29:=hu 29 _ s29;rw[e2,e3,e4,e7,e25,e26,e27,e28,e29]at He;subst He;clear hu g1 g2 g3 e2 s2 e3 s3 e4 s4 e7 s7 e25 s25 e26 s26 e27 s27 e28 s28 e29 s29
 conv=>arg 2;whnf
 have HQ:=hid hQ;have HE:=hid hE;have hv:=hid (And.intro tc H4);have HG:=hid (And.intro H6 H9);have hC:=hid hn;have hh:=hid Hc;clear hQ hE tc H4 H6 H9 hn Hc;go_wp2_with fail
 refine ZS (fun t ac wr=>∃ (k:Nat) (prs:List (Int × Int)) (q cap:Nat) (cur:Array Value) (m:Zm),t=pl-k∧k≤pl∧prs.length=k∧Fr [(2,.pointer (some ⟨r,0,none⟩)),(3,.pointer (some ⟨mb,0,none⟩)),(4,.int .i64 n),(7,.slice (some ⟨pb,0,none⟩) n n),(25,.int .i64 b),(26,.slice pa pl pc),(27,.int .i64 i),(28,.slice (some ⟨q,0,none⟩) k cap),(29,.int .i64 k)] ac∧MSt w ((⟨q,cur,141⟩:Bx)::ex) mb bb tb (.slice sa sl sc) l n rows m wr∧OwnRow prcells 2 141 0 wr (.slice (some ⟨q,0,none⟩) k cap) prs∧(∀ y∈prs,(0≤y.1∧y.1<(n:Int))∧0≤y.2∧y.2<700)∧Xo x ph n (c+k) m) pl ⟨0,[],q,cap,cur,m,rfl,Nat.zero_le _,rfl,(ZA rfl rfl zf0),hI,hC.out,(fun y hy=>by cases hy),hh.out⟩ ?_
 ·clear hI hC hh q cap cur m;intro t a1 wr K hJ hK;have ts:=hid hK;clear hK;obtain⟨k,prs,q,cap,cur,m,rfl,tD,H8,hf,hI,hn,Hs,Hc⟩:=hJ;obtain⟨u,He,hu⟩:=Zs hf;obtain⟨g1,g2,s2,s3,s4,s7,s25,s26,s27,s28,s29,g3⟩:=hf;have e2:=hu 2 _ s2;have e3:=hu 3 _ s3;have e4:=hu 4 _ s4;have e7:=hu 7 _ s7;have e25:=hu 25 _ s25;have e26:=hu 26 _ s26;have e27:=hu 27 _ s27;have e28:=hu 28 _ s28;have e29:=hu 29 _ s29;rw[e2,e3,e4,e7,e25,e26,e27,e28,e29]at He;subst He;clear hu g1 g2 g3 e2 s2 e3 s3 e4 s4 e7 s7 e25 s25 e26 s26 e27 s27 e28 s28 e29 s29;have Hu:=hid hI;have hC:=hid hn;have HV:=hid Hs;have hh:=hid Hc;have hB:=hid H8;clear hn Hs Hc H8;by_cases tx:k<pl
  ·obtain⟨y,hy⟩:∃ y,ps[k]? = some y:=⟨_,List.getElem?_eq_getElem (by rw[HG.out.1];exact tx)⟩
   obtain⟨pg,pc2,H5,ta,Hy⟩:=hv.out.1.cell (fun z hz=>(hI.boxes z (List.mem_cons_of_mem _ (hv.out.2 z hz))).1) hy
   rw[HG.out.1]at H5;injection H5 with e1 e2 e3
   subst e1;subst e3;have HY:=hid (HG.out.2 y (List.mem_of_getElem? hy));obtain⟨yn,tw⟩:=Int.eq_ofNat_of_zero_le HY.out.1;subst tw;have Hf:=hid hy;have HK:=hid (And.intro ta Hy);obtain⟨pp,H7⟩:∃ z,m.params=z:=⟨_,rfl⟩
   have HI:=hid H7;clear hI hy ta Hy H7;go_wp2_with fail
   refine Zh 8 rfl zaC zaC zaC zaJ
    [Is (.pointer (some ⟨mb,0,none⟩)),Is (.pointer (some ⟨mb,0,none⟩)),Is (.pointer (some ⟨mb,2,none⟩)),Is (.agg #[.int .i64 pp,.slice (some ⟨bb,0,none⟩) n n]),Is (.slice (some ⟨pg,0,none⟩) pl pc),Is (.int .i64 k),Is (.pointer (some ⟨pg,k,none⟩)),Is (.int .i64 yn)]
    kP ⟨?_,?_,?_,?_,?_,?_,?_,?_,trivial⟩ ?_
   rotate_right
   ·intro vs w2 hs hk;revert hk;refine zs0 ?_;intro hk
    have hp:=hid (Hu.out.keep hs);have tv:=hid (OwnRow.keep hC.out hs);clear hs hk;go_wp2_with fail
    refine (Zas 700 pp m.bks (.slice (some ⟨bb,0,none⟩) n n) w2 (by rw[←HI.out];exact hp.out.fn) (hh.out.few hp.out.len td.2 zaK hp.out.ok.good.ins) (by rw[hp.out.len];exact td) (by rw[←HI.out];have:=hp.out.ok.good.params;have:=hh.out.next;omega) (yn:Int) (by rw[hp.out.len];exact HY.out)).mono ?_;rintro e w3 ⟨lv,ls,rfl,hn,h6,th,ti⟩;obtain⟨la,lc,tf⟩:=Ze hn;obtain⟨ll,hS⟩:∃ z,ls.length=z:=⟨_,rfl⟩
    obtain⟨lbx,tj,HA⟩:=Zcd hn;rw[hS]at tf;subst tf;have Hh:=hid hS;have Hi:=hid tj;have tr:=hid ti;have tq:=hid hn;have tn:=hid h6.size;have HR:=hid (OwnRow.keep tv.out h6);have Hp:=zH (∀ z∈(⟨q,cur,141⟩:Bx)::ex,z.q<w2.heap.size) (fun z hz=>(hp.out.boxes z hz).1.lt)
    have ho:=hid (hp.out.beside (ex':=((⟨q,cur,141⟩:Bx)::ex)++lbx) (T:=fun _=>False) (Zb.since h6) (fun q _ e=>e.elim) fun z hz=>by
     rcases List.mem_append.1 hz with hz|hz
     ·exact⟨(hp.out.boxes z hz).1.keep h6,.inl ⟨z,hz,rfl⟩⟩
     ·exact⟨(HA z hz).1.1,.inr (HA z hz).1.2⟩)
    obtain⟨wb,H1⟩:∃ z,z=w2.heap.size:=⟨_,rfl⟩
    rw[←H1]at tq tn Hp;have tz:ll≤500000:=by rw[←hS];exact th
    clear hn h6 th ti tj HA hS hp H1 Hu hC;by_cases hz:ll=0
    ·subst hz;have Hj:=zH (∀ q2,Own mb (.slice (some ⟨bb,0,none⟩) n n) m q2→q2<w3.heap.size) (fun q2 h2=>ho.out.ok.ltOwnC (.inl h2))
     have HJ:=zH (w3.drew.cell? ⟨pg,k,none⟩=some (.int .i64 yn)∧pg<w3.drew.heap.size) (hv.out.1.at (fun z hz=>(((ho.out.keep (Since.refl _).drew).boxes z (List.mem_append_left _ (List.mem_cons_of_mem _ (hv.out.2 z hz)))).1)) Hf.out)
     go_wp2_with fail
     refine XH 10 [7,8] [0,0,0,0,0,0,0,0,1,2] [2,1,1,1,1,1,0,0,1,2] [0,0,0,0,0,0,0,1,1,0] (fun q2=>Own mb (.slice (some ⟨bb,0,none⟩) n n) m q2) (fun p w4=>PhW w ((⟨q,cur,141⟩::ex)++lbx) mb bb tb (.slice sa sl sc) l n rows m pg k yn p w4) rfl zaC zaC zaC zaJ zaC
      [Is (.slice la 0 lc),Is (.pointer (some ⟨mb,0,none⟩)),Is (.slice (some ⟨pg,0,none⟩) pl pc),Is (.int .i64 k),Is (.pointer (some ⟨pg,k,none⟩)),Is (.int .i64 yn),Is (.pointer (some ⟨mb,0,none⟩)),I32,I7,Za3 (fun q2=>Own mb (.slice (some ⟨bb,0,none⟩) n n) m q2)]
      (by repeat (first | exact trivial | refine⟨Is.stableT _ _,?_⟩ | refine⟨I32.stableT _,?_⟩ | refine⟨I7.stableT _,?_⟩ | refine⟨Za3.stableT _,?_⟩)) ⟨fun _=>ho.out.keep (Since.refl _).drew,fun e=>(by cases e),fun e=>(by cases e),HJ.out.1,HJ.out.2⟩ ⟨?_,?_,?_,?_,?_,?_,?_,?_,?_,?_,trivial⟩ ?_
     rotate_right
     ·intro vs w5 ht ha hk;revert hk;refine zs0 ?_;intro hk
      obtain⟨z,hz,hX⟩:Za3 (fun q2=>Own mb (.slice (some ⟨bb,0,none⟩) n n) m q2) (vs 9) w5:=by exact hk.2.2.2.2.2.2.2.2.2.1
      have H0:=hz.nums;obtain⟨m2,Ha,hL⟩:=ha.two rfl;have HM:=hid Ha;have hP:=hid hL;have tp:=hid H0;have Ht:=hid hX;have hW:=hid (Zg tq.out ht fun q2 hj e=>(ho.out.ok.aside q2 (by obtain⟨x2,hZ,e2⟩:=Hi.out.own hj;exact⟨x2,List.mem_append_right _ hZ,e2⟩)).2 e)
      have hD:=zH (OwnRow prcells 2 141 0 w5 (.slice (some ⟨q,0,none⟩) k cap) prs) (Zg HR.out ht fun q2 hj e=>(ho.out.ok.aside q2 ⟨_,List.mem_append_left _ List.mem_cons_self,Option.some.inj hj⟩).2 e)
      have HF:=zH (wb≤w5.heap.size) (by have:=tn.out;have:=ht.size;omega);generalize vs 9=xv at *;clear hk ha ht hz H0 Ha hL hX;go_wp2_with (refine Zl (base:=wb) .i64 rfl _ _ 22 rfl 3 (.int .i64 0) 8 underlying22 Tryz.info3 rfl zaJ (.slice la 0 lc) xv ls [z] rfl rfl (by have h9:=hW.out;exact h9) tp.out (by rw[Hh.out];simp) HF.out ?_;intro v6 w6 Hq H3 Hr;have hU:=hid Hq;have hr:=hid H3;have Hv:=hid Hr;clear Hq H3 Hr)
      obtain⟨a6,c6,H2⟩:=Ze hU.out;rw[show (ls++[z]).length=1 from by rw[List.length_append,Hh.out];rfl]at H2
      subst H2;obtain⟨lbz,Hn,Hz⟩:=Zcd hU.out;have hO:=hid (HM.out.beside (ex':=((⟨q,cur,141⟩:Bx)::ex)++lbz) hr.out (fun q2 _ hj=>by obtain⟨x2,hZ,e2⟩:=Hi.out.own hj;exact⟨x2,List.mem_append_right _ hZ,e2⟩) fun z2 hd=>by
       rcases List.mem_append.1 hd with hd|hd
       ·exact⟨(HM.out.boxes z2 (List.mem_append_left _ hd)).1.turn hr.out (fun e=>by have h1:=Hp.out z2 hd;have h2:=(World.ownsRow.lt hW.out _ e).1;omega),.inl ⟨z2,List.mem_append_left _ hd,rfl⟩⟩
       ·refine⟨(Hz z2 hd).1.1,?_⟩;rcases Hv.out z2.q (Hn.mem hd) with h|h
        ·obtain⟨x2,hZ,e2⟩:=Hi.out.own h;exact .inl ⟨x2,List.mem_append_right _ hZ,e2⟩
        ·exact .inr h)
      have tu:=zH (OwnRow prcells 2 141 0 w6 (.slice (some ⟨q,0,none⟩) k cap) prs) (Zg hD.out hr.out fun q2 hj e=>by have h1:=Hp.out (⟨q,cur,141⟩:Bx) List.mem_cons_self;have h2:=(World.ownsRow.lt hW.out _ e).1;have h3:q=q2:=Option.some.inj hj;dsimp only at h1;omega)
      have HO:=hid Hn;have HN:=zH ((ls++[z]).length=1) (by rw[List.length_append,Hh.out];rfl);have tt:=hid (show ∀ y∈ls++[z],0≤y∧y<700 from fun y hy=>by
       rcases List.mem_append.1 hy with hy|hy
       ·exact tr.out y hy
       ·rw[List.mem_singleton.1 hy];exact Ht.out)
      clear Hn Hz hU hr Hv tp hW hD HF HM Ht;obtain⟨y0,hY⟩:∃ y0,(ls++[z])[0]? = some y0:=⟨_,List.getElem?_eq_getElem zat⟩
      obtain⟨lg,lc2,Hm,_,_⟩:=HO.out.cell (fun z2 hd=>(hO.out.boxes z2 (List.mem_append_right _ hd)).1) hY
      injection Hm with e1 e2 e3
      subst e1;clear e2 e3 hY;have Hj:=zH (∀ q2,Own mb (.slice (some ⟨bb,0,none⟩) n n) m2 q2→q2<w6.heap.size) (fun q2 h2=>hO.out.ok.ltOwnC (.inl h2))
      refine XH 14 [9] [0,0,0,0,0,0,0,0,0,0,1,1,1,1] [1,1,1,1,1,1,0,0,0,0,1,1,1,1] [0,0,0,0,0,0,0,0,0,1,0,0,0,0] (fun q2=>Own mb (.slice (some ⟨bb,0,none⟩) n n) m2 q2) (fun p w4=>PhT w ((⟨q,cur,141⟩::ex)++lbz) mb bb tb (.slice sa sl sc) l n rows m2 p w4) rfl zaC zaC zaC zaJ zaC
       [Is (.slice (some ⟨q,0,none⟩) k cap),Is (.slice (some ⟨pg,0,none⟩) pl pc),Is (.int .i64 k),Is (.pointer (some ⟨pg,k,none⟩)),Is (.int .i64 yn),Is (.slice (some ⟨lg,0,none⟩) 1 c6),Is (.pointer (some ⟨mb,0,none⟩)),Is (.slice (some ⟨lg,0,none⟩) 1 c6),Is (.int .i64 (1:Nat)),ILt 1,PLt lg 1,I7,Pr7 yn,JD (fun q2=>Own mb (.slice (some ⟨bb,0,none⟩) n n) m2 q2) yn]
       (by repeat (first | exact trivial | refine⟨Is.stableT _ _,?_⟩ | refine⟨ILt.stableT _ _,?_⟩ | refine⟨PLt.stableT _ _ _,?_⟩ | refine⟨I7.stableT _,?_⟩ | refine⟨Pr7.stableT _ _,?_⟩ | refine⟨JD.stableT _ _,?_⟩)) ⟨fun _=>hO.out.keep (Since.refl _).drew,fun e=>(by cases e),fun z3 he=>((hO.out.keep (Since.refl _).drew).boxes z3 he).1⟩ ⟨?_,?_,?_,?_,?_,?_,?_,?_,?_,?_,?_,?_,?_,?_,trivial⟩ ?_
      rotate_right
      ·intro vs w5 ht ha hk;revert hk;refine zs0 ?_;intro hk
       obtain⟨qn,y3,hG,hM,hR,hi⟩:JD (fun q2=>Own mb (.slice (some ⟨bb,0,none⟩) n n) m2 q2) yn (vs 13) w5:=by exact hk.2.2.2.2.2.2.2.2.2.2.2.2.2.1
       simp only[hG];have HM:=hid (ha.one rfl);have hD:=zH (OwnRow prcells 2 141 0 w5 (.slice (some ⟨q,0,none⟩) k cap) prs) (Zg tu.out ht fun q2 hj e=>(hO.out.ok.aside q2 ⟨_,List.mem_append_left _ List.mem_cons_self,Option.some.inj hj⟩).2 e)
       have HH:=hid hM;have hN:=hid hi;clear hk ha ht hG hM hR hi;go_wp2_with (refine ZC (base:=0) prcells 2 Y2 zaJ rfl _ _ 136 rfl 141 (.agg #[.int .i64 0,.int .i64 0]) 16 underlying136 zaF rfl (.slice (some ⟨q,0,none⟩) k cap) prs ((yn:Int),y3) qn 1 141 rfl rfl hD.out HH.out (by intro u hu;simp only[prcells,List.mem_cons,List.not_mem_nil,or_false]at hu;rcases hu with rfl | rfl<;>rfl) (by rw[hB.out];unfold maxLen;omega) (by rw[hB.out];omega) (Nat.zero_le _) ?_;intro v7 w7 hq h5 hA;obtain⟨g7,c7,cur7,h0,Hb,_⟩:=Wn Y2 hq zaL;rw[show (prs++[((yn:Int),y3)]).length=k+1 from by rw[List.length_append,hB.out];rfl]at h0;subst h0;have hT:=hid hq;have Hg:=hid h5;have hV:=hid hA;have HS:=hid Hb;clear hq h5 hA Hb)
       have HX:=hid (HM.out.boxes (⟨q,cur,141⟩:Bx) (List.mem_append_left _ List.mem_cons_self)).1;have Ho:=hid (HM.out.beside (ex':=(⟨g7,cur7,141⟩:Bx)::ex) Hg.out (fun q2 _ hj=>⟨_,List.mem_append_left _ List.mem_cons_self,Option.some.inj hj⟩) fun z2 hd=>by
        rcases List.mem_cons.1 hd with rfl|hd
        ·refine⟨HS.out,?_⟩;rcases hV.out g7 rfl with h|h
         ·exact .inl ⟨_,List.mem_append_left _ List.mem_cons_self,Option.some.inj h⟩
         ·exact .inr h
        ·have he:=HM.out.boxes z2 (List.mem_append_left _ (List.mem_cons_of_mem _ hd));exact⟨he.1.turn Hg.out fun e=>Yq he.1 HX.out (HE.out z2 hd) (Option.some.inj e).symm,.inl ⟨z2,List.mem_append_left _ (List.mem_cons_of_mem _ hd),rfl⟩⟩)
       have HW:=hid (hh.out.mv (d:=1) (hP.out.trans (show MvC m2 { m2 with at_:=m2.at_+1 } 1 0 0 from⟨Nat.le_refl _,⟨Int.le_refl _,Int.le_of_eq (Int.add_zero _).symm⟩,Nat.le_refl _,Nat.le_refl _,rfl,rfl⟩)) zaK zaK zaK);exact zB
      all_goals
       intro p vs w5 tg tl ht ha hk;revert hk;refine zs1 ?_;intro hk
      iterate 4
       ·exact kz
      ·exact qF
      iterate 4
       ·exact kz
      ·obtain rfl:p=0:=zaK
       have HM:=hid (ha.zero rfl);clear ha hk ht;go_wp2_with fail
       refine (ZF HM.out.ok (1:Nat) zaK (by have h1:=hh.out.at_;have h2:=hP.out.at_;omega)).mono ?_;rintro e w6 ⟨m6,⟨u,rfl,⟨hF,h4⟩,h8⟩,hm,hb⟩;have hr:=hid hb.turn;have hw:=hid (HM.out.mv hm hb);subst h8;obtain⟨un,rfl⟩:=Int.eq_ofNat_of_zero_le hF;have HU:=zH (un<1) zaK;exact yy
      ·obtain⟨t,Hx,hH⟩:ILt 1 (vs 9) w5:=by exact hk.2.1
       exact jT
      ·obtain⟨t,Hl,hH⟩:PLt lg 1 (vs 10) w5:=by exact hk.1
       simp only[Hl];obtain⟨y3,hg⟩:∃ y3,(ls++[z])[t]? = some y3:=⟨_,List.getElem?_eq_getElem (by rw[HN.out];exact hH)⟩
       obtain⟨hc,hl⟩:=HO.out.at (fun z3 he=>ha.bx z3 (List.mem_append_right _ he)) hg
       have HD:=hid (tt.out y3 (List.mem_of_getElem? hg));clear hk hg;go_wp2
       exact⟨_,rfl,⟨y3,rfl,HD.out⟩,Zb.refl _ _,ha⟩
      ·exact yF
      ·obtain⟨y3,hg,hi⟩:Pr7 yn (vs 12) w5:=by exact hk.1
       simp only[hg];have hx:=(Since.refl w5).alloc (.cells #[.int .i64 yn,.int .i64 y3] 141);have HP:=hid (ha.keep hx);have h7:¬ (fun q2=>Own mb (.slice (some ⟨bb,0,none⟩) n n) m2 q2) w5.heap.size:=fun e=>by have:=Hj.out _ e;have:=ht.size;omega
       exact yQ
     all_goals
      intro p vs w5 tg tl ht ha hk;revert hk;refine zs1 ?_;intro hk
     iterate 5
      ·exact kz
     ·have hc:=ha.pc;have hl:=ha.pl;exact kz
     ·exact kz
     ·obtain rfl:p=0:=zaK
      have HM:=hid (ha.zero rfl);clear ha hk ht;go_wp2_with fail
      refine (Wh HM.out.ok (by have:=hh.out.at_;omega)).mono ?_;rintro e w6 ⟨m6,⟨z,rfl,hz,h8⟩,hm,hb⟩;have hr:=hid hb.turn;have hw:=hid (HM.out.mv hm hb);have Hk:=zH (w6.cell? ⟨pg,k,none⟩=some (.int .i64 yn)∧pg<w6.heap.size) (hv.out.1.at (fun z hz=>(hw.out.boxes z (List.mem_append_left _ (List.mem_cons_of_mem _ (hv.out.2 z hz)))).1) Hf.out)
      subst h8;have HZ:=hid hz;clear hm hb hz;go_wp2
      exact⟨_,rfl,⟨z,rfl,HZ.out⟩,hr.out,⟨fun e=>zaK,fun _=>hw.out,fun e=>zaK,Hk.out.1,Hk.out.2⟩⟩
     ·obtain rfl:p=1:=zaK
      obtain⟨z,hz,Hw⟩:I32 (vs 7) w5:=by exact hk.2.2.1
      simp only[hz];have HM:=hid (ha.one rfl);have HZ:=hid Hw;clear ha hk ht hz Hw;go_wp2_with fail
      refine (Yv HM.out.ok (by have:=hh.out.at_;have:=hh.out.next;have:=hh.out.total;have:=hh.out.live;exact⟨by show m.at_+2≤_;omega,by show m.next≤_;omega,by show m.total≤_;omega,by show m.live.length≤_;omega⟩) yn (by rw[HM.out.len];have:=HY.out;omega) z HZ.out).mono ?_;rintro e w6 ⟨m6,⟨u,rfl,hF,h4⟩,hm,hb⟩;have hr:=hid hb.turn;have hw:=hid (HM.out.mv hm hb);have HL:=zH (MvC m m6 2 1 1) ⟨by have:=hb.at_;exact this,hb.next,hb.total,hb.live,hb.same⟩;have HU:=zH (0≤u∧u<700) ⟨hF,by have:=hh.out.next;have:=HL.out.next.2;omega⟩;have Hk:=zH (w6.cell? ⟨pg,k,none⟩=some (.int .i64 yn)∧pg<w6.heap.size) (hv.out.1.at (fun z hz=>(hw.out.boxes z (List.mem_append_left _ (List.mem_cons_of_mem _ (hv.out.2 z hz)))).1) Hf.out)
      clear hm hb hF h4;go_wp2
      exact⟨_,rfl,⟨u,rfl,HU.out⟩,hr.out,⟨fun e=>zaK,fun e=>zaK,fun _=>⟨m6,hw.out,HL.out⟩,Hk.out.1,Hk.out.2⟩⟩
     ·obtain rfl:p=2:=zaK
      obtain⟨z,hz,hX⟩:I7 (vs 8) w5:=by exact hk.1
      simp only[hz];obtain⟨m2,Ha,hL⟩:=ha.two rfl;have hx:=(Since.refl w5).alloc (.cells #[.int .i64 z] 3);have HM:=hid (Ha.keep hx);have hP:=hid hL;have HC:=hid (And.intro ((hx.cell (p:=⟨pg,k,none⟩) ha.pl).trans ha.pc) (Nat.lt_of_lt_of_le ha.pl hx.size));have h7:¬ (fun q2=>Own mb (.slice (some ⟨bb,0,none⟩) n n) m q2) w5.heap.size:=fun e=>by have:=Hj.out _ e;have:=ht.size;omega
      have Ht:=hid hX;clear ha hk hz Ha hL hX;go_wp2
      exact⟨_,rfl,⟨z,Wf.new z h7,Ht.out⟩,Zb.since hx,⟨fun e=>zaK,fun e=>zaK,fun _=>⟨m2,HM.out,hP.out⟩,HC.out.1,HC.out.2⟩⟩
    ·have tB:((ll:Int)==0)=false:=by simp;omega
     have hP:=zH (MvC m m 2 1 1) ((MvC.refl m).more zaK zaK zaK);go_wp2_with fail
     obtain⟨y0,hY⟩:∃ y0,(ls)[0]? = some y0:=⟨_,List.getElem?_eq_getElem (by rw[Hh.out];omega)⟩
     obtain⟨lg,lc2,Hm,_,_⟩:=Hi.out.cell (fun z2 hd=>(ho.out.boxes z2 (List.mem_append_right _ hd)).1) hY
     injection Hm with e1 e2 e3
     subst e1;clear e2 e3 hY;have Hj:=zH (∀ q2,Own mb (.slice (some ⟨bb,0,none⟩) n n) m q2→q2<w3.heap.size) (fun q2 h2=>ho.out.ok.ltOwnC (.inl h2))
     refine XH 14 [9] [0,0,0,0,0,0,0,0,0,0,1,1,1,1] [1,1,1,1,1,1,0,0,0,0,1,1,1,1] [0,0,0,0,0,0,0,0,0,1,0,0,0,0] (fun q2=>Own mb (.slice (some ⟨bb,0,none⟩) n n) m q2) (fun p w4=>PhT w ((⟨q,cur,141⟩::ex)++lbx) mb bb tb (.slice sa sl sc) l n rows m p w4) rfl zaC zaC zaC zaJ zaC
      [Is (.slice (some ⟨q,0,none⟩) k cap),Is (.slice (some ⟨pg,0,none⟩) pl pc),Is (.int .i64 k),Is (.pointer (some ⟨pg,k,none⟩)),Is (.int .i64 yn),Is (.slice (some ⟨lg,0,none⟩) ll lc),Is (.pointer (some ⟨mb,0,none⟩)),Is (.slice (some ⟨lg,0,none⟩) ll lc),Is (.int .i64 (ll:Nat)),ILt ll,PLt lg ll,I7,Pr7 yn,JD (fun q2=>Own mb (.slice (some ⟨bb,0,none⟩) n n) m q2) yn]
      (by repeat (first | exact trivial | refine⟨Is.stableT _ _,?_⟩ | refine⟨ILt.stableT _ _,?_⟩ | refine⟨PLt.stableT _ _ _,?_⟩ | refine⟨I7.stableT _,?_⟩ | refine⟨Pr7.stableT _ _,?_⟩ | refine⟨JD.stableT _ _,?_⟩)) ⟨fun _=>ho.out.keep (Since.refl _).drew,fun e=>(by cases e),fun z3 he=>((ho.out.keep (Since.refl _).drew).boxes z3 he).1⟩ ⟨?_,?_,?_,?_,?_,?_,?_,?_,?_,?_,?_,?_,?_,?_,trivial⟩ ?_
     rotate_right
     ·intro vs w5 ht ha hk;revert hk;refine zs0 ?_;intro hk
      obtain⟨qn,y3,hG,hM,hR,hi⟩:JD (fun q2=>Own mb (.slice (some ⟨bb,0,none⟩) n n) m q2) yn (vs 13) w5:=by exact hk.2.2.2.2.2.2.2.2.2.2.2.2.2.1
      simp only[hG];have HM:=hid (ha.one rfl);have hD:=zH (OwnRow prcells 2 141 0 w5 (.slice (some ⟨q,0,none⟩) k cap) prs) (Zg HR.out ht fun q2 hj e=>(ho.out.ok.aside q2 ⟨_,List.mem_append_left _ List.mem_cons_self,Option.some.inj hj⟩).2 e)
      have HH:=hid hM;have hN:=hid hi;clear hk ha ht hG hM hR hi;go_wp2_with (refine ZC (base:=0) prcells 2 Y2 zaJ rfl _ _ 136 rfl 141 (.agg #[.int .i64 0,.int .i64 0]) 16 underlying136 zaF rfl (.slice (some ⟨q,0,none⟩) k cap) prs ((yn:Int),y3) qn 1 141 rfl rfl hD.out HH.out (by intro u hu;simp only[prcells,List.mem_cons,List.not_mem_nil,or_false]at hu;rcases hu with rfl | rfl<;>rfl) (by rw[hB.out];unfold maxLen;omega) (by rw[hB.out];omega) (Nat.zero_le _) ?_;intro v7 w7 hq h5 hA;obtain⟨g7,c7,cur7,h0,Hb,_⟩:=Wn Y2 hq zaL;rw[show (prs++[((yn:Int),y3)]).length=k+1 from by rw[List.length_append,hB.out];rfl]at h0;subst h0;have hT:=hid hq;have Hg:=hid h5;have hV:=hid hA;have HS:=hid Hb;clear hq h5 hA Hb)
      have HX:=hid (HM.out.boxes (⟨q,cur,141⟩:Bx) (List.mem_append_left _ List.mem_cons_self)).1;have Ho:=hid (HM.out.beside (ex':=(⟨g7,cur7,141⟩:Bx)::ex) Hg.out (fun q2 _ hj=>⟨_,List.mem_append_left _ List.mem_cons_self,Option.some.inj hj⟩) fun z2 hd=>by
       rcases List.mem_cons.1 hd with rfl|hd
       ·refine⟨HS.out,?_⟩;rcases hV.out g7 rfl with h|h
        ·exact .inl ⟨_,List.mem_append_left _ List.mem_cons_self,Option.some.inj h⟩
        ·exact .inr h
       ·have he:=HM.out.boxes z2 (List.mem_append_left _ (List.mem_cons_of_mem _ hd));exact⟨he.1.turn Hg.out fun e=>Yq he.1 HX.out (HE.out z2 hd) (Option.some.inj e).symm,.inl ⟨z2,List.mem_append_left _ (List.mem_cons_of_mem _ hd),rfl⟩⟩)
      have HW:=hid (hh.out.mv (d:=1) (hP.out.trans (show MvC m { m with at_:=m.at_+1 } 1 0 0 from⟨Nat.le_refl _,⟨Int.le_refl _,Int.le_of_eq (Int.add_zero _).symm⟩,Nat.le_refl _,Nat.le_refl _,rfl,rfl⟩)) zaK zaK zaK);exact zB
     all_goals
      intro p vs w5 tg tl ht ha hk;revert hk;refine zs1 ?_;intro hk
     iterate 4
      ·exact kz
     ·exact qF
     iterate 4
      ·exact kz
     ·obtain rfl:p=0:=zaK
      have HM:=hid (ha.zero rfl);clear ha hk ht;go_wp2_with fail
      refine (ZF HM.out.ok (ll:Nat) zaK (by have h1:=hh.out.at_;have h2:=hP.out.at_;omega)).mono ?_;rintro e w6 ⟨m6,⟨u,rfl,⟨hF,h4⟩,h8⟩,hm,hb⟩;have hr:=hid hb.turn;have hw:=hid (HM.out.mv hm hb);subst h8;obtain⟨un,rfl⟩:=Int.eq_ofNat_of_zero_le hF;have HU:=zH (un<ll) zaK;exact yy
     ·obtain⟨t,Hx,hH⟩:ILt ll (vs 9) w5:=by exact hk.2.1
      exact jT
     ·obtain⟨t,Hl,hH⟩:PLt lg ll (vs 10) w5:=by exact hk.1
      simp only[Hl];obtain⟨y3,hg⟩:∃ y3,(ls)[t]? = some y3:=⟨_,List.getElem?_eq_getElem (by rw[Hh.out];exact hH)⟩
      obtain⟨hc,hl⟩:=Hi.out.at (fun z3 he=>ha.bx z3 (List.mem_append_right _ he)) hg
      have HD:=hid (tr.out y3 (List.mem_of_getElem? hg));clear hk hg;go_wp2
      exact⟨_,rfl,⟨y3,rfl,HD.out⟩,Zb.refl _ _,ha⟩
     ·exact yF
     ·obtain⟨y3,hg,hi⟩:Pr7 yn (vs 12) w5:=by exact hk.1
      simp only[hg];have hx:=(Since.refl w5).alloc (.cells #[.int .i64 yn,.int .i64 y3] 141);have HP:=hid (ha.keep hx);have h7:¬ (fun q2=>Own mb (.slice (some ⟨bb,0,none⟩) n n) m q2) w5.heap.size:=fun e=>by have:=Hj.out _ e;have:=ht.size;omega
      exact yQ
   all_goals
    intro vs w2 hs hk _;revert hk;refine zs1 ?_;intro hk
   iterate 2
    ·exact kH
    ·have HB:=(Hu.out.keep hs).box;have tF:w2.cell? ⟨mb,2,none⟩=some (.int .i64 pp):=by rw[←HI.out];exact HB.cell 2
     have tE:=HB.cell 3;have tC:=HB.lt;exact kH
   iterate 3
    ·exact kH
   ·have hc:=(hs.cell (p:=⟨pg,k,none⟩) HK.out.2).trans HK.out.1;have hl:=Nat.lt_of_lt_of_le HK.out.2 hs.size;exact kH
  ·obtain rfl:pl=k:=zaK
   clear hI;go_wp2_with fail
   exact HQ.out _ _ _ _ _ _ _ (ZA rfl rfl zf0) Hu.out hC.out hB.out HV.out hh.out
theorem Zet (w:World) (ex pbx:List Bx) (sa pa:Option Addr) (sl sc pc:Nat) (l ps:List Int) (rows:List (Value × List Int)) (m:Zm) (r mb bb n tb pb b pl vn c:Nat) (ph:List Int) (x:Int) (a0:Act) (w1:World) (Q0:Exit→Act→World→Prop) (hL:Fr [(2,.pointer (some ⟨r,0,none⟩)),(3,.pointer (some ⟨mb,0,none⟩)),(4,.int .i64 n),(7,.slice (some ⟨pb,0,none⟩) n n),(25,.int .i64 b),(26,.slice pa pl pc),(27,.int .i64 0)] a0)
  (hg:MSt w ex mb bb tb (.slice sa sl sc) l n rows m w1) (hU:1≤n∧n≤9) (hb:b<n) (hE:∀ z∈ex,z.ty≠141) (hH:BV (.slice pa pl pc) ps pbx) (hC:∀ z∈pbx,z∈ex) (hF:ps.length=pl) (hv:pl≤9) (hG:∀ y∈ps,0≤y∧y<(n:Int)) (hw:bxP pb ph∈ex) (hD:ph[b]? = some (vn:Int)) (hY:vn≤3) (hh:Xo x ph n c m) (hc:c≤216)
  (hQ:∀ a1 w2 (m:Zm),Fr [(2,.pointer (some ⟨r,0,none⟩)),(3,.pointer (some ⟨mb,0,none⟩)),(4,.int .i64 n),(7,.slice (some ⟨pb,0,none⟩) n n),(25,.int .i64 b),(26,.slice pa pl pc)] a1→MSt w ex mb bb tb (.slice sa sl sc) l n rows m w2→Xo x ph n (c+pl*vn) m→Q0 .normal a1 w2):Code.wp prog (mkCode [1,1,1,1,1,1,1,1,1,1,1,1,0,1,0,0,1,0,0,1,1]) Q0 a0 w1:=by
 obtain⟨u,hd,hu⟩:=Zs hL;obtain⟨g1,g2,s2,s3,s4,s7,s25,s26,s27,g3⟩:=hL;have e2:=hu 2 _ s2;have e3:=hu 3 _ s3;have e4:=hu 4 _ s4;have e7:=hu 7 _ s7;have e25:=hu 25 _ s25;have e26:=hu 26 _ s26;have e27:=hu 27 _ s27;rw[e2,e3,e4,e7,e25,e26,e27]at hd;subst hd;clear hu g1 g2 g3 e2 s2 e3 s3 e4 s4 e7 s7 e25 s25 e26 s26 e27 s27
 conv=>arg 2;whnf
 have HQ:=hid hQ;have HE:=hid hE;have hN:=hid (And.intro hH hC);have hM:=hid (And.intro hF hG);have hi:=hid hh;have ht:=hid (And.intro hw hD);clear hQ hE hH hC hF hG hh hw hD;go_wp2_with fail
 refine ZS (fun t ac wr=>∃ (i:Nat) (m:Zm),t=vn-i∧i≤vn∧Fr [(2,.pointer (some ⟨r,0,none⟩)),(3,.pointer (some ⟨mb,0,none⟩)),(4,.int .i64 n),(7,.slice (some ⟨pb,0,none⟩) n n),(25,.int .i64 b),(26,.slice pa pl pc),(27,.int .i64 i)] ac∧MSt w ex mb bb tb (.slice sa sl sc) l n rows m wr∧Xo x ph n (c+pl*i) m) vn ⟨0,m,rfl,Nat.zero_le _,(ZA rfl rfl zf0),hg,hi.out⟩ ?_
 ·clear hg hi m;intro t a1 wr K hJ hK;have hW:=hid hK;clear hK;obtain⟨i,m,rfl,h3,hf,hg,hh⟩:=hJ;obtain⟨u,hd,hu⟩:=Zs hf;obtain⟨g1,g2,s2,s3,s4,s7,s25,s26,s27,g3⟩:=hf;have e2:=hu 2 _ s2;have e3:=hu 3 _ s3;have e4:=hu 4 _ s4;have e7:=hu 7 _ s7;have e25:=hu 25 _ s25;have e26:=hu 26 _ s26;have e27:=hu 27 _ s27;rw[e2,e3,e4,e7,e25,e26,e27]at hd;subst hd;clear hu g1 g2 g3 e2 s2 e3 s3 e4 s4 e7 s7 e25 s25 e26 s26 e27 s27;have hB:=hid hg;have hi:=hid hh;have ho:=(hg.boxes _ ht.out.1).1.cell b;rw[show (bxP pb ph).cs=(ph.map (Value.int .i64)).toArray from rfl,List.getElem?_toArray,List.getElem?_map,ht.out.2]at ho
  replace ho:wr.cell? ⟨pb,b,none⟩=some (.int .i64 vn):=ho
  have hT:pb<wr.heap.size:=(hg.boxes _ ht.out.1).1.lt;clear hg hh;by_cases h0:i<vn
  ·have hZ:pl*i≤18:=Nat.mul_le_mul hv (show i≤2 by omega);go_upto_block 28 with fail
   refine ZdO w ex pbx sa pa sl sc pc l ps rows m r mb bb n tb pb b i pl wr.heap.size 0 (c+pl*i) #[] ph x _ _ _ (ZA rfl rfl zf0) (hB.out.beside (T:=fun _=>False) (Zb.since ((Since.refl _).alloc _)) (fun q _ e=>e.elim) fun z hz=>by
    rcases List.mem_cons.1 hz with rfl|hz
    ·exact⟨HeapIs.new _ _ _,.inr (Nat.le_refl _)⟩
    ·exact⟨(hB.out.boxes z hz).1.keep ((Since.refl _).alloc _),.inl ⟨z,hz,rfl⟩⟩) hU HE.out hN.out.1 hN.out.2 hM.out.1 hv hM.out.2 (VV wr 0 (Nat.zero_le _)) hi.out zaK ?_
   intro a1 w2 q cap cur prs m2 hf he hp hO hq hl;obtain⟨u,hd,hu⟩:=Zs hf;obtain⟨g1,g2,s2,s3,s4,s7,s25,s26,s27,s28,g3⟩:=hf;have e2:=hu 2 _ s2;have e3:=hu 3 _ s3;have e4:=hu 4 _ s4;have e7:=hu 7 _ s7;have e25:=hu 25 _ s25;have e26:=hu 26 _ s26;have e27:=hu 27 _ s27;have e28:=hu 28 _ s28;rw[e2,e3,e4,e7,e25,e26,e27,e28]at hd;subst hd;clear hu g1 g2 g3 e2 s2 e3 s3 e4 s4 e7 s7 e25 s25 e26 s26 e27 s27 e28 s28;have hA:=(he.boxes (⟨q,cur,141⟩:Bx) List.mem_cons_self).1;have ha:MSt w ex mb bb tb (.slice sa sl sc) l n rows m2 w2:=he.beside (T:=fun _=>False) (Zb.refl _ _) (fun q _ e=>e.elim) fun z hz=>⟨(he.boxes z (List.mem_cons_of_mem _ hz)).1,.inl ⟨z,List.mem_cons_of_mem _ hz,rfl⟩⟩
   have hm:Stays (ZE (CE ex) mb (.slice (some ⟨bb,0,none⟩) n n) m2) w2 (.slice (some ⟨q,0,none⟩) pl cap):=fun q2 hS=>by
    have e:q=q2:=Option.some.inj hS;subst e;refine⟨fun h=>?_,hA.lt⟩;rcases h with h|⟨z,hz,hR⟩
    ·exact (he.ok.aside q ⟨_,List.mem_cons_self,rfl⟩).2 h
    ·exact Yq (ha.boxes z hz).1 hA (HE.out z hz) hR
   obtain⟨k,hk⟩:=ha.at hb;have hP:=hl.cnt b k vn hk ht.out.2;have hI:=ha.ok.each k (List.mem_of_getElem? hk);obtain⟨fb,fc,fcur,hx,hs,hr⟩:=Wn Xm hI.phis zaK;have hV:=ha.cell hk (show 0<6 by decide);rw[show (fbcells k)[0]? = some k.phv from rfl,hx,Nat.add_zero,show k.phis.length=vn from by omega]at hV
   obtain⟨pp,hn⟩:∃ pp,k.phis[i]? = some pp:=⟨_,List.getElem?_eq_getElem zaK⟩
   have hj:=ha.ok.setIn (ins:=prs) hk rfl hx hn ⟨Z0 Y2 hp (fun _ _=>trivial),hm⟩;have HN:=hid (ha.step hj.1 hj.2 zaL);have hX:=hid (hl.setIn (iv:=.slice (some ⟨q,0,none⟩) pl cap) hk hn zaK hq);have hy:=ha.box;have h8:=hy.cell 3;have h1:=hy.lt;have h7:=ha.blkAt.lt;have h4:=hs.lt;have h5:=hs.frozen (i*2+1);have h2:b<n:=hb;have h6:w2.cell? ⟨fb,i*2+1,none⟩=some pp.inv:=(hs.cell (i*2+1)).trans (hr i 1 pp hn zaJ);clear he hp hO hq hl hA ha hm hk hP hI hx hs hn hj hy ho hT hr;go_wp2_with fail
   exact hW.out (vn-(i+1)) _ _ zaK ⟨i+1,_,rfl,zaK,(ZA rfl rfl zf0),HN.out,by rw[Nat.mul_add,Nat.mul_one,←Nat.add_assoc];exact hX.out⟩
  ·obtain rfl:vn=i:=zaK
   go_wp2_with fail
   exact HQ.out _ _ m (ZA rfl rfl zf0) hB.out hi.out
theorem Zev (w:World) (ex:List Bx) (sa:Option Addr) (sl sc:Nat) (l:List Int) (rows:List (Value × List Int)) (m:Zm) (r mb bb n tb pb:Nat) (ph:List Int) (x:Int) (a0:Act) (w1:World) (Q0:Exit→Act→World→Prop) (hx:Fr [(2,.pointer (some ⟨r,0,none⟩)),(3,.pointer (some ⟨mb,0,none⟩)),(4,.int .i64 n),(7,.slice (some ⟨pb,0,none⟩) n n),(25,.int .i64 (1:Nat))] a0)
  (ha:MSt w ex mb bb tb (.slice sa sl sc) l n rows m w1) (ht:1≤n∧n≤9) (hE:∀ z∈ex,z.ty≠141) (hn:bxP pb ph∈ex) (he:Xo x ph n 0 m)
  (hQ:∀ a1 w2 (m:Zm) (c:Nat),Fr [(2,.pointer (some ⟨r,0,none⟩)),(3,.pointer (some ⟨mb,0,none⟩)),(4,.int .i64 n),(7,.slice (some ⟨pb,0,none⟩) n n)] a1→MSt w ex mb bb tb (.slice sa sl sc) l n rows m w2→Xo x ph n c m→c≤216→Q0 .normal a1 w2):Code.wp prog (mkCode [1,1,1,1,1,1,1,1,1,1,1,1,0,1]) Q0 a0 w1:=by
 obtain⟨u,hb,hu⟩:=Zs hx;obtain⟨g1,g2,s2,s3,s4,s7,s25,g3⟩:=hx;have e2:=hu 2 _ s2;have e3:=hu 3 _ s3;have e4:=hu 4 _ s4;have e7:=hu 7 _ s7;have e25:=hu 25 _ s25;rw[e2,e3,e4,e7,e25]at hb;subst hb;clear hu g1 g2 g3 e2 s2 e3 s3 e4 s4 e7 s7 e25 s25
 conv=>arg 2;whnf
 have HQ:=hid hQ;have HE:=hid hE;have hd:=hid he;have hL:=hid hn;clear hQ hE he hn;go_wp2_with fail
 refine ZS (fun t ac wr=>∃ (b:Nat) (m:Zm),t=n-b∧(1≤b∧b≤n)∧Fr [(2,.pointer (some ⟨r,0,none⟩)),(3,.pointer (some ⟨mb,0,none⟩)),(4,.int .i64 n),(7,.slice (some ⟨pb,0,none⟩) n n),(25,.int .i64 b)] ac∧MSt w ex mb bb tb (.slice sa sl sc) l n rows m wr∧∃ c,c≤27*(b-1)∧Xo x ph n c m) (n-1) ⟨1,m,rfl,⟨Nat.le_refl _,ht.1⟩,(ZA rfl rfl zf0),ha,0,Nat.zero_le _,hd.out⟩ ?_
 ·clear ha hd m;intro t a1 wr K hJ hK;have hP:=hid hK;clear hK;obtain⟨b,m,rfl,⟨hU,hT⟩,hf,ha,c,hc,he⟩:=hJ;obtain⟨u,hb,hu⟩:=Zs hf;obtain⟨g1,g2,s2,s3,s4,s7,s25,g3⟩:=hf;have e2:=hu 2 _ s2;have e3:=hu 3 _ s3;have e4:=hu 4 _ s4;have e7:=hu 7 _ s7;have e25:=hu 25 _ s25;rw[e2,e3,e4,e7,e25]at hb;subst hb;clear hu g1 g2 g3 e2 s2 e3 s3 e4 s4 e7 s7 e25 s25;have hl:=hid ha;have hd:=hid he;by_cases hw:b<n
  ·have hk:=ha.box;have hH:=hk.cell 2;have hG:=hk.cell 3;have hF:=hk.lt;have hy:=hid (QK m.params m.bks (.slice (some ⟨bb,0,none⟩) n n) wr ha.fn.tos (by rw[ha.len];omega) b);clear ha he hk;go_wp2_with fail
   refine hy.out.mono ?_;rintro e w2 ⟨pv,ps,rfl,hi,hm,hr,ho⟩;rw[hl.out.len]at hr ho;obtain⟨pa,pc,hq⟩:=Ze hi;obtain⟨pl,hh⟩:∃ z,ps.length=z:=⟨_,rfl⟩
   obtain⟨pbx,hs,hj⟩:=Zcd hi;rw[hh]at hq hr;subst hq;obtain⟨v,hv,hD,hS⟩:∃ v,ph[b]? = some v∧0≤v∧v≤3:=by
    obtain⟨v,hv⟩:∃ v,ph[b]? = some v:=⟨_,List.getElem?_eq_getElem (by rw[hd.out.phs.1];exact hw)⟩
    exact⟨v,hv,hd.out.phs.2.1 v (List.mem_of_getElem? hv)⟩
   obtain⟨vn,rfl⟩:=Int.eq_ofNat_of_zero_le hD;have HV:=hid hv;have hO:=hid hs;have hN:=hid ho;have hM:=hid hh;have hI:=hid (show ∀ z∈ex++pbx,z.ty≠141 from fun z hz=>by
    rcases List.mem_append.1 hz with hz|hz
    ·exact HE.out z hz
    ·rw[(hj z hz).2];decide)
   have hB:=hid (hl.out.beside (ex':=ex++pbx) (T:=fun _=>False) (Zb.since hm) (fun q _ e=>e.elim) fun z hz=>by
    rcases List.mem_append.1 hz with hz|hz
    ·exact⟨(hl.out.boxes z hz).1.keep hm,.inl ⟨z,hz,rfl⟩⟩
    ·exact⟨(hj z hz).1.1,.inr (hj z hz).1.2⟩)
   clear hi hm ho hs hj hh hv hH hG hF hy;go_upto_block 26 with fail
   refine Zet w (ex++pbx) pbx sa pa sl sc pc l ps rows m r mb bb n tb pb b pl vn c ph x _ _ _ (ZA rfl rfl zf0) hB.out ht hw hI.out hO.out (fun z hz=>List.mem_append_right _ hz) hM.out zaK hN.out (List.mem_append_left _ hL.out) HV.out zaK hd.out zaK ?_;intro a1 w3 m3 hf hg hp;obtain⟨u,hb,hu⟩:=Zs hf;obtain⟨g1,g2,s2,s3,s4,s7,s25,s26,g3⟩:=hf;have e2:=hu 2 _ s2;have e3:=hu 3 _ s3;have e4:=hu 4 _ s4;have e7:=hu 7 _ s7;have e25:=hu 25 _ s25;have e26:=hu 26 _ s26;rw[e2,e3,e4,e7,e25,e26]at hb;subst hb;clear hu g1 g2 g3 e2 s2 e3 s3 e4 s4 e7 s7 e25 s25 e26 s26;have hA:=hid (hg.beside (ex':=ex) (T:=fun _=>False) (Zb.refl _ _) (fun q _ e=>e.elim) fun z hz=>⟨(hg.boxes z (List.mem_append_left _ hz)).1,.inl ⟨z,List.mem_append_left _ hz,rfl⟩⟩)
   have hC:=hid hp;have hR:pl*vn≤27:=Nat.mul_le_mul (show pl≤9 by omega) (show vn≤3 by omega);clear hg hp;go_wp2_with fail
   exact hP.out (n-(b+1)) _ _ zaK ⟨b+1,m3,rfl,⟨zaK,zaK⟩,(ZA rfl rfl zf0),hA.out,_,zaK,hC.out⟩
  ·obtain rfl:n=b:=zaK
   clear ha he;go_wp2_with fail
   exact HQ.out _ _ m c (ZA rfl rfl zf0) hl.out hd.out zaK
end Go.Proofs.YtimpddecdodddaaGreat
