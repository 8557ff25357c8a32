/- MkPairs MkPhis MkLast -/
import Derived.Test.YtmhojfpidedjeaaGreatDoorTq39
namespace Go.Proofs.YtmhojfpidedjeaaGreatDoor
open Go.RowKit
set_option linter.unusedVariables false
section
variable {S : Nat→Prop} {w w':World} {v : Value} {xs:List Int} {bx:List Bx}
def I32 (v:Value) (w:World):Prop:=∃ z,v=.int .i32 z∧In32 z
theorem I32.stableT (S:Nat→Prop):StableT S I32:=fun _ _ _ h _=>h
def I7 (v:Value) (w:World):Prop:=∃ z:Int,v=.int .i64 z∧0≤z∧z<700
theorem I7.stableT (S:Nat→Prop):StableT S I7:=fun _ _ _ h _=>h
def ILt (n:Nat) (v:Value) (w:World):Prop:=∃ t:Nat,v=.int .i64 t∧t<n
theorem ILt.stableT (S:Nat→Prop) (n:Nat):StableT S (ILt n):=fun _ _ _ h _=>h
def PLt (g n:Nat) (v:Value) (w:World):Prop:=∃ t:Nat,v=.pointer (some ⟨g,t,none⟩)∧t<n
theorem PLt.stableT (S:Nat→Prop) (g n:Nat):StableT S (PLt g n):=fun _ _ _ h _=>h
def Pr7 (y:Int) (v:Value) (w:World):Prop:=∃ z:Int,v=.agg #[.int .i64 y,.int .i64 z]∧0≤z∧z<700
theorem Pr7.stableT (S:Nat→Prop) (y:Int):StableT S (Pr7 y):=fun _ _ _ h _=>h
def OneP (S:Nat→Prop) (y:Int) (v:Value) (w:World):Prop:=∃ (q:Nat) (z:Int),v=.slice (some ⟨q,0,none⟩) 1 1∧HeapIs w q #[.int .i64 y,.int .i64 z] 71∧¬ S q∧0≤z∧z<700
theorem OneP.stableT (S:Nat→Prop) (y:Int):StableT S (OneP S y):=fun v w w' ⟨q,z,h1,h2,h3,h4⟩ t=>⟨q,z,h1,h2.turn t h3,h3,h4⟩
def One7 (S:Nat→Prop) (v:Value) (w:World):Prop:=∃ z,OneN S z v w∧0≤z∧z<700
theorem One7.stableT (S:Nat→Prop):StableT S (One7 S):=fun v w w' ⟨z,h1,h2⟩ t=>⟨z,OneN.stableT S z v w w' h1 t,h2⟩
structure PhW (w0:World) (ex:List Bx) (mb bb tb:Nat) (sv:Value) (l:List Int) (n:Nat) (rows:List (Value × List Int)) (m:MkSt) (pg k yn p:Nat) (w:World):Prop where
 zero:p=0→MSt w0 ex mb bb tb sv l n rows m w
 one:p=1→MSt w0 ex mb bb tb sv l n rows { m with at_:=m.at_+2 } w
 two:p=2→∃ m2,MSt w0 ex mb bb tb sv l n rows m2 w∧MvC m m2 2 1 1
 pc:w.cell? ⟨pg,k,none⟩=some (.int .i64 yn)
 pl:pg<w.heap.size
theorem BV.mem (h:BV v xs bx) {x : Bx} (hx:x∈bx):v.ownBlock=some x.q:=by
 rcases h with ⟨_,_,rfl⟩|⟨g,cap,cur,rfl,rfl,hc⟩
 ·cases hx
 ·rw[List.mem_singleton.1 hx];rfl
structure PhT (w0:World) (ex:List Bx) (mb bb tb:Nat) (sv:Value) (l:List Int) (n:Nat) (rows:List (Value × List Int)) (m:MkSt) (p:Nat) (w:World):Prop where
 zero:p=0→MSt w0 ex mb bb tb sv l n rows m w
 one:p=1→MSt w0 ex mb bb tb sv l n rows { m with at_:=m.at_+1 } w
 bx:∀ x∈ex,HeapIs w x.q x.cs x.ty
theorem PhT.keep {w0:World} {ex:List Bx} {mb bb tb:Nat} {sv:Value} {l : List Int} {n : Nat} {rows:List (Value × List Int)} {m : MkSt} {p : Nat} (h:PhT w0 ex mb bb tb sv l n rows m p w) (s:Since w w'):PhT w0 ex mb bb tb sv l n rows m p w':=
 ⟨fun e=>(h.zero e).keep s,fun e=>(h.one e).keep s,fun x hx=>(h.bx x hx).keep s⟩
theorem BV.at {g n c:Nat} (h:BV (.slice (some ⟨g,0,none⟩) n c) xs bx) (hb:∀ x∈bx,HeapIs w x.q x.cs x.ty) {j : Nat} {y : Int} (hj:xs[j]? = some y):w.cell? ⟨g,j,none⟩=some (.int .i64 y)∧g<w.heap.size:=by
 obtain⟨g2,c2,hv,h1,h2⟩:=h.cell hb hj
 injection hv with e
 injection e with e
 injection e with e
 rw[←e]at h1 h2
 exact⟨h1,h2⟩
end
set_option maxHeartbeats 8000000 in
set_option maxRecDepth 1000000 in
theorem mk_pairs (w:World) (ex pbx:List Bx) (sa pa:Option Addr) (sl sc pc:Nat) (l ps:List Int) (rows:List (Value × List Int)) (m:MkSt) (r mb bb n tb pb b i pl q cap c:Nat) (cur:Array Value) (ph:List Int) (x:Int) (a0:Act) (w1:World) (Q0:Exit→Act→World→Prop) (hfr:Fr [(2,.pointer (some ⟨r,0,none⟩)),(3,.pointer (some ⟨mb,0,none⟩)),(4,.int .i64 n),(7,.slice (some ⟨pb,0,none⟩) n n),(25,.int .i64 b),(26,.slice pa pl pc),(27,.int .i64 i),(28,.slice (some ⟨q,0,none⟩) 0 cap),(29,.int .i64 0)] a0)
  (hst:MSt w ((⟨q,cur,71⟩:Bx)::ex) mb bb tb (.slice sa sl sc) l n rows m w1) (hn9:1≤n∧n≤9) (hE:∀ z∈ex,z.ty≠71) (hpb:BV (.slice pa pl pc) ps pbx) (hpx:∀ z∈pbx,z∈ex) (hps:ps.length=pl) (hpl9:pl≤9) (hpg:∀ y∈ps,0≤y∧y<(n:Int)) (hown:OwnRow prcells 2 71 0 w1 (.slice (some ⟨q,0,none⟩) 0 cap) []) (hfs:FinS x ph n c m) (hc:c≤250)
  (hQ:∀ a1 w2 (q cap:Nat) (cur:Array Value) (prs:List (Int × Int)) (m:MkSt),Fr [(2,.pointer (some ⟨r,0,none⟩)),(3,.pointer (some ⟨mb,0,none⟩)),(4,.int .i64 n),(7,.slice (some ⟨pb,0,none⟩) n n),(25,.int .i64 b),(26,.slice pa pl pc),(27,.int .i64 i),(28,.slice (some ⟨q,0,none⟩) pl cap)] a1→MSt w ((⟨q,cur,71⟩:Bx)::ex) mb bb tb (.slice sa sl sc) l n rows m w2→OwnRow prcells 2 71 0 w2 (.slice (some ⟨q,0,none⟩) pl cap) prs→prs.length=pl→(∀ y∈prs,(0≤y.1∧y.1<(n:Int))∧0≤y.2∧y.2<700)→FinS x ph n (c+pl) m→Q0 .normal a1 w2):Code.wp Tryz.prog (mkCode [1,1,1,1,1,1,1,1,1,1,1,1,0,1,0,0,1,0,0,1,1,0,0,1,0,0,1,0,1]) Q0 a0 w1:=by
 obtain⟨u,ha0,hu⟩:=frame_ex hfr
 obtain⟨g1,g2,s2,s3,s4,s7,s25,s26,s27,s28,s29,g3⟩:=hfr
 have e2:=hu 2 _ s2
 have e3:=hu 3 _ s3
 have e4:=hu 4 _ s4
 have e7:=hu 7 _ s7
 have e25:=hu 25 _ s25
 have e26:=hu 26 _ s26
 have e27:=hu 27 _ s27
 have e28:=hu 28 _ s28
 have e29:=hu 29 _ s29
 rw[e2,e3,e4,e7,e25,e26,e27,e28,e29]at ha0
 subst ha0
 clear hu g1 g2 g3 e2 s2 e3 s3 e4 s4 e7 s7 e25 s25 e26 s26 e27 s27 e28 s28 e29 s29
 conv=>arg 2;whnf
 have HQ:=Lib.hid hQ
 have HE:=Lib.hid hE
 have HPB:=Lib.hid (And.intro hpb hpx)
 have HPS:=Lib.hid (And.intro hps hpg)
 have HOWN:=Lib.hid hown
 have HFS:=Lib.hid hfs
 clear hQ hE hpb hpx hps hpg hown hfs
 go_wp2_with fail
 refine wp_loop_fr (fun t ac wr=>∃ (k:Nat) (prs:List (Int × Int)) (q cap:Nat) (cur:Array Value) (m:MkSt),t=pl-k∧k≤pl∧prs.length=k∧Fr [(2,.pointer (some ⟨r,0,none⟩)),(3,.pointer (some ⟨mb,0,none⟩)),(4,.int .i64 n),(7,.slice (some ⟨pb,0,none⟩) n n),(25,.int .i64 b),(26,.slice pa pl pc),(27,.int .i64 i),(28,.slice (some ⟨q,0,none⟩) k cap),(29,.int .i64 k)] ac∧MSt w ((⟨q,cur,71⟩:Bx)::ex) mb bb tb (.slice sa sl sc) l n rows m wr∧OwnRow prcells 2 71 0 wr (.slice (some ⟨q,0,none⟩) k cap) prs∧(∀ y∈prs,(0≤y.1∧y.1<(n:Int))∧0≤y.2∧y.2<700)∧FinS x ph n (c+k) m) pl ⟨0,[],q,cap,cur,m,rfl,Nat.zero_le _,rfl,(fr_mk rfl rfl (sl_cons rfl (sl_cons rfl (sl_cons rfl (sl_cons rfl (sl_cons rfl (sl_cons rfl (sl_cons rfl (sl_cons rfl (sl_cons rfl (sl_nil _))))))))))),hst,HOWN.out,(fun y hy=>by cases hy),HFS.out⟩ ?_
 ·clear hst HOWN HFS q cap cur m
  intro t a1 wr K hJ hK
  have HK9:=Lib.hid hK
  clear hK
  obtain⟨k,prs,q,cap,cur,m,rfl,hkl,hpl,hf,hst,hown,hgood,hfs⟩:=hJ
  obtain⟨u,ha0,hu⟩:=frame_ex hf
  obtain⟨g1,g2,s2,s3,s4,s7,s25,s26,s27,s28,s29,g3⟩:=hf
  have e2:=hu 2 _ s2
  have e3:=hu 3 _ s3
  have e4:=hu 4 _ s4
  have e7:=hu 7 _ s7
  have e25:=hu 25 _ s25
  have e26:=hu 26 _ s26
  have e27:=hu 27 _ s27
  have e28:=hu 28 _ s28
  have e29:=hu 29 _ s29
  rw[e2,e3,e4,e7,e25,e26,e27,e28,e29]at ha0
  subst ha0
  clear hu g1 g2 g3 e2 s2 e3 s3 e4 s4 e7 s7 e25 s25 e26 s26 e27 s27 e28 s28 e29 s29
  have HST:=Lib.hid hst
  have HOWN:=Lib.hid hown
  have HGD:=Lib.hid hgood
  have HFS:=Lib.hid hfs
  have HKL:=Lib.hid hpl
  clear hown hgood hfs hpl
  by_cases hlt:k<pl
  ·obtain⟨y,hy⟩:∃ y,ps[k]? = some y:=⟨_,List.getElem?_eq_getElem (by rw[HPS.out.1];exact hlt)⟩
   obtain⟨pg,pc2,hpv,hpc,hpgl⟩:=HPB.out.1.cell (fun z hz=>(hst.boxes z (List.mem_cons_of_mem _ (HPB.out.2 z hz))).1) hy
   rw[HPS.out.1]at hpv
   injection hpv with e1 e2 e3
   subst e1
   subst e3
   have HY:=Lib.hid (HPS.out.2 y (List.mem_of_getElem? hy))
   obtain⟨yn,hyn⟩:=Int.eq_ofNat_of_zero_le HY.out.1
   subst hyn
   have HYI:=Lib.hid hy
   have HPC:=Lib.hid (And.intro hpc hpgl)
   obtain⟨pp,hpp⟩:∃ z,m.params=z:=⟨_,rfl⟩
   have HPP:=Lib.hid hpp
   clear hst hy hpc hpgl hpp
   go_wp2_with fail
   refine wp_region_since_tail 8 rfl (by decide +kernel) (by decide +kernel) (by decide +kernel) (by decide)
    [Is (.pointer (some ⟨mb,0,none⟩)),Is (.pointer (some ⟨mb,0,none⟩)),Is (.pointer (some ⟨mb,2,none⟩)),Is (.agg #[.int .i64 pp,.slice (some ⟨bb,0,none⟩) n n]),Is (.slice (some ⟨pg,0,none⟩) pl pc),Is (.int .i64 k),Is (.pointer (some ⟨pg,k,none⟩)),Is (.int .i64 yn)]
    (by repeat (first | exact trivial | refine⟨Is.stable _,?_⟩ | refine⟨Any.stable,?_⟩ | refine⟨IsNums.stable _ _,?_⟩)) ⟨?_,?_,?_,?_,?_,?_,?_,?_,trivial⟩ ?_
   rotate_right
   ·intro vs w2 hs hk
    simp only[List.take,List.drop,putAll,Act.put,KnowsAll,nthF,Is,List.setIfInBounds_toArray,List.set_cons_zero,List.set_cons_succ,Nat.reduceAdd]at hk ⊢
    try simp only[hk]
    have HST2:=Lib.hid (HST.out.keep hs)
    have HIN2:=Lib.hid (OwnRow.keep HOWN.out hs)
    clear hs hk
    go_wp2_with fail
    refine (standing_any 700 pp m.bks (.slice (some ⟨bb,0,none⟩) n n) w2 (by rw[←HPP.out];exact HST2.out.fn) (HFS.out.few HST2.out.len hn9.2 (by omega) HST2.out.ok.good.ins) (by rw[HST2.out.len];exact hn9) (by rw[←HPP.out];have:=HST2.out.ok.good.params;have:=HFS.out.next;omega) (yn:Int) (by rw[HST2.out.len];exact HY.out)).mono ?_
    rintro e w3 ⟨lv,ls,rfl,hown,hs3,hll,hlg⟩
    obtain⟨la,lc,hlv⟩:=own_shape hown
    obtain⟨ll,hll2⟩:∃ z,ls.length=z:=⟨_,rfl⟩
    obtain⟨lbx,hlb,hlx⟩:=bv_of hown
    rw[hll2]at hlv
    subst hlv
    have HLL:=Lib.hid hll2
    have HLB:=Lib.hid hlb
    have HLG:=Lib.hid hlg
    have HLO:=Lib.hid hown
    have HSZ:=Lib.hid hs3.size
    have HIN3:=Lib.hid (OwnRow.keep HIN2.out hs3)
    have HLOW:=Lib.hid (show ∀ z∈(⟨q,cur,71⟩:Bx)::ex,z.q<w2.heap.size from fun z hz=>(HST2.out.boxes z hz).1.lt)
    have HST3:=Lib.hid (HST2.out.beside (ex':=((⟨q,cur,71⟩:Bx)::ex)++lbx) (T:=fun _=>False) (Turn.since hs3) (fun q _ e=>e.elim) fun z hz=>by
     rcases List.mem_append.1 hz with hz|hz
     ·exact⟨(HST2.out.boxes z hz).1.keep hs3,.inl ⟨z,hz,rfl⟩⟩
     ·exact⟨(hlx z hz).1.1,.inr (hlx z hz).1.2⟩)
    obtain⟨wb,hwb⟩:∃ z,z=w2.heap.size:=⟨_,rfl⟩
    rw[←hwb]at HLO HSZ HLOW
    have hll500:ll≤500000:=by rw[←hll2];exact hll
    clear hown hs3 hll hlg hlb hlx hll2 HST2 hwb HST HOWN
    by_cases hz:ll=0
    ·subst hz
     have HIL:=Lib.hid (show ∀ q2,Own mb (.slice (some ⟨bb,0,none⟩) n n) m q2→q2<w3.heap.size from fun q2 h2=>HST3.out.ok.ltOwnC (.inl h2))
     have HPC3:=Lib.hid (show w3.drew.cell? ⟨pg,k,none⟩=some (.int .i64 yn)∧pg<w3.drew.heap.size from HPB.out.1.at (fun z hz=>(((HST3.out.keep (Since.refl _).drew).boxes z (List.mem_append_left _ (List.mem_cons_of_mem _ (HPB.out.2 z hz)))).1)) HYI.out)
     go_wp2_with fail
     refine wp_region_turn_tail 10 [7,8] [0,0,0,0,0,0,0,0,1,2] [2,1,1,1,1,1,0,0,1,2] [0,0,0,0,0,0,0,1,1,0] (fun q2=>Own mb (.slice (some ⟨bb,0,none⟩) n n) m q2) (fun p w4=>PhW w ((⟨q,cur,71⟩::ex)++lbx) mb bb tb (.slice sa sl sc) l n rows m pg k yn p w4) rfl (by decide +kernel) (by decide +kernel) (by decide +kernel) (by decide) (by decide +kernel)
      [Is (.slice la 0 lc),Is (.pointer (some ⟨mb,0,none⟩)),Is (.slice (some ⟨pg,0,none⟩) pl pc),Is (.int .i64 k),Is (.pointer (some ⟨pg,k,none⟩)),Is (.int .i64 yn),Is (.pointer (some ⟨mb,0,none⟩)),I32,I7,One7 (fun q2=>Own mb (.slice (some ⟨bb,0,none⟩) n n) m q2)]
      (by repeat (first | exact trivial | refine⟨Is.stableT _ _,?_⟩ | refine⟨I32.stableT _,?_⟩ | refine⟨I7.stableT _,?_⟩ | refine⟨One7.stableT _,?_⟩)) ⟨fun _=>HST3.out.keep (Since.refl _).drew,fun e=>(by cases e),fun e=>(by cases e),HPC3.out.1,HPC3.out.2⟩ ⟨?_,?_,?_,?_,?_,?_,?_,?_,?_,?_,trivial⟩ ?_
     rotate_right
     ·intro vs w5 ht hph hk
      simp only[List.take,List.drop,putAll,Act.put,KnowsAll,nthF,Is,List.setIfInBounds_toArray,List.set_cons_zero,List.set_cons_succ,Nat.reduceAdd]at hk ⊢
      try simp only[hk]
      obtain⟨z,hz,hz7⟩:One7 (fun q2=>Own mb (.slice (some ⟨bb,0,none⟩) n n) m q2) (vs 9) w5:=by exact hk.2.2.2.2.2.2.2.2.2.1
      have hzn:=hz.nums
      obtain⟨m2,hm2,hmc2⟩:=hph.two rfl
      have HM:=Lib.hid hm2
      have HMC:=Lib.hid hmc2
      have HNN:=Lib.hid hzn
      have HZ7:=Lib.hid hz7
      have HLO5:=Lib.hid (own_turn HLO.out ht fun q2 hq2 e=>(HST3.out.ok.aside q2 (by obtain⟨x2,hx2,e2⟩:=HLB.out.own hq2;exact⟨x2,List.mem_append_right _ hx2,e2⟩)).2 e)
      have HIN5:=Lib.hid (show OwnRow prcells 2 71 0 w5 (.slice (some ⟨q,0,none⟩) k cap) prs from own_turn HIN3.out ht fun q2 hq2 e=>(HST3.out.ok.aside q2 ⟨_,List.mem_append_left _ List.mem_cons_self,Option.some.inj hq2⟩).2 e)
      have HSZ5:=Lib.hid (show wb≤w5.heap.size from by have:=HSZ.out;have:=ht.size;omega)
      generalize vs 9=xv at *
      clear hk hph ht hz hzn hm2 hmc2 hz7
      go_wp2_with (refine wpList_append_nums2 (base:=wb) .i64 rfl _ _ 32 rfl 3 (.int .i64 0) 8 Tryz.underlying32 Tryz.info3 rfl (by decide) (.slice la 0 lc) xv ls [z] rfl rfl (by have h9:=HLO5.out;exact h9) HNN.out (by rw[HLL.out];simp) HSZ5.out ?_;intro v6 w6 hown6 ht6 hnew6;have HOWN6:=Lib.hid hown6;have HT6:=Lib.hid ht6;have HNEW6:=Lib.hid hnew6;clear hown6 ht6 hnew6)
      obtain⟨a6,c6,hv6⟩:=own_shape HOWN6.out
      rw[show (ls++[z]).length=1 from by rw[List.length_append,HLL.out];rfl]at hv6
      subst hv6
      obtain⟨lbz,hlbz,hlxz⟩:=bv_of HOWN6.out
      have HSTL:=Lib.hid (HM.out.beside (ex':=((⟨q,cur,71⟩:Bx)::ex)++lbz) HT6.out (fun q2 _ hq2=>by obtain⟨x2,hx2,e2⟩:=HLB.out.own hq2;exact⟨x2,List.mem_append_right _ hx2,e2⟩) fun z2 hz2=>by
       rcases List.mem_append.1 hz2 with hz2|hz2
       ·exact⟨(HM.out.boxes z2 (List.mem_append_left _ hz2)).1.turn HT6.out (fun e=>by have h1:=HLOW.out z2 hz2;have h2:=(World.ownsRow.lt HLO5.out _ e).1;omega),.inl ⟨z2,List.mem_append_left _ hz2,rfl⟩⟩
       ·refine⟨(hlxz z2 hz2).1.1,?_⟩
        rcases HNEW6.out z2.q (hlbz.mem hz2) with h|h
        ·obtain⟨x2,hx2,e2⟩:=HLB.out.own h
         exact .inl ⟨x2,List.mem_append_right _ hx2,e2⟩
        ·exact .inr h)
      have HINZ:=Lib.hid (show OwnRow prcells 2 71 0 w6 (.slice (some ⟨q,0,none⟩) k cap) prs from own_turn HIN5.out HT6.out fun q2 hq2 e=>by have h1:=HLOW.out (⟨q,cur,71⟩:Bx) List.mem_cons_self;have h2:=(World.ownsRow.lt HLO5.out _ e).1;have h3:q=q2:=Option.some.inj hq2;dsimp only at h1;omega)
      have HLBZ:=Lib.hid hlbz
      have HLLZ:=Lib.hid (show (ls++[z]).length=1 from by rw[List.length_append,HLL.out];rfl)
      have HLGZ:=Lib.hid (show ∀ y∈ls++[z],0≤y∧y<700 from fun y hy=>by
       rcases List.mem_append.1 hy with hy|hy
       ·exact HLG.out y hy
       ·rw[List.mem_singleton.1 hy];exact HZ7.out)
      clear hlbz hlxz HOWN6 HT6 HNEW6 HNN HLO5 HIN5 HSZ5 HM HZ7
      obtain⟨y0,hy0⟩:∃ y0,(ls++[z])[0]? = some y0:=⟨_,List.getElem?_eq_getElem (by rw[HLLZ.out];omega)⟩
      obtain⟨lg,lc2,hlv2,_,_⟩:=HLBZ.out.cell (fun z2 hz2=>(HSTL.out.boxes z2 (List.mem_append_right _ hz2)).1) hy0
      injection hlv2 with e1 e2 e3
      subst e1
      clear e2 e3 hy0
      have HIL:=Lib.hid (show ∀ q2,Own mb (.slice (some ⟨bb,0,none⟩) n n) m2 q2→q2<w6.heap.size from fun q2 h2=>HSTL.out.ok.ltOwnC (.inl h2))
      refine wp_region_turn_tail 14 [9] [0,0,0,0,0,0,0,0,0,0,1,1,1,1] [1,1,1,1,1,1,0,0,0,0,1,1,1,1] [0,0,0,0,0,0,0,0,0,1,0,0,0,0] (fun q2=>Own mb (.slice (some ⟨bb,0,none⟩) n n) m2 q2) (fun p w4=>PhT w ((⟨q,cur,71⟩::ex)++lbz) mb bb tb (.slice sa sl sc) l n rows m2 p w4) rfl (by decide +kernel) (by decide +kernel) (by decide +kernel) (by decide) (by decide +kernel)
       [Is (.slice (some ⟨q,0,none⟩) k cap),Is (.slice (some ⟨pg,0,none⟩) pl pc),Is (.int .i64 k),Is (.pointer (some ⟨pg,k,none⟩)),Is (.int .i64 yn),Is (.slice (some ⟨lg,0,none⟩) 1 c6),Is (.pointer (some ⟨mb,0,none⟩)),Is (.slice (some ⟨lg,0,none⟩) 1 c6),Is (.int .i64 (1:Nat)),ILt 1,PLt lg 1,I7,Pr7 yn,OneP (fun q2=>Own mb (.slice (some ⟨bb,0,none⟩) n n) m2 q2) yn]
       (by repeat (first | exact trivial | refine⟨Is.stableT _ _,?_⟩ | refine⟨ILt.stableT _ _,?_⟩ | refine⟨PLt.stableT _ _ _,?_⟩ | refine⟨I7.stableT _,?_⟩ | refine⟨Pr7.stableT _ _,?_⟩ | refine⟨OneP.stableT _ _,?_⟩)) ⟨fun _=>HSTL.out.keep (Since.refl _).drew,fun e=>(by cases e),fun z3 hz3=>((HSTL.out.keep (Since.refl _).drew).boxes z3 hz3).1⟩ ⟨?_,?_,?_,?_,?_,?_,?_,?_,?_,?_,?_,?_,?_,?_,trivial⟩ ?_
      rotate_right
      ·intro vs w5 ht hph hk
       simp only[List.take,List.drop,putAll,Act.put,KnowsAll,nthF,Is,List.setIfInBounds_toArray,List.set_cons_zero,List.set_cons_succ,Nat.reduceAdd]at hk ⊢
       try simp only[hk]
       obtain⟨qn,y3,hv13,hh13,hne13,hy7⟩:OneP (fun q2=>Own mb (.slice (some ⟨bb,0,none⟩) n n) m2 q2) yn (vs 13) w5:=by exact hk.2.2.2.2.2.2.2.2.2.2.2.2.2.1
       simp only[hv13]
       have HM:=Lib.hid (hph.one rfl)
       have HIN5:=Lib.hid (show OwnRow prcells 2 71 0 w5 (.slice (some ⟨q,0,none⟩) k cap) prs from own_turn HINZ.out ht fun q2 hq2 e=>(HSTL.out.ok.aside q2 ⟨_,List.mem_append_left _ List.mem_cons_self,Option.some.inj hq2⟩).2 e)
       have HH:=Lib.hid hh13
       have HY7:=Lib.hid hy7
       clear hk hph ht hv13 hh13 hne13 hy7
       go_wp2_with (refine wpList_append_one2 (base:=0) prcells 2 prcells_len (by decide) rfl _ _ 58 rfl 71 (.agg #[.int .i64 0,.int .i64 0]) 16 Tryz.underlying58 (by kernel_rfl) rfl (.slice (some ⟨q,0,none⟩) k cap) prs ((yn:Int),y3) qn 1 71 rfl rfl HIN5.out HH.out (by intro u hu;simp only[prcells,List.mem_cons,List.not_mem_nil,or_false]at hu;rcases hu with rfl | rfl<;>rfl) (by rw[HKL.out];unfold maxLen;omega) (by rw[HKL.out];omega) (Nat.zero_le _) ?_;intro v7 w7 hown7 ht7 hnew7;obtain⟨g7,c7,cur7,hv7,hh7,_⟩:=own_row_at prcells_len hown7 (by simp);rw[show (prs++[((yn:Int),y3)]).length=k+1 from by rw[List.length_append,HKL.out];rfl]at hv7;subst hv7;have HOWN7:=Lib.hid hown7;have HT7:=Lib.hid ht7;have HNEW7:=Lib.hid hnew7;have HH7:=Lib.hid hh7;clear hown7 ht7 hnew7 hh7)
       have HBQ:=Lib.hid (HM.out.boxes (⟨q,cur,71⟩:Bx) (List.mem_append_left _ List.mem_cons_self)).1
       have HSTN:=Lib.hid (HM.out.beside (ex':=(⟨g7,cur7,71⟩:Bx)::ex) HT7.out (fun q2 _ hq2=>⟨_,List.mem_append_left _ List.mem_cons_self,Option.some.inj hq2⟩) fun z2 hz2=>by
        rcases List.mem_cons.1 hz2 with rfl|hz2
        ·refine⟨HH7.out,?_⟩
         rcases HNEW7.out g7 rfl with h|h
         ·exact .inl ⟨_,List.mem_append_left _ List.mem_cons_self,Option.some.inj h⟩
         ·exact .inr h
        ·have hz3:=HM.out.boxes z2 (List.mem_append_left _ (List.mem_cons_of_mem _ hz2))
         exact⟨hz3.1.turn HT7.out fun e=>heap_ne hz3.1 HBQ.out (HE.out z2 hz2) (Option.some.inj e).symm,.inl ⟨z2,List.mem_append_left _ (List.mem_cons_of_mem _ hz2),rfl⟩⟩)
       have HFN:=Lib.hid (HFS.out.mv (d:=1) (HMC.out.trans (show MvC m2 { m2 with at_:=m2.at_+1 } 1 0 0 from⟨Nat.le_refl _,⟨Int.le_refl _,Int.le_of_eq (Int.add_zero _).symm⟩,Nat.le_refl _,Nat.le_refl _,rfl,rfl⟩)) (by omega) (by omega) (by omega))
       have HGN:=Lib.hid (show ∀ y∈prs++[((yn:Int),y3)],(0≤y.1∧y.1<(n:Int))∧0≤y.2∧y.2<700 from fun y hy=>by
        rcases List.mem_append.1 hy with hy|hy
        ·exact HGD.out y hy
        ·rw[List.mem_singleton.1 hy];exact⟨HY.out,HY7.out⟩)
       exact HK9.out (pl-(k+1)) _ _ (by omega) ⟨k+1,_,g7,c7,cur7,_,rfl,by omega,by rw[List.length_append,HKL.out];rfl,(fr_mk rfl rfl (sl_cons rfl (sl_cons rfl (sl_cons rfl (sl_cons rfl (sl_cons rfl (sl_cons rfl (sl_cons rfl (sl_cons rfl (sl_cons rfl (sl_nil _))))))))))),HSTN.out,HOWN7.out,HGN.out,HFN.out⟩
      all_goals
       intro p vs w5 hlo hhi ht hph hk
       simp only[List.take,putAll,Act.put,Knows,nthF,Is,List.setIfInBounds_toArray,List.set_cons_zero,List.set_cons_succ,Nat.reduceAdd]at hk ⊢
       try simp only[hk]
      ·go_wp2
       exact⟨_,rfl,rfl,Turn.refl _ _,hph⟩
      ·go_wp2
       exact⟨_,rfl,rfl,Turn.refl _ _,hph⟩
      ·go_wp2
       exact⟨_,rfl,rfl,Turn.refl _ _,hph⟩
      ·go_wp2
       exact⟨_,rfl,rfl,Turn.refl _ _,hph⟩
      ·obtain⟨hc,hl⟩:=HPB.out.1.at (fun z3 hz3=>hph.bx z3 (List.mem_append_left _ (List.mem_cons_of_mem _ (HPB.out.2 z3 hz3)))) HYI.out
       go_wp2
       exact⟨_,rfl,rfl,Turn.refl _ _,hph⟩
      ·go_wp2
       exact⟨_,rfl,rfl,Turn.refl _ _,hph⟩
      ·go_wp2
       exact⟨_,rfl,rfl,Turn.refl _ _,hph⟩
      ·go_wp2
       exact⟨_,rfl,rfl,Turn.refl _ _,hph⟩
      ·go_wp2
       exact⟨_,rfl,rfl,Turn.refl _ _,hph⟩
      ·obtain rfl:p=0:=by omega
       have HM:=Lib.hid (hph.zero rfl)
       clear hph hk ht
       go_wp2_with fail
       refine (mk_take HM.out.ok (1:Nat) (by omega) (by have h1:=HFS.out.at_;have h2:=HMC.out.at_;omega)).mono ?_
       rintro e w6 ⟨m6,⟨u,rfl,⟨hu0,hu1⟩,hm6⟩,hok6,hmv6⟩
       have HT6:=Lib.hid hmv6.turn
       have HM6:=Lib.hid (HM.out.mv hok6 hmv6)
       subst hm6
       obtain⟨un,rfl⟩:=Int.eq_ofNat_of_zero_le hu0
       have HU:=Lib.hid (show un<1 from by omega)
       clear hok6 hmv6 hu0 hu1
       go_wp2
       exact⟨_,rfl,⟨un,rfl,HU.out⟩,HT6.out,⟨fun e=>(by omega),fun _=>HM6.out,fun z3 hz3=>(HM6.out.boxes z3 hz3).1⟩⟩
      ·obtain⟨t,ht9,htl⟩:ILt 1 (vs 9) w5:=by exact hk.2.1
       simp only[ht9]
       clear hk
       go_wp2
       exact⟨_,rfl,⟨t,rfl,htl⟩,Turn.refl _ _,hph⟩
      ·obtain⟨t,ht10,htl⟩:PLt lg 1 (vs 10) w5:=by exact hk.1
       simp only[ht10]
       obtain⟨y3,hy3⟩:∃ y3,(ls++[z])[t]? = some y3:=⟨_,List.getElem?_eq_getElem (by rw[HLLZ.out];exact htl)⟩
       obtain⟨hc,hl⟩:=HLBZ.out.at (fun z3 hz3=>hph.bx z3 (List.mem_append_right _ hz3)) hy3
       have HY3:=Lib.hid (HLGZ.out y3 (List.mem_of_getElem? hy3))
       clear hk hy3
       go_wp2
       exact⟨_,rfl,⟨y3,rfl,HY3.out⟩,Turn.refl _ _,hph⟩
      ·obtain⟨y3,hy3,hy7⟩:I7 (vs 11) w5:=by exact hk.2.1
       simp only[hy3]
       clear hk
       go_wp2
       exact⟨_,rfl,⟨y3,rfl,hy7⟩,Turn.refl _ _,hph⟩
      ·obtain⟨y3,hy3,hy7⟩:Pr7 yn (vs 12) w5:=by exact hk.1
       simp only[hy3]
       have hs2:=(Since.refl w5).alloc (.cells #[.int .i64 yn,.int .i64 y3] 71)
       have HP:=Lib.hid (hph.keep hs2)
       have hne:¬ (fun q2=>Own mb (.slice (some ⟨bb,0,none⟩) n n) m2 q2) w5.heap.size:=fun e=>by have:=HIL.out _ e;have:=ht.size;omega
       have HY7:=Lib.hid hy7
       clear hph hk hy3 hy7
       go_wp2
       exact⟨_,rfl,⟨_,y3,rfl,HeapIs.new _ _ _,hne,HY7.out⟩,Turn.since hs2,HP.out⟩
     all_goals
      intro p vs w5 hlo hhi ht hph hk
      simp only[List.take,putAll,Act.put,Knows,nthF,Is,List.setIfInBounds_toArray,List.set_cons_zero,List.set_cons_succ,Nat.reduceAdd]at hk ⊢
      try simp only[hk]
     ·go_wp2
      exact⟨_,rfl,rfl,Turn.refl _ _,hph⟩
     ·go_wp2
      exact⟨_,rfl,rfl,Turn.refl _ _,hph⟩
     ·go_wp2
      exact⟨_,rfl,rfl,Turn.refl _ _,hph⟩
     ·go_wp2
      exact⟨_,rfl,rfl,Turn.refl _ _,hph⟩
     ·go_wp2
      exact⟨_,rfl,rfl,Turn.refl _ _,hph⟩
     ·have hc:=hph.pc
      have hl:=hph.pl
      go_wp2
      exact⟨_,rfl,rfl,Turn.refl _ _,hph⟩
     ·go_wp2
      exact⟨_,rfl,rfl,Turn.refl _ _,hph⟩
     ·obtain rfl:p=0:=by omega
      have HM:=Lib.hid (hph.zero rfl)
      clear hph hk ht
      go_wp2_with fail
      refine (mk_word HM.out.ok (by have:=HFS.out.at_;omega)).mono ?_
      rintro e w6 ⟨m6,⟨z,rfl,hz,hm6⟩,hok6,hmv6⟩
      have HT6:=Lib.hid hmv6.turn
      have HM6:=Lib.hid (HM.out.mv hok6 hmv6)
      have HC6:=Lib.hid (show w6.cell? ⟨pg,k,none⟩=some (.int .i64 yn)∧pg<w6.heap.size from HPB.out.1.at (fun z hz=>(HM6.out.boxes z (List.mem_append_left _ (List.mem_cons_of_mem _ (HPB.out.2 z hz)))).1) HYI.out)
      subst hm6
      have HZ:=Lib.hid hz
      clear hok6 hmv6 hz
      go_wp2
      exact⟨_,rfl,⟨z,rfl,HZ.out⟩,HT6.out,⟨fun e=>(by omega),fun _=>HM6.out,fun e=>(by omega),HC6.out.1,HC6.out.2⟩⟩
     ·obtain rfl:p=1:=by omega
      obtain⟨z,hz,hz32⟩:I32 (vs 7) w5:=by exact hk.2.2.1
      simp only[hz]
      have HM:=Lib.hid (hph.one rfl)
      have HZ:=Lib.hid hz32
      clear hph hk ht hz hz32
      go_wp2_with fail
      refine (mk_constant HM.out.ok (by have:=HFS.out.at_;have:=HFS.out.next;have:=HFS.out.total;have:=HFS.out.live;exact⟨by show m.at_+2≤_;omega,by show m.next≤_;omega,by show m.total≤_;omega,by show m.live.length≤_;omega⟩) yn (by rw[HM.out.len];have:=HY.out;omega) z HZ.out).mono ?_
      rintro e w6 ⟨m6,⟨u,rfl,hu0,hu1⟩,hok6,hmv6⟩
      have HT6:=Lib.hid hmv6.turn
      have HM6:=Lib.hid (HM.out.mv hok6 hmv6)
      have HMC6:=Lib.hid (show MvC m m6 2 1 1 from⟨by have:=hmv6.at_;exact this,hmv6.next,hmv6.total,hmv6.live,hmv6.same⟩)
      have HU:=Lib.hid (show 0≤u∧u<700 from⟨hu0,by have:=HFS.out.next;have:=HMC6.out.next.2;omega⟩)
      have HC6:=Lib.hid (show w6.cell? ⟨pg,k,none⟩=some (.int .i64 yn)∧pg<w6.heap.size from HPB.out.1.at (fun z hz=>(HM6.out.boxes z (List.mem_append_left _ (List.mem_cons_of_mem _ (HPB.out.2 z hz)))).1) HYI.out)
      clear hok6 hmv6 hu0 hu1
      go_wp2
      exact⟨_,rfl,⟨u,rfl,HU.out⟩,HT6.out,⟨fun e=>(by omega),fun e=>(by omega),fun _=>⟨m6,HM6.out,HMC6.out⟩,HC6.out.1,HC6.out.2⟩⟩
     ·obtain rfl:p=2:=by omega
      obtain⟨z,hz,hz7⟩:I7 (vs 8) w5:=by exact hk.1
      simp only[hz]
      obtain⟨m2,hm2,hmc2⟩:=hph.two rfl
      have hs2:=(Since.refl w5).alloc (.cells #[.int .i64 z] 3)
      have HM:=Lib.hid (hm2.keep hs2)
      have HMC:=Lib.hid hmc2
      have HC:=Lib.hid (And.intro ((hs2.cell (p:=⟨pg,k,none⟩) hph.pl).trans hph.pc) (Nat.lt_of_lt_of_le hph.pl hs2.size))
      have hne:¬ (fun q2=>Own mb (.slice (some ⟨bb,0,none⟩) n n) m q2) w5.heap.size:=fun e=>by have:=HIL.out _ e;have:=ht.size;omega
      have HZ7:=Lib.hid hz7
      clear hph hk hz hm2 hmc2 hz7
      go_wp2
      exact⟨_,rfl,⟨z,OneN.new z hne,HZ7.out⟩,Turn.since hs2,⟨fun e=>(by omega),fun e=>(by omega),fun _=>⟨m2,HM.out,HMC.out⟩,HC.out.1,HC.out.2⟩⟩
    ·have hzq:((ll:Int)==0)=false:=by simp;omega
     have HMC:=Lib.hid (show MvC m m 2 1 1 from (MvC.refl m).more (by omega) (by omega) (by omega))
     go_wp2_with fail
     obtain⟨y0,hy0⟩:∃ y0,(ls)[0]? = some y0:=⟨_,List.getElem?_eq_getElem (by rw[HLL.out];omega)⟩
     obtain⟨lg,lc2,hlv2,_,_⟩:=HLB.out.cell (fun z2 hz2=>(HST3.out.boxes z2 (List.mem_append_right _ hz2)).1) hy0
     injection hlv2 with e1 e2 e3
     subst e1
     clear e2 e3 hy0
     have HIL:=Lib.hid (show ∀ q2,Own mb (.slice (some ⟨bb,0,none⟩) n n) m q2→q2<w3.heap.size from fun q2 h2=>HST3.out.ok.ltOwnC (.inl h2))
     refine wp_region_turn_tail 14 [9] [0,0,0,0,0,0,0,0,0,0,1,1,1,1] [1,1,1,1,1,1,0,0,0,0,1,1,1,1] [0,0,0,0,0,0,0,0,0,1,0,0,0,0] (fun q2=>Own mb (.slice (some ⟨bb,0,none⟩) n n) m q2) (fun p w4=>PhT w ((⟨q,cur,71⟩::ex)++lbx) mb bb tb (.slice sa sl sc) l n rows m p w4) rfl (by decide +kernel) (by decide +kernel) (by decide +kernel) (by decide) (by decide +kernel)
      [Is (.slice (some ⟨q,0,none⟩) k cap),Is (.slice (some ⟨pg,0,none⟩) pl pc),Is (.int .i64 k),Is (.pointer (some ⟨pg,k,none⟩)),Is (.int .i64 yn),Is (.slice (some ⟨lg,0,none⟩) ll lc),Is (.pointer (some ⟨mb,0,none⟩)),Is (.slice (some ⟨lg,0,none⟩) ll lc),Is (.int .i64 (ll:Nat)),ILt ll,PLt lg ll,I7,Pr7 yn,OneP (fun q2=>Own mb (.slice (some ⟨bb,0,none⟩) n n) m q2) yn]
      (by repeat (first | exact trivial | refine⟨Is.stableT _ _,?_⟩ | refine⟨ILt.stableT _ _,?_⟩ | refine⟨PLt.stableT _ _ _,?_⟩ | refine⟨I7.stableT _,?_⟩ | refine⟨Pr7.stableT _ _,?_⟩ | refine⟨OneP.stableT _ _,?_⟩)) ⟨fun _=>HST3.out.keep (Since.refl _).drew,fun e=>(by cases e),fun z3 hz3=>((HST3.out.keep (Since.refl _).drew).boxes z3 hz3).1⟩ ⟨?_,?_,?_,?_,?_,?_,?_,?_,?_,?_,?_,?_,?_,?_,trivial⟩ ?_
     rotate_right
     ·intro vs w5 ht hph hk
      simp only[List.take,List.drop,putAll,Act.put,KnowsAll,nthF,Is,List.setIfInBounds_toArray,List.set_cons_zero,List.set_cons_succ,Nat.reduceAdd]at hk ⊢
      try simp only[hk]
      obtain⟨qn,y3,hv13,hh13,hne13,hy7⟩:OneP (fun q2=>Own mb (.slice (some ⟨bb,0,none⟩) n n) m q2) yn (vs 13) w5:=by exact hk.2.2.2.2.2.2.2.2.2.2.2.2.2.1
      simp only[hv13]
      have HM:=Lib.hid (hph.one rfl)
      have HIN5:=Lib.hid (show OwnRow prcells 2 71 0 w5 (.slice (some ⟨q,0,none⟩) k cap) prs from own_turn HIN3.out ht fun q2 hq2 e=>(HST3.out.ok.aside q2 ⟨_,List.mem_append_left _ List.mem_cons_self,Option.some.inj hq2⟩).2 e)
      have HH:=Lib.hid hh13
      have HY7:=Lib.hid hy7
      clear hk hph ht hv13 hh13 hne13 hy7
      go_wp2_with (refine wpList_append_one2 (base:=0) prcells 2 prcells_len (by decide) rfl _ _ 58 rfl 71 (.agg #[.int .i64 0,.int .i64 0]) 16 Tryz.underlying58 (by kernel_rfl) rfl (.slice (some ⟨q,0,none⟩) k cap) prs ((yn:Int),y3) qn 1 71 rfl rfl HIN5.out HH.out (by intro u hu;simp only[prcells,List.mem_cons,List.not_mem_nil,or_false]at hu;rcases hu with rfl | rfl<;>rfl) (by rw[HKL.out];unfold maxLen;omega) (by rw[HKL.out];omega) (Nat.zero_le _) ?_;intro v7 w7 hown7 ht7 hnew7;obtain⟨g7,c7,cur7,hv7,hh7,_⟩:=own_row_at prcells_len hown7 (by simp);rw[show (prs++[((yn:Int),y3)]).length=k+1 from by rw[List.length_append,HKL.out];rfl]at hv7;subst hv7;have HOWN7:=Lib.hid hown7;have HT7:=Lib.hid ht7;have HNEW7:=Lib.hid hnew7;have HH7:=Lib.hid hh7;clear hown7 ht7 hnew7 hh7)
      have HBQ:=Lib.hid (HM.out.boxes (⟨q,cur,71⟩:Bx) (List.mem_append_left _ List.mem_cons_self)).1
      have HSTN:=Lib.hid (HM.out.beside (ex':=(⟨g7,cur7,71⟩:Bx)::ex) HT7.out (fun q2 _ hq2=>⟨_,List.mem_append_left _ List.mem_cons_self,Option.some.inj hq2⟩) fun z2 hz2=>by
       rcases List.mem_cons.1 hz2 with rfl|hz2
       ·refine⟨HH7.out,?_⟩
        rcases HNEW7.out g7 rfl with h|h
        ·exact .inl ⟨_,List.mem_append_left _ List.mem_cons_self,Option.some.inj h⟩
        ·exact .inr h
       ·have hz3:=HM.out.boxes z2 (List.mem_append_left _ (List.mem_cons_of_mem _ hz2))
        exact⟨hz3.1.turn HT7.out fun e=>heap_ne hz3.1 HBQ.out (HE.out z2 hz2) (Option.some.inj e).symm,.inl ⟨z2,List.mem_append_left _ (List.mem_cons_of_mem _ hz2),rfl⟩⟩)
      have HFN:=Lib.hid (HFS.out.mv (d:=1) (HMC.out.trans (show MvC m { m with at_:=m.at_+1 } 1 0 0 from⟨Nat.le_refl _,⟨Int.le_refl _,Int.le_of_eq (Int.add_zero _).symm⟩,Nat.le_refl _,Nat.le_refl _,rfl,rfl⟩)) (by omega) (by omega) (by omega))
      have HGN:=Lib.hid (show ∀ y∈prs++[((yn:Int),y3)],(0≤y.1∧y.1<(n:Int))∧0≤y.2∧y.2<700 from fun y hy=>by
       rcases List.mem_append.1 hy with hy|hy
       ·exact HGD.out y hy
       ·rw[List.mem_singleton.1 hy];exact⟨HY.out,HY7.out⟩)
      exact HK9.out (pl-(k+1)) _ _ (by omega) ⟨k+1,_,g7,c7,cur7,_,rfl,by omega,by rw[List.length_append,HKL.out];rfl,(fr_mk rfl rfl (sl_cons rfl (sl_cons rfl (sl_cons rfl (sl_cons rfl (sl_cons rfl (sl_cons rfl (sl_cons rfl (sl_cons rfl (sl_cons rfl (sl_nil _))))))))))),HSTN.out,HOWN7.out,HGN.out,HFN.out⟩
     all_goals
      intro p vs w5 hlo hhi ht hph hk
      simp only[List.take,putAll,Act.put,Knows,nthF,Is,List.setIfInBounds_toArray,List.set_cons_zero,List.set_cons_succ,Nat.reduceAdd]at hk ⊢
      try simp only[hk]
     ·go_wp2
      exact⟨_,rfl,rfl,Turn.refl _ _,hph⟩
     ·go_wp2
      exact⟨_,rfl,rfl,Turn.refl _ _,hph⟩
     ·go_wp2
      exact⟨_,rfl,rfl,Turn.refl _ _,hph⟩
     ·go_wp2
      exact⟨_,rfl,rfl,Turn.refl _ _,hph⟩
     ·obtain⟨hc,hl⟩:=HPB.out.1.at (fun z3 hz3=>hph.bx z3 (List.mem_append_left _ (List.mem_cons_of_mem _ (HPB.out.2 z3 hz3)))) HYI.out
      go_wp2
      exact⟨_,rfl,rfl,Turn.refl _ _,hph⟩
     ·go_wp2
      exact⟨_,rfl,rfl,Turn.refl _ _,hph⟩
     ·go_wp2
      exact⟨_,rfl,rfl,Turn.refl _ _,hph⟩
     ·go_wp2
      exact⟨_,rfl,rfl,Turn.refl _ _,hph⟩
     ·go_wp2
      exact⟨_,rfl,rfl,Turn.refl _ _,hph⟩
     ·obtain rfl:p=0:=by omega
      have HM:=Lib.hid (hph.zero rfl)
      clear hph hk ht
      go_wp2_with fail
      refine (mk_take HM.out.ok (ll:Nat) (by omega) (by have h1:=HFS.out.at_;have h2:=HMC.out.at_;omega)).mono ?_
      rintro e w6 ⟨m6,⟨u,rfl,⟨hu0,hu1⟩,hm6⟩,hok6,hmv6⟩
      have HT6:=Lib.hid hmv6.turn
      have HM6:=Lib.hid (HM.out.mv hok6 hmv6)
      subst hm6
      obtain⟨un,rfl⟩:=Int.eq_ofNat_of_zero_le hu0
      have HU:=Lib.hid (show un<ll from by omega)
      clear hok6 hmv6 hu0 hu1
      go_wp2
      exact⟨_,rfl,⟨un,rfl,HU.out⟩,HT6.out,⟨fun e=>(by omega),fun _=>HM6.out,fun z3 hz3=>(HM6.out.boxes z3 hz3).1⟩⟩
     ·obtain⟨t,ht9,htl⟩:ILt ll (vs 9) w5:=by exact hk.2.1
      simp only[ht9]
      clear hk
      go_wp2
      exact⟨_,rfl,⟨t,rfl,htl⟩,Turn.refl _ _,hph⟩
     ·obtain⟨t,ht10,htl⟩:PLt lg ll (vs 10) w5:=by exact hk.1
      simp only[ht10]
      obtain⟨y3,hy3⟩:∃ y3,(ls)[t]? = some y3:=⟨_,List.getElem?_eq_getElem (by rw[HLL.out];exact htl)⟩
      obtain⟨hc,hl⟩:=HLB.out.at (fun z3 hz3=>hph.bx z3 (List.mem_append_right _ hz3)) hy3
      have HY3:=Lib.hid (HLG.out y3 (List.mem_of_getElem? hy3))
      clear hk hy3
      go_wp2
      exact⟨_,rfl,⟨y3,rfl,HY3.out⟩,Turn.refl _ _,hph⟩
     ·obtain⟨y3,hy3,hy7⟩:I7 (vs 11) w5:=by exact hk.2.1
      simp only[hy3]
      clear hk
      go_wp2
      exact⟨_,rfl,⟨y3,rfl,hy7⟩,Turn.refl _ _,hph⟩
     ·obtain⟨y3,hy3,hy7⟩:Pr7 yn (vs 12) w5:=by exact hk.1
      simp only[hy3]
      have hs2:=(Since.refl w5).alloc (.cells #[.int .i64 yn,.int .i64 y3] 71)
      have HP:=Lib.hid (hph.keep hs2)
      have hne:¬ (fun q2=>Own mb (.slice (some ⟨bb,0,none⟩) n n) m q2) w5.heap.size:=fun e=>by have:=HIL.out _ e;have:=ht.size;omega
      have HY7:=Lib.hid hy7
      clear hph hk hy3 hy7
      go_wp2
      exact⟨_,rfl,⟨_,y3,rfl,HeapIs.new _ _ _,hne,HY7.out⟩,Turn.since hs2,HP.out⟩
   all_goals
    intro vs w2 hs hk _
    simp only[List.take,putAll,Act.put,Knows,nthF,Is,List.setIfInBounds_toArray,List.set_cons_zero,List.set_cons_succ,Nat.reduceAdd]at hk ⊢
    try simp only[hk]
   ·go_wp2
    exact⟨_,rfl,rfl,Since.refl _⟩
   ·have hbx:=(HST.out.keep hs).box
    have hb2:w2.cell? ⟨mb,2,none⟩=some (.int .i64 pp):=by rw[←HPP.out];exact hbx.cell 2
    have hb3:=hbx.cell 3
    have hl3:=hbx.lt
    go_wp2
    exact⟨_,rfl,rfl,Since.refl _⟩
   ·go_wp2
    exact⟨_,rfl,rfl,Since.refl _⟩
   ·have hbx:=(HST.out.keep hs).box
    have hb2:w2.cell? ⟨mb,2,none⟩=some (.int .i64 pp):=by rw[←HPP.out];exact hbx.cell 2
    have hb3:=hbx.cell 3
    have hl3:=hbx.lt
    go_wp2
    exact⟨_,rfl,rfl,Since.refl _⟩
   ·go_wp2
    exact⟨_,rfl,rfl,Since.refl _⟩
   ·go_wp2
    exact⟨_,rfl,rfl,Since.refl _⟩
   ·go_wp2
    exact⟨_,rfl,rfl,Since.refl _⟩
   ·have hc:=(hs.cell (p:=⟨pg,k,none⟩) HPC.out.2).trans HPC.out.1
    have hl:=Nat.lt_of_lt_of_le HPC.out.2 hs.size
    go_wp2
    exact⟨_,rfl,rfl,Since.refl _⟩
  ·obtain rfl:pl=k:=by omega
   clear hst
   go_wp2_with fail
   exact HQ.out _ _ _ _ _ _ _ (fr_mk rfl rfl (sl_cons rfl (sl_cons rfl (sl_cons rfl (sl_cons rfl (sl_cons rfl (sl_cons rfl (sl_cons rfl (sl_cons rfl (sl_nil _)))))))))) HST.out HOWN.out HKL.out HGD.out HFS.out
set_option maxHeartbeats 8000000 in
set_option maxRecDepth 1000000 in
theorem mk_phis (w:World) (ex pbx:List Bx) (sa pa:Option Addr) (sl sc pc:Nat) (l ps:List Int) (rows:List (Value × List Int)) (m:MkSt) (r mb bb n tb pb b pl vn c:Nat) (ph:List Int) (x:Int) (a0:Act) (w1:World) (Q0:Exit→Act→World→Prop) (hfr:Fr [(2,.pointer (some ⟨r,0,none⟩)),(3,.pointer (some ⟨mb,0,none⟩)),(4,.int .i64 n),(7,.slice (some ⟨pb,0,none⟩) n n),(25,.int .i64 b),(26,.slice pa pl pc),(27,.int .i64 0)] a0)
  (hst:MSt w ex mb bb tb (.slice sa sl sc) l n rows m w1) (hn9:1≤n∧n≤9) (hb:b<n) (hE:∀ z∈ex,z.ty≠71) (hpb:BV (.slice pa pl pc) ps pbx) (hpx:∀ z∈pbx,z∈ex) (hps:ps.length=pl) (hpl9:pl≤9) (hpg:∀ y∈ps,0≤y∧y<(n:Int)) (hphx:bxP pb ph∈ex) (hpv:ph[b]? = some (vn:Int)) (hvn:vn≤3) (hfs:FinS x ph n c m) (hc:c≤216)
  (hQ:∀ a1 w2 (m:MkSt),Fr [(2,.pointer (some ⟨r,0,none⟩)),(3,.pointer (some ⟨mb,0,none⟩)),(4,.int .i64 n),(7,.slice (some ⟨pb,0,none⟩) n n),(25,.int .i64 b),(26,.slice pa pl pc)] a1→MSt w ex mb bb tb (.slice sa sl sc) l n rows m w2→FinS x ph n (c+pl*vn) m→Q0 .normal a1 w2):Code.wp Tryz.prog (mkCode [1,1,1,1,1,1,1,1,1,1,1,1,0,1,0,0,1,0,0,1,1]) Q0 a0 w1:=by
 obtain⟨u,ha0,hu⟩:=frame_ex hfr
 obtain⟨g1,g2,s2,s3,s4,s7,s25,s26,s27,g3⟩:=hfr
 have e2:=hu 2 _ s2
 have e3:=hu 3 _ s3
 have e4:=hu 4 _ s4
 have e7:=hu 7 _ s7
 have e25:=hu 25 _ s25
 have e26:=hu 26 _ s26
 have e27:=hu 27 _ s27
 rw[e2,e3,e4,e7,e25,e26,e27]at ha0
 subst ha0
 clear hu g1 g2 g3 e2 s2 e3 s3 e4 s4 e7 s7 e25 s25 e26 s26 e27 s27
 conv=>arg 2;whnf
 have HQ:=Lib.hid hQ
 have HE:=Lib.hid hE
 have HPB:=Lib.hid (And.intro hpb hpx)
 have HPS:=Lib.hid (And.intro hps hpg)
 have HFS:=Lib.hid hfs
 have HPX:=Lib.hid (And.intro hphx hpv)
 clear hQ hE hpb hpx hps hpg hfs hphx hpv
 go_wp2_with fail
 refine wp_loop_fr (fun t ac wr=>∃ (i:Nat) (m:MkSt),t=vn-i∧i≤vn∧Fr [(2,.pointer (some ⟨r,0,none⟩)),(3,.pointer (some ⟨mb,0,none⟩)),(4,.int .i64 n),(7,.slice (some ⟨pb,0,none⟩) n n),(25,.int .i64 b),(26,.slice pa pl pc),(27,.int .i64 i)] ac∧MSt w ex mb bb tb (.slice sa sl sc) l n rows m wr∧FinS x ph n (c+pl*i) m) vn ⟨0,m,rfl,Nat.zero_le _,(fr_mk rfl rfl (sl_cons rfl (sl_cons rfl (sl_cons rfl (sl_cons rfl (sl_cons rfl (sl_cons rfl (sl_cons rfl (sl_nil _))))))))),hst,HFS.out⟩ ?_
 ·clear hst HFS m
  intro t a1 wr K hJ hK
  have HK9:=Lib.hid hK
  clear hK
  obtain⟨i,m,rfl,hiv,hf,hst,hfs⟩:=hJ
  obtain⟨u,ha0,hu⟩:=frame_ex hf
  obtain⟨g1,g2,s2,s3,s4,s7,s25,s26,s27,g3⟩:=hf
  have e2:=hu 2 _ s2
  have e3:=hu 3 _ s3
  have e4:=hu 4 _ s4
  have e7:=hu 7 _ s7
  have e25:=hu 25 _ s25
  have e26:=hu 26 _ s26
  have e27:=hu 27 _ s27
  rw[e2,e3,e4,e7,e25,e26,e27]at ha0
  subst ha0
  clear hu g1 g2 g3 e2 s2 e3 s3 e4 s4 e7 s7 e25 s25 e26 s26 e27 s27
  have HST:=Lib.hid hst
  have HFS:=Lib.hid hfs
  have hpc:=(hst.boxes _ HPX.out.1).1.cell b
  rw[show (bxP pb ph).cs=(ph.map (Value.int .i64)).toArray from rfl,List.getElem?_toArray,List.getElem?_map,HPX.out.2]at hpc
  replace hpc:wr.cell? ⟨pb,b,none⟩=some (.int .i64 vn):=hpc
  have hpl:pb<wr.heap.size:=(hst.boxes _ HPX.out.1).1.lt
  clear hst hfs
  by_cases hlt:i<vn
  ·have hpi:pl*i≤18:=Nat.mul_le_mul hpl9 (show i≤2 by omega)
   go_upto_block 28 with fail
   refine mk_pairs w ex pbx sa pa sl sc pc l ps rows m r mb bb n tb pb b i pl wr.heap.size 0 (c+pl*i) #[] ph x _ _ _ (fr_mk rfl rfl (sl_cons rfl (sl_cons rfl (sl_cons rfl (sl_cons rfl (sl_cons rfl (sl_cons rfl (sl_cons rfl (sl_cons rfl (sl_cons rfl (sl_nil _))))))))))) (HST.out.beside (T:=fun _=>False) (Turn.since ((Since.refl _).alloc _)) (fun q _ e=>e.elim) fun z hz=>by
    rcases List.mem_cons.1 hz with rfl|hz
    ·exact⟨HeapIs.new _ _ _,.inr (Nat.le_refl _)⟩
    ·exact⟨(HST.out.boxes z hz).1.keep ((Since.refl _).alloc _),.inl ⟨z,hz,rfl⟩⟩) hn9 HE.out HPB.out.1 HPB.out.2 HPS.out.1 hpl9 HPS.out.2 (own_nilrow wr 0 (Nat.zero_le _)) HFS.out (by omega) ?_
   intro a1 w2 q cap cur prs m2 hf hst2 hown2 hprl hgood hfs2
   obtain⟨u,ha0,hu⟩:=frame_ex hf
   obtain⟨g1,g2,s2,s3,s4,s7,s25,s26,s27,s28,g3⟩:=hf
   have e2:=hu 2 _ s2
   have e3:=hu 3 _ s3
   have e4:=hu 4 _ s4
   have e7:=hu 7 _ s7
   have e25:=hu 25 _ s25
   have e26:=hu 26 _ s26
   have e27:=hu 27 _ s27
   have e28:=hu 28 _ s28
   rw[e2,e3,e4,e7,e25,e26,e27,e28]at ha0
   subst ha0
   clear hu g1 g2 g3 e2 s2 e3 s3 e4 s4 e7 s7 e25 s25 e26 s26 e27 s27 e28 s28
   have hbq:=(hst2.boxes (⟨q,cur,71⟩:Bx) List.mem_cons_self).1
   have hst3:MSt w ex mb bb tb (.slice sa sl sc) l n rows m2 w2:=hst2.beside (T:=fun _=>False) (Turn.refl _ _) (fun q _ e=>e.elim) fun z hz=>⟨(hst2.boxes z (List.mem_cons_of_mem _ hz)).1,.inl ⟨z,List.mem_cons_of_mem _ hz,rfl⟩⟩
   have hstay:Stays (OwnC (CE ex) mb (.slice (some ⟨bb,0,none⟩) n n) m2) w2 (.slice (some ⟨q,0,none⟩) pl cap):=fun q2 hq2=>by
    have e:q=q2:=Option.some.inj hq2
    subst e
    refine⟨fun h=>?_,hbq.lt⟩
    rcases h with h|⟨z,hz,hzq⟩
    ·exact (hst2.ok.aside q ⟨_,List.mem_cons_self,rfl⟩).2 h
    ·exact heap_ne (hst3.boxes z hz).1 hbq (HE.out z hz) hzq
   obtain⟨k,hk⟩:=hst3.at hb
   have hcnt:=hfs2.cnt b k vn hk HPX.out.2
   have hko:=hst3.ok.each k (List.mem_of_getElem? hk)
   obtain⟨fb,fc,fcur,hfv,hfb,hfcur⟩:=own_row_at fpcells_len hko.phis (by omega)
   have hcf:=hst3.cell hk (show 0<6 by decide)
   rw[show (fbcells k)[0]? = some k.phv from rfl,hfv,Nat.add_zero,show k.phis.length=vn from by omega]at hcf
   obtain⟨pp,hpp⟩:∃ pp,k.phis[i]? = some pp:=⟨_,List.getElem?_eq_getElem (by omega)⟩
   have hset:=hst3.ok.setIn (ins:=prs) hk rfl hfv hpp ⟨row_own_in prcells_len hown2 (fun _ _=>trivial),hstay⟩
   have HN:=Lib.hid (hst3.step hset.1 hset.2 (by simp))
   have HFN:=Lib.hid (hfs2.setIn (iv:=.slice (some ⟨q,0,none⟩) pl cap) hk hpp (by omega) hgood)
   have hbx:=hst3.box
   have hb3:=hbx.cell 3
   have hl3:=hbx.lt
   have hbl:=hst3.blkAt.lt
   have hfl:=hfb.lt
   have hff:=hfb.frozen (i*2+1)
   have hkn:b<n:=hb
   have hfc:w2.cell? ⟨fb,i*2+1,none⟩=some pp.inv:=(hfb.cell (i*2+1)).trans (hfcur i 1 pp hpp (by decide))
   clear hst2 hown2 hprl hgood hfs2 hbq hst3 hstay hk hcnt hko hfv hfb hpp hset hbx hpc hpl hfcur
   go_wp2_with fail
   exact HK9.out (vn-(i+1)) _ _ (by omega) ⟨i+1,_,rfl,by omega,(fr_mk rfl rfl (sl_cons rfl (sl_cons rfl (sl_cons rfl (sl_cons rfl (sl_cons rfl (sl_cons rfl (sl_cons rfl (sl_nil _))))))))),HN.out,by rw[Nat.mul_add,Nat.mul_one,←Nat.add_assoc];exact HFN.out⟩
  ·obtain rfl:vn=i:=by omega
   go_wp2_with fail
   exact HQ.out _ _ m (fr_mk rfl rfl (sl_cons rfl (sl_cons rfl (sl_cons rfl (sl_cons rfl (sl_cons rfl (sl_cons rfl (sl_nil _)))))))) HST.out HFS.out
set_option maxHeartbeats 8000000 in
set_option maxRecDepth 1000000 in
theorem mk_last (w:World) (ex:List Bx) (sa:Option Addr) (sl sc:Nat) (l:List Int) (rows:List (Value × List Int)) (m:MkSt) (r mb bb n tb pb:Nat) (ph:List Int) (x:Int) (a0:Act) (w1:World) (Q0:Exit→Act→World→Prop) (hfr:Fr [(2,.pointer (some ⟨r,0,none⟩)),(3,.pointer (some ⟨mb,0,none⟩)),(4,.int .i64 n),(7,.slice (some ⟨pb,0,none⟩) n n),(25,.int .i64 (1:Nat))] a0)
  (hst:MSt w ex mb bb tb (.slice sa sl sc) l n rows m w1) (hn9:1≤n∧n≤9) (hE:∀ z∈ex,z.ty≠71) (hphx:bxP pb ph∈ex) (hfs:FinS x ph n 0 m)
  (hQ:∀ a1 w2 (m:MkSt) (c:Nat),Fr [(2,.pointer (some ⟨r,0,none⟩)),(3,.pointer (some ⟨mb,0,none⟩)),(4,.int .i64 n),(7,.slice (some ⟨pb,0,none⟩) n n)] a1→MSt w ex mb bb tb (.slice sa sl sc) l n rows m w2→FinS x ph n c m→c≤216→Q0 .normal a1 w2):Code.wp Tryz.prog (mkCode [1,1,1,1,1,1,1,1,1,1,1,1,0,1]) Q0 a0 w1:=by
 obtain⟨u,ha0,hu⟩:=frame_ex hfr
 obtain⟨g1,g2,s2,s3,s4,s7,s25,g3⟩:=hfr
 have e2:=hu 2 _ s2
 have e3:=hu 3 _ s3
 have e4:=hu 4 _ s4
 have e7:=hu 7 _ s7
 have e25:=hu 25 _ s25
 rw[e2,e3,e4,e7,e25]at ha0
 subst ha0
 clear hu g1 g2 g3 e2 s2 e3 s3 e4 s4 e7 s7 e25 s25
 conv=>arg 2;whnf
 have HQ:=Lib.hid hQ
 have HE:=Lib.hid hE
 have HFS:=Lib.hid hfs
 have HPX:=Lib.hid hphx
 clear hQ hE hfs hphx
 go_wp2_with fail
 refine wp_loop_fr (fun t ac wr=>∃ (b:Nat) (m:MkSt),t=n-b∧(1≤b∧b≤n)∧Fr [(2,.pointer (some ⟨r,0,none⟩)),(3,.pointer (some ⟨mb,0,none⟩)),(4,.int .i64 n),(7,.slice (some ⟨pb,0,none⟩) n n),(25,.int .i64 b)] ac∧MSt w ex mb bb tb (.slice sa sl sc) l n rows m wr∧∃ c,c≤27*(b-1)∧FinS x ph n c m) (n-1) ⟨1,m,rfl,⟨Nat.le_refl _,hn9.1⟩,(fr_mk rfl rfl (sl_cons rfl (sl_cons rfl (sl_cons rfl (sl_cons rfl (sl_cons rfl (sl_nil _))))))),hst,0,Nat.zero_le _,HFS.out⟩ ?_
 ·clear hst HFS m
  intro t a1 wr K hJ hK
  have HK9:=Lib.hid hK
  clear hK
  obtain⟨b,m,rfl,⟨hb1,hbn⟩,hf,hst,c,hc,hfs⟩:=hJ
  obtain⟨u,ha0,hu⟩:=frame_ex hf
  obtain⟨g1,g2,s2,s3,s4,s7,s25,g3⟩:=hf
  have e2:=hu 2 _ s2
  have e3:=hu 3 _ s3
  have e4:=hu 4 _ s4
  have e7:=hu 7 _ s7
  have e25:=hu 25 _ s25
  rw[e2,e3,e4,e7,e25]at ha0
  subst ha0
  clear hu g1 g2 g3 e2 s2 e3 s3 e4 s4 e7 s7 e25 s25
  have HST:=Lib.hid hst
  have HFS:=Lib.hid hfs
  by_cases hlt:b<n
  ·have hbx:=hst.box
   have hb2:=hbx.cell 2
   have hb3:=hbx.cell 3
   have hl3:=hbx.lt
   have HPR:=Lib.hid (preds_any m.params m.bks (.slice (some ⟨bb,0,none⟩) n n) wr hst.fn.tos (by rw[hst.len];omega) b)
   clear hst hfs hbx
   go_wp2_with fail
   refine HPR.out.mono ?_
   rintro e w2 ⟨pv,ps,rfl,hown,hs2,hpl,hpg⟩
   rw[HST.out.len]at hpl hpg
   obtain⟨pa,pc,hpv⟩:=own_shape hown
   obtain⟨pl,hpl2⟩:∃ z,ps.length=z:=⟨_,rfl⟩
   obtain⟨pbx,hpb,hpx⟩:=bv_of hown
   rw[hpl2]at hpv hpl
   subst hpv
   obtain⟨v,hv,hv0,hv3⟩:∃ v,ph[b]? = some v∧0≤v∧v≤3:=by
    obtain⟨v,hv⟩:∃ v,ph[b]? = some v:=⟨_,List.getElem?_eq_getElem (by rw[HFS.out.phs.1];exact hlt)⟩
    exact⟨v,hv,HFS.out.phs.2.1 v (List.mem_of_getElem? hv)⟩
   obtain⟨vn,rfl⟩:=Int.eq_ofNat_of_zero_le hv0
   have HV:=Lib.hid hv
   have HPB:=Lib.hid hpb
   have HPG:=Lib.hid hpg
   have HPL:=Lib.hid hpl2
   have HTY:=Lib.hid (show ∀ z∈ex++pbx,z.ty≠71 from fun z hz=>by
    rcases List.mem_append.1 hz with hz|hz
    ·exact HE.out z hz
    ·rw[(hpx z hz).2];decide)
   have HST2:=Lib.hid (HST.out.beside (ex':=ex++pbx) (T:=fun _=>False) (Turn.since hs2) (fun q _ e=>e.elim) fun z hz=>by
    rcases List.mem_append.1 hz with hz|hz
    ·exact⟨(HST.out.boxes z hz).1.keep hs2,.inl ⟨z,hz,rfl⟩⟩
    ·exact⟨(hpx z hz).1.1,.inr (hpx z hz).1.2⟩)
   clear hown hs2 hpg hpb hpx hpl2 hv hb2 hb3 hl3 HPR
   go_upto_block 26 with fail
   refine mk_phis w (ex++pbx) pbx sa pa sl sc pc l ps rows m r mb bb n tb pb b pl vn c ph x _ _ _ (fr_mk rfl rfl (sl_cons rfl (sl_cons rfl (sl_cons rfl (sl_cons rfl (sl_cons rfl (sl_cons rfl (sl_cons rfl (sl_nil _))))))))) HST2.out hn9 hlt HTY.out HPB.out (fun z hz=>List.mem_append_right _ hz) HPL.out (by omega) HPG.out (List.mem_append_left _ HPX.out) HV.out (by omega) HFS.out (by omega) ?_
   intro a1 w3 m3 hf hst3 hfs3
   obtain⟨u,ha0,hu⟩:=frame_ex hf
   obtain⟨g1,g2,s2,s3,s4,s7,s25,s26,g3⟩:=hf
   have e2:=hu 2 _ s2
   have e3:=hu 3 _ s3
   have e4:=hu 4 _ s4
   have e7:=hu 7 _ s7
   have e25:=hu 25 _ s25
   have e26:=hu 26 _ s26
   rw[e2,e3,e4,e7,e25,e26]at ha0
   subst ha0
   clear hu g1 g2 g3 e2 s2 e3 s3 e4 s4 e7 s7 e25 s25 e26 s26
   have HST3:=Lib.hid (hst3.beside (ex':=ex) (T:=fun _=>False) (Turn.refl _ _) (fun q _ e=>e.elim) fun z hz=>⟨(hst3.boxes z (List.mem_append_left _ hz)).1,.inl ⟨z,List.mem_append_left _ hz,rfl⟩⟩)
   have HFS3:=Lib.hid hfs3
   have hm27:pl*vn≤27:=Nat.mul_le_mul (show pl≤9 by omega) (show vn≤3 by omega)
   clear hst3 hfs3
   go_wp2_with fail
   exact HK9.out (n-(b+1)) _ _ (by omega) ⟨b+1,m3,rfl,⟨by omega,by omega⟩,(fr_mk rfl rfl (sl_cons rfl (sl_cons rfl (sl_cons rfl (sl_cons rfl (sl_cons rfl (sl_nil _))))))),HST3.out,_,by omega,HFS3.out⟩
  ·obtain rfl:n=b:=by omega
   clear hst hfs
   go_wp2_with fail
   exact HQ.out _ _ m c (fr_mk rfl rfl (sl_cons rfl (sl_cons rfl (sl_cons rfl (sl_cons rfl (sl_nil _)))))) HST.out HFS.out (by omega)
end Go.Proofs.YtmhojfpidedjeaaGreatDoor
