import Derived.Test.YtimpddecdodddaaGreatTlAll
namespace Go.Proofs.YtimpddecdodddaaGreat
open Go.RowKit
set_option linter.unusedVariables false
theorem blockI_yes {p q:Zx} (h:(YD p q).2=true):Zdh p q=-1:=by unfold Zdh;rw[if_pos h]
theorem blockI_no {p q:Zx} (h:(YD p q).2=false):Zdh p q=((YD p q).1:Int):=by unfold Zdh;rw[if_neg (by rw[h];decide)]
structure GkS (w0:World) (pb qb rb:Nat) (P Q:Array Value) (w:World):Prop where
 p:HeapIs w pb P 27
 q:HeapIs w qb Q 27
 r:HeapIs w rb #[.int .i64 0,.int .i64 0,.int .i64 0] 104
 old:Since w0 w
 low:w0.heap.size≤rb
theorem GkS.keep {w0 w w':World} {pb qb rb:Nat} {P Q:Array Value} (h:GkS w0 pb qb rb P Q w) (s:Since w w'):GkS w0 pb qb rb P Q w':=⟨h.p.keep s,h.q.keep s,h.r.keep s,h.old.trans s,h.low⟩
def GotQ (a b c:Int) (w:World) (e:Ending) (w':World):Prop:=e=.returned (.agg #[.int .i64 a,.int .i64 b,.int .i64 c])∧Since w w'
theorem GkS.done {w0 w:World} {pb qb rb:Nat} {P Q:Array Value} (h:GkS w0 pb qb rb P Q w) (a b c:Int):HeapIs (((w.setCell ⟨rb,0,none⟩ (.int .i64 a)).setCell ⟨rb,1,none⟩ (.int .i64 b)).setCell ⟨rb,2,none⟩ (.int .i64 c)) rb #[.int .i64 a,.int .i64 b,.int .i64 c] 104∧Since w0 (((w.setCell ⟨rb,0,none⟩ (.int .i64 a)).setCell ⟨rb,1,none⟩ (.int .i64 b)).setCell ⟨rb,2,none⟩ (.int .i64 c)):=
 ⟨((h.r.set 0 _).set 1 _).set 2 _,((((Zb.refl (fun q=>q=rb) w).setCell (p:=⟨rb,0,none⟩) rfl _).setCell (p:=⟨rb,1,none⟩) rfl _).setCell (p:=⟨rb,2,none⟩) rfl _).toSince h.old fun q hq e=>by have:=h.low;omega⟩
theorem zk0 {P:Prop} (h:P:=by
 go_wp2_with fail
 try simp only[Exit.inBlock,Exit.then]
 refine bodyPost_ret (results_cell_row rfl _ _ rb 104 #[.int .i64 1,.int .i64 0,.int .i64 0] (0,0) _ rfl (HK3.out.done _ _ _).1 Tryz.underlying104 rfl (by kernel_rfl)) rfl ?_
 exact⟨by rw[HF.out];rfl,(HK3.out.done _ _ _).2⟩):P:=h
theorem zk1 {P:Prop} (h:P:=by
 go_wp2_with fail
 try simp only[Exit.inBlock,Exit.then]
 refine bodyPost_ret (results_cell_row rfl _ _ rb 104 #[.int .i64 50,.int .i64 0,.int .i64 0] (0,0) _ rfl (HK3.out.done _ _ _).1 Tryz.underlying104 rfl (by kernel_rfl)) rfl ?_
 exact⟨by rw[HF.out];rfl,(HK3.out.done _ _ _).2⟩):P:=h
set_option maxHeartbeats 8000000 in
set_option maxRecDepth 100000 in
theorem rcheck17_any (p q:Z2) (w:World) (hp:Xz w p) (hq:Xz w q):Calls Tryz.prog 53 #[pv p,pv q] w (GotQ (K0 p q).1 ((K0 p q).2.1:Nat) ((K0 p q).2.2:Nat) w):=by
 have hr1:=fun w2 (s:Since w w2)=>ZbN p w2 (hp.keep s)
 have hr2:=fun w2 (s:Since w w2)=>ZbN q w2 (hq.keep s)
 unfold K0
 obtain⟨R1,hR1⟩:∃ x,rightB p=x:=⟨_,rfl⟩
 obtain⟨R2,hR2⟩:∃ x,rightB q=x:=⟨_,rfl⟩
 rw[hR1]at hr1 ⊢
 rw[hR2]at hr2 ⊢
 clear hR1 hR2
 obtain⟨pp,pk,ps,pl,pbv⟩:=p
 obtain⟨qp,qk,qs,ql,qbv⟩:=q
 obtain⟨hp1,hp2⟩:=hp
 obtain⟨hq1,hq2⟩:=hq
 dsimp only at hp1 hp2 hq1 hq2
 obtain⟨pa,pc,rfl,hpm⟩:=hp1.shape
 obtain⟨qa,qc,rfl,hqm⟩:=hq1.shape
 obtain⟨pn,hpn⟩:∃ x,pl.length=x:=⟨_,rfl⟩
 obtain⟨qn,hqn⟩:∃ x,ql.length=x:=⟨_,rfl⟩
 have HPN:=Lib.hid hpn
 have HQN:=Lib.hid hqn
 unfold pv at hr1 hr2
 dsimp only at hr1 hr2
 rw[hpn]at hr1 hp2
 rw[hqn]at hr2 hq2
 have HP1:=Lib.hid (show Za5 w (.slice pa pn pc) pl from hpn ▸ hp1)
 have HQ1:=Lib.hid (show Za5 w (.slice qa qn qc) ql from hqn ▸ hq1)
 have HR1:=Lib.hid hr1
 have HR2:=Lib.hid hr2
 unfold pv Zah
 dsimp only
 rw[hpn,hqn]
 clear hp1 hq1 hpn hqn hpm hqm hr1 hr2
 obtain⟨E,hE⟩:∃ E,(if (R1&&R2)=true then if (pp==qp&&(pk==qk&&(ps==qs&&decide (pn=qn))))=true then ZaX (checkGo pl ql 0) else (50,0,0) else (1,0,0))=E:=⟨_,rfl⟩
 rw[hE]
 have HE:=Lib.hid hE
 clear hE
 go_enter Tryz.func53,Tryz.ntmps53
 go_upto_region 1 with fail
 obtain⟨wa,hwa⟩:∃ z,z=w.alloc (.cells #[.int .i64 pp,.int .i64 pk,.int .i64 ps,.slice pa pn pc] 27):=⟨_,rfl⟩
 obtain⟨wb,hwb⟩:∃ z,z=wa.alloc (.cells #[.int .i64 qp,.int .i64 qk,.int .i64 qs,.slice qa qn qc] 27):=⟨_,rfl⟩
 obtain⟨w1,hw1⟩:∃ z,z=wb.alloc (.cells #[.int .i64 0,.int .i64 0,.int .i64 0] 104):=⟨_,rfl⟩
 have za:wa.heap.size=w.heap.size+1:=by rw[hwa];simp
 have zb:wb.heap.size=w.heap.size+2:=by rw[hwb];simp[za]
 have sa:Since w wa:=by rw[hwa];exact (Since.refl _).alloc _
 have sb:Since wa wb:=by rw[hwb];exact (Since.refl _).alloc _
 have sc:Since wb w1:=by rw[hw1];exact (Since.refl _).alloc _
 obtain⟨pb,hpb⟩:∃ z,z=w.heap.size:=⟨_,rfl⟩
 obtain⟨qb,hqb⟩:∃ z,z=w.heap.size+1:=⟨_,rfl⟩
 obtain⟨rb,hrb⟩:∃ z,z=w.heap.size+2:=⟨_,rfl⟩
 have HK1:=Lib.hid (show GkS w pb qb rb #[.int .i64 pp,.int .i64 pk,.int .i64 ps,.slice pa pn pc] #[.int .i64 qp,.int .i64 qk,.int .i64 qs,.slice qa qn qc] w1 from by
  have k1:HeapIs wa pb #[.int .i64 pp,.int .i64 pk,.int .i64 ps,.slice pa pn pc] 27:=by rw[hwa,hpb];exact HeapIs.new _ _ _
  have k2:HeapIs wb qb #[.int .i64 qp,.int .i64 qk,.int .i64 qs,.slice qa qn qc] 27:=by rw[hwb,hqb,←za];exact HeapIs.new _ _ _
  have k3:HeapIs w1 rb #[.int .i64 0,.int .i64 0,.int .i64 0] 104:=by rw[hw1,hrb,←zb];exact HeapIs.new _ _ _
  exact⟨(k1.keep sb).keep sc,k2.keep sc,k3,(sa.trans sb).trans sc,by omega⟩)
 rw[←hwa,←hwb,←hw1,←hrb,←hqb,←hpb]
 clear hwa hwb hw1 za zb sa sb sc hpb hqb hrb
 have h9:=HK1.out.p
 have p0:=h9.cell 0
 have p1:=h9.cell 1
 have p2:=h9.cell 2
 have p3:=h9.cell 3
 have pl9:=h9.lt
 clear h9
 go_wp2_with fail
 refine (HR1.out w1 HK1.out.old).mono ?_
 clear p0 p1 p2 p3 pl9
 rintro e w2 ⟨rfl,hs2⟩
 have HK2:=Lib.hid (HK1.out.keep hs2)
 clear hs2
 have h9:=HK2.out.q
 have q0:=h9.cell 0
 have q1:=h9.cell 1
 have q2:=h9.cell 2
 have q3:=h9.cell 3
 have ql9:=h9.lt
 clear h9
 go_wp2_with fail
 refine (HR2.out w2 HK2.out.old).mono ?_
 clear q0 q1 q2 q3 ql9
 rintro e w3 ⟨rfl,hs3⟩
 have HK3:=Lib.hid (HK2.out.keep hs3)
 clear hs3 HK1 HK2
 by_cases hR:¬ (R1&&R2)=true
 ·have HF:=Lib.hid (show E=(1,0,0) from by rw[←HE.out,if_neg hR])
  have h9:=HK3.out.r
  have r0:=h9.cell 0
  have r1:=h9.cell 1
  have r2:=h9.cell 2
  have rl9:=h9.lt
  have rf9:=h9.frozen
  clear h9
  cases R1
  ·exact zk0
  ·cases R2
   ·exact zk0
   ·exact absurd rfl hR
 have hR:=Decidable.not_not.1 hR
 obtain⟨rfl,rfl⟩:R1=true∧R2=true:=by simpa using hR
 rw[if_pos hR]at HE
 clear hR
 have h9:=HK3.out.p
 have p0:=h9.cell 0
 have p1:=h9.cell 1
 have p2:=h9.cell 2
 have p3:=h9.cell 3
 have pl9:=h9.lt
 have h9:=HK3.out.q
 have q0:=h9.cell 0
 have q1:=h9.cell 1
 have q2:=h9.cell 2
 have q3:=h9.cell 3
 have ql9:=h9.lt
 have h9:=HK3.out.r
 have r0:=h9.cell 0
 have r1:=h9.cell 1
 have r2:=h9.cell 2
 have rl9:=h9.lt
 have rf9:=h9.frozen
 clear h9
 cases e0:(pp==qp)
 ·have HF:=Lib.hid (show E=(50,0,0) from by rw[←HE.out,e0];rfl)
  have n0:(pp != qp)=true:=by rw[bne,e0];rfl
  clear e0
  exact zk1
 cases e1:(pk==qk)
 ·have HF:=Lib.hid (show E=(50,0,0) from by rw[←HE.out,e0,e1];rfl)
  have n0:(pp != qp)=false:=by rw[bne,e0];rfl
  have n1:(pk != qk)=true:=by rw[bne,e1];rfl
  clear e0 e1
  exact zk1
 cases e2:(ps==qs)
 ·have HF:=Lib.hid (show E=(50,0,0) from by rw[←HE.out,e0,e1,e2];rfl)
  have n0:(pp != qp)=false:=by rw[bne,e0];rfl
  have n1:(pk != qk)=false:=by rw[bne,e1];rfl
  have n2:(ps != qs)=true:=by rw[bne,e2];rfl
  clear e0 e1 e2
  exact zk1
 have n0:(pp != qp)=false:=by rw[bne,e0];rfl
 have n1:(pk != qk)=false:=by rw[bne,e1];rfl
 have n2:(ps != qs)=false:=by rw[bne,e2];rfl
 by_cases hl:¬ pn=qn
 ·have HF:=Lib.hid (show E=(50,0,0) from by rw[←HE.out,e0,e1,e2,decide_eq_false hl];rfl)
  have nl:((pn:Int) != (qn:Int))=true:=by simp;omega
  clear e0 e1 e2 hl
  exact zk1
 have hl:=Decidable.not_not.1 hl
 subst hl
 have nl:((pn:Int) != (pn:Int))=false:=by simp
 have HF1:=Lib.hid (show E=ZaX (checkGo pl ql 0) from by rw[←HE.out,e0,e1,e2,decide_eq_true rfl];rfl)
 clear e0 e1 e2
 go_wp2_with fail
 clear p0 p1 p2 p3 pl9 q0 q1 q2 q3 ql9 r0 r1 r2 rl9 rf9 n0 n1 n2 nl
 go_loopw [7] (fun iv wr=>∃ k:Nat,k≤pn∧iv=.int .i64 k∧GkS w pb qb rb #[.int .i64 pp,.int .i64 pk,.int .i64 ps,.slice pa pn pc] #[.int .i64 qp,.int .i64 qk,.int .i64 qs,.slice qa pn qc] wr∧X4 pl ql k) (fun iv _=>pn-(intOf iv).toNat)
 case atStart=>exact⟨0,Nat.zero_le _,rfl,HK3.out,X4.start _ _⟩
 case round =>
  obtain⟨k,hk,rfl,hst,hgo⟩:=hrel
  have HST:=Lib.hid hst
  have HGO:=Lib.hid hgo
  clear hst hgo
  by_cases hlt:k<pn
  ·obtain⟨B,off,x,rfl,hB,hx,hcx,hokx⟩:=RowIn.at HP1.out (k:=k) (by rw[HPN.out];exact hlt)
   obtain⟨B2,off2,y,rfl,hB2,hy,hcy,hoky⟩:=RowIn.at HQ1.out (k:=k) (by rw[HQN.out];exact hlt)
   have hbl:=fun w3 (s:Since w w3)=>ZbR x y w3 (BlkOk.keep _ _ _ hokx s) (BlkOk.keep _ _ _ hoky s)
   have hnext:=fun h=>HGO.out.next hx hy h
   have hbad:=fun h=>HGO.out.bad hx hy h
   have hyes:(YD x y).2=true→Zdh x y=-1:=blockI_yes
   have hno:(YD x y).2=false→Zdh x y=((YD x y).1:Int):=blockI_no
   obtain⟨bi,hbi⟩:∃ z,Zdh x y=z:=⟨_,rfl⟩
   obtain⟨bp,hbp⟩:∃ z,(YD x y).1=z:=⟨_,rfl⟩
   obtain⟨bo,hbo⟩:∃ z,(YD x y).2=z:=⟨_,rfl⟩
   rw[hbi]at hbl hyes hno
   rw[hbp]at hbad hno
   rw[hbo]at hnext hbad hyes hno
   obtain⟨xi,xv,⟨xo,xa,xb,xt,xtv,xm⟩⟩:=x
   obtain⟨yi,yv,⟨yo,ya,yb,yt,ytv,ym⟩⟩:=y
   obtain⟨x1,x2,hxv,_⟩:=hokx.1.shape
   obtain⟨y1,y2,hyv,_⟩:=hoky.1.shape
   obtain⟨x3,x4,hxt⟩:=Zc hokx.2.1
   obtain⟨y3,y4,hyt⟩:=Zc hoky.2.1
   dsimp only at hxv hyv hxt hyt
   subst hxv hyv hxt hyt
   unfold bkv at hbl
   dsimp only at hbl
   obtain⟨xn,hxn⟩:∃ z,xi.length=z:=⟨_,rfl⟩
   obtain⟨yn,hyn⟩:∃ z,yi.length=z:=⟨_,rfl⟩
   obtain⟨xtn,hxtn⟩:∃ z,xt.length=z:=⟨_,rfl⟩
   obtain⟨ytn,hytn⟩:∃ z,yt.length=z:=⟨_,rfl⟩
   have hcx2:∀ t v,(blcells { ins:=xi,insv:=.slice x1 xn x2,fin:=⟨xo,xa,xb,xt,.slice x3 xtn x4,xm⟩ })[t]? = some v→w.cell? ⟨B,off+k*6+t,none⟩=some v:=fun t v ht=>(hcx t (by have:=(List.getElem?_eq_some_iff.1 ht).1;exact this)).trans (by rw[hxn,hxtn];exact ht)
   have hcy2:∀ t v,(blcells { ins:=yi,insv:=.slice y1 yn y2,fin:=⟨yo,ya,yb,yt,.slice y3 ytn y4,ym⟩ })[t]? = some v→w.cell? ⟨B2,off2+k*6+t,none⟩=some v:=fun t v ht=>(hcy t (by have:=(List.getElem?_eq_some_iff.1 ht).1;exact this)).trans (by rw[hyn,hytn];exact ht)
   rw[hxn,hyn,hxtn,hytn]at hbl
   have HBL:=Lib.hid hbl
   have HNX:=Lib.hid hnext
   have HBD:=Lib.hid hbad
   have HYES:=Lib.hid hyes
   have HNO:=Lib.hid hno
   have HCX:=Lib.hid (fun w3 (s:Since w w3) t v (ht:_=some v)=>(s.cell (p:=⟨B,off+k*6+t,none⟩) hB).trans (hcx2 t v ht))
   have HCY:=Lib.hid (fun w3 (s:Since w w3) t v (ht:_=some v)=>(s.cell (p:=⟨B2,off2+k*6+t,none⟩) hB2).trans (hcy2 t v ht))
   clear hbl hnext hbad hyes hno hcx hcy hcx2 hcy2 hxn hyn hxtn hytn hokx hoky hbi hbp hbo hx hy
   have h9:=HST.out.p
   have p3:=h9.cell 3
   have pl9:=h9.lt
   clear h9
   go_wp2_with fail
   clear p3 pl9
   refine Zu rfl (by decide +kernel) (by decide +kernel)
    [Is (.pointer (some ⟨pb,3,none⟩)),Is (.slice (some ⟨B,off,none⟩) pn pc),Is (.int .i64 k),Is (.pointer (some ⟨B,off+k*6,none⟩)),Is (.agg #[.slice x1 xn x2,.int .i64 xo,.int .i64 xa,.int .i64 xb,.slice x3 xtn x4,.int .i32 xm]),Is (.pointer (some ⟨qb,3,none⟩)),Is (.slice (some ⟨B2,off2,none⟩) pn qc),Is (.int .i64 k),Is (.pointer (some ⟨B2,off2+k*6,none⟩)),Is (.agg #[.slice y1 yn y2,.int .i64 yo,.int .i64 ya,.int .i64 yb,.slice y3 ytn y4,.int .i32 ym]),Is (.int .i64 bi),Is (.int .i64 bi)]
    (by repeat (first | exact trivial | refine⟨Is.stable _,?_⟩ | refine⟨Zo.stable _ _,?_⟩ | refine⟨XV.stable _ _,?_⟩)) ⟨?_,?_,?_,?_,?_,?_,?_,?_,?_,?_,?_,?_,trivial⟩ ?_
   all_goals
    intro vs w4 hs hk
    simp only[putAll,Act.put,Zp,Zi,Zj,Is,List.setIfInBounds_toArray,List.set_cons_zero,List.set_cons_succ,Nat.reduceAdd,List.length_cons,List.length_nil]at hk ⊢
    try simp only[hk]
   ·go_wp2
    exact⟨_,rfl,rfl,Since.refl _⟩
   ·have h9:=(HST.out.keep hs).p
    have c3:=h9.cell 3
    have cl:=h9.lt
    clear h9
    go_wp2
    exact⟨_,rfl,rfl,Since.refl _⟩
   ·go_wp2
    exact⟨_,rfl,rfl,Since.refl _⟩
   ·go_wp2
    exact⟨_,rfl,rfl,Since.refl _⟩
   ·have c0:=HCX.out w4 (HST.out.old.trans hs) 0 _ rfl
    have c1:=HCX.out w4 (HST.out.old.trans hs) 1 _ rfl
    have c2:=HCX.out w4 (HST.out.old.trans hs) 2 _ rfl
    have c3:=HCX.out w4 (HST.out.old.trans hs) 3 _ rfl
    have c4:=HCX.out w4 (HST.out.old.trans hs) 4 _ rfl
    have c5:=HCX.out w4 (HST.out.old.trans hs) 5 _ rfl
    have hl:B<w4.heap.size:=Nat.lt_of_lt_of_le hB (HST.out.old.trans hs).size
    rw[Nat.add_zero]at c0
    go_wp2
    exact⟨_,rfl,rfl,Since.refl _⟩
   ·go_wp2
    exact⟨_,rfl,rfl,Since.refl _⟩
   ·have h9:=(HST.out.keep hs).q
    have c3:=h9.cell 3
    have cl:=h9.lt
    clear h9
    go_wp2
    exact⟨_,rfl,rfl,Since.refl _⟩
   ·go_wp2
    exact⟨_,rfl,rfl,Since.refl _⟩
   ·go_wp2
    exact⟨_,rfl,rfl,Since.refl _⟩
   ·have c0:=HCY.out w4 (HST.out.old.trans hs) 0 _ rfl
    have c1:=HCY.out w4 (HST.out.old.trans hs) 1 _ rfl
    have c2:=HCY.out w4 (HST.out.old.trans hs) 2 _ rfl
    have c3:=HCY.out w4 (HST.out.old.trans hs) 3 _ rfl
    have c4:=HCY.out w4 (HST.out.old.trans hs) 4 _ rfl
    have c5:=HCY.out w4 (HST.out.old.trans hs) 5 _ rfl
    have hl:B2<w4.heap.size:=Nat.lt_of_lt_of_le hB2 (HST.out.old.trans hs).size
    rw[Nat.add_zero]at c0
    go_wp2
    exact⟨_,rfl,rfl,Since.refl _⟩
   ·have HC:=Lib.hid (HBL.out w4 (HST.out.old.trans hs))
    clear hs
    go_wp2_with fail
    refine HC.out.mono ?_
    rintro e w5 ⟨rfl,hs5⟩
    go_wp2
    exact⟨_,rfl,rfl,hs5⟩
   ·go_wp2
    exact⟨_,rfl,rfl,Since.refl _⟩
   ·have HST4:=Lib.hid (HST.out.keep hs)
    clear hs hk
    cases bo
    ·have hz:=HNO.out rfl
     subst hz
     have HF:=Lib.hid (show E=(50,k,bp) from by rw[HF1.out,HBD.out rfl];rfl)
     have hge:decide ((bp:Int)≥0)=true:=decide_eq_true (by omega)
     have hge2:decide ((0:Int)≤bp)=true:=decide_eq_true (by omega)
     have h9:=HST4.out.r
     have r0:=h9.cell 0
     have r1:=h9.cell 1
     have r2:=h9.cell 2
     have rl9:=h9.lt
     have rf9:=h9.frozen
     clear h9
     go_wp2_with fail
     try simp only[Exit.inBlock,Exit.then]
     refine bodyPost_ret (results_cell_row rfl _ _ rb 104 #[.int .i64 50,.int .i64 k,.int .i64 bp] (0,0) _ rfl (HST4.out.done _ _ _).1 Tryz.underlying104 rfl (by kernel_rfl)) rfl ?_
     exact⟨by rw[HF.out],(HST4.out.done _ _ _).2⟩
    ·have hz:=HYES.out rfl
     subst hz
     go_wp2_with fail
     go_roundw
     case rel=>exact⟨k+1,by omega,by go_num,HST4.out,HNX.out rfl⟩
     case measure=>simp[intOf]<;>omega
  ·obtain rfl:pn=k:=by omega
   have HF:=Lib.hid (show E=(0,0,0) from by rw[HF1.out,X4.done (by rw[HPN.out];exact HGO.out)];rfl)
   have h9:=HST.out.p
   have p0:=h9.cell 0
   have p1:=h9.cell 1
   have p2:=h9.cell 2
   have p3:=h9.cell 3
   have pl9:=h9.lt
   have h9:=HST.out.r
   have r0:=h9.cell 0
   have r1:=h9.cell 1
   have r2:=h9.cell 2
   have rl9:=h9.lt
   have rf9:=h9.frozen
   clear h9
   go_wp2_with fail
   try simp only[Exit.inBlock,Exit.then]
   refine bodyPost_ret (results_cell_row rfl _ _ rb 104 #[.int .i64 0,.int .i64 0,.int .i64 0] (0,0) _ rfl (HST.out.done _ _ _).1 Tryz.underlying104 rfl (by kernel_rfl)) rfl ?_
   exact⟨by rw[HF.out];rfl,(HST.out.done _ _ _).2⟩
end Go.Proofs.YtimpddecdodddaaGreat