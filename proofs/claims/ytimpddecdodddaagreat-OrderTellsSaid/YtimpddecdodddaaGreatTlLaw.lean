import Derived.Test.YtimpddecdodddaaGreatTlTurn
import Derived.Test.YtimpddecdodddaaGreatTlCheck
import Derived.OpenShut
namespace Go.Proofs.YtimpddecdodddaaGreat
open Go.RowKit Go.ChangeShapes Go.WideShapes
set_option linter.unusedVariables false
set_option maxHeartbeats 4000000 in
set_option maxRecDepth 100000 in
theorem tells17_any (p q:Z2) (w:World) (hp:Xz w p) (hq:Xz w q):Calls Tryz.prog 25 #[pv p,pv q] w (ZD true w):=by
 obtain⟨a,ha⟩:∃ z,(K0 p q).1=z:=⟨_,rfl⟩
 obtain⟨b,hb⟩:∃ z,((K0 p q).2.1:Int)=z:=⟨_,rfl⟩
 obtain⟨c,hc⟩:∃ z,((K0 p q).2.2:Int)=z:=⟨_,rfl⟩
 have h1:=fun w1 (s:Since w w1)=>Zdg p q w1 (hp.keep s) (hq.keep s)
 have h2:=fun w1 (s:Since w w1)=>rcheck17_any p q w1 (hp.keep s) (hq.keep s)
 rw[ha,hb,hc]at h1 h2
 obtain⟨pp,pk,ps,pbl,pbv⟩:=p
 obtain⟨qp,qk,qs,qbl,qbv⟩:=q
 obtain⟨pa,pc,hpv,_⟩:=RowIn.shape hp.1
 obtain⟨qa,qc,hqv,_⟩:=RowIn.shape hq.1
 obtain⟨pn,hpn⟩:∃ z,pbl.length=z:=⟨_,rfl⟩
 obtain⟨qn,hqn⟩:∃ z,qbl.length=z:=⟨_,rfl⟩
 dsimp only at hpv hqv
 rw[hpn]at hpv
 rw[hqn]at hqv
 subst hpv hqv
 unfold pv at h1 h2 ⊢
 dsimp only at h1 h2 ⊢
 have H1:=Lib.hid h1
 have H2:=Lib.hid h2
 clear h1 h2 ha hb hc hp hq hpn hqn
 go_enter Tryz.func25,Tryz.ntmps25
 go_upto_region 1 with fail
 obtain⟨wa,hwa⟩:∃ z,z=w.alloc (.cells #[.int .i64 pp,.int .i64 pk,.int .i64 ps,.slice pa pn pc] 27):=⟨_,rfl⟩
 obtain⟨w1,hw1⟩:∃ z,z=wa.alloc (.cells #[.int .i64 qp,.int .i64 qk,.int .i64 qs,.slice qa qn qc] 27):=⟨_,rfl⟩
 have za:wa.heap.size=w.heap.size+1:=by rw[hwa];simp
 have sa:Since w wa:=by rw[hwa];exact (Since.refl _).alloc _
 have sb:Since wa w1:=by rw[hw1];exact (Since.refl _).alloc _
 obtain⟨pb,hpb⟩:∃ z,z=w.heap.size:=⟨_,rfl⟩
 obtain⟨qb,hqb⟩:∃ z,z=w.heap.size+1:=⟨_,rfl⟩
 have HPB:=Lib.hid (show HeapIs w1 pb #[.int .i64 pp,.int .i64 pk,.int .i64 ps,.slice pa pn pc] 27 from by
  have k1:HeapIs wa pb #[.int .i64 pp,.int .i64 pk,.int .i64 ps,.slice pa pn pc] 27:=by rw[hwa,hpb];exact HeapIs.new _ _ _
  exact k1.keep sb)
 have HQB:=Lib.hid (show HeapIs w1 qb #[.int .i64 qp,.int .i64 qk,.int .i64 qs,.slice qa qn qc] 27 from by rw[hw1,hqb,←za];exact HeapIs.new _ _ _)
 have HS1:=Lib.hid (sa.trans sb)
 rw[←hwa,←hw1,←hqb,←hpb]
 clear hwa hw1 za sa sb hpb hqb;have h9:=HPB.out;have p0:=h9.cell 0;have p1:=h9.cell 1;have p2:=h9.cell 2;have p3:=h9.cell 3;have pl:=h9.lt;have h9:=HQB.out;have q0:=h9.cell 0;have q1:=h9.cell 1;have q2:=h9.cell 2;have q3:=h9.cell 3;have ql:=h9.lt;clear h9
 go_wp2_with fail
 refine (H1.out w1 HS1.out).mono ?_
 clear p0 p1 p2 p3 pl q0 q1 q2 q3 ql
 rintro e w2 ⟨rfl,hs2⟩
 have HS2:=Lib.hid hs2
 clear hs2;have h9:=HPB.out.keep HS2.out;have p0:=h9.cell 0;have p1:=h9.cell 1;have p2:=h9.cell 2;have p3:=h9.cell 3;have pl:=h9.lt;have h9:=HQB.out.keep HS2.out;have q0:=h9.cell 0;have q1:=h9.cell 1;have q2:=h9.cell 2;have q3:=h9.cell 3;have ql:=h9.lt;clear h9
 go_wp2_with fail
 refine (H2.out w2 (HS1.out.trans HS2.out)).mono ?_
 clear p0 p1 p2 p3 pl q0 q1 q2 q3 ql
 rintro e w3 ⟨rfl,hs3⟩
 have HS3:=Lib.hid hs3
 clear hs3
 go_wp2_with fail
 go_ret
 exact⟨rfl,(HS1.out.trans (HS2.out.trans HS3.out)).alloc _⟩
theorem moved_ok2 {w3 w':World} {p q:Z2} {B : Nat} (hp:Xz w3 p) (s:Since w3 w') (hm:VN p q) (hrow:OwnRow blcells 6 34 B w' q.bv q.blocks) (hea:∀ x∈q.blocks,OwnRow plcells 9 38 B w' x.insv x.ins):Xz w' q:=by
 refine⟨Z0 Z5 hrow fun x hx=>?_,by rw[hm.len];exact hp.2⟩
 obtain⟨t,ht⟩:=List.getElem?_of_mem hx
 have hlt:=(List.getElem?_eq_some_iff.1 ht).1
 obtain⟨a,ha⟩:∃ a,p.blocks[t]? = some a:=⟨_,List.getElem?_eq_getElem (by rw[←hm.len];exact hlt)⟩
 obtain⟨h1,h2,h3⟩:=hm.each t a x ha ht
 have hb:=RowIn.each_of hp.1 a (List.mem_of_getElem? ha)
 exact⟨Z0 Zq (hea x hx) fun y hy=>XA.keep _ _ _ (RowIn.each_of hb.1 y (h3 y hy)) s,by rw[h1];exact hb.2.1.keep s,by rw[Zap h2];exact hb.2.2⟩
theorem JT.few {n : Int} {e : ZY} (h:JT n e):e.to.length≤100000:=by
 have h1:=h.fits
 unfold Ya at h1
 repeat' split at h1
 all_goals first | (simp only[Bool.and_eq_true,decide_eq_true_eq]at h1;omega) | (cases h1;done)
set_option maxHeartbeats 16000000 in
set_option maxRecDepth 1000000 in
theorem walk_tells17 (sv by0:Value) (s l1:List Int) (x0 x1 x2:Int) (w:World) (h:Zd w sv s) (hsv:∀ q,sv.ownBlock=some q→q<w.heap.size) (h1:Zd w by0 l1) (hby:∀ q,by0.ownBlock=some q→q<w.heap.size):Calls Tryz.prog 5 #[sv,by0,.agg #[.int .i64 x0,.int .i64 x1,.int .i64 x2]] w (ZD true w):=by
 obtain⟨sa,sc,hv⟩:=Zc h
 obtain⟨ba,bc,hb⟩:=Zc h1
 obtain⟨sl,hsl⟩:∃ x,s.length=x:=⟨_,rfl⟩
 obtain⟨bn,hbn⟩:∃ x,l1.length=x:=⟨_,rfl⟩
 rw[hsl]at hv
 rw[hbn]at hb
 subst hv hb
 have H:=Lib.hid h
 have HB:=Lib.hid h1
 have HSV:=Lib.hid hsv
 have HBV:=Lib.hid hby
 clear h hsv h1 hby hsl hbn
 go_enter Tryz.func5,Tryz.ntmps5
 go_upto_region 1 with fail
 obtain⟨qb,hqb⟩:∃ z,z=w.heap.size:=⟨_,rfl⟩
 obtain⟨w0,hw0⟩:∃ z,z=w.alloc (.cells #[.int .i64 x0,.int .i64 x1,.int .i64 x2] 53):=⟨_,rfl⟩
 have HQB:=Lib.hid (show HeapIs w0 qb #[.int .i64 x0,.int .i64 x1,.int .i64 x2] 53 from by rw[hw0,hqb];exact HeapIs.new _ _ _)
 have HS0:=Lib.hid (show Since w w0 from by rw[hw0];exact (Since.refl _).alloc _)
 rw[←hw0,←hqb]
 clear hw0 hqb
 go_wp2_with fail
 refine (Zdi _).mono ?_
 rintro e w1 ⟨rfl,hs1⟩
 have HS1:=Lib.hid hs1
 clear hs1
 go_wp2_with fail
 refine (ZbE (.slice sa sl sc) s w1 (H.out.keep (HS0.out.trans HS1.out)) fun q hq=>Nat.lt_of_lt_of_le (HSV.out q hq) (HS0.out.trans HS1.out).size).mono ?_
 rintro e w1b ⟨v,rfl,hw,hv,hvl⟩
 have e9:=hw.symm
 clear hw
 subst e9
 have HV:=Lib.hid hv
 have HVL:=Lib.hid hvl
 clear hv hvl
 go_wp2_with fail
 refine (Zb3 v (s.take 300) w1 HV.out HVL.out (by rw[List.length_take];omega)).mono ?_
 rintro e w2 ⟨p,rfl,hk,hmp,hs2⟩
 have HS2:=Lib.hid ((HS0.out.trans HS1.out).trans hs2)
 have HS02:=Lib.hid (HS1.out.trans hs2)
 have HGP:=Lib.hid (hmp.good hk)
 have HOK:=Lib.hid hmp.ok
 obtain⟨pp,pk,ps,pbl,pbv⟩:=p
 obtain⟨pa,pc,hpv⟩:=OwnRow.shape hmp.row
 obtain⟨n,hn⟩:∃ z,pbl.length=z:=⟨_,rfl⟩
 dsimp only at hpv
 rw[hn]at hpv
 subst hpv
 have HN9:=Lib.hid (show 1≤pbl.length∧pbl.length≤9 from hmp.blocks)
 unfold pv
 dsimp only
 clear hk hmp hs2 hn HV HVL H HSV
 go_upto_region 3 with fail
 obtain⟨pb,hpb⟩:∃ z,z=w2.heap.size:=⟨_,rfl⟩
 obtain⟨w3,hw3⟩:∃ z,z=w2.alloc (.cells #[.int .i64 pp,.int .i64 pk,.int .i64 ps,.slice pa n pc] 27):=⟨_,rfl⟩
 have HPB:=Lib.hid (show HeapIs w3 pb #[.int .i64 pp,.int .i64 pk,.int .i64 ps,.slice pa n pc] 27 from by rw[hw3,hpb];exact HeapIs.new _ _ _)
 have HS23:=Lib.hid (show Since w2 w3 from by rw[hw3];exact (Since.refl _).alloc _)
 have HS3:=Lib.hid (HS2.out.trans HS23.out)
 have HQ3:=Lib.hid (HQB.out.keep (HS02.out.trans HS23.out))
 have HOK3:=Lib.hid (HOK.out.keep HS23.out)
 rw[←hw3,←hpb]
 clear hw3 hpb HQB HS02 HOK
 have HI:=Lib.hid (show ∀ x∈pbl,x.ins.length≤40000 from fun x hx=>by have h1:=KF hx;have h2:=HGP.out.total;dsimp only at h2;omega)
 refine Zh 5 rfl (by decide +kernel) (by decide +kernel) (by decide +kernel) (by decide)
  [Is (.agg #[.int .i64 pp,.int .i64 pk,.int .i64 ps,.slice pa n pc]),Is (.slice ba bn bc),Zck l1,Zd4 ⟨pp,pk,ps,pbl,.slice pa n pc⟩,Zd7 w3.heap.size]
  (by repeat (first | exact trivial | refine⟨Is.stable _,?_⟩ | refine⟨Zck.stable _,?_⟩ | refine⟨Zd4.stable _,?_⟩ | refine⟨Zd7.stable _,?_⟩)) ⟨?_,?_,?_,?_,?_,trivial⟩ ?_
 ·intro vs w5 hs hk _
  simp only[List.take,putAll,Act.put,Zp,List.setIfInBounds_toArray,List.set_cons_zero,List.set_cons_succ,Nat.reduceAdd]at hk ⊢
  have h9:=HPB.out.keep hs;have k0:=h9.cell 0;have k1:=h9.cell 1;have k2:=h9.cell 2;have k3:=h9.cell 3;have kl:=h9.lt;clear h9
  go_wp2
  exact⟨_,rfl,rfl,Since.refl _⟩
 ·intro vs w5 hs hk _
  simp only[List.take,putAll,Act.put,Zp,List.setIfInBounds_toArray,List.set_cons_zero,List.set_cons_succ,Nat.reduceAdd]at hk ⊢
  go_wp2
  exact⟨_,rfl,rfl,Since.refl _⟩
 ·intro vs w5 hs hk _
  simp only[List.take,putAll,Act.put,Zp,Zj,Is,List.setIfInBounds_toArray,List.set_cons_zero,List.set_cons_succ,Nat.reduceAdd]at hk ⊢
  try simp only[hk]
  have HS5:=Lib.hid (HS3.out.trans hs)
  clear hk hs
  go_wp2_with fail
  refine (ZbE (.slice ba bn bc) l1 w5 (HB.out.keep HS5.out) fun q hq=>Nat.lt_of_lt_of_le (HBV.out q hq) HS5.out.size).mono ?_
  rintro e w6 ⟨v,rfl,rfl,hv,hvl⟩
  go_wp2
  exact⟨_,rfl,hv,Since.refl _⟩
 ·intro vs w5 hs hk _
  simp only[List.take,putAll,Act.put,Zp,Zj,Is,List.setIfInBounds_toArray,List.set_cons_zero,List.set_cons_succ,Nat.reduceAdd]at hk ⊢
  simp only[hk.1]
  obtain⟨v2,hv2⟩:∃ z,vs 2=z:=⟨_,rfl⟩
  rw[hv2]at hk ⊢
  have HMC:=Lib.hid (ZcZ ⟨pp,pk,ps,pbl,.slice pa n pc⟩ (l1.take 300) v2 w5 (HOK3.out.keep hs) hk.2.1 (by have:=HN9.out;dsimp only;omega) fun x hx=>by have:=HI.out x hx;omega)
  unfold pv at HMC
  dsimp only at HMC
  clear hk hs hv2
  go_wp2_with fail
  refine HMC.out.mono ?_
  rintro e w6 ⟨q,rfl,⟨_,hrow,hea⟩,hm,hsN⟩
  go_wp2
  exact⟨_,rfl,⟨q,rfl,OwnRow.low0 hrow,fun x hx=>OwnRow.low0 (hea x hx),hm⟩,hsN⟩
 ·intro vs w5 hs hk _
  simp only[List.take,putAll,Act.put,Zp,List.setIfInBounds_toArray,List.set_cons_zero,List.set_cons_succ,Nat.reduceAdd]at hk ⊢
  have HSZ:=Lib.hid hs.size
  clear hk hs
  go_wp2
  exact⟨_,rfl,⟨_,rfl,HSZ.out,HeapIs.new _ _ _⟩,(Since.refl _).alloc _⟩
 intro vs w5 hs hk
 simp only[List.take,List.drop,putAll,Act.put,Zi,Zj,Is,List.setIfInBounds_toArray,List.set_cons_zero,List.set_cons_succ,Nat.reduceAdd]at hk ⊢
 try simp only[hk]
 obtain⟨⟨fp,fk,fs,fbl,fbv⟩,hv4,hrow4,hea4,hmv4⟩:Zd4 ⟨pp,pk,ps,pbl,.slice pa n pc⟩ (vs 3) w5:=by exact hk.2.2.2.1
 obtain⟨fb,hv5,hlow5,hbx5⟩:Zd7 w3.heap.size (vs 4) w5:=by exact hk.2.2.2.2.1
 obtain⟨fa,fc,hqv⟩:=OwnRow.shape hrow4
 obtain⟨fn,hqn⟩:∃ z,fbl.length=z:=⟨_,rfl⟩
 dsimp only at hqv
 rw[hqn]at hqv
 subst hqv
 unfold pv at hv4
 dsimp only at hv4
 simp only[hv4,hv5]
 have HRO:=Lib.hid hrow4
 have HEA:=Lib.hid hea4
 have HMV:=Lib.hid hmv4
 have HBX:=Lib.hid hbx5
 have HLOW:=Lib.hid hlow5
 have HSX:=Lib.hid hs
 clear hk hs hrow4 hea4 hmv4 hbx5 hlow5 hqn hv4 hv5
 go_upto_region 4 with (refine wpList_store_row rfl 27 _ _ rfl fb #[.int .i64 fp,.int .i64 fk,.int .i64 fs,.slice fa fn fc] rfl rfl 27 _ HBX.out (by kernel_rfl) rfl (by rw[←Array.all_toList];rfl) ?_)
 obtain⟨w6,hwn⟩:∃ z,z=w5.setRow fb #[.int .i64 fp,.int .i64 fk,.int .i64 fs,.slice fa fn fc]:=⟨_,rfl⟩
 have HFB:=Lib.hid (show HeapIs w6 fb #[.int .i64 fp,.int .i64 fk,.int .i64 fs,.slice fa fn fc] 27 from by rw[hwn];exact ZO HBX.out _)
 have HT:=Lib.hid (show Zb (fun q=>q=fb) w5 w6 from by rw[hwn];exact ZI (S:=fun q=>q=fb) rfl _)
 rw[←hwn]
 clear hwn
 have HS36:=Lib.hid (show Since w3 w6 from HT.out.toSince HSX.out fun q hq e=>by have:=HLOW.out;omega)
 have HFO:=Lib.hid (show Xz w6 ⟨fp,fk,fs,fbl,.slice fa fn fc⟩ from moved_ok2 HOK3.out HS36.out HMV.out (Zg (show w5.ownsRow _ _ _ _ _ _ from HRO.out) HT.out ((Kin.box HBX.out).apart (show w5.ownsRow _ _ _ _ _ _ from HRO.out) (by decide))) fun x hx=>Zg (show w5.ownsRow _ _ _ _ _ _ from HEA.out x hx) HT.out ((Kin.box HBX.out).apart (show w5.ownsRow _ _ _ _ _ _ from HEA.out x hx) (by decide)))
 have HFN:=Lib.hid (show fbl.length≤1000 from by have h1:fbl.length=pbl.length:=HMV.out.len;have:=HN9.out;omega)
 clear HRO HEA HBX HT HLOW HSX HMV
 have HSWC:=Lib.hid (Zab ⟨fp,fk,fs,fbl,.slice fa fn fc⟩ x0 x1 w6 HFO.out HFN.out)
 unfold pv at HSWC
 dsimp only at HSWC
 have h9:=HFB.out;have k0:=h9.cell 0;have k1:=h9.cell 1;have k2:=h9.cell 2;have k3:=h9.cell 3;have kl:=h9.lt;have h9:=HQ3.out.keep HS36.out;have q0:=h9.cell 0;have q1:=h9.cell 1;have ql:=h9.lt;clear h9
 go_wp2_with fail
 refine HSWC.out.mono ?_
 clear HSWC k0 k1 k2 k3 kl q0 q1 ql
 rintro e w7 ⟨q,x,y,xv,yv,rfl,hqok,hsw,hx,hy,hs7⟩
 have HGO:=Lib.hid hqok
 obtain⟨gp,gk,gs,gbl,gbv⟩:=q
 obtain⟨ga,gc,hgv,_⟩:=RowIn.shape hqok.1
 obtain⟨gn,hgn⟩:∃ z,gbl.length=z:=⟨_,rfl⟩
 dsimp only at hgv
 rw[hgn]at hgv
 subst hgv
 obtain⟨xop,xd,xe,xa,xb,xc,xi,xargs⟩:=x
 obtain⟨yop,yd,ye,ya,yb,yc,yi,yargs⟩:=y
 obtain⟨xva,xvc,hxv⟩:=Zc hx.1
 obtain⟨yva,yvc,hyv⟩:=Zc hy.1
 obtain⟨xn,hxn⟩:∃ z,xargs.length=z:=⟨_,rfl⟩
 obtain⟨yn,hyn⟩:∃ z,yargs.length=z:=⟨_,rfl⟩
 dsimp only at hxv hyv
 rw[hxn]at hxv
 rw[hyn]at hyv
 subst hxv hyv
 have HS67:=Lib.hid hs7
 unfold pv mv
 dsimp only
 clear hqok hsw hx hy hs7 hgn hxn hyn
 go_upto_region 5 with fail
 obtain⟨gb,hgb⟩:∃ z,z=w7.heap.size:=⟨_,rfl⟩
 obtain⟨wa,hwa⟩:∃ z,z=w7.alloc (.cells #[.int .i64 gp,.int .i64 gk,.int .i64 gs,.slice ga gn gc] 27):=⟨_,rfl⟩
 obtain⟨w8,hw8⟩:∃ z,z=(wa.alloc (.cells #[.int .i64 xop,.int .i64 xd,.int .i64 xe,.int .i64 xa,.int .i64 xb,.int .i64 xc,.int .i32 xi,.slice xva xn xvc] 36)).alloc (.cells #[.int .i64 yop,.int .i64 yd,.int .i64 ye,.int .i64 ya,.int .i64 yb,.int .i64 yc,.int .i32 yi,.slice yva yn yvc] 36):=⟨_,rfl⟩
 have sa:Since w7 wa:=by rw[hwa];exact (Since.refl _).alloc _
 have sb:Since wa w8:=by rw[hw8];exact ((Since.refl _).alloc _).alloc _
 have HGB:=Lib.hid (show HeapIs w8 gb #[.int .i64 gp,.int .i64 gk,.int .i64 gs,.slice ga gn gc] 27 from by
  have k1:HeapIs wa gb #[.int .i64 gp,.int .i64 gk,.int .i64 gs,.slice ga gn gc] 27:=by rw[hwa,hgb];exact HeapIs.new _ _ _
  exact k1.keep sb)
 have HS78:=Lib.hid (sa.trans sb)
 rw[←hwa,←hw8,←hgb]
 clear hwa hw8 hgb sa sb
 have HS38:=Lib.hid (HS36.out.trans (HS67.out.trans HS78.out))
 have HTC:=Lib.hid (turned12_any ⟨pp,pk,ps,pbl,.slice pa n pc⟩ x0 x1 x2 w8 (HOK3.out.keep HS38.out) (by have:=HN9.out;dsimp only;omega) fun x hx=>⟨by have:=HI.out x hx;omega,JT.few ((HGP.out).each x hx).fin⟩)
 unfold pv at HTC
 dsimp only at HTC
 have h9:=HPB.out.keep HS38.out;have k0:=h9.cell 0;have k1:=h9.cell 1;have k2:=h9.cell 2;have k3:=h9.cell 3;have kl:=h9.lt;have h9:=HQ3.out.keep HS38.out;have q0:=h9.cell 0;have q1:=h9.cell 1;have q2:=h9.cell 2;have ql:=h9.lt;clear h9
 go_wp2_with fail
 refine HTC.out.mono ?_
 clear HTC k0 k1 k2 k3 kl q0 q1 q2 ql
 rintro e w9 ⟨q,rfl,hqok,hs9⟩
 have HCO:=Lib.hid hqok
 obtain⟨cp,ck,cs,cbl,cbv⟩:=q
 obtain⟨ca,cc,hcv,_⟩:=RowIn.shape hqok.1
 obtain⟨cn,hcn⟩:∃ z,cbl.length=z:=⟨_,rfl⟩
 dsimp only at hcv
 rw[hcn]at hcv
 subst hcv
 have HS89:=Lib.hid hs9
 dsimp only
 clear hqok hs9 hcn
 go_upto_region 6 with fail
 obtain⟨cb,hcb⟩:∃ z,z=w9.heap.size:=⟨_,rfl⟩
 obtain⟨wx,hwx⟩:∃ z,z=w9.alloc (.cells #[.int .i64 cp,.int .i64 ck,.int .i64 cs,.slice ca cn cc] 27):=⟨_,rfl⟩
 have sa:Since w9 wx:=by rw[hwx];exact (Since.refl _).alloc _
 have HCB:=Lib.hid (show HeapIs wx cb #[.int .i64 cp,.int .i64 ck,.int .i64 cs,.slice ca cn cc] 27 from by rw[hwx,hcb];exact HeapIs.new _ _ _)
 have HS8x:=Lib.hid (HS89.out.trans sa)
 have HCOx:=Lib.hid (HCO.out.keep sa)
 rw[←hwx,←hcb]
 clear hwx hcb sa
 have HPBx:=Lib.hid (HPB.out.keep (HS38.out.trans HS8x.out))
 have HPOx:=Lib.hid (HOK3.out.keep (HS38.out.trans HS8x.out))
 have HABx:=Lib.hid (HFB.out.keep (HS67.out.trans (HS78.out.trans HS8x.out)))
 have HAOx:=Lib.hid (HFO.out.keep (HS67.out.trans (HS78.out.trans HS8x.out)))
 have HBBx:=Lib.hid (HGB.out.keep HS8x.out)
 have HBOx:=Lib.hid (HGO.out.keep (HS78.out.trans HS8x.out))
 have HZOx:=Lib.hid (show Xz wx ⟨0,0,0,[],.slice none 0 0⟩ from⟨.inl ⟨none,rfl,rfl⟩,by show 0≤100000;omega⟩)
 have HFIN:=Lib.hid (HS3.out.trans (HS38.out.trans HS8x.out))
 clear HPB HOK3 HFB HFO HGB HGO HCO HS36 HS67 HS78 HS38 HS89 HS8x HGP HN9 HI HFN HQ3 HB HBV HS0 HS1 HS2 HS23 HS3
 have HK0:=Lib.hid (Since.refl wx)
 have h9:=HPBx.out.keep HK0.out;have k0:=h9.cell 0;have k1:=h9.cell 1;have k2:=h9.cell 2;have k3:=h9.cell 3;have kl:=h9.lt;clear h9
 have HC:=Lib.hid (tells17_any ⟨pp,pk,ps,pbl,.slice pa n pc⟩ ⟨pp,pk,ps,pbl,.slice pa n pc⟩ wx (HPOx.out.keep HK0.out) (HPOx.out.keep HK0.out))
 unfold pv at HC
 dsimp only at HC
 go_wp2_with fail
 refine HC.out.mono ?_
 clear HC k0 k1 k2 k3 kl
 rintro e t1 ⟨rfl,hs9⟩
 have HK1:=Lib.hid (HK0.out.trans hs9)
 clear hs9;have h9:=HPBx.out.keep HK1.out;have k0:=h9.cell 0;have k1:=h9.cell 1;have k2:=h9.cell 2;have k3:=h9.cell 3;have kl:=h9.lt;clear h9;have h9:=HABx.out.keep HK1.out;have m0:=h9.cell 0;have m1:=h9.cell 1;have m2:=h9.cell 2;have m3:=h9.cell 3;have ml:=h9.lt;clear h9
 have HC:=Lib.hid (tells17_any ⟨pp,pk,ps,pbl,.slice pa n pc⟩ ⟨fp,fk,fs,fbl,.slice fa fn fc⟩ t1 (HPOx.out.keep HK1.out) (HAOx.out.keep HK1.out))
 unfold pv at HC
 dsimp only at HC
 go_wp2_with fail
 refine HC.out.mono ?_
 clear HC k0 k1 k2 k3 kl m0 m1 m2 m3 ml
 rintro e t2 ⟨rfl,hs9⟩
 have HK2:=Lib.hid (HK1.out.trans hs9)
 clear hs9;have h9:=HPBx.out.keep HK2.out;have k0:=h9.cell 0;have k1:=h9.cell 1;have k2:=h9.cell 2;have k3:=h9.cell 3;have kl:=h9.lt;clear h9;have h9:=HBBx.out.keep HK2.out;have m0:=h9.cell 0;have m1:=h9.cell 1;have m2:=h9.cell 2;have m3:=h9.cell 3;have ml:=h9.lt;clear h9
 have HC:=Lib.hid (tells17_any ⟨pp,pk,ps,pbl,.slice pa n pc⟩ ⟨gp,gk,gs,gbl,.slice ga gn gc⟩ t2 (HPOx.out.keep HK2.out) (HBOx.out.keep HK2.out))
 unfold pv at HC
 dsimp only at HC
 go_wp2_with fail
 refine HC.out.mono ?_
 clear HC k0 k1 k2 k3 kl m0 m1 m2 m3 ml
 rintro e t3 ⟨rfl,hs9⟩
 have HK3:=Lib.hid (HK2.out.trans hs9)
 clear hs9;have h9:=HPBx.out.keep HK3.out;have k0:=h9.cell 0;have k1:=h9.cell 1;have k2:=h9.cell 2;have k3:=h9.cell 3;have kl:=h9.lt;clear h9;have h9:=HCB.out.keep HK3.out;have m0:=h9.cell 0;have m1:=h9.cell 1;have m2:=h9.cell 2;have m3:=h9.cell 3;have ml:=h9.lt;clear h9
 have HC:=Lib.hid (tells17_any ⟨pp,pk,ps,pbl,.slice pa n pc⟩ ⟨cp,ck,cs,cbl,.slice ca cn cc⟩ t3 (HPOx.out.keep HK3.out) (HCOx.out.keep HK3.out))
 unfold pv at HC
 dsimp only at HC
 go_wp2_with fail
 refine HC.out.mono ?_
 clear HC k0 k1 k2 k3 kl m0 m1 m2 m3 ml
 rintro e t4 ⟨rfl,hs9⟩
 have HK4:=Lib.hid (HK3.out.trans hs9)
 clear hs9;have h9:=HCB.out.keep HK4.out;have k0:=h9.cell 0;have k1:=h9.cell 1;have k2:=h9.cell 2;have k3:=h9.cell 3;have kl:=h9.lt;clear h9;have h9:=HPBx.out.keep HK4.out;have m0:=h9.cell 0;have m1:=h9.cell 1;have m2:=h9.cell 2;have m3:=h9.cell 3;have ml:=h9.lt;clear h9
 have HC:=Lib.hid (tells17_any ⟨cp,ck,cs,cbl,.slice ca cn cc⟩ ⟨pp,pk,ps,pbl,.slice pa n pc⟩ t4 (HCOx.out.keep HK4.out) (HPOx.out.keep HK4.out))
 unfold pv at HC
 dsimp only at HC
 go_wp2_with fail
 refine HC.out.mono ?_
 clear HC k0 k1 k2 k3 kl m0 m1 m2 m3 ml
 rintro e t5 ⟨rfl,hs9⟩
 have HK5:=Lib.hid (HK4.out.trans hs9)
 clear hs9;have h9:=HABx.out.keep HK5.out;have k0:=h9.cell 0;have k1:=h9.cell 1;have k2:=h9.cell 2;have k3:=h9.cell 3;have kl:=h9.lt;clear h9;have h9:=HCB.out.keep HK5.out;have m0:=h9.cell 0;have m1:=h9.cell 1;have m2:=h9.cell 2;have m3:=h9.cell 3;have ml:=h9.lt;clear h9
 have HC:=Lib.hid (tells17_any ⟨fp,fk,fs,fbl,.slice fa fn fc⟩ ⟨cp,ck,cs,cbl,.slice ca cn cc⟩ t5 (HAOx.out.keep HK5.out) (HCOx.out.keep HK5.out))
 unfold pv at HC
 dsimp only at HC
 go_wp2_with fail
 refine HC.out.mono ?_
 clear HC k0 k1 k2 k3 kl m0 m1 m2 m3 ml
 rintro e t6 ⟨rfl,hs9⟩
 have HK6:=Lib.hid (HK5.out.trans hs9)
 clear hs9;have h9:=HPBx.out.keep HK6.out;have m0:=h9.cell 0;have m1:=h9.cell 1;have m2:=h9.cell 2;have m3:=h9.cell 3;have ml:=h9.lt;clear h9
 have HC:=Lib.hid (tells17_any ⟨0,0,0,[],.slice none 0 0⟩ ⟨pp,pk,ps,pbl,.slice pa n pc⟩ t6 (HZOx.out.keep HK6.out) (HPOx.out.keep HK6.out))
 unfold pv at HC
 dsimp only at HC
 go_wp2_with fail
 refine HC.out.mono ?_
 clear HC m0 m1 m2 m3 ml
 rintro e t7 ⟨rfl,hs9⟩
 have HK7:=Lib.hid (HK6.out.trans hs9)
 clear hs9
 go_wp2_with fail
 go_ret
 exact⟨rfl,HFIN.out.trans HK7.out⟩
end Go.Proofs.YtimpddecdodddaaGreat
namespace Go.Proofs.YtimpddecdodddaaGreat
open Go.RowKit Go.ChangeShapes Go.WideShapes
set_option linter.unusedVariables false
theorem list3 {α:Type} {l : List α} (h:l.length=3):∃ a b c,l=[a,b,c]:=by
 match l,h with
 | [a,b,c],_=>exact⟨a,b,c,rfl⟩
theorem Tryz.cells3:Tryz.prog.cellsOf 53=3:=by kernel_rfl
set_option maxRecDepth 100000 in
theorem three_open {H : Type} {enc:TypeId × Value→H} {w : World} {base:Nat} {held:Bool} {r : Reach} {b0:Nat} {v : Value} {d : DataW H} {p : List MemPlace} (hv:Value.okWide Tryz.prog w r b0 53 v)
  (h:DataW.Trod enc Tryz.prog w base (fun _=>true) held 53 v d p):∃ x0 x1 x2:Int,v=.agg #[.int .i64 x0,.int .i64 x1,.int .i64 x2]:=by
 have hv':=hv
 simp only[Value.okWide,Tryz.underlying53]at hv'
 obtain⟨cs,rfl,hsz,_⟩:=hv'
 obtain⟨fuel,hf⟩:=h
 obtain⟨xs,m,_,_,hlen,hxs,hel⟩:=DataW.trod_array Tryz.underlying53 hf
 rw[Tryz.cells3]at hlen
 obtain⟨c0,c1,c2,hc⟩:=list3 hlen
 have h0:=hel 0 (by decide)
 have h1:=hel 1 (by decide)
 have h2:=hel 2 (by decide)
 rw[Tryz.cellsInt,hc]at h0 h1 h2
 simp only[Nat.mul_one,List.drop_succ_cons,List.drop_zero,List.take_succ_cons,List.take_zero]at h0 h1 h2
 obtain⟨n0,rfl,_⟩:=Zc7 Tryz.underlying3 h0 (by simp[hxs])
 obtain⟨n1,rfl,_⟩:=Zc7 Tryz.underlying3 h1 (by simp[hxs])
 obtain⟨n2,rfl,_⟩:=Zc7 Tryz.underlying3 h2 (by simp[hxs])
 refine⟨n0,n1,n2,?_⟩
 have:cs=#[.int .i64 n0,.int .i64 n1,.int .i64 n2]:=by
  apply Array.ext'
  simpa [Value.cells]using hc
 rw[this]
set_option maxRecDepth 100000 in
theorem law_tells17 {H : Type} {enc:TypeId × Value→H} {W : World} {base:Nat} {held:Bool} {r : Reach} {b0:Nat} {d0 d1 d2:DataW H} {p0 p1 p2:List MemPlace} (v0 v1 v2:Value)
  (k0:Value.okWide Tryz.prog W r b0 22 v0) (h0:DataW.Trod enc Tryz.prog W base (fun _=>true) held 22 v0 d0 p0)
  (k1:Value.okWide Tryz.prog W r b0 22 v1) (h1:DataW.Trod enc Tryz.prog W base (fun _=>true) held 22 v1 d1 p1)
  (k2:Value.okWide Tryz.prog W r b0 53 v2) (h2:DataW.Trod enc Tryz.prog W base (fun _=>true) held 53 v2 d2 p2) :
  Calls Tryz.prog 5 #[v0,v1,v2] W (ZD true W):=by
 obtain⟨l,hl,_⟩:=Zc6 k0 h0
 obtain⟨m,hm,_⟩:=Zc6 k1 h1
 obtain⟨x0,x1,x2,rfl⟩:=three_open k2 h2
 exact walk_tells17 v0 v1 l m x0 x1 x2 W hl (ZcM Tryz.underlying22 k0) hm (ZcM Tryz.underlying22 k1)
end Go.Proofs.YtimpddecdodddaaGreat