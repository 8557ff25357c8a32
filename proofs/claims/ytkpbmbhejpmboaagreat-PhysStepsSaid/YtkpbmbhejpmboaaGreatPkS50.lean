import Derived.Test.YtkpbmbhejpmboaaGreatPkS48
import Derived.Test.YtkpbmbhejpmboaaGreatPkS49
import Derived.OpenShut
namespace Go.Proofs.YtkpbmbhejpmboaaGreat
open Go.RowKit Go.Lib
set_option linter.unusedVariables false
set_option maxHeartbeats 16000000
set_option maxRecDepth 1000000
section
variable {p : Ym} {ans:List Int}
theorem Zbl (m:Mach) (s:St):s.calls <+: (stepM m ans s).2.calls:=by
 unfold stepM;split
 ·exact List.prefix_refl _
 ·split
  ·exact List.prefix_refl _
  ·split
   ·exact List.prefix_append _ _
   ·exact List.prefix_refl _
theorem Wb:∀ (f:Nat) (s:St) (b:Yb) (l:List PlV),s.calls <+: (ZW p ans f s b l).s.calls∧(ZW p ans f s b l).left≤f∧((ZW p ans f s b l).e≠3→(ZW p ans f s b l).left<f)
 | 0,s,b,l=>⟨List.prefix_refl _,Nat.le_refl _,fun h=>absurd rfl h⟩
 | f+1,s,b,x::r=>by
  have hc:=Zbl (ans:=ans) x.m s
  rw[Vr]
  cases e:stepM x.m ans s with
  | mk o s' =>
   rw[e]at hc
   cases o with
   | some t=>exact⟨hc,Nat.le_succ _,fun _=>Nat.lt_succ_self _⟩
   | none =>
    obtain⟨h1,h2,h3⟩:=Wb f s' b r
    exact⟨hc.trans h1,Nat.le_succ_of_le h2,fun h=>Nat.lt_succ_of_lt (h3 h)⟩
 | f+1,s,b,[]=>by
  unfold ZW
  split
  ·exact⟨List.prefix_refl _,Nat.le_succ _,fun _=>Nat.lt_succ_self _⟩
  ·split
   ·exact⟨List.prefix_refl _,Nat.le_succ _,fun _=>Nat.lt_succ_self _⟩
   ·cases e:p.blocks[(b.fin.to.getD (goes b.fin s.regs) 0).toNat]? with
    | none=>exact⟨List.prefix_refl _,Nat.le_succ _,fun _=>Nat.lt_succ_self _⟩
    | some b' =>
     obtain⟨h1,h2,h3⟩:=Wb f s b' b'.ins
     exact⟨h1,Nat.le_succ_of_le h2,fun h=>Nat.lt_succ_of_lt (h3 h)⟩
theorem VH:∀ (f:Nat) (s:St) (b:Yb) (l:List PlV),(ZW p ans f s b l).e=3→(ZW p ans f s b l).left=0∧(ZW p ans f s b l).v=0∧∀ d,(ZW p ans f s b l).s.calls <+: (ZW p ans (f+d) s b l).s.calls∧(ZW p ans (f+d) s b l).left≤d∧((ZW p ans (f+d) s b l).e≠3→(ZW p ans (f+d) s b l).left<d)
 | 0,s,b,l,_=>⟨rfl,rfl,fun d=>by rw[Nat.zero_add];exact Wb d s b l⟩
 | f+1,s,b,x::r,h=>by
  rw[Vr]at h ⊢
  cases e:stepM x.m ans s with
  | mk o s' =>
   rw[e]at h
   cases o with
   | some t=>exact absurd h (by show ¬((2:Int)=3);decide)
   | none =>
    obtain⟨h1,h2,h3⟩:=VH f s' b r h
    refine⟨h1,h2,fun d=>?_⟩
    rw[show f+1+d=(f+d)+1 from by omega,Vr,e]
    exact h3 d
 | f+1,s,b,[],h=>by
  have hd:∀ d,f+1+d=(f+d)+1:=fun d=>by omega
  simp only[hd]
  unfold ZW at h ⊢
  by_cases h8:b.fin.op=8
  ·rw[if_pos h8]at h;exact absurd h (by show ¬((2:Int)=3);decide)
  ·simp only[if_neg h8]at h ⊢
   by_cases h7:b.fin.op=7
   ·rw[if_pos h7]at h;exact absurd h (by show ¬((1:Int)=3);decide)
   ·simp only[if_neg h7]at h ⊢
    cases e:p.blocks[(b.fin.to.getD (goes b.fin s.regs) 0).toNat]? with
    | none=>rw[e]at h;exact absurd h (by show ¬((0:Int)=3);decide)
    | some b' =>
     rw[e]at h
     exact VH f s b' b'.ins h
end
structure ZeB (n:Int) (a b:WS):Prop where
 done:b.e≠3→a=b∧b.steps≤n
 cut:b.e=3→b.steps=n∧b.calls <+: a.calls∧b.steps≤a.steps∧b.v=0∧(a.e=3∨b.steps<a.steps)
theorem ZaS (p:Ym) (args mem ans:List Int) (va vm vs:Value) (n m:Nat) (h:n≤m):ZeB n (XZ p ⟨args,va,mem,vm,ans,vs,m⟩) (XZ p ⟨args,va,mem,vm,ans,vs,n⟩):=by
 unfold XZ
 cases rightB p with
 | false=>exact⟨fun _=>⟨rfl,by show (0:Int)≤n;omega⟩,fun h=>absurd h (by show ¬((4:Int)=3);decide)⟩
 | true =>
  rw[if_pos rfl,if_pos rfl]
  cases p.blocks with
  | nil=>exact⟨fun _=>⟨rfl,by show (0:Int)≤n;omega⟩,fun h=>absurd h (by show ¬((4:Int)=3);decide)⟩
  | cons b r =>
   dsimp only;rw[show st0 p ⟨args,va,mem,vm,ans,vs,m⟩=st0 p ⟨args,va,mem,vm,ans,vs,n⟩ from rfl,Int.toNat_natCast,Int.toNat_natCast];obtain⟨d,rfl⟩:∃ d,m=n+d:=⟨m-n,by omega⟩
   obtain⟨s,hs⟩:∃ s,st0 p ⟨args,va,mem,vm,ans,vs,n⟩=s:=⟨_,rfl⟩
   rw[hs];unfold Zaj;refine⟨fun h3=>?_,fun h3=>?_⟩
   ·dsimp only at h3;rw[Vq n s b b.ins h3 d];have hl:=(Wb (p:=p) (ans:=ans) n s b b.ins).2.1;refine⟨?_,?_⟩
    ·congr 1
     dsimp only;omega
    ·dsimp only;omega
   ·dsimp only at h3 ⊢;obtain⟨h1,h2,h4⟩:=VH n s b b.ins h3;obtain⟨h5,h6,h7⟩:=h4 d;refine⟨by omega,h5,by omega,h2,?_⟩;by_cases h8:(ZW p ans (n+d) s b b.ins).e=3
    ·exact .inl h8
    ·right;have:=h7 h8;omega
theorem ZdI (n:Int):bits .and .i64 n 65535=n % 65536:=by
 have h:(BitVec.ofInt 64 65535).toNat=2 ^ 16-1:=by decide
 have key:(BitVec.ofInt 64 n &&& BitVec.ofInt 64 65535).toNat=(n % ((2 ^ 64:Nat):Int)).toNat % 2 ^ 16:=by
  rw[BitVec.toNat_and,BitVec.toNat_ofInt,h,Nat.and_two_pow_sub_one_eq_mod]
 show IntKind.i64.wrap ((BitVec.ofInt 64 n &&& BitVec.ofInt 64 65535).toNat:Nat)=n % 65536
 rw[key,IntKind.wrap_i64];omega
theorem ZbM (n:Int):∃ q:Nat,(bits .and .i64 n 65535).tmod 300=(q:Int)∧q≤299:=by
 have h:=ZdI n;have h1:0≤n % 65536:=Int.emod_nonneg _ (by omega);refine⟨((n % 65536) % 300).toNat,?_,by omega⟩;rw[h,Int.tmod_eq_emod_of_nonneg h1];omega
theorem OutIs.turn {S : Nat→Prop} {w w':World} {base:Nat} {v : Value} {o : WS} (h:OutIs w base v o) (t:Turn S w w') (hs:∀ q,base≤q→¬ S q):OutIs w' base v o:=by
 obtain⟨mv,cv,e,hm,hc,ho⟩:=h;exact⟨mv,cv,e,hm.turn t fun q hq=>hs q (ho q hq),hc.turn t hs,ho⟩
theorem OutIs.evs {w : World} {base:Nat} {o : WS} {e v st:Int} {a g:Value} (h:OutIs w base (.agg #[.int .i64 e,.int .i32 v,a,g,.int .i64 st]) o):Y1 base w g o.calls∧e=o.e∧v=o.v∧st=o.steps:=by
 obtain⟨mv,cv,h1,_,h2,_⟩:=h
 cases h1
 exact⟨h2,rfl,rfl,rfl⟩
theorem Zcp {base:Nat} {w : World} {cv:Value} {calls:List (Int × List Int)} (h:Y1 base w cv calls) {k : Nat} {c : Int × List Int} (hk:calls[k]? = some c):∃ g cap p q,cv=.slice (some ⟨g,0,none⟩) calls.length cap∧g<w.heap.size∧w.cell? ⟨g,k*2,none⟩=some (.int .i32 c.1)∧w.cell? ⟨g,k*2+1,none⟩=some (.slice p c.2.length q)∧W5 w (.slice p c.2.length q) c.2∧c.2.length≤9223372036854775807:=by
 obtain⟨evs,ho,hm,ha⟩:=h;have hl:evs.length=calls.length:=by rw[←hm,List.length_map]
 obtain⟨x,hx⟩:∃ x,evs[k]? = some x:=⟨_,List.getElem?_eq_getElem (by rw[hl];exact (List.getElem?_eq_some_iff.1 hk).1)⟩
 have e:(x.callee,x.args)=c:=by
  have:=congrArg (fun l=>l[k]?) hm;simp only[List.getElem?_map,hx,hk,Option.map_some,Option.some.injEq]at this;exact this
 subst e;have hb:=ha x (List.mem_of_getElem? hx);have hc:x.args.length≤9223372036854775807:=by have:=(ZC hb).len;unfold maxLen at this;omega
 rcases OwnRow.cells Xt ho with ⟨_,h0⟩|⟨g,cap,v1,_,_,_,l1,r1⟩
 ·rw[h0]at hx;cases hx
 obtain⟨p,q,s1⟩:=Zf hb;refine⟨g,cap,p,q,by rw[←hl];exact v1,l1,r1 k 0 x hx (by decide),?_,?_,hc⟩
 ·rw[←s1];exact r1 k 1 x hx (by decide)
 ·rw[←s1];exact Vu (ZC hb)
theorem Q8 (lv nv:Value) (l ns:List Int) (n:Int) (w:World) (hl:Zi w lv l) (HX:∀ q,lv.ownBlock=some q→q<w.heap.size) (Hf:Zi w nv ns):Calls Tryz.prog 4 #[lv,nv,.int .i64 n] w (Y9 true w):=by
 obtain⟨sa,sc,rfl⟩:=Zb hl;obtain⟨ta,tc,rfl⟩:=Zb Hf;obtain⟨m,hm,t2⟩:=ZbM n;have HV:=fun w1 (s:Since w w1)=>Zbd _ l w1 (hl.keep s) fun q hq=>Nat.lt_of_lt_of_le (HX q hq) s.size
 have H2:=fun w1 (s:Since w w1)=>Qu _ ns w1 (Hf.keep s)
 generalize l.length=sl at *;generalize ns.length=tl at *;have tQ:=hid HV;have tR:=hid H2;clear hl HX Hf HV H2;go_enter Tryz.func4,Tryz.ntmps4
 go_wp2_with fail
 refine (ZaQ _).mono ?_;rintro e w1 ⟨rfl,HT⟩;have tq:=hid HT;clear HT;go_wp2_with fail
 refine (tQ.out w1 tq.out).mono ?_;rintro e w2 ⟨p,rfl,hk,Hi,HS⟩;have tO:=hid Hi.ok;have tN:=hid (tq.out.trans HS);obtain⟨pp,pk,ps,pbl,pbv⟩:=p;obtain⟨pa,pc,h7⟩:=OwnRow.shape Hi.row;obtain⟨pn,HU⟩:∃ z,pbl.length=z:=⟨_,rfl⟩
 dsimp only at h7;rw[HU]at h7;subst h7;unfold pv;dsimp only;clear hk Hi HS HU;go_upto_region 3 with fail
 obtain⟨pb,h9⟩:∃ z,z=w2.heap.size:=⟨_,rfl⟩
 obtain⟨w3,hR⟩:∃ z,z=w2.alloc (.cells #[.int .i64 pp,.int .i64 pk,.int .i64 ps,.slice pa pn pc] 27):=⟨_,rfl⟩
 have HH:=zH (HeapIs w3 pb #[.int .i64 pp,.int .i64 pk,.int .i64 ps,.slice pa pn pc] 27) (by rw[hR,h9];exact HeapIs.new _ _ _);have HA:=zH (Since w2 w3) (by rw[hR];exact (Since.refl _).alloc _)
 have tp:=hid (tN.out.trans HA.out);rw[←hR,←h9];clear hR h9;go_wp2_with fail
 refine (tR.out w3 tp.out).mono ?_;rintro e w4 ⟨⟨i1,v1,i2,v2,i3,v3,st⟩,rfl,ht,tJ,tI,tH,tG,HR,hH⟩;clear tJ tI tH tG;obtain⟨a1,c1,hZ⟩:=Zb ht.1.1;obtain⟨a2,c2,hY⟩:=Zb ht.1.2.1;obtain⟨a3,c3,hX⟩:=Zb ht.1.2.2;obtain⟨l1,H1⟩:∃ z,i1.length=z:=⟨_,rfl⟩
 obtain⟨l2,H0⟩:∃ z,i2.length=z:=⟨_,rfl⟩
 obtain⟨l3,HZ⟩:∃ z,i3.length=z:=⟨_,rfl⟩
 dsimp only at hZ hY hX hH;rw[H1]at hZ;rw[H0]at hY;rw[HZ]at hX;subst hZ hY hX;unfold iv;dsimp only;have hz:=hid ht;have tZ:=hid hH;have hx:=hid HR;clear ht hH HR H1 H0 HZ;go_upto_region 4 with fail
 obtain⟨ib,hb⟩:∃ z,z=w4.heap.size:=⟨_,rfl⟩
 obtain⟨w5,hQ⟩:∃ z,z=w4.alloc (.cells #[.slice a1 l1 c1,.slice a2 l2 c2,.slice a3 l3 c3,.int .i64 st] 39):=⟨_,rfl⟩
 have HL:=zH (HeapIs w5 ib #[.slice a1 l1 c1,.slice a2 l2 c2,.slice a3 l3 c3,.int .i64 st] 39) (by rw[hQ,hb];exact HeapIs.new _ _ _);have tz:=zH (Since w4 w5) (by rw[hQ];exact (Since.refl _).alloc _)
 have tt:=zH (w4.heap.size≤ib) (by omega);rw[←hQ,←hb];clear hQ hb;have hb:=HL.out;have hd:=hb.lt;have Hk:=hb.frozen;have he:=hb.cell 3;clear hb;go_upto_region 5 with fail
 clear hd Hk he;obtain⟨w6,hP⟩:∃ z,z=w5.setCell ⟨ib,3,none⟩ (.int .i64 3000):=⟨_,rfl⟩
 have hv:=zH (HeapIs w6 ib #[.slice a1 l1 c1,.slice a2 l2 c2,.slice a3 l3 c3,.int .i64 3000] 39) (by rw[hP];exact HL.out.set 3 _);have tL:=zH (Turn (fun q=>q=ib) w5 w6) (by rw[hP];exact (Turn.refl (fun q=>q=ib) w5).setCell (p:=⟨ib,3,none⟩) rfl _)
 rw[←hP];clear hP;have hK:=zH (Since w4 w6) (tL.out.toSince tz.out fun q hq e=>by have:=tt.out;omega);have HG:=hid (HH.out.keep (hx.out.trans hK.out));have hp:=HG.out;have He:=hp.cell 0;have Hc:=hp.cell 1;have Hb:=hp.cell 2;have Ha:=hp.cell 3;have h8:=hp.lt;have hi:=hv.out;have Hn:=hi.cell 0;have Hm:=hi.cell 1;have Hl:=hi.cell 2;have he:=hi.cell 3;have hd:=hi.lt;clear hp hi;have HD:=hid (fun (w9:World) (s9:Since w4 w9) (st9:Int) (tE:st9≤1000000)=>QT ⟨pp,pk,ps,pbl,.slice pa pn pc⟩ ⟨i1,.slice a1 l1 c1,i2,.slice a2 l2 c2,i3,.slice a3 l3 c3,st9⟩ w9 (tO.out.keep (HA.out.trans (hx.out.trans s9))) ⟨⟨hz.out.1.1.keep s9,hz.out.1.2.1.keep s9,hz.out.1.2.2.keep s9⟩,hz.out.2.1,tE⟩)
 have hh:=hid (HD.out w6 hK.out 3000 (by decide));unfold pv iv at hh;dsimp only at hh;go_wp2_with fail
 refine hh.out.mono ?_;clear He Hc Hb Ha h8 Hn Hm Hl he hd hh;rintro e w7 ⟨va,rfl,hE,h4⟩;have HM:=hid (ZaS ⟨pp,pk,ps,pbl,.slice pa pn pc⟩ i1 i2 i3 (.slice a1 l1 c1) (.slice a2 l2 c2) (.slice a3 l3 c3) m 3000 (by omega));obtain⟨A,hA⟩:∃ z,XZ ⟨pp,pk,ps,pbl,.slice pa pn pc⟩ ⟨i1,.slice a1 l1 c1,i2,.slice a2 l2 c2,i3,.slice a3 l3 c3,3000⟩=z:=⟨_,rfl⟩
 obtain⟨B,hB⟩:∃ z,XZ ⟨pp,pk,ps,pbl,.slice pa pn pc⟩ ⟨i1,.slice a1 l1 c1,i2,.slice a2 l2 c2,i3,.slice a3 l3 c3,m⟩=z:=⟨_,rfl⟩
 rw[show ((3000:Nat):Int)=3000 from rfl,hA,hB]at HM;rw[hA]at hE;have HB:=hid hB;obtain⟨b1,b2,d1,na,d2,HQ⟩:=hE.shapeV;obtain⟨an,th⟩:∃ z,A.mem.length=z:=⟨_,rfl⟩
 rw[th]at HQ;subst HQ;obtain⟨ae,hu⟩:∃ z,A.e=z:=⟨_,rfl⟩
 obtain⟨av,tg⟩:∃ z,A.v=z:=⟨_,rfl⟩
 obtain⟨asn,Ht⟩:∃ z,A.steps=z:=⟨_,rfl⟩
 rw[hu,tg,Ht]at hE ⊢;have ts:=hid hE;have tX:=hid hu;have tW:=hid Ht;have tx:=hid (hK.out.trans h4);have Hz:=hid h4;clear hA hB hE hu tg Ht h4 th;go_upto_region 6 with fail
 obtain⟨ab,Hv⟩:∃ z,z=w7.heap.size:=⟨_,rfl⟩
 obtain⟨w8,hO⟩:∃ z,z=w7.alloc (.cells #[.int .i64 ae,.int .i32 av,.slice b1 an b2,.slice d1 na d2,.int .i64 asn] 44):=⟨_,rfl⟩
 have tw:=zH (HeapIs w8 ab #[.int .i64 ae,.int .i32 av,.slice b1 an b2,.slice d1 na d2,.int .i64 asn] 44) (by rw[hO,Hv];exact HeapIs.new _ _ _);have hI:=zH (Since w7 w8) (by rw[hO];exact (Since.refl _).alloc _)
 have tD:=zH (w7.heap.size≤ab) (by omega);rw[←hO,←Hv];clear hO Hv;have hb:=hv.out.keep (Hz.out.trans hI.out);have HK:=hid hb;have hd:=hb.lt;have Hk:=hb.frozen;have he:=hb.cell 3;clear hb;go_upto_region 7 with fail
 obtain⟨w9,hN⟩:∃ z,z=w8.setCell ⟨ib,3,none⟩ (.int .i64 m):=⟨_,rfl⟩
 have hM:=zH (HeapIs w9 ib #[.slice a1 l1 c1,.slice a2 l2 c2,.slice a3 l3 c3,.int .i64 m] 39) (by rw[hN];exact HK.out.set 3 _);have Hy:=zH (Turn (fun q=>q=ib) w8 w9) (by rw[hN];exact (Turn.refl (fun q=>q=ib) w8).setCell (p:=⟨ib,3,none⟩) rfl _)
 rw[←hN];clear hN hd Hk he;have hJ:=zH (Since w4 w9) (Hy.out.toSince (tx.out.trans hI.out) fun q hq e=>by have:=tt.out;omega)
 have HN:=hid (tw.out.turn Hy.out fun e=>by have h1:=hv.out.lt;have h2:=Hz.out.size;have h3:=tD.out;omega);have HI:=hid (OutIs.turn (OutIs.since ts.out hI.out) Hy.out fun q hq e=>by have h1:=hv.out.lt;omega)
 have HE:=hid (HH.out.keep (hx.out.trans hJ.out));have hp:=HE.out;have He:=hp.cell 0;have Hc:=hp.cell 1;have Hb:=hp.cell 2;have Ha:=hp.cell 3;have h8:=hp.lt;have hi:=hM.out;have Hn:=hi.cell 0;have Hm:=hi.cell 1;have Hl:=hi.cell 2;have he:=hi.cell 3;have hd:=hi.lt;clear hp hi;have hh:=hid (HD.out w9 hJ.out m (by omega));unfold pv iv at hh;dsimp only at hh;go_wp2_with fail
 refine hh.out.mono ?_;clear He Hc Hb Ha h8 Hn Hm Hl he hd hh;rintro e w10 ⟨vb,rfl,hD,h5⟩;rw[HB.out]at hD;obtain⟨b3,b4,d3,nb,d4,HP⟩:=hD.shapeV;obtain⟨bn,H9⟩:∃ z,B.mem.length=z:=⟨_,rfl⟩
 rw[H9]at HP;subst HP;obtain⟨be,Hr⟩:∃ z,B.e=z:=⟨_,rfl⟩
 obtain⟨bv,Hp⟩:∃ z,B.v=z:=⟨_,rfl⟩
 obtain⟨bst,Hq⟩:∃ z,B.steps=z:=⟨_,rfl⟩
 rw[Hr,Hp,Hq]at hD ⊢;have tr:=hid hD;have tv:=hid Hr;have tV:=hid Hp;have tu:=hid Hq;have HO:=hid h5;clear hD Hr Hp Hq h5 H9;go_upto_region 8 with fail
 obtain⟨bb,Hs⟩:∃ z,z=w10.heap.size:=⟨_,rfl⟩
 obtain⟨w11,hw⟩:∃ z,z=w10.alloc (.cells #[.int .i64 be,.int .i32 bv,.slice b3 bn b4,.slice d3 nb d4,.int .i64 bst] 44):=⟨_,rfl⟩
 have hg:=zH (HeapIs w11 bb #[.int .i64 be,.int .i32 bv,.slice b3 bn b4,.slice d3 nb d4,.int .i64 bst] 44) (by rw[hw,Hs];exact HeapIs.new _ _ _);have hG:=zH (Since w10 w11) (by rw[hw];exact (Since.refl _).alloc _)
 rw[←hw,←Hs];clear hw Hs;have hn:=hid (HO.out.trans hG.out);have hf:=hid (HN.out.keep hn.out);have hC:=hid (hM.out.keep hn.out);have hL:=hid (OutIs.since HI.out hn.out);have hy:=hid (OutIs.since tr.out hG.out);have tn:=hid (tp.out.trans (hx.out.trans (hJ.out.trans hn.out)));clear tw HN ts HI tr HL hv HK hM HH HG HE;have hA:=hf.out;have Hx:=hA.cell 0;have tm:=hA.cell 1;have tj:=hA.cell 2;have ti:=hA.cell 3;have Hw:=hA.cell 4;have Hu:=hA.lt;have hB:=hg.out;have tf:=hB.cell 0;have te:=hB.cell 1;have td:=hB.cell 2;have hU:=hB.cell 3;have hT:=hB.cell 4;have hF:=hB.lt;have he:=hC.out.cell 3;have hd:=hC.out.lt;clear hA hB;by_cases h3:be=3
 ·have hcut:=HM.out.cut (by rw[tv.out];exact h3);obtain⟨g1,g2,g3,g4,g5⟩:=hcut;rw[tu.out]at g1 g3 g5;rw[tW.out]at g3 g5;rw[tV.out]at g4;rw[tX.out]at g5;have tA:=hid g2;have Hj:B.calls.length≤A.calls.length:=g2.length_le;have Hh:A.calls.length=na:=by
   obtain⟨evs,ho,hm,_⟩:=(OutIs.evs hL.out).1;obtain⟨q1,q2,e⟩:=OwnRow.shape ho
   cases e
   rw[←hm,List.length_map]
  have Hg:B.calls.length=nb:=by
   obtain⟨evs,ho,hm,_⟩:=(OutIs.evs hy.out).1;obtain⟨q1,q2,e⟩:=OwnRow.shape ho
   cases e
   rw[←hm,List.length_map]
  rw[Hh,Hg]at Hj;have tP:=hid Hh;have HJ:=hid Hg;have tY:nb≤9223372036854775807:=by
   obtain⟨evs,ho,hm,_⟩:=(OutIs.evs hy.out).1;rcases OwnRow.cells Xt ho with ⟨e1,h0⟩|⟨_,cap,e1,h1,h2,_⟩
   ·cases e1;omega
   ·cases e1;unfold maxLen at h2;omega
  subst h3 g1 g4;clear g2 Hh Hg;have g6:=g5;clear g5;have tS:=hid g6;clear g6;go_upto_region 12 with fail
  have H7:decide (na<nb)=false:=decide_eq_false (by omega);have H6:decide (asn<(m:Int))=false:=decide_eq_false (by omega);try simp only[H7,H6,Bool.or_self]
  clear H7 H6;clear Hx tm tj ti Hw Hu tf te td hU hT hF he hd Hj g3;go_wp2_with fail
  go_loopw [12] (fun iv wr=>∃ k:Nat,k≤nb∧iv=.int .i64 k∧Since w11 wr) (fun iv _=>nb-(intOf iv).toNat)
  case atStart=>exact⟨0,Nat.zero_le _,rfl,.refl _⟩
  case round =>
   obtain⟨k,hk,rfl,hS⟩:=hrel;have ha:=hid hS;have hU:=(hg.out.keep hS).cell 3;have hF:=(hg.out.keep hS).lt;clear hS;by_cases HY:k<nb
   ·obtain⟨cl,Ho⟩:∃ c,B.calls[k]? = some c:=⟨_,List.getElem?_eq_getElem (by rw[HJ.out];exact HY)⟩
    have H8:A.calls[k]? = some cl:=by
     obtain⟨rest,hr⟩:=tA.out;rw[←hr,List.getElem?_append_left (by rw[HJ.out];exact HY)];exact Ho
    obtain⟨g2,cb,q1,q2,H3,l2,x2,y2,r2,rl⟩:=Zcp (OutIs.evs (OutIs.since hy.out ha.out)).1 Ho;obtain⟨g1,ca,p1,p2,H4,l1,x1,y1,r1,_⟩:=Zcp (OutIs.evs (OutIs.since hL.out ha.out)).1 H8;obtain⟨x,args⟩:=cl;dsimp only at x1 y1 x2 y2 r1 r2 rl;obtain⟨ql,h6⟩:∃ z,args.length=z:=⟨_,rfl⟩
    rw[h6]at y1 y2 r1 r2 rl;have HW:=hid (fun (w8:World) (s8:Since wr w8)=>W8 (.slice q1 ql q2) (.slice p1 ql p2) args w8 (r2.keep s8) (r1.keep s8) (by rw[h6];exact rl))
    have hW:=hid l1;have hV:=hid l2;have tU:=hid x1;have tC:=hid y1;have tT:=hid x2;have tB:=hid y2;have t0:(x != x)=false:=by simp
    rw[HJ.out]at H3;rw[tP.out]at H4
    cases H4
    cases H3
    clear l1 l2 x1 y1 x2 y2 r1 r2 Ho H8 h6;go_wp2_with fail
    clear hU hF;refine Zd rfl (by decide +kernel) (by decide +kernel)
     (Is (.pointer (some ⟨bb,3,none⟩))::Is (.slice (some ⟨g2,0,none⟩) nb d4)::Is (.int .i64 k)::Is (.pointer (some ⟨g2,k*2,none⟩))::Is (.pointer (some ⟨g2,k*2,none⟩))::Is (.int .i32 x)::Is (.pointer (some ⟨ab,3,none⟩))::Is (.slice (some ⟨g1,0,none⟩) na d2)::Is (.int .i64 k)::Is (.pointer (some ⟨g1,k*2,none⟩))::Is (.pointer (some ⟨g1,k*2,none⟩))::Is (.int .i32 x)::Is (.bool false)::Is (.bool false)::Is (.pointer (some ⟨bb,3,none⟩))::Is (.slice (some ⟨g2,0,none⟩) nb d4)::Is (.int .i64 k)::Is (.pointer (some ⟨g2,k*2,none⟩))::Is (.pointer (some ⟨g2,k*2+1,none⟩))::Is (.slice q1 ql q2)::Is (.pointer (some ⟨ab,3,none⟩))::Is (.slice (some ⟨g1,0,none⟩) na d2)::Is (.int .i64 k)::Is (.pointer (some ⟨g1,k*2,none⟩))::Is (.pointer (some ⟨g1,k*2+1,none⟩))::Is (.slice p1 ql p2)::Is (.bool true)::Is (.bool false)::Is (.bool false)::[])
     (by repeat (first | exact trivial | refine⟨Is.stable _,?_⟩ | refine⟨Any.stable,?_⟩)) ⟨?_,?_,?_,?_,?_,?_,?_,?_,?_,?_,?_,?_,?_,?_,?_,?_,?_,?_,?_,?_,?_,?_,?_,?_,?_,?_,?_,?_,?_,trivial⟩ ?_
    all_goals
     intro vs w8 hs hk;simp only[putAll,Act.put,Zj,Zc,Ze,Is,List.setIfInBounds_toArray,List.set_cons_zero,List.set_cons_succ,Nat.reduceAdd,List.length_cons,List.length_nil]at hk ⊢;try simp only[hk]
    ·go_wp2
     exact⟨_,rfl,rfl,.refl _⟩
    ·have hc:=(hg.out.keep (ha.out.trans hs)).cell 3;have hl:=(hg.out.keep (ha.out.trans hs)).lt;go_wp2
     exact⟨_,rfl,rfl,.refl _⟩
    iterate 3
     ·go_wp2
      exact⟨_,rfl,rfl,.refl _⟩
    ·have hc:=(hs.cell (p:=⟨g2,k*2,none⟩) hV.out).trans tT.out;have hl:g2<w8.heap.size:=Nat.lt_of_lt_of_le hV.out hs.size;go_wp2
     exact⟨_,rfl,rfl,.refl _⟩
    ·go_wp2
     exact⟨_,rfl,rfl,.refl _⟩
    ·have hc:=(hf.out.keep (ha.out.trans hs)).cell 3;have hl:=(hf.out.keep (ha.out.trans hs)).lt;go_wp2
     exact⟨_,rfl,rfl,.refl _⟩
    iterate 3
     ·go_wp2
      exact⟨_,rfl,rfl,.refl _⟩
    ·have hc:=(hs.cell (p:=⟨g1,k*2,none⟩) hW.out).trans tU.out;have hl:g1<w8.heap.size:=Nat.lt_of_lt_of_le hW.out hs.size;go_wp2
     exact⟨_,rfl,rfl,.refl _⟩
    iterate 3
     ·go_wp2
      exact⟨_,rfl,rfl,.refl _⟩
    ·have hc:=(hg.out.keep (ha.out.trans hs)).cell 3;have hl:=(hg.out.keep (ha.out.trans hs)).lt;go_wp2
     exact⟨_,rfl,rfl,.refl _⟩
    iterate 3
     ·go_wp2
      exact⟨_,rfl,rfl,.refl _⟩
    ·have hc:=(hs.cell (p:=⟨g2,k*2+1,none⟩) hV.out).trans tB.out;have hl:g2<w8.heap.size:=Nat.lt_of_lt_of_le hV.out hs.size;go_wp2
     exact⟨_,rfl,rfl,.refl _⟩
    ·go_wp2
     exact⟨_,rfl,rfl,.refl _⟩
    ·have hc:=(hf.out.keep (ha.out.trans hs)).cell 3;have hl:=(hf.out.keep (ha.out.trans hs)).lt;go_wp2
     exact⟨_,rfl,rfl,.refl _⟩
    iterate 3
     ·go_wp2
      exact⟨_,rfl,rfl,.refl _⟩
    ·have hc:=(hs.cell (p:=⟨g1,k*2+1,none⟩) hW.out).trans tC.out;have hl:g1<w8.heap.size:=Nat.lt_of_lt_of_le hW.out hs.size;go_wp2
     exact⟨_,rfl,rfl,.refl _⟩
    ·have HC:=hid (HW.out w8 hs);clear hk hs;go_wp2_with fail
     refine HC.out.mono ?_;rintro e w9 ⟨rfl,tF⟩;go_wp2
     exact⟨_,rfl,rfl,tF⟩
    iterate 2
     ·go_wp2
      exact⟨_,rfl,rfl,.refl _⟩
    ·have tM:=hid (ha.out.trans hs);clear hk hs;go_wp2_with fail
     go_roundw
     case rel=>exact⟨k+1,by omega,by go_num,tM.out⟩
     case measure=>simp[intOf];omega
   ·obtain rfl:k=nb:=by omega
    have Hx:=(hf.out.keep ha.out).cell 0;have Hw:=(hf.out.keep ha.out).cell 4;have Hu:=(hf.out.keep ha.out).lt;have hT:=(hg.out.keep ha.out).cell 4;have HF:=hid (tn.out.trans ha.out);by_cases hu:ae=3
    ·subst hu;go_wp2_with fail
     go_ret
     exact⟨rfl,HF.out⟩
    ·have hq:(ae==3)=false:=by simpa using hu
     have t3:(m:Int)<asn:=tS.out.resolve_left hu;go_wp2_with fail
     go_ret
     exact⟨rfl,HF.out⟩
 ·have t1:(be != 3)=true:=by simpa using h3
  obtain⟨H5,tK⟩:=HM.out.done (by rw[tv.out];exact h3);rw[tu.out]at tK;have HC:=hid (ZbB B _ _ _ _ w11 (H5 ▸ hL.out) hy.out);clear H5 h3;go_wp2_with fail
  refine HC.out.mono ?_;clear Hx tm tj ti Hw Hu tf te td hU hT hF he hd;rintro e w12 ⟨rfl,hj⟩;have hT:=(hg.out.keep hj).cell 4;have hF:=(hg.out.keep hj).lt;have he:=(hC.out.keep hj).cell 3;have hd:=(hC.out.keep hj).lt;have HF:=hid (tn.out.trans hj);clear hj;go_wp2_with fail
  go_ret
  exact⟨rfl,HF.out⟩
open Go.RowKit Go.ChangeShapes Go.WideShapes
theorem Zbf {H : Type} {enc:TypeId × Value→H} {W : World} {base:Nat} {ha:Bool} {r : Reach} {b0:Nat} {d0 d1:DataW H} {p0 p1:List MemPlace} (v0 v1:Value) (n:Int)
  (k0:Value.okWide Tryz.prog W r b0 22 v0) (h0:DataW.Trod enc Tryz.prog W base (fun _=>true) ha 22 v0 d0 p0)
  (k1:Value.okWide Tryz.prog W r b0 22 v1) (h1:DataW.Trod enc Tryz.prog W base (fun _=>true) ha 22 v1 d1 p1) (hn:(Lit.int .i64 n).wf=true) :
  Calls Tryz.prog 4 #[v0,v1,.int .i64 n] W (Y9 true W):=by
 obtain⟨l,hl,_⟩:=KO k0 h0;obtain⟨ns,hb,_⟩:=KO k1 h1;exact Q8 v0 v1 l ns n W hl (ZaY Tryz.underlying22 k0) hb
end Go.Proofs.YtkpbmbhejpmboaaGreat
