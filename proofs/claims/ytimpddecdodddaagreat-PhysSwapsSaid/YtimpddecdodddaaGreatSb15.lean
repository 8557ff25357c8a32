import Derived.Test.YtimpddecdodddaaGreatSb14
namespace Go.Proofs.YtimpddecdodddaaGreat
open Go.RowKit Go.Lib
set_option linter.unusedVariables false
set_option maxHeartbeats 4000000
set_option maxRecDepth 100000
theorem zb {P:Prop} (h:P:=by
 generalize stepM m c.ans s1=D at *;obtain⟨tr,s2⟩:=D;dsimp only at hr hC hh;have hv:=hid hr;clear hr ho;unfold mv at hv hu;unfold MPtr at hv;refine ZU [1,10] [0,0,1,1,1,1,1,1,1,1,1,2,2] [0,0,1,1,1,1,1,1,1,1,1,2,2] [0,1,0,0,0,0,0,0,0,0,1,0,0] (KO c cv1 s1 s2 tr st0 st1 wa) rfl (by decide +kernel) (by decide +kernel) (by decide +kernel)
  [Is (.pointer (some ⟨c.mb,0,none⟩)),Is (.bool true),Is (.bool false),Is (.bool false),Is (.pointer (some ⟨wr.heap.size,0,none⟩)),Is (.agg #[.int .i64 m.op,.int .i64 m.d,.int .i64 m.e,.int .i64 m.a,.int .i64 m.b,.int .i64 m.c,.int .i32 m.imm,.slice aa m.args.length ac]),Is (.iface 156 (.agg #[])),Is (.pointer (some ⟨wr.heap.size,0,none⟩)),Is (.agg #[.int .i64 m.op,.int .i64 m.d,.int .i64 m.e,.int .i64 m.a,.int .i64 m.b,.int .i64 m.c,.int .i32 m.imm,.slice aa m.args.length ac]),Is (.pointer (some ⟨c.mb,0,none⟩)),Is (.bool tr.isNone),Is (.bool tr.isSome),Is (.bool tr.isSome)]
  (by repeat (first | exact trivial | refine⟨Is.fixed _,?_⟩ | refine⟨Any.fixed,?_⟩)) ⟨Turn.since (Since.refl _).drew,hZ.out.keep (Since.refl _).drew⟩ ⟨?_,?_,?_,?_,?_,?_,?_,?_,?_,?_,?_,?_,?_,trivial⟩ ?_
 rotate_right
 ·intro vs w1 _ ha hk;simp only[putAll,Act.put,Zc,Ze,Is,List.setIfInBounds_toArray,List.set_cons_zero,List.set_cons_succ,Nat.reduceAdd,List.length_cons,List.length_nil]at hk ⊢;try simp only[hk]
  obtain⟨cv2,hn⟩:∃ cv',MRun c w1 s2 cv' (if tr.isNone then 0 else 2) (tr.getD 0) st1:=ha.2
  have hg:=h9.out.turn ha.1 h8.out;have hf:=hid hn;have hD:=hid hg;clear ha hk hn hg
  cases tr with
  | none =>
   dsimp only[Option.isNone,Option.getD]at hf;dsimp only[Option.isNone,Option.getD,Option.isSome,Bool.not_true];go_wp2
   go_roundw
   case rel=>exact⟨k+1,s2,cv2,f,by omega,by go_num,by omega,hC.out,by rw[hy.out];exact hf.out,hD.out,hh.out⟩
   case measure=>simp[intOf];omega
  | some t =>
   dsimp only[Option.isNone,Option.getD]at hf;dsimp only[Option.isNone,Option.getD,Option.isSome,Bool.not_false];go_wp2
   go_ret
   exact .inl ⟨rfl,_,by rw[←hh.out];dsimp only;rw[hy.out];exact hf.out⟩
 all_goals
  intro p vs w1 hW hX _ ha hk;simp only[putAll,Act.put,Zk,Ze,Is,List.setIfInBounds_toArray,List.set_cons_zero,List.set_cons_succ,Nat.reduceAdd]at hk ⊢;try simp only[hk]
 ·go_wp2
  exact⟨_,rfl,rfl,trivial,ha⟩
 ·obtain rfl:p=0:=by omega
  have HC:=hid (he.out w1 ha.2);go_wp2_with fail
  refine HC.out.mono ?_;rintro e w2 ⟨rfl,hj,hp⟩;go_wp2
  exact⟨_,rfl,rfl,trivial,And.intro (ha.1.trans (hp.mono fun _ _ h=>.inl (.inl h))) hj⟩
 iterate 3
  ·go_wp2
   exact⟨_,rfl,rfl,trivial,ha⟩
 ·have hb:=hI.out.turn ha.1 hJ.out;have c0:w1.cell? ⟨wr.heap.size,0,none⟩=some (.int .i64 m.op):=hb.cell 0;have c1:w1.cell? ⟨wr.heap.size,1,none⟩=some (.int .i64 m.d):=hb.cell 1;have c2:w1.cell? ⟨wr.heap.size,2,none⟩=some (.int .i64 m.e):=hb.cell 2;have c3:w1.cell? ⟨wr.heap.size,3,none⟩=some (.int .i64 m.a):=hb.cell 3;have c4:w1.cell? ⟨wr.heap.size,4,none⟩=some (.int .i64 m.b):=hb.cell 4;have c5:w1.cell? ⟨wr.heap.size,5,none⟩=some (.int .i64 m.c):=hb.cell 5;have c6:w1.cell? ⟨wr.heap.size,6,none⟩=some (.int .i32 m.imm):=hb.cell 6;have c7:w1.cell? ⟨wr.heap.size,7,none⟩=some (.slice aa m.args.length ac):=hb.cell 7;have hM:=hb.lt;go_wp2
  exact⟨_,rfl,rfl,trivial,ha⟩
 ·go_wp2_with fail
  refine (hu.out _).mono ?_;rintro e w2 ⟨rfl,hA⟩;obtain rfl:p=1:=by omega
  go_wp2
  exact⟨_,rfl,rfl,trivial,And.intro (ha.1.trans (Turn.since hA)) (MRun.keep (s:=s1) (cv:=cv1) (e:=0) (v:=0) (st:=st1) ha.2 hA)⟩
 ·go_wp2
  exact⟨_,rfl,rfl,trivial,ha⟩
 ·have hb:=hI.out.turn ha.1 hJ.out;have c0:w1.cell? ⟨wr.heap.size,0,none⟩=some (.int .i64 m.op):=hb.cell 0;have c1:w1.cell? ⟨wr.heap.size,1,none⟩=some (.int .i64 m.d):=hb.cell 1;have c2:w1.cell? ⟨wr.heap.size,2,none⟩=some (.int .i64 m.e):=hb.cell 2;have c3:w1.cell? ⟨wr.heap.size,3,none⟩=some (.int .i64 m.a):=hb.cell 3;have c4:w1.cell? ⟨wr.heap.size,4,none⟩=some (.int .i64 m.b):=hb.cell 4;have c5:w1.cell? ⟨wr.heap.size,5,none⟩=some (.int .i64 m.c):=hb.cell 5;have c6:w1.cell? ⟨wr.heap.size,6,none⟩=some (.int .i32 m.imm):=hb.cell 6;have c7:w1.cell? ⟨wr.heap.size,7,none⟩=some (.slice aa m.args.length ac):=hb.cell 7;have hM:=hb.lt;go_wp2
  exact⟨_,rfl,rfl,trivial,ha⟩
 ·go_wp2
  exact⟨_,rfl,rfl,trivial,ha⟩
 ·obtain rfl:p=1:=by omega
  have HC:=hid (hv.out w1 ha.2);go_wp2_with fail
  refine HC.out.mono ?_;rintro e w2 ⟨rfl,hj,hp⟩;go_wp2
  exact⟨_,rfl,rfl,trivial,And.intro (ha.1.trans hp) hj⟩
 iterate 2
  ·go_wp2
   exact⟨_,rfl,rfl,trivial,ha⟩):P:=h
theorem zn {P:Prop} (h:P:=by
 intro vs w1 _ ha hk;simp only[putAll,Act.put,Zc,Ze,Is,List.setIfInBounds_toArray,List.set_cons_zero,List.set_cons_succ,Nat.reduceAdd,List.length_cons,List.length_nil]at hk ⊢;try simp only[hk]
 obtain⟨cv2,hn⟩:∃ cv',MRun c w1 s2 cv' (if tr.isNone then 0 else 2) (tr.getD 0) st1:=ha.2
 have hg:=h9.out.turn ha.1 h8.out;have hf:=hid hn;have hD:=hid hg;clear ha hk hn hg
 cases tr with
 | none =>
  dsimp only[Option.isNone,Option.getD]at hf;dsimp only[Option.isNone,Option.getD,Option.isSome,Bool.not_true];go_wp2
  go_roundw
  case rel=>exact⟨k+1,s2,cv2,f,by omega,by go_num,by omega,hC.out,by rw[hy.out];exact hf.out,hD.out,hh.out⟩
  case measure=>simp[intOf];omega
 | some t =>
  dsimp only[Option.isNone,Option.getD]at hf;dsimp only[Option.isNone,Option.getD,Option.isSome,Bool.not_false];go_wp2
  go_ret
  exact .inl ⟨rfl,_,by rw[←hh.out];dsimp only;rw[hy.out];exact hf.out⟩):P:=h
theorem zr {P:Prop} (h:P:=by
 have hb:=hI.out.turn ha.1 hJ.out;have c0:w1.cell? ⟨wr.heap.size,0,none⟩=some (.int .i64 m.op):=hb.cell 0;have c1:w1.cell? ⟨wr.heap.size,1,none⟩=some (.int .i64 m.d):=hb.cell 1;have c2:w1.cell? ⟨wr.heap.size,2,none⟩=some (.int .i64 m.e):=hb.cell 2;have c3:w1.cell? ⟨wr.heap.size,3,none⟩=some (.int .i64 m.a):=hb.cell 3;have c4:w1.cell? ⟨wr.heap.size,4,none⟩=some (.int .i64 m.b):=hb.cell 4;have c5:w1.cell? ⟨wr.heap.size,5,none⟩=some (.int .i64 m.c):=hb.cell 5;have c6:w1.cell? ⟨wr.heap.size,6,none⟩=some (.int .i32 m.imm):=hb.cell 6;have c7:w1.cell? ⟨wr.heap.size,7,none⟩=some (.slice aa m.args.length ac):=hb.cell 7;have hM:=hb.lt;go_wp2
 exact⟨_,rfl,rfl,trivial,ha⟩):P:=h
theorem zX {P:Prop} (h:P:=by
 go_wp2_with fail
 refine (hu.out _).mono ?_;rintro e w2 ⟨rfl,hA⟩;obtain rfl:p=1:=by omega
 go_wp2
 exact⟨_,rfl,rfl,trivial,And.intro (ha.1.trans (Turn.since hA)) (MRun.keep (s:=s1) (cv:=cv1) (e:=0) (v:=0) (st:=st1) ha.2 hA)⟩):P:=h
theorem z6 {P:Prop} (h:P:=by
 obtain rfl:p=0:=by omega
 have HC:=hid (he.out w1 ha.2);go_wp2_with fail
 refine HC.out.mono ?_;rintro e w2 ⟨rfl,hj,hp⟩;go_wp2
 exact⟨_,rfl,rfl,trivial,And.intro (ha.1.trans (hp.mono fun _ _ h=>.inl (.inl h))) hj⟩):P:=h
theorem qj {P:Prop} (h:P:=by
 obtain rfl:p=1:=by omega
 have HC:=hid (hv.out w1 ha.2);go_wp2_with fail
 refine HC.out.mono ?_;rintro e w2 ⟨rfl,hj,hp⟩;go_wp2
 exact⟨_,rfl,rfl,trivial,And.intro (ha.1.trans hp) hj⟩):P:=h
def BlockQ (c:Cfg) (p:Z2) (f0:Nat) (F:QK) (e:Ending) (w':World):Prop:=
 (e=.returned (.int .i64 (-1))∧∃ cv',MRun c w' F.s cv' F.e F.v ((c.steps.toNat:Int)-(F.left:Int))) ∨
 (∃ (j:Nat) (b':ZD) (s':St) (cv':Value) (f':Nat),e=.returned (.int .i64 j)∧p.blocks[j]? = some b'∧f' < f0∧s'.slots.length=p.slots.toNat∧MRun c w' s' cv' 0 0 ((c.steps.toNat:Int)-(f':Int))∧ZA p c.ans f' s' b' b'.ins=F)
def KO (c:Cfg) (cv1:Value) (s1 s2:St) (tr:Option Int) (st0 st1:Int) (wa:World) (p:Nat) (w1:World):Prop:=
 Turn (Bz c cv1) wa w1∧(if p=0 then MRun c w1 s1 cv1 0 0 st0 else if p=1 then MRun c w1 s1 cv1 0 0 st1 else ∃ cv',MRun c w1 s2 cv' (if tr.isNone then 0 else 2) (tr.getD 0) st1)
def Zfm (c:Cfg) (cv1:Value) (s1:St) (st0:Int) (p:Nat) (w1:World):Prop:=if p=0 then MRun c w1 s1 cv1 0 0 st0 else MRun c w1 s1 cv1 3 0 st0
def ZeM (c:Cfg) (cv1:Value) (s1:St) (st1 imm:Int) (b:Nat) (cs:Array Value) (p:Nat) (w1:World):Prop:=
 HeapIs w1 b cs 34∧(if p=0 then MRun c w1 s1 cv1 0 0 st1 else if p=1 then MRun c w1 s1 cv1 2 0 st1 else MRun c w1 s1 cv1 2 imm st1)
theorem Zam (m:Mach) (ans:List Int) (s:St):(stepM m ans s).2.slots.length=s.slots.length:=by
 unfold stepM;by_cases c1:m.op=30
 ·rw[if_pos c1]
 rw[if_neg c1];by_cases c2:m.op=31
 ·rw[if_pos c2];simp
 rw[if_neg c2];by_cases c3:m.op=28
 ·rw[if_pos c3]
 rw[if_neg c3]
theorem Zci (c:Cfg) (p:Z2) (xins:List PlV) (ia:Option Addr) (ic:Nat) (eop ea eb:Int) (eto:List Int) (ta:Option Addr) (tc:Nat) (eimm:Int) (f0:Nat) (s:St) (cv:Value) (w:World)
  (h:MRun c w s cv 0 0 ((c.steps.toNat:Int)-(f0:Int))) (tw:f0≤c.steps.toNat) (HE:c.steps≤1000000) (HG:s.slots.length=p.slots.toNat) (hk:p.k≤16)
  (hi:Pls c.w0 (.slice ia xins.length ic) xins) (HD:Zi c.w0 (.slice ta eto.length tc) eto) (Hs:∀ x∈xins,Yv x.m p.k p.slots=0) (Hv:endE ⟨eop,ea,eb,eto,.slice ta eto.length tc,eimm⟩ p.k p.blocks.length=0) :
  Calls Tryz.prog 36 #[MPtr c,.agg #[.slice ia xins.length ic,.int .i64 eop,.int .i64 ea,.int .i64 eb,.slice ta eto.length tc,.int .i32 eimm]] w (BlockQ c p f0 (ZA p c.ans f0 s ⟨xins,.slice ia xins.length ic,⟨eop,ea,eb,eto,.slice ta eto.length tc,eimm⟩⟩ xins)):=by
 generalize hF:ZA p c.ans f0 s ⟨xins,.slice ia xins.length ic,⟨eop,ea,eb,eto,.slice ta eto.length tc,eimm⟩⟩ xins=F;have HF:=hid hF;clear hF;have H:=hid h;clear h;have HI:=hid hi;clear hi;have HW:=hid HD;clear HD;have H4:=hid Hs;clear Hs;have H6:=hid Hv;clear Hv;have tf:=hid HG;clear HG;have HT:=H.out.base;have ts:=H.out.size;have Hu:=RowIn.shape HI.out;obtain⟨_,_,_,Hu⟩:=Hu;unfold maxLen at Hu;unfold MPtr;go_enter Tryz.func36,Tryz.ntmps36
 go_wp2_with fail
 go_loopw [10] (fun i wr=>∃ (k:Nat) (s1:St) (cv1:Value) (f1:Nat),k≤xins.length∧i=.int .i64 k∧f1≤f0∧s1.slots.length=p.slots.toNat∧MRun c wr s1 cv1 0 0 ((c.steps.toNat:Int)-(f1:Int))∧HeapIs wr w.heap.size #[.slice ia xins.length ic,.int .i64 eop,.int .i64 ea,.int .i64 eb,.slice ta eto.length tc,.int .i32 eimm] 34∧ZA p c.ans f1 s1 ⟨xins,.slice ia xins.length ic,⟨eop,ea,eb,eto,.slice ta eto.length tc,eimm⟩⟩ (xins.drop k)=F) (fun i _=>xins.length-(intOf i).toNat)
 case atStart=>exact⟨0,s,cv,f0,Nat.zero_le _,rfl,Nat.le_refl _,tf.out,H.out.keep ((Since.refl w).alloc _),HeapIs.new _ _ _,HF.out⟩
 case round =>
  obtain⟨k,s1,cv1,f1,tu,rfl,tv,Hn,hm,HS,Ho⟩:=hrel;have HM:=hid hm;have HA:=hid HS;have h6:=hid Ho;have h5:=hid Hn;clear hm HS Ho Hn;by_cases HP:k<xins.length
  ·obtain⟨B,off,x,rfl,hB,hx,hc,H9⟩:=RowIn.at HI.out HP;obtain⟨m,av,src⟩:=x;obtain⟨h2,Hb,Ha⟩:=H9;dsimp only at h2 Hb Ha;obtain⟨aa,ac,rfl⟩:=Zb h2;have Ht:=H4.out _ (List.mem_of_getElem? hx);dsimp only at Ht;have Hj:xins.drop k=⟨m,.slice aa m.args.length ac,src⟩::xins.drop (k+1):=by
    rw[List.drop_eq_getElem_cons HP];congr 1
    have:=(List.getElem?_eq_some_iff.1 hx).2;exact this
   have hH:=fun t ht=>(HM.out.old.cell (p:=⟨B,off+k*9+t,none⟩) hB).trans (hc t ht)
   have c0:wr.cell? ⟨B,off+k*9,none⟩=some (.int .i64 m.op):=hH 0 kS;have c1:wr.cell? ⟨B,off+k*9+1,none⟩=some (.int .i64 m.d):=hH 1 kS;have c2:wr.cell? ⟨B,off+k*9+2,none⟩=some (.int .i64 m.e):=hH 2 kS;have c3:wr.cell? ⟨B,off+k*9+3,none⟩=some (.int .i64 m.a):=hH 3 kS;have c4:wr.cell? ⟨B,off+k*9+4,none⟩=some (.int .i64 m.b):=hH 4 kS;have c5:wr.cell? ⟨B,off+k*9+5,none⟩=some (.int .i64 m.c):=hH 5 kS;have c6:wr.cell? ⟨B,off+k*9+6,none⟩=some (.int .i32 m.imm):=hH 6 kS;have c7:wr.cell? ⟨B,off+k*9+7,none⟩=some (.slice aa m.args.length ac):=hH 7 kS;have c8:wr.cell? ⟨B,off+k*9+8,none⟩=some (.int .i64 src):=hH 8 kS;rw[Hj]at h6;have HX:=hid h2;have H0:=hid Hb;have tp:=hid Ha;have Hl:=hid Ht;clear hH hc hB hx h2 Hb Ha Ht Hj;obtain⟨wa,hT⟩:∃ x,x=wr.alloc (.cells #[.int .i64 m.op,.int .i64 m.d,.int .i64 m.e,.int .i64 m.a,.int .i64 m.b,.int .i64 m.c,.int .i32 m.imm,.slice aa m.args.length ac,.int .i64 src] 38):=⟨_,rfl⟩
   have Hg:MRun c wa s1 cv1 0 0 ((c.steps.toNat:Int)-(f1:Int)):=by rw[hT];exact HM.out.keep ((Since.refl wr).alloc _)
   have Hx:=HA.out.keep (w':=wa) (by rw[hT];exact (Since.refl wr).alloc _)
   have Hf:HeapIs wa wr.heap.size #[.int .i64 m.op,.int .i64 m.d,.int .i64 m.e,.int .i64 m.a,.int .i64 m.b,.int .i64 m.c,.int .i32 m.imm,.slice aa m.args.length ac,.int .i64 src] 38:=by rw[hT];exact HeapIs.new _ _ _
   have tq:wr.heap.size<wa.heap.size:=Hf.lt;have H2:=HM.out.base;have HK:=Hg.notBz Hx HT kS;have HH:=Hg.notBz Hf H2 kS;have hZ:=hid Hg;have h9:=hid Hx;have hI:=hid Hf;have h8:=hid HK;have hJ:=hid HH;have he:=hid (fun w1 (h1:MRun c w1 s1 cv1 0 0 ((c.steps.toNat:Int)-(f1:Int)))=>QQ c s1 cv1 ((c.steps.toNat:Int)-(f1:Int)) w1 h1 HE kT)
   clear Hg Hx Hf HK HH;go_wp2_with fail
   rw[←hT];clear c0 c1 c2 c3 c4 c5 c6 c7 c8;have tz:=hid hT;clear hT
   cases f1 with
   | zero =>
    have hz:c.steps≤(c.steps.toNat:Int)-((0:Nat):Int):=kT
    unfold StepQ at he;simp only[if_pos hz,decide_eq_true hz,Bool.not_true]at he;have hw:=h6.out;unfold ZA at hw;have hh:=hid hw;clear hw;generalize hU:(c.steps.toNat:Int)-((0:Nat):Int)=st0 at *;have th:=hid hU;clear hU hz;refine ZU [1] [0,0,1,1,1,1,1,1,1,1,1,1,1] [0,0,1,1,1,1,1,1,1,1,1,1,1] [0,1,0,0,0,0,0,0,0,0,0,0,0] (Zfm c cv1 s1 st0) rfl kK kK kK
     [Is (.pointer (some ⟨c.mb,0,none⟩)),Is (.bool false),Is (.bool true),Is (.bool true),Any,Any,Any,Any,Any,Any,Any,Any,Is (.bool true)]
     jY (hZ.out.keep (Since.refl _).drew) ⟨?_,?_,?_,?_,?_,?_,?_,?_,?_,?_,?_,?_,?_,trivial⟩ ?_
    rotate_right
    ·intro vs w1 _ ha hk;simp only[putAll,Act.put,Zc,Ze,Is,Any,List.setIfInBounds_toArray,List.set_cons_zero,List.set_cons_succ,Nat.reduceAdd,List.length_cons,List.length_nil]at hk ⊢;try simp only[hk]
     have Hq:MRun c w1 s1 cv1 3 0 st0:=ha;have tj:=hid Hq;clear Hq;clear ha hk;go_wp2
     go_ret
     exact .inl ⟨rfl,_,by rw[←hh.out];dsimp only;rw[th.out];exact tj.out⟩
    all_goals
     intro p vs w1 hW hX _ ha hk;simp only[putAll,Act.put,Zk,Ze,Is,Any,List.setIfInBounds_toArray,List.set_cons_zero,List.set_cons_succ,Nat.reduceAdd]at hk ⊢;try simp only[hk]
    ·exact jH
    ·obtain rfl:p=0:=kT
     have hL:MRun c w1 s1 cv1 0 0 st0:=ha;have HC:=hid (he.out w1 hL);go_wp2_with fail
     refine HC.out.mono ?_;rintro e w2 ⟨rfl,hj,_⟩;go_wp2
     exact⟨_,rfl,rfl,trivial,hj⟩
    iterate 2
     ·exact jH
    iterate 8
     ·go_wp2
      exact⟨_,rfl,trivial,trivial,ha⟩
    ·exact jH
   | succ f =>
    have hz:¬ c.steps≤(c.steps.toNat:Int)-((f+1:Nat):Int):=kT
    unfold StepQ at he;simp only[if_neg hz,decide_eq_false hz,Bool.not_false]at he;have hP:(c.steps.toNat:Int)-((f+1:Nat):Int)+1=(c.steps.toNat:Int)-(f:Int):=kT
    simp only[hP]at he;have hw:=h6.out;unfold ZA at hw;dsimp only at hw;have Hm:=Zam m c.ans s1;have hC:=hid (Hm.trans h5.out);have hh:=hid hw;clear hw Hm;have Hc:=HM.out.few;generalize hU:(c.steps.toNat:Int)-((f+1:Nat):Int)=st0 at *;generalize h7:(c.steps.toNat:Int)-(f:Int)=st1 at *;have hy:=hid h7;have H5:=zH ((s1.calls.length:Int)<st1) kT;clear hU h7 hz hP Hc;have H3:∀ q,Value.ownBlock (.slice aa m.args.length ac)=some q→q<c.w0.heap.size:=tp.out
    have HB:m.op=2∨m.op=30∨m.op=31∨m.op=28∨(m.op≠2∧m.op≠30∧m.op≠31∧m.op≠28):=kT
    rcases HB with ho|ho|ho|ho|ho
    ·have hr:=fun w1 (h1:MRun c w1 s1 cv1 0 0 st1)=>ZdZ c s1 cv1 _ m (.slice aa m.args.length ac) w1 h1 ho Hl.out hk
     have hu:=hid (fun w1=>ZeV m (.slice aa m.args.length ac) w1 ho)
     generalize stepM m c.ans s1=D at *;obtain⟨tr,s2⟩:=D;dsimp only at hr hC hh;have hv:=hid hr;clear hr ho;unfold mv at hv hu;unfold MPtr at hv;refine ZU [1,10] [0,0,1,1,1,1,1,1,1,1,1,2,2] [0,0,1,1,1,1,1,1,1,1,1,2,2] [0,1,0,0,0,0,0,0,0,0,1,0,0] (KO c cv1 s1 s2 tr st0 st1 wa) rfl kK kK kK
      [Is (.pointer (some ⟨c.mb,0,none⟩)),Is (.bool true),Is (.bool false),Is (.bool false),Is (.pointer (some ⟨wr.heap.size,0,none⟩)),Is (.agg #[.int .i64 m.op,.int .i64 m.d,.int .i64 m.e,.int .i64 m.a,.int .i64 m.b,.int .i64 m.c,.int .i32 m.imm,.slice aa m.args.length ac]),Is (.iface 155 (.agg #[])),Is (.pointer (some ⟨wr.heap.size,0,none⟩)),Is (.agg #[.int .i64 m.op,.int .i64 m.d,.int .i64 m.e,.int .i64 m.a,.int .i64 m.b,.int .i64 m.c,.int .i32 m.imm,.slice aa m.args.length ac]),Is (.pointer (some ⟨c.mb,0,none⟩)),Is (.bool tr.isNone),Is (.bool tr.isSome),Is (.bool tr.isSome)]
      jY ⟨Turn.since (Since.refl _).drew,hZ.out.keep (Since.refl _).drew⟩ ⟨?_,?_,?_,?_,?_,?_,?_,?_,?_,?_,?_,?_,?_,trivial⟩ ?_
     rotate_right
     ·exact zn
     all_goals
      intro p vs w1 hW hX _ ha hk;simp only[putAll,Act.put,Zk,Ze,Is,List.setIfInBounds_toArray,List.set_cons_zero,List.set_cons_succ,Nat.reduceAdd]at hk ⊢;try simp only[hk]
     ·exact jH
     ·exact z6
     iterate 3
      ·exact jH
     ·exact zr
     ·exact zX
     ·exact jH
     ·exact zr
     ·exact jH
     ·exact qj
     iterate 2
      ·exact jH
    ·have hr:=fun w1 (h1:MRun c w1 s1 cv1 0 0 st1)=>Ze9 c s1 cv1 _ m (.slice aa m.args.length ac) w1 h1 ho Hl.out hk h5.out
     have hu:=hid (fun w1=>Zeb m (.slice aa m.args.length ac) w1 ho)
     exact zb
    ·have hr:=fun w1 (h1:MRun c w1 s1 cv1 0 0 st1)=>Ze8 c s1 cv1 _ m (.slice aa m.args.length ac) w1 h1 ho Hl.out hk h5.out
     have hu:=hid (fun w1=>Zea m (.slice aa m.args.length ac) w1 ho)
     exact zb
    ·have hr:=fun w1 (h1:MRun c w1 s1 cv1 0 0 st1)=>Zd1 c s1 cv1 _ m (.slice aa m.args.length ac) w1 h1 H5.out ho Hl.out HX.out H0.out
     have hu:=hid (fun w1=>Zec m (.slice aa m.args.length ac) w1 ho)
     generalize stepM m c.ans s1=D at *;obtain⟨tr,s2⟩:=D;dsimp only at hr hC hh;have hv:=hid hr;clear hr ho;unfold mv at hv hu;unfold MPtr at hv;refine ZU [1,10] [0,0,1,1,1,1,1,1,1,1,1,2,2] [0,0,1,1,1,1,1,1,1,1,1,2,2] [0,1,0,0,0,0,0,0,0,0,1,0,0] (KO c cv1 s1 s2 tr st0 st1 wa) rfl kK kK kK
      [Is (.pointer (some ⟨c.mb,0,none⟩)),Is (.bool true),Is (.bool false),Is (.bool false),Is (.pointer (some ⟨wr.heap.size,0,none⟩)),Is (.agg #[.int .i64 m.op,.int .i64 m.d,.int .i64 m.e,.int .i64 m.a,.int .i64 m.b,.int .i64 m.c,.int .i32 m.imm,.slice aa m.args.length ac]),Is (.iface 157 (.agg #[])),Is (.pointer (some ⟨wr.heap.size,0,none⟩)),Is (.agg #[.int .i64 m.op,.int .i64 m.d,.int .i64 m.e,.int .i64 m.a,.int .i64 m.b,.int .i64 m.c,.int .i32 m.imm,.slice aa m.args.length ac]),Is (.pointer (some ⟨c.mb,0,none⟩)),Is (.bool tr.isNone),Is (.bool tr.isSome),Is (.bool tr.isSome)]
      jY ⟨Turn.since (Since.refl _).drew,hZ.out.keep (Since.refl _).drew⟩ ⟨?_,?_,?_,?_,?_,?_,?_,?_,?_,?_,?_,?_,?_,trivial⟩ ?_
     rotate_right
     ·exact zn
     all_goals
      intro p vs w1 hW hX _ ha hk;simp only[putAll,Act.put,Zk,Ze,Is,List.setIfInBounds_toArray,List.set_cons_zero,List.set_cons_succ,Nat.reduceAdd]at hk ⊢;try simp only[hk]
     ·exact jH
     ·exact z6
     iterate 3
      ·exact jH
     ·exact zr
     ·exact zX
     ·exact jH
     ·exact zr
     ·exact jH
     ·exact qj
     iterate 2
      ·exact jH
    ·have hr:=fun w1 (h1:MRun c w1 s1 cv1 0 0 st1)=>Zc3 c s1 cv1 _ m (.slice aa m.args.length ac) w1 h1 ho HX.out H0.out H3
     have hu:=hid (fun w1=>Zcq m (.slice aa m.args.length ac) w1 ho)
     generalize stepM m c.ans s1=D at *;obtain⟨tr,s2⟩:=D;dsimp only at hr hC hh;have hv:=hid hr;clear hr ho;unfold mv at hv hu;unfold MPtr at hv;refine ZU [1,10] [0,0,1,1,1,1,1,1,1,1,1,2,2] [0,0,1,1,1,1,1,1,1,1,1,2,2] [0,1,0,0,0,0,0,0,0,0,1,0,0] (KO c cv1 s1 s2 tr st0 st1 wa) rfl kK kK kK
      [Is (.pointer (some ⟨c.mb,0,none⟩)),Is (.bool true),Is (.bool false),Is (.bool false),Is (.pointer (some ⟨wr.heap.size,0,none⟩)),Is (.agg #[.int .i64 m.op,.int .i64 m.d,.int .i64 m.e,.int .i64 m.a,.int .i64 m.b,.int .i64 m.c,.int .i32 m.imm,.slice aa m.args.length ac]),Is (.iface 158 (.agg #[])),Is (.pointer (some ⟨wr.heap.size,0,none⟩)),Is (.agg #[.int .i64 m.op,.int .i64 m.d,.int .i64 m.e,.int .i64 m.a,.int .i64 m.b,.int .i64 m.c,.int .i32 m.imm,.slice aa m.args.length ac]),Is (.pointer (some ⟨c.mb,0,none⟩)),Is (.bool tr.isNone),Is (.bool tr.isSome),Is (.bool tr.isSome)]
      jY ⟨Turn.since (Since.refl _).drew,hZ.out.keep (Since.refl _).drew⟩ ⟨?_,?_,?_,?_,?_,?_,?_,?_,?_,?_,?_,?_,?_,trivial⟩ ?_
     rotate_right
     ·exact zn
     all_goals
      intro p vs w1 hW hX _ ha hk;simp only[putAll,Act.put,Zk,Ze,Is,List.setIfInBounds_toArray,List.set_cons_zero,List.set_cons_succ,Nat.reduceAdd]at hk ⊢;try simp only[hk]
     ·exact jH
     ·exact z6
     iterate 3
      ·exact jH
     ·exact zr
     ·exact zX
     ·exact jH
     ·exact zr
     ·exact jH
     ·exact qj
     iterate 2
      ·exact jH
  ·obtain rfl:k=xins.length:=kT
   have hw:=h6.out;rw[List.drop_length]at hw;have he:=hid (fun w1 (h1:MRun c w1 s1 cv1 0 0 ((c.steps.toNat:Int)-(f1:Int)))=>QQ c s1 cv1 ((c.steps.toNat:Int)-(f1:Int)) w1 h1 HE kT)
   cases f1 with
   | zero =>
    have hz:c.steps≤(c.steps.toNat:Int)-((0:Nat):Int):=kT
    unfold StepQ at he;simp only[if_pos hz,decide_eq_true hz,Bool.not_true]at he;unfold ZA at hw;have hh:=hid hw;clear hw hz;go_wp2_with fail
    refine (he.out _ HM.out).mono ?_;rintro e w2 ⟨rfl,hj,_⟩;have te:=hid hj;clear hj;go_wp2
    go_ret
    exact .inl ⟨rfl,_,by rw[←hh.out];exact te.out⟩
   | succ f =>
    have hz:¬ c.steps≤(c.steps.toNat:Int)-((f+1:Nat):Int):=kT
    unfold StepQ at he;simp only[if_neg hz,decide_eq_false hz,Bool.not_false]at he;have hP:(c.steps.toNat:Int)-((f+1:Nat):Int)+1=(c.steps.toNat:Int)-(f:Int):=kT
    simp only[hP]at he;have Hc:=HM.out.few;have hG:(c.steps.toNat:Int)-(f:Int)≤1000000:=kT
    have hN:(s1.calls.length:Int)≤(c.steps.toNat:Int)-(f:Int):=kT
    unfold ZA at hw;dsimp only at hw;generalize hU:(c.steps.toNat:Int)-((f+1:Nat):Int)=st0 at *;generalize h7:(c.steps.toNat:Int)-(f:Int)=st1 at *;have hy:=hid h7;have hh:=hid hw;have HN:=hid (HM.out.notBz HA.out HT kS);clear hw hz hU h7 hP Hc;go_wp2_with fail
    refine (he.out _ HM.out).mono ?_;rintro e w2 ⟨rfl,hn,hp⟩;have hg:=HA.out.turn hp (fun hq=>HN.out (.inl (.inl hq)))
    have hf:=hid hn;have hK:=hid hg;have b1:=hg.cell 1;have b2:=hg.cell 2;have tx:=hg.lt;have hY:=hn.mat.frozen;have g21:w2.cell? ⟨c.mb,21,none⟩=some (.int .i64 0):=hn.cellr 5;have g22:w2.cell? ⟨c.mb,22,none⟩=some (.int .i32 0):=hn.cellr 6;have Hr:c.mb≠w.heap.size:=kT
    clear hn hp hg;obtain⟨hQ,hO,hR⟩:=Zex H6.out;have hV:=ZdX hQ;dsimp only at hV;have Hz:=hid hQ;have tt:=hid hR;by_cases o7:eop=7
    ·subst o7;have Hw:=Ze7 hO rfl;dsimp only at Hw;have hE:=hh.out;rw[if_neg kS,if_pos rfl]at hE;have hS:=hid hE;clear hE hQ hO hR hh hV;by_cases h0:0≤ea
     ·obtain rfl:ea=0:=kT
      clear h0 Hw;go_wp2_with fail
      have HO:MRun c (w2.setCell ⟨c.mb,21,none⟩ (.int .i64 1)) s1 cv1 1 0 st1:=hf.out.set1 5 _ rfl hN hG;have HU:=hK.out.turn ((Turn.refl (fun q=>q=c.mb) w2).setCell (p:=⟨c.mb,21,none⟩) rfl (.int .i64 1)) (fun hq=>Hr hq.symm);generalize w2.setCell ⟨c.mb,21,none⟩ (.int .i64 1)=w3 at *;have HY:=hid HO;have H1:=hid HU;clear HO HU b1 b2 hY g21 g22;refine Zg 12 rfl kK kK kK kS
       [Is (.pointer (some ⟨c.mb,0,none⟩)),Is (.pointer (some ⟨c.mb,0,none⟩)),Is (.pointer (some ⟨w.heap.size,1,none⟩)),Is (.pointer (some ⟨w.heap.size,2,none⟩)),Is (.int .i64 0),Is (.pointer (some ⟨c.mb,0,none⟩)),Is (.pointer (some ⟨c.mb,0,none⟩)),Is (.pointer (some ⟨c.mb,0,none⟩)),Is (.int .i32 (s1.regs.getD 0 0)),Is (.pointer (some ⟨c.mb,0,none⟩)),Is (.pointer (some ⟨c.mb,21,none⟩)),Is (.pointer (some ⟨c.mb,22,none⟩))]
       jT ⟨?_,?_,?_,?_,?_,?_,?_,?_,?_,?_,?_,?_,trivial⟩ ?_
      rotate_right
      ·intro vs w1 hs hk;simp only[List.take,List.drop,putAll,Act.put,Zc,Ze,Is,List.setIfInBounds_toArray,List.set_cons_zero,List.set_cons_succ,Nat.reduceAdd]at hk ⊢;try simp only[hk]
       have Hh:=HY.out.keep hs;have g22:w1.cell? ⟨c.mb,22,none⟩=some (.int .i32 0):=Hh.cellr 6;have hY:=Hh.mat.frozen;have Hy:=hid Hh;clear Hh hs hk;go_wp2
       go_ret
       exact .inl ⟨rfl,cv1,by rw[←hS.out];dsimp only;rw[hy.out,if_pos kS];exact Hy.out.set1 6 _ rfl hN hG⟩
      all_goals
       intro vs w1 hs hk _;simp only[List.take,putAll,Act.put,Zk,Ze,Is,List.setIfInBounds_toArray,List.set_cons_zero,List.set_cons_succ,Nat.reduceAdd]at hk ⊢;try simp only[hk]
      iterate 4
       ·exact jK
      ·have hc:=(H1.out.keep hs).cell 2;have hl:=(H1.out.keep hs).lt;exact jK
      iterate 3
       ·exact jK
      ·have hc:=(HY.out.keep hs).reg (i:=0) kS;exact jK
      iterate 3
       ·exact jK
     ·have hd:decide (0≤ea)=false:=decide_eq_false h0;have tm:=hid h0;clear Hw h0;go_wp2
      go_ret
      exact .inl ⟨rfl,cv1,by rw[←hS.out];dsimp only;rw[hy.out,if_neg (by have:=tm.out;omega)];exact hf.out.set1 5 _ rfl hN hG⟩
    by_cases o8:eop=8
    ·subst o8;have hE:=hh.out;rw[if_pos rfl]at hE;have hS:=hid hE;clear hE hQ hO hR hh hV o7 g21 g22 hY;go_wp2_with fail
     refine ZU [8,12] [0,0,0,0,0,0,0,0,0,1,1,1,1] [0,1,1,1,1,0,0,0,0,1,1,1,1] [0,0,0,0,0,0,0,0,1,0,0,0,1] (ZeM c cv1 s1 st1 eimm w.heap.size _) rfl kK kK kK
      [Is (.pointer (some ⟨c.mb,0,none⟩)),Is (.pointer (some ⟨c.mb,0,none⟩)),Is (.pointer (some ⟨w.heap.size,1,none⟩)),Is (.pointer (some ⟨w.heap.size,5,none⟩)),Is (.int .i32 eimm),Is (.pointer (some ⟨c.mb,0,none⟩)),Is (.pointer (some ⟨c.mb,21,none⟩)),Is (.pointer (some ⟨c.mb,21,none⟩)),Any,Is (.pointer (some ⟨c.mb,0,none⟩)),Is (.pointer (some ⟨c.mb,21,none⟩)),Is (.pointer (some ⟨c.mb,22,none⟩)),Any]
      jY (And.intro (hK.out.keep (Since.refl _).drew) (hf.out.keep (Since.refl _).drew)) ⟨?_,?_,?_,?_,?_,?_,?_,?_,?_,?_,?_,?_,?_,trivial⟩ ?_
     rotate_right
     ·intro vs w1 _ ha hk;simp only[putAll,Act.put,Zc,Ze,Is,Any,List.setIfInBounds_toArray,List.set_cons_zero,List.set_cons_succ,Nat.reduceAdd,List.length_cons,List.length_nil]at hk ⊢;try simp only[hk]
      have hn:MRun c w1 s1 cv1 2 eimm st1:=ha.2;have Hy:=hid hn;clear hn ha hk;go_wp2
      go_ret
      exact .inl ⟨rfl,cv1,by rw[←hS.out];dsimp only;rw[hy.out];exact Hy.out⟩
     all_goals
      intro p vs w1 hW hX _ ha hk;simp only[putAll,Act.put,Zk,Ze,Is,Any,List.setIfInBounds_toArray,List.set_cons_zero,List.set_cons_succ,Nat.reduceAdd]at hk ⊢;try simp only[hk]
     iterate 4
      ·exact jH
     ·have hc:=ha.1.cell 5;have hl:=ha.1.lt;exact jH
     iterate 3
      ·exact jH
     ·obtain rfl:p=0:=kT
      have hL:MRun c w1 s1 cv1 0 0 st1:=ha.2;have g21:w1.cell? ⟨c.mb,21,none⟩=some (.int .i64 0):=hL.cellr 5;have hY:=hL.mat.frozen;go_wp2
      exact⟨.bool true,rfl,trivial,trivial,And.intro (HeapIs.turn ha.1 ((Turn.refl (fun q=>q=c.mb) w1).setCell (p:=⟨c.mb,21,none⟩) rfl _) (fun hq=>Hr hq.symm)) (hL.set1 (e':=2) (v':=0) 5 _ rfl hN hG)⟩
     iterate 3
      ·exact jH
     ·obtain rfl:p=1:=kT
      have hL:MRun c w1 s1 cv1 2 0 st1:=ha.2;have g22:w1.cell? ⟨c.mb,22,none⟩=some (.int .i32 0):=hL.cellr 6;have hY:=hL.mat.frozen;go_wp2
      exact⟨.bool true,rfl,trivial,trivial,And.intro (HeapIs.turn ha.1 ((Turn.refl (fun q=>q=c.mb) w1).setCell (p:=⟨c.mb,22,none⟩) rfl _) (fun hq=>Hr hq.symm)) (hL.set1 (e':=2) (v':=eimm) 6 _ rfl hN hG)⟩
    ·have n7:(eop==7)=false:=by simpa using o7
     have n8:(eop==8)=false:=by simpa using o8
     have hE:=hh.out;rw[if_neg o8,if_neg o7]at hE;have hS:=hid hE;have h4:=ZdM ⟨eop,ea,eb,eto,.slice ta eto.length tc,eimm⟩ s1.regs Hz.out hV.1 (by dsimp only;omega);have h3:=fun w1 (h1:MRun c w1 s1 cv1 0 0 st1)=>ZcX ⟨eop,ea,eb,eto,.slice ta eto.length tc,eimm⟩ s1.regs c.mb 16 _ _ w1 h1.mat (by rw[h1.len];decide) h1.r32 (HW.out.keep h1.old) Hz.out hV.1 (by dsimp only;omega)
     rw[hf.out.len]at h3;generalize goes ⟨eop,ea,eb,eto,.slice ta eto.length tc,eimm⟩ s1.regs=g at *;dsimp only at h4;obtain⟨_,hc⟩:=Zx HW.out;obtain⟨TB,toff,rfl,HV,Hk⟩:=hc (by intro e;rw[e]at h4;simp at h4);obtain⟨tg,He⟩:∃ x,eto[g]? = some x:=⟨_,List.getElem?_eq_getElem h4⟩
     have H7:=Zcl hR (List.mem_of_getElem? He);obtain⟨j,rfl⟩:=Int.eq_ofNat_of_zero_le (show 0≤tg by omega);have td:j<p.blocks.length:=kT
     have Hi:p.blocks[j]? = some p.blocks[j]:=List.getElem?_eq_getElem td;generalize p.blocks[j]=b' at Hi;have HQ:eto.getD g 0=(j:Int):=by rw[List.getD_eq_getElem?_getD,He];rfl
     have Hp:=hS.out;rw[HQ,Int.toNat_natCast,Hi]at Hp;have HR:=fun w1 (h1:Since c.w0 w1)=>(h1.cell (p:=⟨TB,toff+g,none⟩) HV).trans (Hk g _ He)
     have tn:=hid HR;have ti:=hid Hp;have HJ:=hid Hi;have HZ:=hid h3;clear hE Hp Hi HR h3 HQ H7 He Hk hc HV hQ hO hR hh hS g21 g22 hY o7 o8 hV;unfold ev at HZ;go_wp2_with fail
     refine Zg 13 rfl kK kK kK kS
      [Is (.pointer (some ⟨w.heap.size,1,none⟩)),Is (.pointer (some ⟨w.heap.size,4,none⟩)),Is (.slice (some ⟨TB,toff,none⟩) eto.length tc),Is (.pointer (some ⟨w.heap.size,1,none⟩)),Is (.agg #[.int .i64 eop,.int .i64 ea,.int .i64 eb,.slice (some ⟨TB,toff,none⟩) eto.length tc,.int .i32 eimm]),Is (.pointer (some ⟨c.mb,0,none⟩)),Is (.pointer (some ⟨c.mb,0,none⟩)),Is (.pointer (some ⟨c.mb,0,none⟩)),Is (.slice (some ⟨c.mb,0,none⟩) 16 16),Is (.int .i64 g),Is (.pointer (some ⟨TB,toff+g,none⟩)),Is (.int .i64 j),Is (.int .i64 j)]
      jT ⟨?_,?_,?_,?_,?_,?_,?_,?_,?_,?_,?_,?_,?_,trivial⟩ ?_
     rotate_right
     ·intro vs w1 hs hk;simp only[List.take,List.drop,putAll,Act.put,Zc,Ze,Is,List.setIfInBounds_toArray,List.set_cons_zero,List.set_cons_succ,Nat.reduceAdd]at hk ⊢;try simp only[hk]
      have HL:=hf.out.keep hs;have tl:=hid HL;clear HL hs hk;go_wp2
      go_ret
      exact .inr ⟨j,b',s1,cv1,f,rfl,HJ.out,kT,h5.out,by rw[hy.out];exact tl.out,ti.out⟩
     all_goals
      intro vs w1 hs hk _;simp only[List.take,putAll,Act.put,Zk,Ze,Is,List.setIfInBounds_toArray,List.set_cons_zero,List.set_cons_succ,Nat.reduceAdd]at hk ⊢;try simp only[hk]
     iterate 2
      ·exact jK
     ·have hc:=(hK.out.keep hs).cell 4;have hl:=(hK.out.keep hs).lt;exact jK
     ·exact jK
     ·have hl:=(hK.out.keep hs).lt;have c1:=(hK.out.keep hs).cell 1;have c2:=(hK.out.keep hs).cell 2;have c3:=(hK.out.keep hs).cell 3;have c4:=(hK.out.keep hs).cell 4;have c5:=(hK.out.keep hs).cell 5;exact jK
     iterate 4
      ·exact jK
     ·have HC:=hid (HZ.out w1 (hf.out.keep hs));go_wp2_with fail
      refine HC.out.mono ?_;rintro e w5 ⟨rfl,H8⟩;go_wp2
      exact⟨_,rfl,rfl,H8⟩
     ·exact jK
     ·have hc:=tn.out w1 (hf.out.keep hs).old;exact jK
     ·exact jK
end Go.Proofs.YtimpddecdodddaaGreat
