import Derived.Test.YtmhojfpidedjeaaGreatDoorTp08
namespace Go.Proofs.YtmhojfpidedjeaaGreatDoor
open Go.RowKit Go.Lib
set_option linter.unusedVariables false
set_option maxHeartbeats 4000000
set_option maxRecDepth 100000
theorem Qq (w:World):Calls Tryz.prog 51 #[] w (Jk 5 ZY w):=by
 go_enter Tryz.func51,Tryz.ntmps51
 go_wp2
 go_ret
 exact⟨rfl,Jm w ZY _,(Since.refl _).alloc _⟩
def QV (n:Nat) (l:List ByteArray) (v:Value) (w:World):Prop:=∃ g,v=.slice (some ⟨g,0,none⟩) n n∧Vh w g l
def QX (l:List ByteArray) (k:Nat) (v:Value) (w:World):Prop:=∃ g,v=.pointer (some ⟨g,k,none⟩)∧Vh w g l
theorem QV.stable (n:Nat) (l:List ByteArray):Z7 (QV n l):=fun _ _ _ h hs=>by
 obtain⟨g,h1,h2⟩:=h
 exact⟨g,h1,h2.keep hs⟩
theorem QX.stable (l:List ByteArray) (k:Nat):Z7 (QX l k):=fun _ _ _ h hs=>by
 obtain⟨g,h1,h2⟩:=h
 exact⟨g,h1,h2.keep hs⟩
def ftv (t:Zt):Value:=.agg #[.int .i64 t.kind,t.argsv,t.tov,.int .i32 t.imm]
theorem Zcl (t:Zt) (w:World) (hA:XM w t) (hx:ZfF t) (hn:(Yi t.d).length≤1000000000):Calls Tryz.prog 29 #[ftv t] w (Xl ⟨(Yi t.d).toArray⟩ w):=by
 obtain⟨kd,args,argsv,tgt,tov,imm⟩:=t;obtain⟨hA,hT⟩:=hA;obtain⟨aa,ac,e⟩:=Zp hA;obtain rfl:argsv=.slice aa args.length ac:=e;obtain⟨ta,tc,e⟩:=Zp hT;obtain rfl:tov=.slice ta tgt.length tc:=e;unfold ftv;have HA:=hid hA;have HT:=hid hT;have HX:=hid hx;have HN:=hid hn;have hF:=hx.im.1;have hE:=hx.im.2;have ho:=hx.kd.1;have hm:=hx.kd.2;dsimp only at hF hE ho hm ⊢;have hz:=hid (HeapIs.new w #[.int .i64 kd,.slice aa args.length ac,.slice ta tgt.length tc,.int .i32 imm] 54);have hb:=hid ((Since.refl w).alloc (.cells #[.int .i64 kd,.slice aa args.length ac,.slice ta tgt.length tc,.int .i32 imm] 54));clear hA hT hx hn;by_cases h1:kd<1
 ·have he:(⟨#[63]⟩:ByteArray)=⟨(Yi (Zt.d ⟨kd,args,.slice aa args.length ac,tgt,.slice ta tgt.length tc,imm⟩)).toArray⟩:=by
   unfold Yi Zt.d;dsimp only;rw[if_pos (.inl h1)]
  have HE:=hid he;rw[←he];clear he;go_enter Tryz.func29,Tryz.ntmps29
  go_wp2
  go_ret
  exact⟨rfl,hb.out⟩
 ·by_cases h5:5<kd
  ·have he:(⟨#[63]⟩:ByteArray)=⟨(Yi (Zt.d ⟨kd,args,.slice aa args.length ac,tgt,.slice ta tgt.length tc,imm⟩)).toArray⟩:=by
    unfold Yi Zt.d;dsimp only;rw[if_pos (.inr h5)]
   rw[←he];clear he;go_enter Tryz.func29,Tryz.ntmps29
   go_wp2
   go_ret
   exact⟨rfl,hb.out⟩
  ·by_cases hv:kd=5
   ·subst hv;obtain⟨z0,ha⟩:∃ z:ByteArray,⟨(dS imm).toArray⟩=z:=⟨_,rfl⟩
    have he:(⟨#[116,114,97,112]⟩:ByteArray)++z0=⟨(Yi (Zt.d ⟨5,args,.slice aa args.length ac,tgt,.slice ta tgt.length tc,imm⟩)).toArray⟩:=by
     rw[←ha];exact ZbZ [116,114,97,112] (dS imm)
    have hP:¬ 9223372036854775807<4+z0.size:=by
     have h2:=Ve imm (Zaj HX.out.im);rw[←ha,Zu];omega
    rw[←he];have hd:=fun W=>YL imm W (Zaj HX.out.im)
    rw[ha]at hd;have HD:=hid hd;clear he hd ha h1 h5 ho hm;go_enter Tryz.func29,Tryz.ntmps29
    go_wp2_with fail
    refine (HD.out _).mono ?_;rintro e w2 ⟨rfl,hc⟩;have hM:=hid (hb.out.trans hc);clear hc;go_wp2
    go_ret
    exact⟨rfl,hM.out⟩
   ·obtain⟨k,rfl⟩:∃ k:Nat,kd=(k:Int)+1:=⟨(kd-1).toNat,by omega⟩
    have hR:k<4:=by omega
    obtain⟨y,hy⟩:∃ y,ZY.getD k ByteArray.empty=y:=⟨_,rfl⟩
    have hJ:=hid hy;obtain⟨z0,ha⟩:∃ z:ByteArray,⟨(allS args).toArray⟩=z:=⟨_,rfl⟩
    obtain⟨z1,hi⟩:∃ z:ByteArray,⟨(allS tgt).toArray⟩=z:=⟨_,rfl⟩
    have hl:Yi (Zt.d ⟨(k:Int)+1,args,.slice aa args.length ac,tgt,.slice ta tgt.length tc,imm⟩)=y.data.toList++(allS args++allS tgt):=by
     unfold Yi Zt.d;dsimp only;rw[if_neg (by omega),if_neg (by omega)];unfold X0;rw[if_neg (by omega),show ((k:Int)+1-1).toNat=k from by omega,hy]
    have hh:=HN.out;rw[hl]at hh;simp only[List.length_append,Zq]at hh;have he:y++z0++z1=⟨(Yi (Zt.d ⟨(k:Int)+1,args,.slice aa args.length ac,tgt,.slice ta tgt.length tc,imm⟩)).toArray⟩:=by
     rw[hl];apply Zn
     rw[Zg,Zg,←ha,←hi];simp
    have HE:=hid he;have hC:z0.size=(allS args).length:=by rw[←ha];exact Zu _
    have hB:z1.size=(allS tgt).length:=by rw[←hi];exact Zu _
    have hU:¬ 9223372036854775807<y.size+z0.size:=by omega
    have hS:¬ 9223372036854775807<y.size+z0.size+z1.size:=by omega
    have hr:=fun W (h:Since w W)=>Wi (.slice aa args.length ac) args W (ZN.keep HA.out h) HX.out.ar (by omega)
    have hp:=fun W (h:Since w W)=>Wi (.slice ta tgt.length tc) tgt W (ZN.keep HT.out h) HX.out.tg (by omega)
    rw[ha]at hr;rw[hi]at hp;obtain⟨wb,hj⟩:∃ wb,w.alloc (.cells #[.int .i64 ((k:Int)+1),.slice aa args.length ac,.slice ta tgt.length tc,.int .i32 imm] 54)=wb:=⟨_,rfl⟩
    have HQ:=hz;rw[hj]at HQ hb;have hO:=hid (fun W (h:Since wb W)=>hr W (hb.out.trans h))
    have hN:=hid (fun W (h:Since wb W)=>hp W (hb.out.trans h))
    have e1:((k:Int)+1==5)=false:=by simp;omega
    have hK:=hid hj;clear hr hp ha hi he hh hl hy h1 h5 hv hj hz hC hB ho hm;go_enter Tryz.func29,Tryz.ntmps29
    go_wp2_with fail
    rw[hK.out];clear e1;have hQ:k<5:=by omega
    refine ZG rfl (by decide +kernel) (by decide +kernel)
     [QV 5 ZY,Is (.pointer (some ⟨w.heap.size,0,none⟩)),Is (.int .i64 ((k:Int)+1)),Is (.int .i64 k),QX ZY k,Is (.string y),Is (.pointer (some ⟨w.heap.size,1,none⟩)),Is (.slice aa args.length ac),Is (.string z0),Is (.string (y++z0)),Is (.pointer (some ⟨w.heap.size,2,none⟩)),Is (.slice ta tgt.length tc),Is (.string z1),Is (.string (y++z0++z1)),Is (.string (y++z0++z1))]
     (by repeat (first | exact trivial | refine⟨Is.stable _,?_⟩ | refine⟨ZV.stable _ _,?_⟩ | refine⟨IsRows.stable _ _,?_⟩ | refine⟨QV.stable _ _,?_⟩ | refine⟨QX.stable _ _,?_⟩)) ⟨?_,?_,?_,?_,?_,?_,?_,?_,?_,?_,?_,?_,?_,?_,?_,trivial⟩ ?_
    all_goals
     intro vs w9 hs hk;simp only[putAll,Act.put,Zh,Zc,Zd,Is,List.setIfInBounds_toArray,List.set_cons_zero,List.set_cons_succ,Nat.reduceAdd,List.length_cons,List.length_nil]at hk ⊢;try simp only[hk]
    ·go_wp2_with fail
     refine (Qq w9).mono ?_;rintro e w2 ⟨rfl,hD,hI⟩;go_wp2
     exact⟨_,rfl,⟨_,rfl,hD⟩,hI⟩
    ·go_wp2
     exact⟨_,rfl,rfl,.refl _⟩
    ·have hq:=HQ.out.keep hs;have hu:w9.cell? ⟨w.heap.size,0,none⟩=some (.int .i64 ((k:Int)+1)):=hq.cell 0;have ht:=hq.lt;go_wp2
     exact⟨_,rfl,rfl,.refl _⟩
    ·go_wp2
     exact⟨_,rfl,(by first | rfl | (simp;done)),.refl _⟩
    ·obtain⟨⟨g,hg,hf⟩,_⟩:=hk;have hG:=hf.1;rw[hg];clear hg;go_wp2
     exact⟨_,rfl,⟨g,(by first | rfl | (simp;done)),hf⟩,.refl _⟩
    ·obtain⟨⟨g,hg,hf⟩,_⟩:=hk;have hG:=hf.1;have hH:=hf.2 k (by show k<5;omega);rw[Nat.zero_add,hJ.out]at hH;rw[hg];clear hg hf;go_wp2
     exact⟨_,rfl,rfl,.refl _⟩
    ·go_wp2
     exact⟨_,rfl,rfl,.refl _⟩
    ·have hq:=HQ.out.keep hs;have hu:w9.cell? ⟨w.heap.size,1,none⟩=some (.slice aa args.length ac):=hq.cell 1;have ht:=hq.lt;go_wp2
     exact⟨_,rfl,rfl,.refl _⟩
    ·go_wp2_with fail
     refine (hO.out _ hs).mono ?_;rintro e w2 ⟨rfl,hc⟩;go_wp2
     exact⟨_,rfl,rfl,hc⟩
    iterate 2
     ·go_wp2
      exact⟨_,rfl,rfl,.refl _⟩
    ·have hq:=HQ.out.keep hs;have hu:w9.cell? ⟨w.heap.size,2,none⟩=some (.slice ta tgt.length tc):=hq.cell 2;have ht:=hq.lt;go_wp2
     exact⟨_,rfl,rfl,.refl _⟩
    ·go_wp2_with fail
     refine (hN.out _ hs).mono ?_;rintro e w2 ⟨rfl,hc⟩;go_wp2
     exact⟨_,rfl,rfl,hc⟩
    iterate 2
     ·go_wp2
      exact⟨_,rfl,rfl,.refl _⟩
    ·rw[HE.out];have hL:=hid (hb.out.trans hs);clear hs hk;go_wp2
     go_ret
     exact⟨rfl,hL.out⟩
theorem Zdb (g n:Nat) (l:List ByteArray) (hn:l.length=n) (hm:n≤1000) (s:ByteArray) (w:World) (h:Vh w g l):Calls Tryz.prog 88 #[.slice (some ⟨g,0,none⟩) n n,.string s] w (ZdI (Lib.idxOfS l s) w):=by
 subst hn;obtain⟨y,hy⟩:∃ y,Lib.idxOfS l s=y:=⟨_,rfl⟩
 rw[hy];have HY:=hid hy;have HN:=hid h;have hl:=h.1;clear hy h;go_enter Tryz.func88,Tryz.ntmps88
 go_wp2_with fail
 go_loop [5] (fun i=>∃ k:Nat,k≤l.length∧i=.int .i64 k∧∀ j,j<k→l.getD j ByteArray.empty≠s) (fun i=>l.length-(intOf i).toNat)
 case atStart=>exact⟨0,Nat.zero_le _,rfl,fun j hj=>by omega⟩
 case round =>
  obtain⟨k,hk,rfl,hb⟩:=hrel;have ha:=hid hb;clear hb;by_cases hd:k<l.length
  ·have hc:=HN.out.2 k hd;rw[Nat.zero_add]at hc;obtain⟨z,hz⟩:∃ z,l.getD k ByteArray.empty=z:=⟨_,rfl⟩
   rw[hz]at hc;have HZ:=hid hz;clear hz;by_cases he:z=s
   ·have hq:(z.toList==s.toList)=true:=(Lib.bytes_beq_iff z s).2 he;have HI:=hid (show Lib.idxOfS l s=(k:Int) from by
     unfold Lib.idxOfS;rw[Lib.idxFromS_hit s l k 0 hd (HZ.out.trans he) ha.out];omega)
    obtain rfl:(k:Int)=y:=HI.out.symm.trans HY.out;clear he;go_wp2
    go_ret
    exact⟨rfl,Below.refl _ _⟩
   ·have hq:(z.toList==s.toList)=false:=(Lib.bytes_beq_false_iff z s).2 he;have HX:=hid he;clear he;go_wp2
    go_round
    case rel=>exact⟨k+1,by omega,by go_num,fun j hj=>by
     by_cases h:j<k
     ·exact ha.out j h
     ·obtain rfl:j=k:=by omega
      rw[HZ.out];exact HX.out⟩
    case measure=>simp[intOf];omega
  ·obtain rfl:l.length=k:=by omega
   have HI:=hid (show Lib.idxOfS l s=-1 from by
    unfold Lib.idxOfS;rw[Lib.idxFromS_miss s l 0 ha.out])
   obtain rfl:(-1:Int)=y:=HI.out.symm.trans HY.out;go_wp2
   go_ret
   exact⟨rfl,Below.refl _ _⟩
theorem Zda (op:Int) (w:World) (ho:ZO op):Calls Tryz.prog 115 #[.int .i64 op] w fun e w'=>e=.returned (.tuple #[.int .i64 (least op),.int .i64 (most op)])∧w'=w:=by
 unfold ZO at ho;by_cases h1:op=1
 ·subst h1;go_enter Tryz.func115,Tryz.ntmps115
  go_wp2
  go_ret2
  exact⟨rfl,rfl⟩
 ·by_cases hb:op=17
  ·subst hb;go_enter Tryz.func115,Tryz.ntmps115
   go_wp2
   go_ret2
   exact⟨rfl,rfl⟩
  ·by_cases ha:op=18
   ·subst ha;go_enter Tryz.func115,Tryz.ntmps115
    go_wp2
    go_ret2
    exact⟨rfl,rfl⟩
   ·have e1:least op=3∧most op=3:=by unfold least most;simp[h1,hb,ha]
    rw[e1.1,e1.2];clear e1;go_enter Tryz.func115,Tryz.ntmps115
    go_wp2
    go_ret2
    exact⟨rfl,rfl⟩
theorem Qd (c:UInt8):∀ l:Bs,l.take (ZB c l).length=ZB c l
 | []=>rfl
 | x::r=>by
  have ih:=Qd c r
  unfold ZB at ih ⊢
  rw[List.takeWhile_cons]
  split
  ·rw[List.length_cons,List.take_succ_cons,ih]
  ·rfl
theorem JP (c:UInt8) (r:Bs):ZB c (c::r)=[]:=by unfold ZB;simp
theorem Vm {c x:UInt8} (r:Bs) (h:x≠c):ZB c (x::r)=x::ZB c r:=by unfold ZB;rw[List.takeWhile_cons,if_pos (by simpa using h)]
theorem QO {c : UInt8}:∀ {l : Bs},l.count c=0→ZB c l=l
 | [],_=>rfl
 | x::r,h=>by
  have hx:x≠c:=by intro e;subst e;simp at h
  rw[Vm r hx,QO (by rw[List.count_cons_of_ne hx]at h;exact h)]
theorem Zb1 {c : UInt8}:∀ {l : Bs},l.count c≠0→(ZB c l).length<l.length
 | [],h=>by simp at h
 | x::r,h=>by
  by_cases hx:x=c
  ·subst hx;rw[JP];simp
  ·rw[Vm r hx]
   have:=Zb1 (c:=c) (l:=r) (by rw[List.count_cons_of_ne hx]at h;exact h)
   simp only[List.length_cons];omega
theorem Zfs (s:ByteArray):s.extract 0 (ZB 58 s.data.toList).length=YQ s:=by
 apply Zn
 rw[Lib.extract_data];unfold YQ;simp[Qd]
theorem Zey (s:ByteArray):s.extract ((ZB 58 s.data.toList).length+1) s.size=Yv s:=by
 apply Zn
 rw[Lib.extract_data];unfold Yv;rw[←Zq,List.take_of_length_le (by simp)]
theorem Zdu {s : ByteArray} (h:colons s=0):YQ s=s∧Yv s=⟨#[]⟩:=by
 have h1:=QO (l:=s.data.toList) (c:=58) h;constructor
 ·unfold YQ;rw[h1]
 ·unfold Yv;rw[h1];rw[List.drop_eq_nil_of_le (by omega)]
theorem Zan (s:ByteArray) {j : Nat} (h:j<s.size):s.data.toList.drop j=s[j]::s.data.toList.drop (j+1):=by
 have h2:j<s.data.toList.length:=by rw[Zq];exact h
 rw[List.drop_eq_getElem_cons h2];rfl
def ZhG (s:ByteArray) (w:World) (e:Ending) (w':World):Prop:=e=.returned (.tuple #[.string (YQ s),.string (Yv s),.int .i64 (colons s)])∧Since w w'
theorem Zbu (s:ByteArray) (w:World) (hs:s.size≤1000000):Calls Tryz.prog 114 #[.string s] w (ZhG s w):=by
 go_enter Tryz.func114,Tryz.ntmps114
 go_wp2_with fail
 go_loop [5,6,7] (fun no ao io=>∃ (j n a:Nat),j≤s.size∧io=.int .i64 ((j:Int)-1)∧no=.int .i64 n∧ao=.int .i64 a∧n=(s.data.toList.drop j).count 58∧a=j+(ZB 58 (s.data.toList.drop j)).length) (fun _ _ io=>(intOf io+1).toNat)
 case atStart =>
  refine⟨s.size,0,s.size,Nat.le_refl _,rfl,rfl,rfl,?_,?_⟩
  ·rw[List.drop_eq_nil_of_le (by rw[Zq];exact Nat.le_refl _)];rfl
  ·rw[List.drop_eq_nil_of_le (by rw[Zq];exact Nat.le_refl _)];unfold ZB;simp
 case round =>
  obtain⟨j,n,a,hj,rfl,rfl,rfl,hn,ha⟩:=hrel;have hg:n≤1000000:=by have:=List.count_le_length (a:=(58:UInt8)) (l:=s.data.toList.drop j);rw[←hn,List.length_drop,Zq]at this;omega
  have hm:a≤1000000:=by
   have:(ZB 58 (s.data.toList.drop j)).length≤(s.data.toList.drop j).length:=by unfold ZB;exact (List.takeWhile_sublist _).length_le
   rw[List.length_drop,Zq]at this;omega
  have HN:=hid hn;have HA:=hid ha;clear hn ha;by_cases hh:0<j
  ·obtain⟨i,rfl⟩:∃ i,j=i+1:=⟨j-1,by omega⟩
   have hi:i<s.size:=by omega
   have HD:=hid (Zan s hi);by_cases hc:s[i]=58
   ·have hq:((s[i].toNat:Int)==58)=true:=by rw[hc];rfl
    have hb:=zH (n+1=(s.data.toList.drop i).count 58) (by rw[HN.out,HD.out,hc,List.count_cons_self]);have hd:=zH (i=i+(ZB 58 (s.data.toList.drop i)).length) (by rw[HD.out,hc,JP];rfl);clear hc;go_wp2
    go_round
    case rel=>exact⟨i,n+1,i,by omega,by go_num,by go_num,by go_num,hb.out,hd.out⟩
    case measure=>simp[intOf]
   ·have hq:((s[i].toNat:Int)==58)=false:=by
     rw[beq_eq_false_iff_ne];intro e;exact hc (UInt8.toNat_inj.1 (by show s[i].toNat=58;omega))
    have hb:=zH (n=(s.data.toList.drop i).count 58) (by rw[HN.out,HD.out,List.count_cons_of_ne hc]);have hd:=zH (a=i+(ZB 58 (s.data.toList.drop i)).length) (by rw[HA.out,HD.out,Vm _ hc,List.length_cons];omega);clear hc;go_wp2
    go_round
    case rel=>exact⟨i,n,a,by omega,by go_num,rfl,rfl,hb.out,hd.out⟩
    case measure=>simp[intOf]
  ·obtain rfl:j=0:=by omega
   have hN:=HN.out;have hA:=HA.out;rw[List.drop_zero]at hN hA;rw[Nat.zero_add]at hA;by_cases h0:n=0
   ·subst h0;have HF:=hid (Zdu (s:=s) hN.symm);have HC:=zH (colons s=0) hN.symm;clear hN hA;go_wp2
    go_ret3
    exact⟨by rw[HF.out.1,HF.out.2,HC.out];rfl,.refl _⟩
   ·have he:=Zfs s;have hf:=Zey s;rw[←hA]at he hf;have hl:a<s.size:=by rw[hA,←Zq];exact Zb1 (by rw[←hN];exact h0)
    have h1:((n:Int)==0)=false:=by simpa using h0
    have HC:=zH (colons s=n) hN.symm;clear hN hA h0;go_wp2_with fail
    refine ZG rfl (by decide +kernel) (by decide +kernel)
     [Is (.string s),Is (.int .i64 (a:Nat)),Is (.string (YQ s)),Is (.string s),Is (.int .i64 (a:Nat)),Is (.int .i64 ((a:Int)+1)),Is (.string (Yv s)),Is (.int .i64 (n:Nat)),Is (.string (YQ s)),Is (.string (Yv s)),Is (.int .i64 (n:Nat))]
     (by repeat (first | exact trivial | refine⟨Is.stable _,?_⟩ | refine⟨ZV.stable _ _,?_⟩ | refine⟨IsRows.stable _ _,?_⟩)) ⟨?_,?_,?_,?_,?_,?_,?_,?_,?_,?_,?_,trivial⟩ ?_
    all_goals
     intro vs w9 hs hk;simp only[putAll,Act.put,Zh,Zc,Zd,Is,List.setIfInBounds_toArray,List.set_cons_zero,List.set_cons_succ,Nat.reduceAdd,List.length_cons,List.length_nil]at hk ⊢;try simp only[hk]
    iterate 11
     ·go_wp2
      exact⟨_,rfl,rfl,.refl _⟩
    ·go_wp2
     go_ret3
     exact⟨by rw[HC.out];rfl,hs⟩
end Go.Proofs.YtmhojfpidedjeaaGreatDoor
