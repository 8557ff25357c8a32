import Derived.Test.YtmhojfpidedjeaaGreatDoorTp24
import Derived.Test.YtmhojfpidedjeaaGreatDoorTp41
namespace Go.Proofs.YtmhojfpidedjeaaGreatDoor
open Go.RowKit Go.Lib
set_option linter.unusedVariables false
set_option maxHeartbeats 8000000
set_option maxRecDepth 100000
theorem Zc9 (args:Array Value) (w:World):(callFunc 70 args).run Tryz.prog w=.ok (.enter 70 args) w:=by
 simp[callFunc,Tryz.func70];first | rfl | skip
theorem ZfV (x:Nat) (hx:x≤1114111) (w:World):Calls Tryz.prog 70 #[.int .i32 (x:Int)] w fun e w'=>e=.returned (.bool (Xf x))∧w'=w:=by
 have e:Xf x=(((x:Int)==32)||((x:Int)==9)):=by
  unfold Xf;congr 1
  ·by_cases h:x=32
   ·subst h;rfl
   ·rw[beq_eq_false_iff_ne.2 h,beq_eq_false_iff_ne.2 (by omega)]
  ·by_cases h:x=9
   ·subst h;rfl
   ·rw[beq_eq_false_iff_ne.2 h,beq_eq_false_iff_ne.2 (by omega)]
 rw[e];clear e;obtain⟨a,ha⟩:∃ a,((x:Int)==32)=a:=⟨_,rfl⟩
 obtain⟨b,hb⟩:∃ b,((x:Int)==9)=b:=⟨_,rfl⟩
 rw[ha,hb]
 cases a
 iterate 2
  ·go_enter Tryz.func70,Tryz.ntmps70
   go_wp2
   go_ret
   exact⟨rfl,rfl⟩
theorem ZeZ (w:World):PredAtRunes Tryz.prog 70 #[] Xf w:=fun W x hx _=>(ZfV x hx W).mono fun e w' ⟨h1,h2⟩=>⟨h1,0,by rw[h2];rfl⟩
theorem ZeG (x:ByteArray):Lib.goFieldsP Xf ⟨(ZB 35 x.data.toList).toArray⟩=wordsOf x.data.toList:=ZbQ _
def cutLines (s:ByteArray):List ByteArray:=Lib.splitB ⟨#[10]⟩ 0 (Lib.countB s ⟨#[10]⟩) s
theorem JO (s:ByteArray):(cutLines s).map (·.data.toList)=spl 10 s.data.toList:=by
 rw[←ZaF];unfold cutLines;rw[Lib.splitB_data];rfl
theorem ZbU (s:ByteArray):(cutLines s).length=Lib.countB s ⟨#[10]⟩+1:=Lib.splitB_all ⟨#[10]⟩ (by decide) 0 _ s rfl
theorem Jf (s:ByteArray):(cutLines s).map (fun x=>wordsOf x.data.toList)=linesOf s.data.toList:=by
 unfold linesOf;rw[←JO,List.map_map];rfl
theorem Zam (s:ByteArray):∀ x∈cutLines s,x.size≤s.size:=fun x hx=>by
 have h:=W2 10 s.data.toList x.data.toList (by rw[←JO];exact List.mem_map_of_mem hx)
 rwa [Zq,Zq]at h
theorem W5:∀ (l cur:Bs),∀ x∈fldGo cur l,x.length≤l.length+cur.length
 | [],cur,x,hx=>by
  unfold fldGo at hx
  by_cases h:cur=[]
  ·rw[if_pos h]at hx;cases hx
  ·rw[if_neg h]at hx;rw[List.mem_singleton.1 hx];simp
 | c::r,cur,x,hx=>by
  unfold fldGo at hx
  by_cases hs:Xg c=true
  ·rw[if_pos hs]at hx
   by_cases h:cur=[]
   ·rw[if_pos h]at hx
    have:=W5 r [] x hx
    simp only[List.length_cons,List.length_nil]at *;omega
   ·rw[if_neg h]at hx
    rcases List.mem_cons.1 hx with h1|h1
    ·subst h1;simp only[List.length_cons];omega
    ·have:=W5 r [] x h1
     simp only[List.length_cons,List.length_nil]at *;omega
  ·rw[if_neg hs]at hx
   have:=W5 r (cur++[c]) x hx
   simp only[List.length_cons,List.length_append,List.length_nil]at *;omega
theorem Zcc (l:Bs):∀ x∈wordsOf l,x.size≤l.length:=fun x hx=>by
 unfold wordsOf at hx
 obtain⟨y,hy,rfl⟩:=List.mem_map.1 hx
 have h:=W5 (ZB 35 l) [] y hy
 have h2:(ZB 35 l).length≤l.length:=by unfold ZB;exact (List.takeWhile_sublist _).length_le
 show y.toArray.size≤_
 simp at h ⊢;omega
def ZeC (w:World) (q:Nat):Prop:=∀ cs,¬ HeapIs w q cs 9
structure Zb9 (fn:Nat) (pb:Nat) {σ:Type} (step:σ→List ByteArray→Except Int σ) (Inv:Nat→σ→World→Prop) (Bad:Int→World→Prop):Prop where
 e0:∀ i s w,Inv i s w→w.cell? ⟨pb,3,none⟩=some (.int .i64 0)∧pb<w.heap.size
 keep:∀ i s w w',Inv i s w→Since w w'→Inv i s w'
 laid:∀ i s w,Inv i s w→Ys w
 more:∀ i s w,Inv i s w→Inv (i+1) s w
 enters:∀ (args:Array Value) (w:World),(callFunc fn args).run Tryz.prog w=.ok (.enter fn args) w
 call:∀ (i:Nat) (s:σ) (w:World) (v:Value) (f:ByteArray) (r:List ByteArray),Inv i s w→i≤400000→StrsIn w v (f::r)→(∀ q,v.ownBlock=some q→∃ cs,HeapIs w q cs 9)→r.length≤400000→Calls Tryz.prog fn #[.pointer (some ⟨pb,0,none⟩),v] w fun x w'=>x=.returned (.tuple #[])∧Turn (ZeC w) w w'∧(match step s (f::r) with | .error n=>Bad n w' | .ok t=>Inv (i+1) t w')
 bad:∀ n w,Bad n w→w.cell? ⟨pb,3,none⟩=some (.int .i64 n)∧n≠0∧pb<w.heap.size
def Zhs {σ:Type} (step:σ→List ByteArray→Except Int σ) (Inv:Nat→σ→World→Prop) (Bad:Int→World→Prop) (s0:σ) (s:ByteArray) (x:Ending) (w':World):Prop:=
 ∃ wrong:Int,x=.returned (.tuple #[.int .i64 wrong,.int .i64 (linesOf s.data.toList).length])∧(match YO step 0 s0 (linesOf s.data.toList) with | .error e=>wrong=e.1∧Bad e.2 w' | .ok t=>wrong=0∧∃ i,i≤s.size+1∧Inv i t w')
theorem Zes {σ:Type} {step:σ→List ByteArray→Except Int σ} {i : Nat} {s t:σ} {l : List ByteArray} {r : List (List ByteArray)} (hl:l≠[]) (hs:step s l=.ok t):YO step i s (l::r)=YO step (i+1) t r:=by
 rw[YO,if_neg hl,hs]
theorem Zfq {σ:Type} {step:σ→List ByteArray→Except Int σ} {i : Nat} {s : σ} {n : Int} {l : List ByteArray} {r : List (List ByteArray)} (hl:l≠[]) (hs:step s l=.error n):YO step i s (l::r)=.error ((i:Int)+1,n):=by
 rw[YO,if_neg hl,hs]
theorem Zer {σ:Type} {step:σ→List ByteArray→Except Int σ} {i : Nat} {s : σ} {r : List (List ByteArray)}:YO step i s ([]::r)=YO step (i+1) s r:=by
 rw[YO,if_pos rfl]
section
variable {fn pb:Nat} {σ:Type} {step:σ→List ByteArray→Except Int σ} {Inv:Nat→σ→World→Prop} {Bad:Int→World→Prop}
theorem ZbT (hE:Zb9 fn pb step Inv Bad) (s0:σ) (s:ByteArray) (w:World) (h0:Inv 0 s0 w) (hs:s.size≤300000):Calls Tryz.prog 38 #[.pointer (some ⟨pb,0,none⟩),.string s,.func (.func fn) #[.pointer (some ⟨pb,0,none⟩)] #[]] w (fun x w'=>Zhs step Inv Bad s0 s x w'):=by
 obtain⟨N,hN⟩:∃ N,(cutLines s).length=N:=⟨_,rfl⟩
 have hI:(linesOf s.data.toList).length=N:=by rw[←Jf,List.length_map,hN]
 have h8:N≤s.size+1:=by rw[←hI,←Zq];exact W4 _
 have HN:=hid hN;have hJ:=hid hI;have HE:=hid hE;have H0:=hid h0;obtain⟨m0,hR⟩:=(hE.laid 0 s0 w h0).mx;have hC:=Tryz.strings_Split s ⟨#[10]⟩ m0 w (by omega) hR (by decide);rw[←ZbU,hN]at hC;have Hc:=hid hC;have hh:=hE.enters;have hX:=hid hh;clear hE h0 hR hC hN hI;go_enter Tryz.func38,Tryz.ntmps38
 go_wp2_with fail
 refine Hc.out.mono ?_;rintro e1 w1 ⟨rfl,hA⟩;obtain⟨lb,hG⟩:∃ q,w.heap.size=q:=⟨_,rfl⟩
 rw[hG];have he:HeapIs w1 lb ((cutLines s).map Value.string).toArray 9:=by rw[hA,←hG];exact HeapIs.new _ _ _
 have hP:Since w w1:=by rw[hA];exact (Since.refl _).alloc _
 have Hh:=hid he;have Hf:=hid hP;clear hA he hP hG;go_wp2_with fail
 go_loopw [16] (fun io wr=>∃ (k:Nat) (t:σ),io=.int .i64 k∧k≤N∧Inv k t wr∧HeapIs wr lb ((cutLines s).map Value.string).toArray 9∧YO step 0 s0 (linesOf s.data.toList)=YO step k t ((linesOf s.data.toList).drop k)) (fun io _=>N-(intOf io).toNat)
 case atStart=>exact⟨0,s0,rfl,Nat.zero_le _,HE.out.keep _ _ _ _ H0.out Hf.out,Hh.out,rfl⟩
 case round =>
  obtain⟨k,t,rfl,hk,hH,ho,hS⟩:=hrel;have hj:=hid hH;have Hg:=hid ho;have hv:=hid hS;clear hH hS;by_cases h5:k<N
  ·obtain⟨x,hx⟩:∃ x,(cutLines s)[k]? = some x:=⟨_,List.getElem?_eq_getElem (by rw[HN.out];exact h5)⟩
   have hK:wr.cell? ⟨lb,k,none⟩=some (.string x):=by rw[ho.cell,List.getElem?_toArray,List.getElem?_map,hx];rfl
   have h6:=ho.lt;have hZ:=Zam s x (List.mem_of_getElem? hx);have hp:(linesOf s.data.toList).drop k=wordsOf x.data.toList::(linesOf s.data.toList).drop (k+1):=by
    have h9:(linesOf s.data.toList)[k]? = some (wordsOf x.data.toList):=by rw[←Jf,List.getElem?_map,hx];rfl
    rw[List.drop_eq_getElem_cons (List.getElem?_eq_some_iff.1 h9).1,(List.getElem?_eq_some_iff.1 h9).2]
   have hc:=hid hp;have Hb:=hid hZ;obtain⟨m1,hQ⟩:=(HE.out.laid _ _ _ hj.out).mx;have hcut:=Tryz.strings_Cut x ⟨#[35]⟩ m1 wr (by omega) hQ;have hY:=hid hcut;obtain⟨y,hy⟩:∃ y:ByteArray,⟨(ZB 35 x.data.toList).toArray⟩=y:=⟨_,rfl⟩
   have HY:=hid hy;have Ha:=hid (show y.size≤300000 from by
    have h2:(ZB 35 x.data.toList).length≤x.data.toList.length:=by unfold ZB;exact (List.takeWhile_sublist _).length_le
    rw[Zq]at h2;rw[←hy];show (ZB 35 x.data.toList).toArray.size≤_;simp;omega)
   clear ho hx hp hQ hcut hy;go_wp2_with fail
   refine hY.out.mono ?_;rintro e2 w2 ⟨rfl,kk,hM⟩;rw[show (⟨(Lib.cut x.data.toList (⟨#[35]⟩:ByteArray).data.toList).1.toArray⟩:ByteArray)=y from by rw[←HY.out];exact congrArg (fun l:Bs=>(⟨l.toArray⟩:ByteArray)) (Kb 35 x.data.toList).1]
   have hO:Since wr w2:=by rw[hM];exact QI wr kk
   have He:=hid hO;have Hi:=hid (Tryz.strings_FieldsFunc_runes 70 #[] Zc9 Xf y w2 (by have:=Ha.out;omega) (ZeZ w2));clear hM hO hK h6;go_wp2_with fail
   refine Hi.out.mono ?_;rintro e3 w3 ⟨wb,rfl,h1,hd,hn⟩;have hn:Since w2 w3:=hn;rw[←HY.out,ZeG x]at hd ⊢;obtain⟨wl,hm⟩:∃ l,wordsOf x.data.toList=l:=⟨_,rfl⟩
   rw[hm]at hd ⊢;obtain⟨wn,hl⟩:∃ n,wl.length=n:=⟨_,rfl⟩
   rw[hl]at hd ⊢;have ht:=hid hm;have hr:=hid hl;have hU:=hid hd;have hT:=hid (He.out.trans hn);have hu:=hid (HE.out.keep _ _ _ _ hj.out hT.out);have hi:=hid (Hg.out.keep hT.out);have Hj:wn≤300000:=by
    have h9:=Kx x.data.toList;rw[hm,hl,Zq]at h9;omega
   clear hm hl hd hn h1;by_cases h0:wn=0
   ·subst h0;have hf:=hid (show YO step 0 s0 (linesOf s.data.toList)=YO step (k+1) t ((linesOf s.data.toList).drop (k+1)) from by
     rw[hv.out,hc.out,ht.out,List.length_eq_zero_iff.1 hr.out,Zer])
    go_wp2
    go_roundw
    case rel=>exact⟨k+1,t,by go_num,by omega,HE.out.more _ _ _ hu.out,hi.out,hf.out⟩
    case measure=>simp[intOf];omega
   ·have Hk:((wn:Int)==0)=false:=by rw[beq_eq_false_iff_ne];omega
    obtain⟨f,r,h7⟩:∃ f r,wl=f::r:=by
     match wl,hr.out with
     | f::r,_=>exact⟨f,r,rfl⟩
     | [],h=>exact absurd h.symm h0
    subst h7;have hD:StrsIn w3 (.slice (some ⟨wb,0,none⟩) wn wn) (f::r):=by
     have h9:OwnRow stc 1 9 w2.heap.size w3 (.slice (some ⟨wb,0,none⟩) wn wn) (f::r):=by
      unfold OwnRow;rw[hr.out];have e9:(f::r).flatMap stc=(f::r).map Value.string:=by
       have:∀ l:List ByteArray,l.flatMap stc=l.map Value.string:=fun l=>by induction l with | nil=>rfl | cons a l ih=>rw[List.flatMap_cons,ih];rfl
       exact this _
      rw[e9];exact hU.out
     exact Yf X1 h9 fun z hz=>by
      have:=Zcc x.data.toList z (by rw[ht.out];exact hz);rw[Zq]at this;have:=Hb.out;omega
    have hF:∀ q,(Value.slice (some ⟨wb,0,none⟩) wn wn).ownBlock=some q→∃ cs,HeapIs w3 q cs 9:=fun q hq=>Xz hU.out hq
    have hL:=hid (HE.out.call k t w3 _ f r hu.out (by omega) hD hF (by have:=hr.out;rw[List.length_cons]at this;omega));have hh:=hX.out;clear h0 hD hF;go_wp2_with fail
    refine hL.out.mono ?_;rintro e4 w4 ⟨rfl,hB,ha⟩;have hg:=hi.out.turn hB (fun h=>h _ hi.out);have hW:=hid hg;clear hh
    cases hb:step t (f::r) with
    | error n =>
     rw[hb]at ha;obtain⟨c3,h4,h3⟩:=HE.out.bad _ _ ha;have Hl:(n==0)=false:=by rw[beq_eq_false_iff_ne];exact h4
     have hV:=hid (show YO step 0 s0 (linesOf s.data.toList)=.error ((k:Int)+1,n) from by
      rw[hv.out,hc.out,ht.out,Zfq (by simp) hb])
     have HB:=hid ha;clear hb ha hB hg;go_wp2
     go_ret2
     refine⟨(k:Int)+1,by rw[hJ.out];rfl,?_⟩;rw[hV.out];exact⟨rfl,HB.out⟩
    | ok u =>
     rw[hb]at ha;obtain⟨c3,h3⟩:=HE.out.e0 _ _ _ ha;have hf:=hid (show YO step 0 s0 (linesOf s.data.toList)=YO step (k+1) u ((linesOf s.data.toList).drop (k+1)) from by
      rw[hv.out,hc.out,ht.out,Zes (by simp) hb])
     have HI:=hid ha;clear hb ha hB hg;go_wp2
     go_roundw
     case rel=>exact⟨k+1,u,by go_num,by omega,HI.out,hW.out,hf.out⟩
     case measure=>simp[intOf];omega
  ·obtain rfl:N=k:=by omega
   have hf:=hid (show YO step 0 s0 (linesOf s.data.toList)=.ok t from by
    rw[hv.out,List.drop_eq_nil_of_le (by rw[hJ.out];exact Nat.le_refl _)];rfl)
   go_wp2
   go_ret2
   refine⟨0,by rw[hJ.out];rfl,?_⟩;rw[hf.out];exact⟨rfl,N,h8,hj.out⟩
end
theorem PaM.noText {T : TypeId} {w0 w:World} {pb:Nat} {tl:List Value} {params pl e:Int} {bv:Value} {bl:List FBlk} (h:PaM T w0 pb tl params pl e bv bl w) (hT:T≠9) {q : Nat} (hq:PaOwn pb bv bl q):ZeC w q:=fun cs hb=>by
 rcases hq with rfl|hq|⟨b,ha,hq|hq⟩
 ·exact Y4 h.box hb hT rfl
 ·exact Zk h.row hb (by decide) hq
 ·exact Zk (h.last b ha).phis hb (by decide) hq
 ·exact Zk (h.last b ha).ins hb (by decide) hq
def ZhC (w0:World) (pb:Nat) (i:Nat) (t:PSt) (w:World):Prop:=∃ bv bl,TPa w0 pb (.slice none 0 0) t.params t.pl 0 bv bl w∧t.blocks=bl.map FBlk.d∧FewSt i t
def ZhD (w0:World) (pb:Nat) (n:Int) (w:World):Prop:=∃ params pl bv bl,TPa w0 pb (.slice none 0 0) params pl n bv bl w∧n≠0
theorem Zcs (args:Array Value) (w:World):(callFunc 39 args).run Tryz.prog w=.ok (.enter 39 args) w:=by
 simp[callFunc,Tryz.func39];first | rfl | skip
theorem Zfc (w0:World) (pb:Nat) (hL:Ys w0):Zb9 39 pb ZD (ZhC w0 pb) (ZhD w0 pb) where
 e0:=fun i t w ⟨bv,bl,h,_,_⟩=>⟨h.cell 3,h.box.lt⟩
 keep:=fun i t w w' ⟨bv,bl,h,h1,h2⟩ s=>⟨bv,bl,h.keep s,h1,h2⟩
 laid:=fun i t w ⟨bv,bl,h,_,_⟩=>hL.keep h.old
 more:=fun i t w ⟨bv,bl,h,h1,h2⟩=>⟨bv,bl,h,h1,h2.more⟩
 enters:=Zcs
 bad:=fun n w ⟨params,pl,bv,bl,h,hn⟩=>⟨h.cell 3,hn,h.box.lt⟩
 call:=fun i t w v f r ⟨bv,bl,h,hb,hf⟩ hi hv hq hn=>by
  obtain⟨params,blocks,pl⟩:=t
  simp only at hb h
  subst hb
  have hd:Stays (PaOwn pb bv bl) w v:=fun q he=>by
   obtain⟨cs,hc⟩:=hq q he
   exact⟨fun hp=>h.noText (by decide) hp cs hc,hc.lt⟩
  refine (Zd6 w h hL ⟨hf.pl.1,hf.pl.2.1,fun h2 e=>hf.pl.2.2 h2 (by rw[e];rfl)⟩ v f r hv hd hn (by have:=hf.bl;simp only[List.length_map]at this;omega) (fun b hb=>by
   have:=hf.each b.d (List.mem_map_of_mem (List.mem_of_getElem? hb))
   have e1:b.d.phis.length=b.phis.length:=by simp[FBlk.d]
   have e2:b.d.ins.length=b.ins.length:=by simp[FBlk.d]
   omega)).mono ?_
  rintro x w' ⟨rfl,params',pl',e',bv',bl',hp,ht,ha⟩
  refine⟨rfl,ht.mono fun q _ hg=>h.noText (by decide) hg,?_⟩
  cases hs:ZD ⟨params,bl.map FBlk.d,pl⟩ (f::r) with
  | error n =>
   rw[hs]at ha
   obtain⟨h1,h2⟩:=ha
   subst h1
   exact⟨params',pl',bv',bl',hp,h2⟩
  | ok u =>
   rw[hs]at ha
   obtain⟨h1,h2⟩:=ha
   subst h1 h2
   exact⟨bv',bl',hp,rfl,hf.step hs⟩
def Zg2 (s:ByteArray) (w:World) (e:Ending) (w':World):Prop:=∃ f line er,e=.returned (.tuple #[fv f,.int .i64 line,.int .i64 er])∧FnIn w' f∧(⟨f.d,line,er⟩:Xm)=Yu s.data.toList∧Since w w'
structure Zhp (rb:Nat) (w6:World) (cs:Array Value) (w8:World):Prop where
 t:Turn (fun q=>q=rb) w6 w8
 b:HeapIs w8 rb cs 24
theorem ZaN (s:ByteArray) (w:World) (hs:s.size≤300000) (hL:Ys w):Calls Tryz.prog 18 #[.string s] w (Zg2 s w):=by
 have hz:Since w (w.alloc (.cells #[.int .i64 0,.slice none 0 0] 24)):=(Since.refl w).alloc _;have hQ:=hid (hL.keep hz);have hJ:=hid hz;have hr:=hid (HeapIs.new w #[.int .i64 0,.slice none 0 0] 24);clear hz hL;go_enter Tryz.func18,Tryz.ntmps18
 go_wp2_with fail
 obtain⟨rb,hl⟩:∃ q,w.heap.size=q:=⟨_,rfl⟩
 rw[hl]at hr;obtain⟨w1,ht⟩:∃ w1,w.alloc (.cells #[.int .i64 0,.slice none 0 0] 24)=w1:=⟨_,rfl⟩
 rw[ht]at hQ hJ hr;obtain⟨pb,hC⟩:∃ q,w1.heap.size=q:=⟨_,rfl⟩
 have hD:=PaM.start w1 93 [.slice none 0 0] (by decide);rw[hC]at hD;have hV:=hid hD;have hx:=hid hl;have hB:w.heap.size+1=pb:=by rw[←hC,←ht];simp
 rw[hl]at hB;rw[ht];try rw[hl]
 try rw[hB]
 clear hD ht hl hC;clear hB;refine (ZbT (Zfc w1 pb hQ.out) ⟨0,[],0⟩ s _ ⟨_,[],hV.out,rfl,FewSt.start⟩ hs).mono ?_;rintro e2 w2 ⟨wrong,rfl,hj⟩;obtain⟨N,hN⟩:∃ N,(linesOf s.data.toList).length=N:=⟨_,rfl⟩
 rw[hN];have HN:=hid hN;have hy:=hid (show Yu s.data.toList=match YO ZD 0 ⟨0,[],0⟩ (linesOf s.data.toList) with
  | .error x=>⟨⟨0,[]⟩,x.1,x.2⟩
  | .ok t=>if t.pl=1∧t.blocks≠[] then ⟨⟨t.params,t.blocks⟩,0,0⟩ else ⟨⟨0,[]⟩,((linesOf s.data.toList).length:Int),70⟩ from rfl)
 clear hN
 cases hg:YO ZD 0 ⟨0,[],0⟩ (linesOf s.data.toList) with
 | error x =>
  rw[hg]at hj;obtain⟨ln,E⟩:=x;obtain⟨h1,params,pl,bv,bl,hp,hF⟩:=hj;simp only at h1 hp hF;subst h1;have hf:=zH ((⟨(⟨0,[],.slice none 0 0⟩:FnV).d,wrong,E⟩:Xm)=Yu s.data.toList) (by rw[hy.out,hg];rfl);have hE:(E==0)=false:=by rw[beq_eq_false_iff_ne];exact hF
  have c3:w2.cell? ⟨pb,3,none⟩=some (.int .i64 E):=hp.cell 3;have hA:=hp.box.lt;have hc:=hid (hr.out.keep hp.old);have hn:=hid (hJ.out.trans hp.old);have hR:pb≠rb:=Y4 hp.box hc.out (by decide);clear hg hp hF;go_wp2_with fail
  refine Yx [6] [0,0,0,0,0,0,0,1,1] [0,1,1,1,1,1,0,1,1] [0,0,0,0,0,0,1,0,0] (fun p w8=>Zhp rb w2 #[.int .i64 0,.slice none 0 0] w8) rfl (by decide +kernel) (by decide +kernel) (by decide +kernel)
   [Is (.agg #[.int .i64 0,.slice none 0 0]),Is (.int .i64 wrong),Is (.pointer (some ⟨pb,0,none⟩)),Is (.pointer (some ⟨pb,0,none⟩)),Is (.pointer (some ⟨pb,3,none⟩)),Is (.int .i64 E),Any,Is (.int .i64 wrong),Is (.int .i64 E)]
   (by repeat (first | exact trivial | refine⟨Is.fixed _,?_⟩ | refine⟨Any.fixed,?_⟩)) ⟨Turn.since ((Since.refl w2).drew),hc.out.keep ((Since.refl w2).drew)⟩ ⟨?_,?_,?_,?_,?_,?_,?_,?_,?_,trivial⟩ ?_
  rotate_right
  ·intro vs w8 _ hb hk;simp only[putAll,Act.put,Zc,Zd,Is,Any,List.setIfInBounds_toArray,List.set_cons_zero,List.set_cons_succ,Nat.reduceAdd,List.length_cons,List.length_nil]at hk ⊢;try simp only[hk]
   have hh:=zH (HeapIs w8 rb #[.int .i64 0,.slice none 0 0] 24) hb.b;have d0:=hh.out.cell 0;have d1:=hh.out.cell 1;have dl:=hh.out.lt;have hU:=hid (hb.t.toSince hn.out fun q hq e=>by have:=hx.out;omega);clear hb hk;go_wp2
   exact bodyPost_ret (v:=.tuple #[.agg #[.int .i64 0,.slice none 0 0],.int .i64 wrong,.int .i64 E]) (by simp[results,Tryz.results18,go_sem,d0,d1]) rfl ⟨⟨0,[],.slice none 0 0⟩,wrong,E,rfl,Jc _,hf.out,hU.out⟩
  all_goals
   intro p vs w8 hZ h0 _ hb hk;simp only[putAll,Act.put,Zh,Zd,Is,Any,List.setIfInBounds_toArray,List.set_cons_zero,List.set_cons_succ,Nat.reduceAdd]at hk ⊢;try simp only[hk]
  iterate 5
   ·go_wp2
    exact⟨_,rfl,rfl,trivial,hb⟩
  ·have z1:w8.cell? ⟨pb,3,none⟩=some (.int .i64 E):=(hb.t.cell (p:=⟨pb,3,none⟩) hA hR).trans c3;have z2:pb<w8.heap.size:=Nat.lt_of_lt_of_le hA hb.t.size;go_wp2
   exact⟨_,rfl,rfl,trivial,hb⟩
  ·have hh:=zH (HeapIs w8 rb #[.int .i64 0,.slice none 0 0] 24) hb.b;have hT:=hid hb.t;clear hb;refine wpList_store_row rfl 24 _ _ rfl rb #[.int .i64 0,.slice none 0 0] rfl rfl 24 _ hh.out (by kernel_rfl) rfl (by rw[←Array.all_toList];rfl) ?_;go_wp2
   exact⟨undef,rfl,trivial,trivial,⟨hT.out.trans (VG (S:=fun q=>q=rb) rfl _),Ye hh.out _⟩⟩
  iterate 2
   ·go_wp2
    exact⟨_,rfl,rfl,trivial,hb⟩
 | ok t =>
  rw[hg]at hj;obtain⟨h1,i,hi,bv,bl,hp,hP,hG⟩:=hj;obtain⟨params,blocks,pl⟩:=t;simp only at hp hP;subst h1 hP;have c0:w2.cell? ⟨pb,0,none⟩=some (.int .i64 params):=hp.cell 0;have c1:w2.cell? ⟨pb,1,none⟩=some bv:=hp.cell 1;have c2:w2.cell? ⟨pb,2,none⟩=some (.int .i64 pl):=hp.cell 2;have c3:w2.cell? ⟨pb,3,none⟩=some (.int .i64 0):=hp.cell 3;have hA:=hp.box.lt;obtain⟨va,vc,hv⟩:=Ze hp.row;obtain⟨bn,hH⟩:∃ n,bl.length=n:=⟨_,rfl⟩
  rw[hH]at hv;subst hv;have hM:=hid hH;have h2:bn≤300001:=by have:=hG.bl;simp only[List.length_map]at this;omega
  have HP:=hid hp;have hc:=hid (hr.out.keep hp.old);have hn:=hid (hJ.out.trans hp.old);have hK:=hid hg;clear hH hp hG hg;by_cases hu:pl=1
  ·subst hu;by_cases hI:bn=0
   ·subst hI;have hW:=hid (List.length_eq_zero_iff.1 hM.out);have hf:=zH ((⟨(⟨0,[],.slice none 0 0⟩:FnV).d,N,70⟩:Xm)=Yu s.data.toList) (by rw[hy.out,hK.out,hW.out];simp[FnV.d,HN.out]);go_wp2_with (refine wpList_store_row rfl 24 _ _ rfl rb #[.int .i64 0,.slice none 0 0] rfl rfl 24 _ hc.out (by kernel_rfl) rfl (by rw[←Array.all_toList];rfl) ?_)
    have ha:HeapIs (w2.setRow rb #[.int .i64 0,.slice none 0 0]) rb #[.int .i64 0,.slice none 0 0] 24:=Ye hc.out _;have hd:Since w (w2.setRow rb #[.int .i64 0,.slice none 0 0]):=ZX hn.out (Nat.le_of_eq hx.out) _;have he:FnIn (w2.setRow rb #[.int .i64 0,.slice none 0 0]) ⟨0,[],.slice none 0 0⟩:=Jc _;generalize w2.setRow rb #[.int .i64 0,.slice none 0 0]=w5 at *;have d0:=ha.cell 0;have d1:=ha.cell 1;have hO:=ha.lt;have hm:=hid hd;have ho:=hid he;clear ha hd he;go_wp2
    exact bodyPost_ret (v:=.tuple #[.agg #[.int .i64 0,.slice none 0 0],.int .i64 N,.int .i64 70]) (by simp[results,Tryz.results18,go_sem,d0,d1]) rfl ⟨⟨0,[],.slice none 0 0⟩,N,70,rfl,ho.out,hf.out,hm.out⟩
   ·have hY:((bn:Int)==0)=false:=by rw[beq_eq_false_iff_ne];omega
    have hf:=hid (show (⟨(⟨params,bl,.slice va bn vc⟩:FnV).d,0,0⟩:Xm)=Yu s.data.toList from by
     have hS:bl.map FBlk.d≠[]:=fun e=>by rw[List.map_eq_nil_iff]at e;rw[e]at hM;exact hI hM.out.symm
     rw[hy.out,hK.out];show _=(if (1:Int)=1∧bl.map FBlk.d≠[] then _ else _);rw[if_pos ⟨rfl,hS⟩];rfl)
    clear hI;go_wp2_with (refine wpList_store_row rfl 24 _ _ rfl rb #[.int .i64 params,.slice va bn vc] rfl rfl 24 _ hc.out (by kernel_rfl) rfl (by rw[←Array.all_toList];rfl) ?_)
    have ha:HeapIs (w2.setRow rb #[.int .i64 params,.slice va bn vc]) rb #[.int .i64 params,.slice va bn vc] 24:=Ye hc.out _;have hd:Since w (w2.setRow rb #[.int .i64 params,.slice va bn vc]):=ZX hn.out (Nat.le_of_eq hx.out) _;have he:FnIn (w2.setRow rb #[.int .i64 params,.slice va bn vc]) ⟨params,bl,.slice va bn vc⟩:=HP.out.fnTurn (R:=fun q=>q=rb) (VG (S:=fun q=>q=rb) rfl _) (fun q hq=>by rw[hq];exact hr.out.lt);generalize w2.setRow rb #[.int .i64 params,.slice va bn vc]=w5 at *;have d0:=ha.cell 0;have d1:=ha.cell 1;have hO:=ha.lt;have hm:=hid hd;have ho:=hid he;clear ha hd he;go_wp2
    exact bodyPost_ret (v:=.tuple #[.agg #[.int .i64 params,.slice va bn vc],.int .i64 0,.int .i64 0]) (by simp[results,Tryz.results18,go_sem,d0,d1]) rfl ⟨⟨params,bl,.slice va bn vc⟩,0,0,rfl,ho.out,hf.out,hm.out⟩
  ·have hX:(pl==1)=false:=by rw[beq_eq_false_iff_ne];exact hu
   have hf:=zH ((⟨(⟨0,[],.slice none 0 0⟩:FnV).d,N,70⟩:Xm)=Yu s.data.toList) (by rw[hy.out,hK.out];simp only[];rw[if_neg (fun h=>hu h.1)];simp[FnV.d,HN.out]);clear hu;go_wp2_with (refine wpList_store_row rfl 24 _ _ rfl rb #[.int .i64 0,.slice none 0 0] rfl rfl 24 _ hc.out (by kernel_rfl) rfl (by rw[←Array.all_toList];rfl) ?_)
   have ha:HeapIs (w2.setRow rb #[.int .i64 0,.slice none 0 0]) rb #[.int .i64 0,.slice none 0 0] 24:=Ye hc.out _;have hd:Since w (w2.setRow rb #[.int .i64 0,.slice none 0 0]):=ZX hn.out (Nat.le_of_eq hx.out) _;have he:FnIn (w2.setRow rb #[.int .i64 0,.slice none 0 0]) ⟨0,[],.slice none 0 0⟩:=Jc _;generalize w2.setRow rb #[.int .i64 0,.slice none 0 0]=w5 at *;have d0:=ha.cell 0;have d1:=ha.cell 1;have hO:=ha.lt;have hm:=hid hd;have ho:=hid he;clear ha hd he;go_wp2
   exact bodyPost_ret (v:=.tuple #[.agg #[.int .i64 0,.slice none 0 0],.int .i64 N,.int .i64 70]) (by simp[results,Tryz.results18,go_sem,d0,d1]) rfl ⟨⟨0,[],.slice none 0 0⟩,N,70,rfl,ho.out,hf.out,hm.out⟩
end Go.Proofs.YtmhojfpidedjeaaGreatDoor
