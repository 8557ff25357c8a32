/- Plain: comments, lines without words, blanks and tabs change nothing but the number of a line. jacquardlaw25.TextLines tells of any numbers that it is true. jacquardlaw25.TextLines, of all values that may come in. -/
import Derived.Test.YtmhojfpidedjeaaGreatDoorTb08
import Derived.Test.YtmhojfpidedjeaaGreatDoorTb35
import Derived.Test.YtmhojfpidedjeaaGreatDoorTb36
import Derived.Test.YtmhojfpidedjeaaGreatDoorTb37
namespace Go.Proofs.YtmhojfpidedjeaaGreatDoor
set_option linter.unusedVariables false
def ext1 (x:UInt8):Bs:=if x=32 then [9,32,32] else [x]
def ext (l:Bs):Bs:=l.flatMap ext1
def trail (c:Bool):Bs:=if c then [32,35,32,120] else [32,9]
def moreGo (c:Nat→Bool):Nat→Bs→Bs
 | _,[]=>[]
 | k,x::r=>if x=10 then trail (c k)++10::moreGo c (k+1) r else ext1 x++moreGo c k r
def mheadS:Bs:=[9,32,35,32,102,117,110,99,32,57,10]
def moreS (n:Nat) (c:Nat→Bool) (s:Bs):Bs:=(List.replicate n mheadS).flatten++moreGo c 0 s
theorem fldGo_seps:∀ (z cur:Bs),(∀ x∈z,isSep x=true)→fldGo cur z=fldGo cur []
 | [],cur,_=>rfl
 | x::r,cur,h=>by
  have ih:=fldGo_seps r [] fun y hy=>h y (List.mem_cons_of_mem _ hy)
  have hx:=h x (List.mem_cons_self ..)
  show fldGo cur (x::r)=if cur=[] then [] else [cur]
  rw[fldGo.eq_def]
  dsimp only
  rw[if_pos hx,ih];rfl
theorem fldGo_ext:∀ (l cur z:Bs),(∀ x∈z,isSep x=true)→fldGo cur (ext l++z)=fldGo cur l
 | [],cur,z,h=>fldGo_seps z cur h
 | y::r,cur,z,h=>by
  have e:ext (y::r)++z=ext1 y++(ext r++z):=by show ext1 y++ext r++z=_;rw[List.append_assoc]
  rw[e]
  by_cases hy:y=32
  ·subst hy
   have ih:=fldGo_ext r [] z h
   show fldGo cur (9::32::32::(ext r++z))=fldGo cur (32::r)
   have s9:isSep 9=true:=by decide
   have s32:isSep 32=true:=by decide
   simp only[fldGo,s9,s32,if_true,ih]
  ·have e1:ext1 y=[y]:=by unfold ext1;rw[if_neg hy]
   rw[e1,List.singleton_append,fldGo,fldGo]
   by_cases hs:isSep y=true
   ·rw[if_pos hs,if_pos hs,fldGo_ext r [] z h]
   ·rw[if_neg hs,if_neg hs,fldGo_ext r _ z h]
theorem ahead_ext:∀ (l z:Bs),ahead 35 (ext l++z)=if (35:UInt8)∈l then ext (ahead 35 l) else ext l++ahead 35 z
 | [],z=>by simp[ext]
 | y::r,z=>by
  have ih:=ahead_ext r z
  have e:ext (y::r)++z=ext1 y++(ext r++z):=by show ext1 y++ext r++z=_;rw[List.append_assoc]
  rw[e]
  by_cases hy:y=35
  ·subst hy
   rw[if_pos (List.mem_cons_self ..)]
   have e1:ext1 35=[35]:=by decide
   rw[e1]
   unfold ahead
   rw[List.singleton_append,List.takeWhile_cons_of_neg (by decide),List.takeWhile_cons_of_neg (by decide)];rfl
  ·have hm:((35:UInt8)∈y::r)↔((35:UInt8)∈r):=by
    rw[List.mem_cons]
    exact⟨fun h=>h.resolve_left fun e=>hy e.symm,.inr⟩
   have ea:ahead 35 (y::r)=y::ahead 35 r:=by unfold ahead;rw[List.takeWhile_cons_of_pos (by simpa using hy)]
   have ee:ahead 35 (ext1 y++(ext r++z))=ext1 y++ahead 35 (ext r++z):=by
    unfold ext1
    by_cases h32:y=32
    ·rw[if_pos h32]
     unfold ahead
     show List.takeWhile _ (9::32::32::_)=_
     rw[List.takeWhile_cons_of_pos (by decide),List.takeWhile_cons_of_pos (by decide),List.takeWhile_cons_of_pos (by decide)];rfl
    ·rw[if_neg h32]
     unfold ahead
     rw[List.singleton_append,List.takeWhile_cons_of_pos (by simpa using hy)];rfl
   rw[ee,ih]
   by_cases h:(35:UInt8)∈r
   ·rw[if_pos h,if_pos (hm.2 h),ea];rfl
   ·rw[if_neg h,if_neg fun h2=>h (hm.1 h2),←List.append_assoc];rfl
theorem words_ext (l z:Bs) (hz:∀ x∈ahead 35 z,isSep x=true):wordsOf (ext l++z)=wordsOf l:=by
 unfold wordsOf
 congr 1
 rw[ahead_ext]
 by_cases h:(35:UInt8)∈l
 ·rw[if_pos h]
  have:=fldGo_ext (ahead 35 l) [] [] fun x hx=>by cases hx
  rwa [List.append_nil]at this
 ·rw[if_neg h,fldGo_ext l [] _ hz,ahead_all l fun x hx e=>h (e ▸ hx)]
theorem ext_no (l:Bs) (h:∀ x∈l,x≠10):∀ x∈ext l,x≠10:=fun x hx=>by
 obtain⟨y,hy,hx⟩:=List.mem_flatMap.1 hx
 unfold ext1 at hx
 by_cases h32:y=32
 ·rw[if_pos h32]at hx
  simp at hx
  rcases hx with rfl|rfl<;>decide
 ·rw[if_neg h32]at hx
  rw[List.mem_singleton.1 hx];exact h y hy
theorem trail_no (c:Bool):(∀ x∈trail c,x≠10)∧∀ x∈ahead 35 (trail c),isSep x=true:=by cases c<;>decide
theorem lines_one (x:Bs) (h:∀ y∈x,y≠10):linesOf x=[wordsOf x]:=by unfold linesOf;rw[spl_one 10 x h];rfl
theorem lines_moreGo (c:Nat→Bool):∀ (s x:Bs) (k:Nat),(∀ y∈x,y≠10)→linesOf (ext x++moreGo c k s)=linesOf (x++s)
 | [],x,k,h=>by
  show linesOf (ext x++[])=linesOf (x++[])
  rw[List.append_nil,List.append_nil,lines_one x h,lines_one _ (ext_no x h)]
  have:=words_ext x [] fun x hx=>by cases hx
  rw[List.append_nil]at this
  rw[this]
 | y::r,x,k,h=>by
  rw[moreGo]
  by_cases hy:y=10
  ·subst hy
   rw[if_pos rfl,←List.append_assoc,linesOf_at,linesOf_at,lines_one x h]
   have h2:=lines_moreGo c r [] (k+1) fun x hx=>by cases hx
   rw[List.nil_append]at h2
   have h3:ext []++moreGo c (k+1) r=moreGo c (k+1) r:=rfl
   rw[h3]at h2
   rw[h2,lines_one _ fun z hz=>?_,words_ext x _ (trail_no (c k)).2]
   rcases List.mem_append.1 hz with hz|hz
   ·exact ext_no x h z hz
   ·exact (trail_no (c k)).1 z hz
  ·rw[if_neg hy,←List.append_assoc]
   have e:ext x++ext1 y=ext (x++[y]):=by unfold ext;rw[List.flatMap_append];simp
   have e2:x++y::r=(x++[y])++r:=by simp
   rw[e,e2]
   refine lines_moreGo c r (x++[y]) k fun z hz=>?_
   rcases List.mem_append.1 hz with hz|hz
   ·exact h z hz
   ·rw[List.mem_singleton.1 hz];exact hy
theorem lines_more (c:Nat→Bool) (s:Bs):∀ n,linesOf (moreS n c s)=List.replicate n []++linesOf s
 | 0=>by
  have:=lines_moreGo c s [] 0 fun x hx=>by cases hx
  exact this
 | n+1=>by
  have e:moreS (n+1) c s=[9,32,35,32,102,117,110,99,32,57]++10::moreS n c s:=by
   unfold moreS
   rw[List.replicate_succ,List.flatten_cons,List.append_assoc];rfl
  rw[e,linesOf_at,lines_more c s n,List.replicate_succ]
  have h2:linesOf [9,32,35,32,102,117,110,99,32,57]=[[]]:=by decide +kernel
  rw[h2];rfl
theorem goSt_shift {σ:Type} (step:σ→List ByteArray→Except Int σ) (n:Nat):∀ (L:List (List ByteArray)) (i:Nat) (s:σ),goSt step (i+n) s L=match goSt step i s L with | .error x=>.error (x.1+n,x.2) | .ok t=>.ok t
 | [],i,s=>rfl
 | l::r,i,s=>by
  rw[goSt,goSt]
  by_cases h:l=[]
  ·rw[if_pos h,if_pos h,Nat.add_right_comm];exact goSt_shift step n r (i+1) s
  ·rw[if_neg h,if_neg h]
   cases step s l with
   | error e =>
    show Except.error (((i+n:Nat):Int)+1,e)=Except.error ((i:Int)+1+n,e)
    congr 2;omega
   | ok t =>
    show goSt step (i+n+1) t r=match goSt step (i+1) t r with | .error x=>.error (x.1+n,x.2) | .ok t=>.ok t
    rw[Nat.add_right_comm];exact goSt_shift step n r (i+1) t
theorem goSt_blank {σ:Type} (step:σ→List ByteArray→Except Int σ):∀ (n i:Nat) (s:σ) (L:List (List ByteArray)),goSt step i s (List.replicate n []++L)=goSt step (i+n) s L
 | 0,i,s,L=>rfl
 | n+1,i,s,L=>by
  rw[List.replicate_succ,List.cons_append,goSt,if_pos rfl,goSt_blank step n (i+1) s L]
  congr 1;omega
theorem more_law (n:Nat) (c:Nat→Bool) (s:Bs):((parseS s).e=0→(parseS s).line=0∧parseS (moreS n c s)=parseS s)∧((parseS s).e≠0→(parseS (moreS n c s)).e=(parseS s).e∧(parseS (moreS n c s)).line=(parseS s).line+n):=by
 have hp:parseS s=(match goSt stepSt 0 ⟨0,[],0⟩ (linesOf s) with
  | .error x=>(⟨⟨0,[]⟩,x.1,x.2⟩:PRes)
  | .ok t=>if t.pl=1∧t.blocks≠[] then ⟨⟨t.params,t.blocks⟩,0,0⟩ else ⟨⟨0,[]⟩,((linesOf s).length:Int),70⟩):=rfl
 have hm:parseS (moreS n c s)=(match goSt stepSt 0 ⟨0,[],0⟩ (linesOf s) with
  | .error x=>(⟨⟨0,[]⟩,x.1+n,x.2⟩:PRes)
  | .ok t=>if t.pl=1∧t.blocks≠[] then ⟨⟨t.params,t.blocks⟩,0,0⟩ else ⟨⟨0,[]⟩,((linesOf s).length:Int)+n,70⟩):=by
  unfold parseS
  rw[lines_more,goSt_blank,goSt_shift]
  cases goSt stepSt 0 ⟨0,[],0⟩ (linesOf s) with
  | error x=>rfl
  | ok t =>
   dsimp only
   have e:((List.replicate n ([]:List ByteArray)++linesOf s).length:Int)=((linesOf s).length:Int)+n:=by
    rw[List.length_append,List.length_replicate];omega
   rw[e]
 rw[hm,hp]
 cases hg:goSt stepSt 0 ⟨0,[],0⟩ (linesOf s) with
 | error x =>
  have:=goSt_err _ stepSt_err _ _ _ _ hg
  dsimp only
  exact⟨fun h=>(by omega),fun _=>⟨rfl,rfl⟩⟩
 | ok t =>
  dsimp only
  split
  ·exact⟨fun _=>⟨rfl,rfl⟩,fun h=>absurd rfl h⟩
  ·exact⟨fun h=>(by cases h),fun _=>⟨rfl,rfl⟩⟩
theorem moreGo_len (c:Nat→Bool):∀ (s:Bs) (k:Nat),(moreGo c k s).length≤5*s.length
 | [],k=>Nat.le_refl _
 | x::r,k=>by
  rw[moreGo]
  by_cases h:x=10
  ·rw[if_pos h]
   have:=moreGo_len c r (k+1)
   have h2:∀ b,(trail b).length≤4:=by decide
   have h2:=h2 (c k)
   simp only[List.length_append,List.length_cons];omega
  ·rw[if_neg h]
   have:=moreGo_len c r k
   have h2:(ext1 x).length≤3:=by unfold ext1;split<;>simp
   simp only[List.length_append,List.length_cons];omega
theorem moreGo_snoc (c:Nat→Bool) (y:UInt8):∀ (s:Bs) (k:Nat),moreGo c k (s++[y])=moreGo c k s++(if y=10 then trail (c (k+s.count 10))++[10] else ext1 y)
 | [],k=>by
  have e:moreGo c k [y]=if y=10 then trail (c k)++10::moreGo c (k+1) [] else ext1 y++moreGo c k []:=by simp only[moreGo]
  rw[List.nil_append,e]
  split
  ·rfl
  ·show ext1 y++[]=[]++ext1 y;rw[List.append_nil,List.nil_append]
 | x::r,k=>by
  rw[List.cons_append,moreGo,moreGo]
  by_cases h:x=10
  ·subst h
   rw[if_pos rfl,if_pos rfl,moreGo_snoc c y r (k+1),List.count_cons_self]
   have e:k+1+r.count 10=k+(r.count 10+1):=by omega
   rw[e];simp
  ·rw[if_neg h,if_neg h,moreGo_snoc c y r k,List.count_cons_of_ne h,List.append_assoc]
open Go.RowKit
theorem app_list (y L:ByteArray) (l:Bs) (h:L.data.toList=l):(y++L).data.toList=y.data.toList++l:=by
 rw[ByteArray.data_append,Array.toList_append,h]
theorem heads_len:∀ i,((List.replicate i mheadS).flatten).length=11*i
 | 0=>rfl
 | i+1=>by
  rw[List.replicate_succ,List.flatten_cons,List.length_append,heads_len i]
  show 11+11*i=_
  omega
theorem more_len (n:Nat) (c:Nat→Bool) (s:Bs):(moreS n c s).length≤11*n+5*s.length:=by
 unfold moreS
 rw[List.length_append,heads_len]
 have:=moreGo_len c s 0
 omega
theorem moreGo_congr (c c':Nat→Bool):∀ (s:Bs) (k:Nat),(∀ j,j<k+s.count 10→c j=c' j)→moreGo c k s=moreGo c' k s
 | [],k,_=>rfl
 | x::r,k,h=>by
  rw[moreGo,moreGo]
  by_cases hx:x=10
  ·subst hx
   rw[List.count_cons_self]at h
   rw[if_pos rfl,if_pos rfl,h k (by omega),moreGo_congr c c' r (k+1) fun j hj=>h j (by omega)]
  ·rw[List.count_cons_of_ne hx]at h
   rw[if_neg hx,if_neg hx,moreGo_congr c c' r k h]
theorem more_nl (n:Nat) (c:Nat→Bool) (b:Bool) (t:ByteArray) {j : Nat} (hj:j<t.size) (h10:t[j]=10):∃ c',moreS n c' (t.data.toList.take (j+1))=moreS n c (t.data.toList.take j)++(trail b++[10]):=by
 refine⟨fun i=>if i=(t.data.toList.take j).count 10 then b else c i,?_⟩
 unfold moreS
 rw[cnt_at t hj,moreGo_snoc,if_pos h10,Nat.zero_add,if_pos rfl,List.append_assoc]
 congr 2
 refine moreGo_congr _ _ _ _ fun i hi=>?_
 rw[if_neg (by omega)]
theorem ext_one (t:ByteArray) {j : Nat} (h:j<t.size):(t.extract j (j+1)).data.toList=[t[j]]:=by
 have hl:j<t.data.toList.length:=by rw[bytes_len];exact h
 rw[ByteArray.data_extract,Array.toList_extract,List.extract_eq_take_drop,show j+1-j=1 from by omega,List.take_one,List.head?_drop,List.getElem?_eq_getElem hl];rfl
theorem parse_line (s:Bs):0≤(parseS s).line∧(parseS s).line≤s.length+1:=by
 have hp:parseS s=(match goSt stepSt 0 ⟨0,[],0⟩ (linesOf s) with
  | .error x=>(⟨⟨0,[]⟩,x.1,x.2⟩:PRes)
  | .ok t=>if t.pl=1∧t.blocks≠[] then ⟨⟨t.params,t.blocks⟩,0,0⟩ else ⟨⟨0,[]⟩,((linesOf s).length:Int),70⟩):=rfl
 have hl:=linesOf_len s
 rw[hp]
 cases hg:goSt stepSt 0 ⟨0,[],0⟩ (linesOf s) with
 | error x =>
  have:=goSt_line _ _ _ _ _ hg
  dsimp only;omega
 | ok t =>
  dsimp only
  split
  ·dsimp only;omega
  ·dsimp only;omega
theorem more_sp (n:Nat) (c:Nat→Bool) (t:ByteArray) {j : Nat} (hj:j<t.size) (h10:t[j]≠10):moreS n c (t.data.toList.take (j+1))=moreS n c (t.data.toList.take j)++ext1 t[j]:=by
 unfold moreS
 rw[cnt_at t hj,moreGo_snoc,if_neg h10,List.append_assoc]
set_option maxHeartbeats 8000000 in
set_option maxRecDepth 100000 in
theorem walk_lines (lv:Value) (l:List Int) (q0 q1 n0 n1:Int) (w:World) (hl:Ints w lv l) (hlq:∀ q,lv.ownBlock=some q→q<w.heap.size) (h0:In64 q0) (h1:In64 q1) (hn0:0≤n0∧n0<256) (hn1:0≤n1∧n1<256) (hL:LaidT w):Calls Tryz.prog 4 #[lv,.agg #[.int .i64 q0,.int .i64 q1],.agg #[.int .u8 n0,.int .u8 n1]] w fun e w'=>e=.returned (.bool true)∧Since w w':=by
 obtain⟨m,hm,hm16⟩:∃ m:Nat,n0.tmod 16=m∧m<16:=⟨(n0.tmod 16).toNat,by have:=Int.tmod_nonneg 16 hn0.1;omega,by have:=Int.tmod_lt_of_pos n0 (show (0:Int)<16 by decide);omega⟩
 have HLV0:=Lib.hid hl
 have HLQ:=Lib.hid hlq
 have HL0:=Lib.hid hL
 have HQ0:=Lib.hid h0
 have HQ1:=Lib.hid h1
 clear hl hlq hL h0 h1
 go_enter Tryz.func4,Tryz.ntmps4
 go_upto_region 1 with fail
 obtain⟨qb,hqb⟩:∃ q,w.heap.size=q:=⟨_,rfl⟩
 obtain⟨w1,hw1⟩:∃ w1,(w.alloc (.cells #[.int .i64 q0,.int .i64 q1] 33)).alloc (.cells #[.int .u8 n0,.int .u8 n1] 34)=w1:=⟨_,rfl⟩
 have HS1:=Lib.hid (show Since w w1 from by rw[←hw1];exact ((Since.refl w).alloc _).alloc _)
 have HB1:=Lib.hid (show HeapIs w1 qb #[.int .i64 q0,.int .i64 q1] 33 from by rw[←hw1,←hqb];exact (HeapIs.new w _ _).keep ((Since.refl _).alloc _))
 have HBN1:=Lib.hid (show HeapIs w1 (qb+1) #[.int .u8 n0,.int .u8 n1] 34 from by rw[←hw1,←hqb];exact heap_two w _ _ _)
 rw[hw1]
 try rw[hqb]
 clear hw1 hqb
 go_wp2_with fail
 refine (shown25_any w1 (HL0.out.keep HS1.out)).mono ?_
 rintro e w2 ⟨rfl,hs2⟩
 have HS2:=Lib.hid (HS1.out.trans hs2)
 have HB:=Lib.hid (HB1.out.keep hs2)
 have HBN:=Lib.hid (HBN1.out.keep hs2)
 have HLV:=Lib.hid (HLV0.out.keep HS2.out)
 have HL:=Lib.hid (HL0.out.keep HS2.out)
 clear hs2
 go_upto_region 2 with fail
 refine wp_region_list_facts rfl (by decide +kernel) (by decide +kernel)
  [Is lv,MadeIs,TxtIs 0,Is (.pointer (some ⟨qb,0,none⟩)),Is (.int .i64 q0),Is (.pointer (some ⟨qb,1,none⟩)),Is (.int .i64 q1),TxtIs 1,TxtIs 1]
  (by repeat (first | exact trivial | refine⟨Is.stable _,?_⟩ | refine⟨IsNums.stable _ _,?_⟩ | refine⟨IsRows.stable _ _,?_⟩ | refine⟨MadeIs.stable,?_⟩ | refine⟨TxtIs.stable _,?_⟩)) ⟨?_,?_,?_,?_,?_,?_,?_,?_,?_,trivial⟩ ?_
 all_goals
  intro vs w7 hs hk
  simp only[putAll,Act.put,Knows,KnowsAll,nthF,Is,List.setIfInBounds_toArray,List.set_cons_zero,List.set_cons_succ,Nat.reduceAdd,List.length_cons,List.length_nil]at hk ⊢
  try simp only[hk]
 ·go_wp2
  exact⟨_,rfl,rfl,Since.refl _⟩
 ·go_wp2_with fail
  refine (made25_any lv l w7 (HLV.out.keep hs) (fun q hq=>Nat.lt_of_lt_of_le (HLQ.out q hq) (HS2.out.trans hs).size)).mono ?_
  rintro e wN ⟨f,rfl,hf,hm,hsN⟩
  obtain⟨fp,fb,fa,fn,fc,rfl⟩:=fv_shape f wN hf
  go_wp2
  exact⟨_,rfl,⟨_,rfl,hf,hm⟩,hsN⟩
 ·obtain⟨f,hv,hf,hm⟩:=hk.1
  obtain⟨fp,fb,fa,fn,fc,rfl⟩:=fv_shape f w7 hf
  simp only[hv]
  unfold fv
  dsimp only
  have HF:=Lib.hid hf
  have HM:=Lib.hid hm
  clear hk hv hf hm
  go_wp2_with fail
  refine (rfunc25_any ⟨fp,fb,.slice fa fn fc⟩ w7 HF.out (made_r HM.out) (Nat.le_trans (made_len HM.out) (by decide))).mono ?_
  rintro e wN ⟨rfl,hsN⟩
  go_wp2
  exact⟨_,rfl,⟨_,rfl,Txt.of HM.out⟩,hsN⟩
 ·go_wp2
  exact⟨_,rfl,rfl,Since.refl _⟩
 ·have hb:=HB.out.keep hs
  have z9:=hb.cell 0
  have z7:=hb.lt
  clear hb
  go_wp2
  exact⟨_,rfl,rfl,Since.refl _⟩
 ·go_wp2
  exact⟨_,rfl,rfl,Since.refl _⟩
 ·have hb:=HB.out.keep hs
  have z9:=hb.cell 1
  have z7:=hb.lt
  clear hb
  go_wp2
  exact⟨_,rfl,rfl,Since.refl _⟩
 ·obtain⟨t,hv,ht⟩:=hk.1
  simp only[hv]
  have HT:=Lib.hid ht
  clear hk hv ht
  go_wp2_with fail
  refine (turned_any t q0 q1 w7 (by have:=HT.out.1;omega) HQ0.out HQ1.out).mono ?_
  rintro e wN ⟨t2,rfl,ht2,hsN⟩
  have HT2:=Lib.hid (HT.out.turn ht2)
  clear ht2
  go_wp2
  exact⟨_,rfl,⟨_,rfl,HT2.out⟩,hsN⟩
 ·obtain⟨t,hv,ht⟩:=hk.1
  simp only[hv]
  have HT:=Lib.hid ht
  clear hk hv ht
  go_wp2
  exact⟨_,rfl,⟨_,rfl,HT.out⟩,Since.refl _⟩
 ·obtain⟨t,hv,ht⟩:=(show TxtIs 1 (vs 8) w7 from hk.2.2.2.2.2.2.2.2.1)
  simp only[hv]
  have HT:=Lib.hid ht
  have HS7:=Lib.hid (HS2.out.trans hs)
  have hsz:t.size≤36411:=ht.1
  have HBN7:=Lib.hid (HBN.out.keep hs)
  clear hk hv ht hs
  have y0:=HBN7.out.cell 0
  have yl:=HBN7.out.lt
  go_wp2_with fail
  go_loopw [9,10] (fun so io wr=>∃ (i:Nat) (y:ByteArray),so=.string y∧io=.int .i64 i∧i≤m∧y.data.toList=(List.replicate i mheadS).flatten∧w7=wr) (fun _ io _=>m-(intOf io).toNat)
  case atStart=>exact⟨0,_,rfl,rfl,Nat.zero_le _,rfl,rfl⟩
  case round =>
   obtain⟨i,y,rfl,rfl,hi,hy,rfl⟩:=hrel
   have hys:y.size=11*i:=by rw[←bytes_len,hy,heads_len]
   have HY:=Lib.hid hy
   clear hy
   by_cases hlt:i<m
   ·have hyb:y.size≤1000:=by omega
    clear hys
    go_wp2
    go_roundw
    case rel=>exact⟨i+1,_,rfl,by go_num,by omega,(app_list _ _ mheadS (by kernel_rfl)).trans (by rw[HY.out,List.replicate_succ',List.flatten_append];simp),trivial⟩
    case measure=>simp[intOf];omega
   ·obtain rfl:i=m:=by omega
    clear hlt hi
    go_wp2_with fail
    go_loopw [9,11,12] (fun so ko io wr=>∃ (j k:Nat) (y:ByteArray) (c:Nat→Bool),so=.string y∧ko=.int .i64 k∧io=.int .i64 j∧k=(t.data.toList.take j).count 10∧j≤t.size∧y.data.toList=moreS i c (t.data.toList.take j)∧w7=wr) (fun _ _ io _=>t.size-(intOf io).toNat)
    case atStart=>exact⟨0,0,y,fun _=>true,rfl,rfl,rfl,rfl,Nat.zero_le _,by rw[HY.out];unfold moreS;simp[moreGo],rfl⟩
    case round =>
     clear hys HY
     obtain⟨j,k,z,c,rfl,rfl,rfl,hk,hj,hy,rfl⟩:=hrel
     have hyb:z.size≤200000:=by
      rw[←bytes_len,hy]
      have h1:=more_len i c (t.data.toList.take j)
      rw[List.length_take]at h1
      omega
     have hkb:k≤40000:=by have:=cnt_le t.data.toList j;omega
     have HY:=Lib.hid hy
     have HK:=Lib.hid hk
     clear hy hk
     by_cases hlt:j<t.size
     ·by_cases h10:t[j]=10
      ·have q10:((t[j].toNat:Int)==10)=true:=by rw[h10];rfl
       have HK2:=Lib.hid (show k+1=(t.data.toList.take (j+1)).count 10 from by rw[cnt_yes t hlt h10,HK.out])
       have HY2:=Lib.hid (fun (b:Bool)=>more_nl i c b t hlt h10)
       have y1:=HBN7.out.cell 1
       have hk8:(k:Int).tmod 8=((k % 8:Nat):Int):=by rw[Int.tmod_eq_emod_of_nonneg (by omega)];omega
       have hk9:k % 8≤7:=by omega
       clear h10
       go_upto_region 16 with fail
       all_goals go_wp2
       all_goals go_roundw
       any_goals (first | (case measure=>simp[intOf];omega) | skip)
       all_goals first
        | (obtain⟨c',hc'⟩:=HY2.out true;exact⟨j+1,k+1,_,c',rfl,by go_num,by go_num,HK2.out,by omega,(app_list _ _ (trail true++[10]) (by decide)).trans (by rw[HY.out,hc']),trivial⟩)
        | (obtain⟨c',hc'⟩:=HY2.out false;exact⟨j+1,k+1,_,c',rfl,by go_num,by go_num,HK2.out,by omega,(app_list _ _ (trail false++[10]) (by decide)).trans (by rw[HY.out,hc']),trivial⟩)
        | (simp[intOf];omega)
      ·have q10:((t[j].toNat:Int)==10)=false:=byte_not0 h10 (by decide)
       have HK2:=Lib.hid (show k=(t.data.toList.take (j+1)).count 10 from by rw[cnt_no t hlt h10,HK.out])
       have HY2:=Lib.hid (more_sp i c t hlt h10)
       obtain⟨x,hx⟩:∃ x,t.extract j (j+1)=x:=⟨_,rfl⟩
       have hxs:x.size≤1:=by rw[←hx,ByteArray.size_extract];omega
       have HX:=Lib.hid (show x.data.toList=[t[j]] from by rw[←hx];exact ext_one t hlt)
       clear h10
       by_cases h32:t[j]=32
       ·have q32:((t[j].toNat:Int)==32)=true:=by rw[h32];rfl
        have HE:=Lib.hid (show ext1 t[j]=[9,32]++[t[j]] from by rw[h32];rfl)
        clear h32
        go_wp2
        go_roundw
        case rel=>exact⟨j+1,k,_,c,rfl,rfl,by go_num,HK2.out,by omega,(app_list _ _ [t[j]] HX.out).trans (by rw[app_list _ _ [9,32] (by kernel_rfl),HY.out,HY2.out,HE.out,List.append_assoc]),trivial⟩
        case measure=>simp[intOf];omega
       ·have q32:((t[j].toNat:Int)==32)=false:=byte_not0 h32 (by decide)
        have HE:=Lib.hid (show ext1 t[j]=[t[j]] from by unfold ext1;rw[if_neg h32])
        clear h32
        go_wp2
        go_roundw
        case rel=>exact⟨j+1,k,_,c,rfl,rfl,by go_num,HK2.out,by omega,(app_list _ _ [t[j]] HX.out).trans (by rw[HY.out,HY2.out,HE.out]),trivial⟩
        case measure=>simp[intOf];omega
     ·obtain rfl:j=t.size:=by omega
      have HZ:=Lib.hid (show z.data.toList=moreS i c t.data.toList from by rw[HY.out,List.take_of_length_le (by rw[bytes_len];exact Nat.le_refl _)])
      have HLW:=Lib.hid (more_law i c t.data.toList)
      have HPL:=Lib.hid (parse_line t.data.toList)
      clear hlt hj HK HY hkb y0 yl
      go_wp2_with fail
      refine (parse_any t w7 (by omega) (HL0.out.keep HS7.out)).mono ?_
      rintro e w8 ⟨f1,line1,er1,rfl,hf1,hd1,hs8⟩
      obtain⟨p1,b1,a1,m1,c1,rfl⟩:=fv_shape f1 w8 hf1
      have HD1:=Lib.hid hd1
      have HF1:=Lib.hid hf1
      have HU8:=Lib.hid hs8
      clear hf1 hd1 hs8
      unfold fv
      dsimp only
      go_upto_region 21 with fail
      obtain⟨q9,hq9⟩:∃ q,w8.heap.size=q:=⟨_,rfl⟩
      obtain⟨w9,hw9⟩:∃ w9,w8.alloc (.cells #[.int .i64 p1,.slice a1 m1 c1] 24)=w9:=⟨_,rfl⟩
      have HS89:=Lib.hid (show Since w8 w9 from by rw[←hw9];exact (Since.refl w8).alloc _)
      have HB9:=Lib.hid (show HeapIs w9 q9 #[.int .i64 p1,.slice a1 m1 c1] 24 from by rw[←hw9,←hq9];exact HeapIs.new w8 _ _)
      rw[hw9]
      try rw[hq9]
      clear hw9 hq9
      have HS9:=Lib.hid (HS7.out.trans (HU8.out.trans HS89.out))
      have HT9:=Lib.hid (HU8.out.trans HS89.out)
      go_wp2_with fail
      refine (parse_any z w9 (by omega) (HL0.out.keep HS9.out)).mono ?_
      rintro e wb ⟨f2,line2,er2,rfl,hf2,hd2,hsb⟩
      obtain⟨p2,b2,a2,m2,c2,rfl⟩:=fv_shape f2 wb hf2
      rw[HZ.out]at hd2
      have HD2:=Lib.hid hd2
      have HF2:=Lib.hid hf2
      have HUB:=Lib.hid hsb
      clear hf2 hd2 hsb
      unfold fv
      dsimp only
      go_upto_region 22 with fail
      obtain⟨qc9,hqc⟩:∃ q,wb.heap.size=q:=⟨_,rfl⟩
      obtain⟨wc,hwc⟩:∃ wc,wb.alloc (.cells #[.int .i64 p2,.slice a2 m2 c2] 24)=wc:=⟨_,rfl⟩
      have HSBC:=Lib.hid (show Since wb wc from by rw[←hwc];exact (Since.refl wb).alloc _)
      have HBC:=Lib.hid (show HeapIs wc qc9 #[.int .i64 p2,.slice a2 m2 c2] 24 from by rw[←hwc,←hqc];exact HeapIs.new wb _ _)
      rw[hwc]
      try rw[hqc]
      clear hwc hqc
      have HSC:=Lib.hid (HUB.out.trans HSBC.out)
      have HSW:=Lib.hid (HS9.out.trans HSC.out)
      have hl1:line1=(parseS t.data.toList).line:=congrArg PRes.line HD1.out
      have he1:er1=(parseS t.data.toList).e:=congrArg PRes.e HD1.out
      have hl2:line2=(parseS (moreS i c t.data.toList)).line:=congrArg PRes.line HD2.out
      have he2:er2=(parseS (moreS i c t.data.toList)).e:=congrArg PRes.e HD2.out
      by_cases he:er1=0
      ·obtain⟨k1,k2⟩:=HLW.out.1 (he1.symm.trans he)
       have hz2:er2=0:=by rw[he2,k2,←he1];exact he
       have hl0:line2=0:=by rw[hl2,k2];exact k1
       have hd3:DFn3 (parseS t.data.toList).f:=parsed3 _ (by show t.data.toList.length≤300000;rw[bytes_len];omega)
       have hdf:(FnV.d ⟨p1,b1,.slice a1 m1 c1⟩)=(parseS t.data.toList).f:=congrArg PRes.f HD1.out
       have hdg:(FnV.d ⟨p2,b2,.slice a2 m2 c2⟩)=(parseS t.data.toList).f:=by have:=congrArg PRes.f HD2.out;rw[k2]at this;exact this
       have HSM:=Lib.hid (same_any ⟨p1,b1,.slice a1 m1 c1⟩ ⟨p2,b2,.slice a2 m2 c2⟩ wc (HF1.out.keep (HS89.out.trans HSC.out)) (HF2.out.keep HSBC.out) (hdf.trans hdg.symm) (fn3_of _ (by rw[hdf];exact hd3)) (fn3_of _ (by rw[hdg];exact hd3)) (print3_len _ (by rw[hdf];exact hd3)))
       clear hl1 he1 hl2 he2 k1 k2 hd3 hdf hdg
       subst he hz2 hl0
       have g1:=HB9.out.keep HSC.out
       have z0:=g1.cell 0
       have z1:=g1.cell 1
       have zl:=g1.lt
       have x0:=HBC.out.cell 0
       have x1:=HBC.out.cell 1
       have xl:=HBC.out.lt
       clear g1
       go_wp2_with fail
       refine HSM.out.mono ?_
       rintro e wd ⟨rfl,hsd⟩
       have HSD:=Lib.hid (HSW.out.trans hsd)
       clear hsd z0 z1 zl x0 x1 xl
       go_wp2
       go_ret
       exact⟨rfl,HSD.out⟩
      ·obtain⟨k1,k2⟩:=HLW.out.2 (fun h=>he (he1.trans h))
       have hz2:er2=er1:=by rw[he2,k1,←he1]
       have hl0:line2=line1+(i:Int):=by rw[hl2,k2,←hl1]
       have hpl:0≤line1∧line1≤40000:=by have h:=HPL.out;rw[←hl1]at h;have h2:=bytes_len t;omega
       clear hl1 he1 hl2 he2 k1 k2
       subst hz2 hl0
       have n1':(er2==0)=false:=beq_eq_false_iff_ne.2 he
       have y0:=(HBN7.out.keep (HT9.out.trans HSC.out)).cell 0
       have yl:=(HBN7.out.keep (HT9.out.trans HSC.out)).lt
       clear he
       go_wp2
       go_ret
       exact⟨rfl,HSW.out⟩
open Go.RowKit Go.ChangeShapes Go.WideShapes
theorem Tryz.cells2b:Tryz.prog.cellsOf 34=2:=by kernel_rfl
theorem Tryz.cells1b:Tryz.prog.cellsOf 5=1:=by kernel_rfl
theorem u8_in {a : Int} (h:(Lit.int .u8 a).wf=true):0≤a∧a<256:=by
 simp[Lit.wf,IntKind.min,IntKind.max,IntKind.signed,IntKind.bits]at h
 omega
set_option maxRecDepth 100000 in
theorem bytes_came {H : Type} {enc:TypeId × Value→H} {w : World} {base:Nat} {held:Bool} {r : Reach} {b0:Nat} {v : Value} {d : DataW H} {p : List MemPlace} (hv:Value.okWide Tryz.prog w r b0 34 v)
  (h:DataW.Trod enc Tryz.prog w base (fun _=>true) held 34 v d p):∃ x0 x1:Int,v=.agg #[.int .u8 x0,.int .u8 x1]∧(0≤x0∧x0<256)∧0≤x1∧x1<256:=by
 have hv':=hv
 simp only[Value.okWide,Tryz.underlying34]at hv'
 obtain⟨cs,rfl,hsz,_⟩:=hv'
 obtain⟨fuel,hf⟩:=h
 obtain⟨xs,m,_,_,hlen,hxs,hel⟩:=DataW.trod_array Tryz.underlying34 hf
 rw[Tryz.cells2b]at hlen
 obtain⟨c0,c1,hc⟩:=ls2 hlen
 have h0:=hel 0 (by decide)
 have h1:=hel 1 (by decide)
 rw[Tryz.cells1b,hc]at h0 h1
 simp only[Nat.mul_one,List.drop_succ_cons,List.drop_zero,List.take_succ_cons,List.take_zero]at h0 h1
 obtain⟨n0,rfl,w0⟩:=int_field Tryz.underlying5 h0 (by simp[hxs])
 obtain⟨n1,rfl,w1⟩:=int_field Tryz.underlying5 h1 (by simp[hxs])
 refine⟨n0,n1,?_,u8_in w0,u8_in w1⟩
 have:cs=#[.int .u8 n0,.int .u8 n1]:=by
  apply Array.ext'
  simpa [Value.cells]using hc
 rw[this]
set_option maxRecDepth 100000 in
theorem law_lines {H : Type} {enc:TypeId × Value→H} {W : World} {base:Nat} {held:Bool} {r : Reach} {b0:Nat} {d0 d1 d2:DataW H} {p0 p1 p2:List MemPlace} (v0 v1 v2:Value)
  (k0:Value.okWide Tryz.prog W r b0 32 v0) (h0:DataW.Trod enc Tryz.prog W base (fun _=>true) held 32 v0 d0 p0)
  (k1:Value.okWide Tryz.prog W r b0 33 v1) (h1:DataW.Trod enc Tryz.prog W base (fun _=>true) held 33 v1 d1 p1)
  (k2:Value.okWide Tryz.prog W r b0 34 v2) (h2:DataW.Trod enc Tryz.prog W base (fun _=>true) held 34 v2 d2 p2) (hL:LaidT W) :
  Calls Tryz.prog 4 #[v0,v1,v2] W fun e w'=>e=.returned (.bool true)∧Below W.heap.size W w':=by
 obtain⟨l,hl,_⟩:=ints_came k0 h0
 obtain⟨x0,x1,rfl,g0,g1⟩:=two_came k1 h1
 obtain⟨n0,n1,rfl,g2,g3⟩:=bytes_came k2 h2
 exact walk_lines v0 l x0 x1 n0 n1 W hl (okWide_lt Tryz.underlying32 k0) g0 g1 g2 g3 hL
end Go.Proofs.YtmhojfpidedjeaaGreatDoor
