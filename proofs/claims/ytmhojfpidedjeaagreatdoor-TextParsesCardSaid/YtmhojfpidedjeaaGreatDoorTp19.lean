import Derived.Test.YtmhojfpidedjeaaGreatDoorTp14
namespace Go.Proofs.YtmhojfpidedjeaaGreatDoor
open Go.RowKit Go.Lib
set_option linter.unusedVariables false
set_option maxHeartbeats 8000000
set_option maxRecDepth 100000
def RLinesQ (s:ByteArray) (w:World) (e:Ending) (w':World):Prop:=∃ v l,e=.returned (.tuple #[v,.int .i64 (linesOf s.data.toList).length])∧Zc1 w' v l∧l.map LnV.d=numd 1 (linesOf s.data.toList)∧Since w w'
def Z1 (s:ByteArray) (i:Nat) (n:Int) (outl:List LnV) (ll:List ByteArray) (nb:ByteArray) (note:Bool):Prop:=
 if i≤s.size then (outl.map LnV.d++(Xr n ll nb.data.toList note (s.data.toList.drop i)).1,(Xr n ll nb.data.toList note (s.data.toList.drop i)).2)=Xr 1 [] [] false s.data.toList else (outl.map LnV.d,n)=Xr 1 [] [] false s.data.toList
section
variable {s : ByteArray} {i : Nat} {n : Int} {outl:List LnV} {ll:List ByteArray} {nb:ByteArray} {note:Bool}
theorem ZgO {nb:ByteArray} (h:nb.data.toList=[]):nb=⟨#[]⟩:=by
 apply Zn;simpa using h
theorem Zgd {nb:ByteArray} (h:¬ nb=⟨#[]⟩):¬ nb.data.toList=[]:=fun e=>h (ZgO e)
theorem Zhd (nb:ByteArray):mkB nb.data.toList=nb:=by apply Zn;simp[mkB]
def VW (ll:List ByteArray) (nb:ByteArray):List ByteArray:=if nb=⟨#[]⟩ then ll else ll++[nb]
theorem Kn (ll:List ByteArray) (nb:ByteArray):Xd ll nb.data.toList=VW ll nb:=by
 unfold Xd VW;by_cases h:nb=⟨#[]⟩
 ·subst h;rfl
 ·rw[if_neg h,if_neg (Zgd h),Zhd]
def JE (n:Int) (l:List ByteArray) (lv:Value):List LnV:=if l=[] then [] else [⟨l,lv,n⟩]
theorem Zev (n:Int) (l:List ByteArray) (lv:Value):(JE n l lv).map LnV.d=emitL n l:=by
 unfold JE emitL;by_cases h:l=[]<;>simp[h,LnV.d]
theorem Z1.last (h:Z1 s s.size n outl ll nb note) (lv:Value):Z1 s (s.size+1) n (outl++JE n (VW ll nb) lv) [] ⟨#[]⟩ false:=by
 unfold Z1 at h ⊢;rw[if_pos (Nat.le_refl _),List.drop_eq_nil_of_le (by rw[Zq];exact Nat.le_refl _)]at h;rw[if_neg (by omega),List.map_append,Zev,←Kn];exact h
theorem Z1.step (h:Z1 s i n outl ll nb note) (hi:i<s.size):(outl.map LnV.d++(Xr n ll nb.data.toList note (s[i]::s.data.toList.drop (i+1))).1,(Xr n ll nb.data.toList note (s[i]::s.data.toList.drop (i+1))).2)=Xr 1 [] [] false s.data.toList:=by
 unfold Z1 at h;rw[if_pos (by omega),Zan s hi]at h;exact h
theorem Z1.end (h:Z1 s i n outl ll nb note) (hi:i<s.size) (hc:s[i]=10) (lv:Value):Z1 s (i+1) (n+1) (outl++JE n (VW ll nb) lv) [] ⟨#[]⟩ false:=by
 have h1:=h.step hi;unfold Z1;rw[Xr,if_pos hc]at h1;rw[if_pos (by omega),List.map_append,Zev,←Kn,List.append_assoc];exact h1
theorem Z1.hash (h:Z1 s i n outl ll nb note) (hi:i<s.size) (hc:¬ s[i]=10) (hn:(note||s[i]==35)=true):Z1 s (i+1) n outl (VW ll nb) ⟨#[]⟩ true:=by
 have h1:=h.step hi;unfold Z1;rw[Xr,if_neg hc,if_pos hn]at h1;rw[if_pos (by omega),←Kn];exact h1
theorem Z1.sep (h:Z1 s i n outl ll nb false) (hi:i<s.size) (hc:¬ s[i]=10) (hn:¬ s[i]=35) (hs:Xg s[i]=true):Z1 s (i+1) n outl (VW ll nb) ⟨#[]⟩ false:=by
 have h1:=h.step hi;unfold Z1;rw[Xr,if_neg hc,if_neg (by simpa using hn),if_pos hs]at h1;rw[if_pos (by omega),←Kn];exact h1
theorem Z1.other (h:Z1 s i n outl ll nb false) (hi:i<s.size) (hc:¬ s[i]=10) (hn:¬ s[i]=35) (hs:¬ Xg s[i]=true) {nb2:ByteArray} (h2:nb2.data.toList=nb.data.toList++[s[i]]):Z1 s (i+1) n outl ll nb2 false:=by
 have h1:=h.step hi;unfold Z1;rw[Xr,if_neg hc,if_neg (by simpa using hn),if_neg hs]at h1;rw[if_pos (by omega),h2];exact h1
end
structure LSt (w0 w:World) (ov:Value) (outl:List LnV) (lv:Value) (ll:List ByteArray):Prop where
 inv:LInv w0.heap.size w ov outl lv ll
 old:Since w0 w
section
variable {w0 w w':World} {ov lv ov' lv':Value} {outl:List LnV} {ll:List ByteArray}
theorem LSt.start (w:World):LSt w ((w.alloc (.cells #[] 121)).alloc (.cells #[] 9)) (.slice (some ⟨w.heap.size,0,none⟩) 0 0) [] (.slice (some ⟨w.heap.size+1,0,none⟩) 0 0) []:=by
 have e:(w.alloc (.cells #[] 121)).heap.size=w.heap.size+1:=by simp
 have s1:Since w (w.alloc (.cells #[] 121)):=(Since.refl w).alloc _;have h1:=XH lncells 2 121 w [] 0 XJ rfl (by decide) _ rfl;have h2:=XH stc 1 9 (w.alloc (.cells #[] 121)) [] 0 X1 rfl (by decide) _ rfl;rw[e]at h2;exact⟨⟨OwnRow.keep h1 ((Since.refl _).alloc _),Zaa h2 (Nat.le_succ _),fun x hx=>(by cases hx),fun x hx=>(by cases hx)⟩,s1.alloc _⟩
theorem LSt.keep (h:LSt w0 w ov outl lv ll) (s:Since w w'):LSt w0 w' ov outl lv ll:=⟨h.inv.keep s,h.old.trans s⟩
theorem LSt.push (h:LSt w0 w ov outl lv ll) {b : ByteArray} (hb:b.size≤1000000) (ho:OwnRow stc 1 9 w0.heap.size w' lv' (ll++[b])) (t:Turn (fun q=>lv.ownBlock=some q) w w') (hn:ZP w lv lv'):LSt w0 w' ov outl lv' (ll++[b]):=
 ⟨h.inv.push hb ho t hn,t.toSince h.old fun q hq hr=>by have:=(World.ownsRow.lt h.inv.l q hr).1;omega⟩
theorem LSt.fresh (h:LSt w0 w ov outl lv ll):LSt w0 (w.alloc (.cells #[] 9)) ov outl (.slice (some ⟨w.heap.size,0,none⟩) 0 0) []:=⟨h.inv.fresh h.old.size,h.old.alloc _⟩
theorem LSt.emit (h:LSt w0 w ov outl lv ll) {n : Int} (ho:OwnRow lncells 2 121 w0.heap.size w' ov' (outl++[⟨ll,lv,n⟩])) (t:Turn (fun q=>ov.ownBlock=some q) w w') (hn:ZP w ov ov'):LSt w0 (w'.alloc (.cells #[] 9)) ov' (outl++[⟨ll,lv,n⟩]) (.slice (some ⟨w'.heap.size,0,none⟩) 0 0) []:=
 ⟨h.inv.emit ho t hn h.old.size,(t.toSince h.old fun q hq hr=>by have:=(World.ownsRow.lt h.inv.out q hr).1;omega).alloc _⟩
theorem Wn (ll:List ByteArray) {nb:ByteArray} (h:nb=⟨#[]⟩):VW ll nb=ll:=if_pos h
theorem X2 (ll:List ByteArray) {nb:ByteArray} (h:¬ nb=⟨#[]⟩):VW ll nb=ll++[nb]:=if_neg h
theorem Za2 (n:Int) (lv:Value) (outl:List LnV):outl++JE n [] lv=outl:=by simp[JE]
theorem Vw (n:Int) (lv:Value) {l : List ByteArray} (h:l≠[]):JE n l lv=[⟨l,lv,n⟩]:=if_neg h
theorem Ja {nb:ByteArray} (h:nb=⟨#[]⟩):(nb.toList==[])=true:=by subst h;kernel_rfl
theorem Jb {nb:ByteArray} (h:¬ nb=⟨#[]⟩):(nb.toList==[])=false:=by
 have h2:=(Lib.bytes_beq_false_iff nb ⟨#[]⟩).2 h;have:(⟨#[]⟩:ByteArray).toList=[]:=by kernel_rfl
 rwa [this]at h2
theorem JH {x : UInt8} {k : Nat} (h:¬ x=UInt8.ofNat k) (hk:k<256):((x.toNat:Int)==(k:Int))=false:=by
 rw[beq_eq_false_iff_ne];intro e;apply h
 apply UInt8.toNat_inj.1
 rw[UInt8.toNat_ofNat_of_lt' (by show k<256;exact hk)];omega
theorem ZaR (nb s:ByteArray) {i : Nat} (h:i<s.size):(nb++s.extract i (i+1)).data.toList=nb.data.toList++[s[i]]:=by
 have h2:i<s.data.size:=h;have e:(s.extract i (i+1)).data.toList=[s[i]]:=by
  rw[Lib.extract_data,Zan s h];simp
 have e2:(nb++s.extract i (i+1)).data=nb.data++(s.extract i (i+1)).data:=ByteArray.data_append;rw[e2,Array.toList_append,e]
theorem Zef (nb s:ByteArray) {i : Nat} (h:i<s.size) (hb:nb.size≤i):(nb++s.extract i (i+1)).size≤i+1:=by
 rw[←Zq,ZaR nb s h,List.length_append,Zq];simp;exact hb
theorem VB (b:ByteArray):∀ u∈stc b,u.oneCell'=true:=fun u hu=>by rw[List.mem_singleton.1 hu];rfl
theorem W3 (ws:List ByteArray) (a:Option Addr) (m c:Nat) (n:Int):∀ u∈lncells ⟨ws,.slice a m c,n⟩,u.oneCell'=true:=fun u hu=>by simp[lncells]at hu;rcases hu with rfl | rfl<;>rfl
theorem LSt.rows (h:LSt w0 w ov outl lv ll):Zc1 w ov outl:=Yf XJ h.inv.out fun x hx=>(h.inv.each x hx).1
theorem Z1.done {s : ByteArray} {i : Nat} {n : Int} {nb:ByteArray} {note:Bool} (h:Z1 s i n outl ll nb note) (hi:s.size<i):outl.map LnV.d=numd 1 (linesOf s.data.toList)∧n=((linesOf s.data.toList).length:Int):=by
 unfold Z1 at h;rw[if_neg (by omega),Zdo]at h;exact⟨congrArg Prod.fst h,congrArg Prod.snd h⟩
end
theorem Qt (s:ByteArray) (w:World) (hs:s.size≤400000):Calls Tryz.prog 52 #[.string s] w (RLinesQ s w):=by
 go_enter Tryz.func52,Tryz.ntmps52
 go_wp2_with fail
 go_loopw [4,5,6,7,8,9] (fun ov no lv bo so io wr=>∃ (i:Nat) (n:Int) (outl:List LnV) (ll:List ByteArray) (nb:ByteArray) (note:Bool),io=.int .i64 i∧i≤s.size+1∧no=.int .i64 n∧(1≤n∧n≤i+1)∧bo=.string nb∧so=.bool note∧(nb.size≤i∧outl.length≤i∧ll.length≤i)∧LSt w wr ov outl lv ll∧Z1 s i n outl ll nb note) (fun _ _ _ _ _ io _=>s.size+2-(intOf io).toNat)
 case atStart =>
  refine⟨0,1,[],[],⟨#[]⟩,false,rfl,by omega,rfl,by omega,rfl,rfl,⟨by decide,by decide,by decide⟩,?_,?_⟩
  ·exact LSt.start w
  ·unfold Z1;rw[if_pos (Nat.zero_le _)];rfl
 case round =>
  obtain⟨i,n,outl,ll,nb,note,rfl,hi,rfl,hn,rfl,rfl,hb,hv,hr⟩:=hrel;obtain⟨oa,oc,e1⟩:=Ze hv.inv.out;obtain⟨la,lc,e2⟩:=Ze hv.inv.l;obtain⟨ko,hO⟩:∃ k,outl.length=k:=⟨_,rfl⟩
  obtain⟨kl,hP⟩:∃ k,ll.length=k:=⟨_,rfl⟩
  rw[hO]at e1;rw[hP]at e2;subst e1 e2;rw[hO,hP]at hb;have hk:=hid hO;have hf:=hid hP;have HV:=hid hv;have HR:=hid hr;clear hO hP hv hr;by_cases hH:i<s.size
  ·by_cases hc:s[i]=10
   ·have hS:((s[i].toNat:Int)==10)=true:=by rw[hc];rfl
    have hE:((i:Int)==(s.size:Int))=false:=by rw[beq_eq_false_iff_ne];omega
    have hl:=hid (fun lv=>HR.out.end hH hc lv);clear hc;by_cases ha:nb=⟨#[]⟩
    ·have hq:=Ja ha;have HP:=hid (Wn ll ha);clear ha;by_cases hI:kl=0
     ·subst hI;have hM:=hid (List.length_eq_zero_iff.1 hf.out);have he:=zH (Z1 s (i+1) (n+1) outl [] ⟨#[]⟩ false) (by have:=hl.out undef;rw[HP.out,hM.out,Za2]at this;exact this);have hB:=hid HV.out.fresh;go_wp2
      go_roundw
      case rel=>exact⟨i+1,n+1,outl,[],⟨#[]⟩,false,by go_num,by omega,by go_num,by omega,rfl,rfl,⟨Nat.zero_le _,by rw[hk.out];omega,Nat.zero_le _⟩,hB.out,he.out⟩
      case measure=>simp[intOf];omega
     ·have hJ:0<kl:=by omega
      have hM:=zH (ll≠[]) (fun e=>hI (by rw[←hf.out,e];rfl))
      have he:=zH (Z1 s (i+1) (n+1) (outl++[⟨ll,.slice la kl lc,n⟩]) [] ⟨#[]⟩ false) (by have:=hl.out (.slice la kl lc);rw[HP.out,Vw n _ hM.out]at this;exact this)
      have ht:=hid (HV.out.keep ((Since.refl wr).alloc (.cells #[.slice la kl lc,.int .i64 n] 121)));have hL:=hid (HeapIs.new wr #[.slice la kl lc,.int .i64 n] 121);clear hI;go_wp2_with (at_builtin;refine Zf lncells 2 XJ (by decide) rfl _ _ 114 rfl 121 (.agg #[.slice none 0 0,.int .i64 0]) 32 Tryz.underlying114 (by kernel_rfl) rfl (.slice oa ko oc) outl ⟨ll,.slice la kl lc,n⟩ _ 1 _ rfl rfl ht.out.inv.out hL.out (W3 _ _ _ _ _) (by rw[hk.out];unfold maxLen;omega) (by rw[hk.out];omega) ht.out.old.size ?_;intro v8 w8 hy hx hz;have hB:=hid (ht.out.emit hy hx hz);clear hy hx hz)
      go_roundw
      case rel=>exact⟨i+1,n+1,_,[],⟨#[]⟩,false,by go_num,by omega,by go_num,by omega,rfl,rfl,⟨Nat.zero_le _,by rw[List.length_append,hk.out];simp;omega,Nat.zero_le _⟩,hB.out,he.out⟩
      case measure=>simp[intOf];omega
    ·have HP:=hid (X2 ll ha);have hq:=Jb ha;have hN:=hid ha;have hj:=hid (HV.out.keep ((Since.refl wr).alloc (.cells #[.string nb] 9)));have hF:=hid (HeapIs.new wr #[.string nb] 9);obtain⟨km,hd⟩:∃ k,(ll++[nb]).length=k:=⟨_,rfl⟩
     have hh:0<km∧km=kl+1:=by rw[List.length_append,hf.out]at hd;simp at hd;omega
     have hG:=hid hh;have hJ:=hh.1;have hu:=hid hd;have hD:=zH (nb.size≤1000000) (by omega);clear ha hd hh;have he:=hid (fun lv=>(show Z1 s (i+1) (n+1) (outl++[⟨ll++[nb],lv,n⟩]) [] ⟨#[]⟩ false from by have:=hl.out lv;rw[HP.out,Vw n _ (by simp)]at this;exact this))
     go_wp2_with (first | (at_builtin;refine Zf stc 1 X1 (by decide) rfl _ _ 89 rfl 9 (.string ⟨#[]⟩) 16 Tryz.underlying89 (by kernel_rfl) rfl (.slice la kl lc) ll nb _ 1 _ rfl rfl hj.out.inv.l hF.out (VB nb) (by rw[hf.out];unfold maxLen;omega) (by rw[hf.out];omega) hj.out.old.size ?_;intro v9 w9 hg ho hp;obtain⟨va,vc,hm⟩:=Ze hg;rw[hu.out]at hm;subst hm;have hC:=hid (hj.out.push hD.out hg ho hp);clear hg ho hp;have ht:=hid (hC.out.keep ((Since.refl w9).alloc (.cells #[.slice va km vc,.int .i64 n] 121)));have hL:=hid (HeapIs.new w9 #[.slice va km vc,.int .i64 n] 121)) | (at_builtin;refine Zf lncells 2 XJ (by decide) rfl _ _ 114 rfl 121 (.agg #[.slice none 0 0,.int .i64 0]) 32 Tryz.underlying114 (by kernel_rfl) rfl (.slice oa ko oc) outl ⟨ll++[nb],.slice va km vc,n⟩ _ 1 _ rfl rfl ht.out.inv.out hL.out (W3 _ _ _ _ _) (by rw[hk.out];unfold maxLen;omega) (by rw[hk.out];omega) ht.out.old.size ?_;intro v8 w8 hy hx hz;have hB:=hid (ht.out.emit hy hx hz);clear hy hx hz))
     go_roundw
     case rel=>exact⟨i+1,n+1,_,[],⟨#[]⟩,false,by go_num,by omega,by go_num,by omega,rfl,rfl,⟨Nat.zero_le _,by rw[List.length_append,hk.out];simp;omega,Nat.zero_le _⟩,hB.out,he.out _⟩
     case measure=>simp[intOf];omega
   ·have hS:((s[i].toNat:Int)==10)=false:=JH hc (by decide);have hE:((i:Int)==(s.size:Int))=false:=by rw[beq_eq_false_iff_ne];omega
    by_cases hA:s[i]=35
    ·have hQ:((s[i].toNat:Int)==35)=true:=by rw[hA];rfl
     have hl:=hid (HR.out.hash hH hc (by rw[hA];simp));clear hc hA;by_cases ha:nb=⟨#[]⟩
     ·have hq:=Ja ha;have he:=zH (Z1 s (i+1) n outl ll ⟨#[]⟩ true) (by have:=hl.out;rw[Wn ll ha]at this;exact this);clear ha;go_wp2
      go_roundw
      case rel=>exact⟨i+1,n,outl,ll,⟨#[]⟩,true,by go_num,by omega,rfl,by omega,rfl,rfl,⟨Nat.zero_le _,by rw[hk.out];omega,by rw[hf.out];omega⟩,HV.out,he.out⟩
      case measure=>simp[intOf];omega
     ·have he:=zH (Z1 s (i+1) n outl (ll++[nb]) ⟨#[]⟩ true) (by have:=hl.out;rw[X2 ll ha]at this;exact this);have hq:=Jb ha;have hN:=hid ha;have hj:=hid (HV.out.keep ((Since.refl wr).alloc (.cells #[.string nb] 9)));have hF:=hid (HeapIs.new wr #[.string nb] 9);obtain⟨km,hd⟩:∃ k,(ll++[nb]).length=k:=⟨_,rfl⟩
      have hh:0<km∧km=kl+1:=by rw[List.length_append,hf.out]at hd;simp at hd;omega
      have hG:=hid hh;have hJ:=hh.1;have hu:=hid hd;have hD:=zH (nb.size≤1000000) (by omega);clear ha hd hh;go_wp2_with (at_builtin;refine Zf stc 1 X1 (by decide) rfl _ _ 89 rfl 9 (.string ⟨#[]⟩) 16 Tryz.underlying89 (by kernel_rfl) rfl (.slice la kl lc) ll nb _ 1 _ rfl rfl hj.out.inv.l hF.out (VB nb) (by rw[hf.out];unfold maxLen;omega) (by rw[hf.out];omega) hj.out.old.size ?_;intro v9 w9 hg ho hp;obtain⟨va,vc,hm⟩:=Ze hg;rw[hu.out]at hm;subst hm;have hC:=hid (hj.out.push hD.out hg ho hp);clear hg ho hp)
      go_roundw
      case rel=>exact⟨i+1,n,outl,ll++[nb],⟨#[]⟩,true,by go_num,by omega,rfl,by omega,rfl,rfl,⟨Nat.zero_le _,by rw[hk.out];omega,by rw[hu.out,hG.out.2];omega⟩,hC.out,he.out⟩
      case measure=>simp[intOf];omega
    ·have hQ:((s[i].toNat:Int)==35)=false:=JH hA (by decide)
     cases note with
     | true =>
      have hl:=hid (HR.out.hash hH hc (by simp));clear hc hA;by_cases ha:nb=⟨#[]⟩
      ·have hq:=Ja ha;have he:=zH (Z1 s (i+1) n outl ll ⟨#[]⟩ true) (by have:=hl.out;rw[Wn ll ha]at this;exact this);clear ha;go_wp2
       go_roundw
       case rel=>exact⟨i+1,n,outl,ll,⟨#[]⟩,true,by go_num,by omega,rfl,by omega,rfl,rfl,⟨Nat.zero_le _,by rw[hk.out];omega,by rw[hf.out];omega⟩,HV.out,he.out⟩
       case measure=>simp[intOf];omega
      ·have he:=zH (Z1 s (i+1) n outl (ll++[nb]) ⟨#[]⟩ true) (by have:=hl.out;rw[X2 ll ha]at this;exact this);have hq:=Jb ha;have hN:=hid ha;have hj:=hid (HV.out.keep ((Since.refl wr).alloc (.cells #[.string nb] 9)));have hF:=hid (HeapIs.new wr #[.string nb] 9);obtain⟨km,hd⟩:∃ k,(ll++[nb]).length=k:=⟨_,rfl⟩
       have hh:0<km∧km=kl+1:=by rw[List.length_append,hf.out]at hd;simp at hd;omega
       have hG:=hid hh;have hJ:=hh.1;have hu:=hid hd;have hD:=zH (nb.size≤1000000) (by omega);clear ha hd hh;go_wp2_with (at_builtin;refine Zf stc 1 X1 (by decide) rfl _ _ 89 rfl 9 (.string ⟨#[]⟩) 16 Tryz.underlying89 (by kernel_rfl) rfl (.slice la kl lc) ll nb _ 1 _ rfl rfl hj.out.inv.l hF.out (VB nb) (by rw[hf.out];unfold maxLen;omega) (by rw[hf.out];omega) hj.out.old.size ?_;intro v9 w9 hg ho hp;obtain⟨va,vc,hm⟩:=Ze hg;rw[hu.out]at hm;subst hm;have hC:=hid (hj.out.push hD.out hg ho hp);clear hg ho hp)
       go_roundw
       case rel=>exact⟨i+1,n,outl,ll++[nb],⟨#[]⟩,true,by go_num,by omega,rfl,by omega,rfl,rfl,⟨Nat.zero_le _,by rw[hk.out];omega,by rw[hu.out,hG.out.2];omega⟩,hC.out,he.out⟩
       case measure=>simp[intOf];omega
     | false =>
      by_cases hK:s[i]=32
      ·have hR:((s[i].toNat:Int)==32)=true:=by rw[hK];rfl
       have hl:=hid (HR.out.sep hH hc hA (by rw[hK];rfl));clear hc hA hK;by_cases ha:nb=⟨#[]⟩
       ·have hq:=Ja ha;have he:=zH (Z1 s (i+1) n outl ll ⟨#[]⟩ false) (by have:=hl.out;rw[Wn ll ha]at this;exact this);clear ha;go_wp2
        go_roundw
        case rel=>exact⟨i+1,n,outl,ll,⟨#[]⟩,false,by go_num,by omega,rfl,by omega,rfl,rfl,⟨Nat.zero_le _,by rw[hk.out];omega,by rw[hf.out];omega⟩,HV.out,he.out⟩
        case measure=>simp[intOf];omega
       ·have he:=zH (Z1 s (i+1) n outl (ll++[nb]) ⟨#[]⟩ false) (by have:=hl.out;rw[X2 ll ha]at this;exact this);have hq:=Jb ha;have hN:=hid ha;have hj:=hid (HV.out.keep ((Since.refl wr).alloc (.cells #[.string nb] 9)));have hF:=hid (HeapIs.new wr #[.string nb] 9);obtain⟨km,hd⟩:∃ k,(ll++[nb]).length=k:=⟨_,rfl⟩
        have hh:0<km∧km=kl+1:=by rw[List.length_append,hf.out]at hd;simp at hd;omega
        have hG:=hid hh;have hJ:=hh.1;have hu:=hid hd;have hD:=zH (nb.size≤1000000) (by omega);clear ha hd hh;go_wp2_with (at_builtin;refine Zf stc 1 X1 (by decide) rfl _ _ 89 rfl 9 (.string ⟨#[]⟩) 16 Tryz.underlying89 (by kernel_rfl) rfl (.slice la kl lc) ll nb _ 1 _ rfl rfl hj.out.inv.l hF.out (VB nb) (by rw[hf.out];unfold maxLen;omega) (by rw[hf.out];omega) hj.out.old.size ?_;intro v9 w9 hg ho hp;obtain⟨va,vc,hm⟩:=Ze hg;rw[hu.out]at hm;subst hm;have hC:=hid (hj.out.push hD.out hg ho hp);clear hg ho hp)
        go_roundw
        case rel=>exact⟨i+1,n,outl,ll++[nb],⟨#[]⟩,false,by go_num,by omega,rfl,by omega,rfl,rfl,⟨Nat.zero_le _,by rw[hk.out];omega,by rw[hu.out,hG.out.2];omega⟩,hC.out,he.out⟩
        case measure=>simp[intOf];omega
      ·have hR:((s[i].toNat:Int)==32)=false:=JH hK (by decide);by_cases h9:s[i]=9
       ·have hT:((s[i].toNat:Int)==9)=true:=by rw[h9];rfl
        have hl:=hid (HR.out.sep hH hc hA (by rw[h9];rfl));clear hc hA hK h9;by_cases ha:nb=⟨#[]⟩
        ·have hq:=Ja ha;have he:=zH (Z1 s (i+1) n outl ll ⟨#[]⟩ false) (by have:=hl.out;rw[Wn ll ha]at this;exact this);clear ha;go_wp2
         go_roundw
         case rel=>exact⟨i+1,n,outl,ll,⟨#[]⟩,false,by go_num,by omega,rfl,by omega,rfl,rfl,⟨Nat.zero_le _,by rw[hk.out];omega,by rw[hf.out];omega⟩,HV.out,he.out⟩
         case measure=>simp[intOf];omega
        ·have he:=zH (Z1 s (i+1) n outl (ll++[nb]) ⟨#[]⟩ false) (by have:=hl.out;rw[X2 ll ha]at this;exact this);have hq:=Jb ha;have hN:=hid ha;have hj:=hid (HV.out.keep ((Since.refl wr).alloc (.cells #[.string nb] 9)));have hF:=hid (HeapIs.new wr #[.string nb] 9);obtain⟨km,hd⟩:∃ k,(ll++[nb]).length=k:=⟨_,rfl⟩
         have hh:0<km∧km=kl+1:=by rw[List.length_append,hf.out]at hd;simp at hd;omega
         have hG:=hid hh;have hJ:=hh.1;have hu:=hid hd;have hD:=zH (nb.size≤1000000) (by omega);clear ha hd hh;go_wp2_with (at_builtin;refine Zf stc 1 X1 (by decide) rfl _ _ 89 rfl 9 (.string ⟨#[]⟩) 16 Tryz.underlying89 (by kernel_rfl) rfl (.slice la kl lc) ll nb _ 1 _ rfl rfl hj.out.inv.l hF.out (VB nb) (by rw[hf.out];unfold maxLen;omega) (by rw[hf.out];omega) hj.out.old.size ?_;intro v9 w9 hg ho hp;obtain⟨va,vc,hm⟩:=Ze hg;rw[hu.out]at hm;subst hm;have hC:=hid (hj.out.push hD.out hg ho hp);clear hg ho hp)
         go_roundw
         case rel=>exact⟨i+1,n,outl,ll++[nb],⟨#[]⟩,false,by go_num,by omega,rfl,by omega,rfl,rfl,⟨Nat.zero_le _,by rw[hk.out];omega,by rw[hu.out,hG.out.2];omega⟩,hC.out,he.out⟩
         case measure=>simp[intOf];omega
       ·have hT:((s[i].toNat:Int)==9)=false:=JH h9 (by decide);have hl:=hid (HR.out.other hH hc hA (by unfold Xg;simp[hK,h9]) (ZaR nb s hH));clear hc hA hK h9;go_wp2
        go_roundw
        case rel=>exact⟨i+1,n,outl,ll,_,false,by go_num,by omega,rfl,by omega,rfl,rfl,⟨Zef nb s hH hb.1,by rw[hk.out];omega,by rw[hf.out];omega⟩,HV.out,hl.out⟩
        case measure=>simp[intOf];omega
  ·by_cases hU:i=s.size
   ·subst hU;have hl:=hid (fun lv=>HR.out.last lv);by_cases ha:nb=⟨#[]⟩
    ·have hq:=Ja ha;have HP:=hid (Wn ll ha);clear ha;by_cases hI:kl=0
     ·subst hI;have hM:=hid (List.length_eq_zero_iff.1 hf.out);have he:=zH (Z1 s (s.size+1) (n) outl [] ⟨#[]⟩ false) (by have:=hl.out undef;rw[HP.out,hM.out,Za2]at this;exact this);have hB:=hid HV.out.fresh;go_wp2
      go_roundw
      case rel=>exact⟨s.size+1,n,outl,[],⟨#[]⟩,false,by go_num,by omega,rfl,by omega,rfl,rfl,⟨Nat.zero_le _,by rw[hk.out];omega,Nat.zero_le _⟩,hB.out,he.out⟩
      case measure=>simp[intOf]
     ·have hJ:0<kl:=by omega
      have hM:=zH (ll≠[]) (fun e=>hI (by rw[←hf.out,e];rfl))
      have he:=zH (Z1 s (s.size+1) (n) (outl++[⟨ll,.slice la kl lc,n⟩]) [] ⟨#[]⟩ false) (by have:=hl.out (.slice la kl lc);rw[HP.out,Vw n _ hM.out]at this;exact this)
      have ht:=hid (HV.out.keep ((Since.refl wr).alloc (.cells #[.slice la kl lc,.int .i64 n] 121)));have hL:=hid (HeapIs.new wr #[.slice la kl lc,.int .i64 n] 121);clear hI;go_wp2_with (at_builtin;refine Zf lncells 2 XJ (by decide) rfl _ _ 114 rfl 121 (.agg #[.slice none 0 0,.int .i64 0]) 32 Tryz.underlying114 (by kernel_rfl) rfl (.slice oa ko oc) outl ⟨ll,.slice la kl lc,n⟩ _ 1 _ rfl rfl ht.out.inv.out hL.out (W3 _ _ _ _ _) (by rw[hk.out];unfold maxLen;omega) (by rw[hk.out];omega) ht.out.old.size ?_;intro v8 w8 hy hx hz;have hB:=hid (ht.out.emit hy hx hz);clear hy hx hz)
      go_roundw
      case rel=>exact⟨s.size+1,n,_,[],⟨#[]⟩,false,by go_num,by omega,rfl,by omega,rfl,rfl,⟨Nat.zero_le _,by rw[List.length_append,hk.out];simp;omega,Nat.zero_le _⟩,hB.out,he.out⟩
      case measure=>simp[intOf]
    ·have HP:=hid (X2 ll ha);have hq:=Jb ha;have hN:=hid ha;have hj:=hid (HV.out.keep ((Since.refl wr).alloc (.cells #[.string nb] 9)));have hF:=hid (HeapIs.new wr #[.string nb] 9);obtain⟨km,hd⟩:∃ k,(ll++[nb]).length=k:=⟨_,rfl⟩
     have hh:0<km∧km=kl+1:=by rw[List.length_append,hf.out]at hd;simp at hd;omega
     have hG:=hid hh;have hJ:=hh.1;have hu:=hid hd;have hD:=zH (nb.size≤1000000) (by omega);clear ha hd hh;have he:=hid (fun lv=>(show Z1 s (s.size+1) (n) (outl++[⟨ll++[nb],lv,n⟩]) [] ⟨#[]⟩ false from by have:=hl.out lv;rw[HP.out,Vw n _ (by simp)]at this;exact this))
     go_wp2_with (first | (at_builtin;refine Zf stc 1 X1 (by decide) rfl _ _ 89 rfl 9 (.string ⟨#[]⟩) 16 Tryz.underlying89 (by kernel_rfl) rfl (.slice la kl lc) ll nb _ 1 _ rfl rfl hj.out.inv.l hF.out (VB nb) (by rw[hf.out];unfold maxLen;omega) (by rw[hf.out];omega) hj.out.old.size ?_;intro v9 w9 hg ho hp;obtain⟨va,vc,hm⟩:=Ze hg;rw[hu.out]at hm;subst hm;have hC:=hid (hj.out.push hD.out hg ho hp);clear hg ho hp;have ht:=hid (hC.out.keep ((Since.refl w9).alloc (.cells #[.slice va km vc,.int .i64 n] 121)));have hL:=hid (HeapIs.new w9 #[.slice va km vc,.int .i64 n] 121)) | (at_builtin;refine Zf lncells 2 XJ (by decide) rfl _ _ 114 rfl 121 (.agg #[.slice none 0 0,.int .i64 0]) 32 Tryz.underlying114 (by kernel_rfl) rfl (.slice oa ko oc) outl ⟨ll++[nb],.slice va km vc,n⟩ _ 1 _ rfl rfl ht.out.inv.out hL.out (W3 _ _ _ _ _) (by rw[hk.out];unfold maxLen;omega) (by rw[hk.out];omega) ht.out.old.size ?_;intro v8 w8 hy hx hz;have hB:=hid (ht.out.emit hy hx hz);clear hy hx hz))
     go_roundw
     case rel=>exact⟨s.size+1,n,_,[],⟨#[]⟩,false,by go_num,by omega,rfl,by omega,rfl,rfl,⟨Nat.zero_le _,by rw[List.length_append,hk.out];simp;omega,Nat.zero_le _⟩,hB.out,he.out _⟩
     case measure=>simp[intOf]
   ·have hV:s.size<i:=by omega
    have HQ:=hid (HR.out.done hV);have HN:=hid HQ.out.2;go_wp2
    go_ret2
    exact⟨_,_,congrArg (fun z:Int=>Ending.returned (.tuple #[.slice oa ko oc,.int .i64 z])) HN.out,HV.out.rows,HQ.out.1,HV.out.old⟩
end Go.Proofs.YtmhojfpidedjeaaGreatDoor
