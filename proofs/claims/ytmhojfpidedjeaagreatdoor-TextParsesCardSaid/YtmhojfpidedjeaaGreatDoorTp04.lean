import Derived.Test.YtmhojfpidedjeaaGreatDoorTp02
import Derived.Lib.FieldsP
import Derived.Lib.SplitLaws
namespace Go.Proofs.YtmhojfpidedjeaaGreatDoor
set_option linter.unusedVariables false
abbrev Bs:=List UInt8
structure Zaq where
 op:Int
 dst:Int
 two:Int
 args:List Int
 imm:Int
structure ZdM where
 dst:Int
 ins:List (Int × Int)
structure Kt where
 kd:Int
 ar:List Int
 tg:List Int
 im:Int
structure Y1 where
 phis:List ZdM
 ins:List Zaq
 term:Kt
structure DFn where
 params:Int
 blocks:List Y1
def dS (n:Int):Bs:=32::Lib.itoa n
def allS (l:List Int):Bs:=l.flatMap dS
def opS (op:Int):Bs:=(Xo op).data.toList
def ZM (x:Zaq):Bs:=
 if x.op=1 then opS x.op++(dS x.dst++dS x.imm)
 else if 2≤x.op∧x.op≤14 then opS x.op++(dS x.dst++allS x.args)
 else if x.op=15 then opS x.op++(dS x.dst++(allS x.args++dS x.imm))
 else if x.op=16 then opS x.op++(allS x.args++dS x.imm)
 else if x.op=17 then opS x.op++(dS x.dst++(dS x.imm++allS x.args))
 else if x.op=18 then opS x.op++(dS x.dst++(dS x.two++allS x.args))
 else [63]
def ZY:List ByteArray:=[⟨#[106,117,109,112]⟩,⟨#[98,114,97,110,99,104]⟩,⟨#[115,119,105,116,99,104]⟩,⟨#[114,101,116]⟩,⟨#[116,114,97,112]⟩]
def X0 (k:Int):ByteArray:=if k<1∨5<k then ⟨#[63]⟩ else ZY.getD (k-1).toNat ByteArray.empty
def Yi (t:Kt):Bs:=
 if t.kd<1∨5<t.kd then [63]
 else if t.kd=5 then (X0 t.kd).data.toList++dS t.im
 else (X0 t.kd).data.toList++(allS t.ar++allS t.tg)
def YS (x:Int × Int):Bs:=dS x.1++58::Lib.itoa x.2
def Jr (p:ZdM):Bs:=[112,104,105]++(dS p.dst++p.ins.flatMap YS)
def QL (x:Y1):Bs:=x.phis.flatMap (fun p=>Jr p++[10])++(x.ins.flatMap (fun i=>ZM i++[10])++(Yi x.term++[10]))
def V6 (b:Nat) (x:Y1):Bs:=[98,108,111,99,107]++(dS b++10::QL x)
def ZdB (l:List Y1) (b:Nat):Bs:=match l[b]? with | some x=>V6 b x | none=>[]
def blksS (l:List Y1) (n:Nat):Bs:=(List.range n).flatMap (ZdB l)
def XP (f:DFn):Bs:=[102,117,110,99]++(dS f.params++10::blksS f.blocks f.blocks.length)
structure ZH where
 pat:Int
 cost:Int
def ZT:List ByteArray:=[⟨#[108,105]⟩,⟨#[108,105,119]⟩,⟨#[97,100,100]⟩,⟨#[115,117,98]⟩,⟨#[109,117,108]⟩,⟨#[97,110,100]⟩,⟨#[111,114]⟩,⟨#[120,111,114]⟩,⟨#[115,104,108]⟩,⟨#[115,104,114]⟩,⟨#[115,97,114]⟩,⟨#[101,113]⟩,⟨#[108,116]⟩,⟨#[108,116,117]⟩,⟨#[100,105,118]⟩,⟨#[97,100,100,105]⟩,⟨#[115,117,98,105]⟩,⟨#[97,110,100,105]⟩,⟨#[115,104,108,105]⟩,⟨#[115,104,114,105]⟩,⟨#[115,97,114,105]⟩,⟨#[109,97,100,100]⟩,⟨#[108,100]⟩,⟨#[108,100,97]⟩,⟨#[108,100,120]⟩,⟨#[108,100,108]⟩,⟨#[115,116]⟩,⟨#[115,116,97]⟩,⟨#[115,116,120]⟩,⟨#[115,116,108]⟩,⟨#[99,97,108,108]⟩,⟨#[109,117,108,119]⟩,⟨#[98,110,122]⟩,⟨#[98,101,113]⟩,⟨#[98,108,116]⟩,⟨#[98,108,116,117]⟩,⟨#[106,116]⟩]
def Xx (p:Int):ByteArray:=if p<1∨37<p then ByteArray.empty else ZT.getD (p-1).toNat ByteArray.empty
def KY (p:Int):Bs:=if p<1∨37<p then [63] else (Xx p).data.toList
def WZ (t:ZH):Bs:=[116,105,108,101]++(32::KY t.pat++(dS t.cost++[10]))
def JS (l:List ZH):Bs:=l.flatMap WZ
def spl (c:UInt8):Bs→List Bs
 | []=>[[]]
 | x::r=>if x=c then []::spl c r else match spl c r with | []=>[[x]] | h::t=>(x::h)::t
def ZB (c:UInt8) (l:Bs):Bs:=l.takeWhile (fun x=>x != c)
def Xg (x:UInt8):Bool:=x==32||x==9
def fldGo:Bs→Bs→List Bs
 | cur,[]=>if cur=[] then [] else [cur]
 | cur,x::r=>if Xg x then (if cur=[] then fldGo [] r else cur::fldGo [] r) else fldGo (cur++[x]) r
def wordsOf (l:Bs):List ByteArray:=(fldGo [] (ZB 35 l)).map fun x=>⟨x.toArray⟩
def linesOf (s:Bs):List (List ByteArray):=(spl 10 s).map wordsOf
def ZS (w:ByteArray):Int:=(Z0 w.data.toList).getD 0
def Ya (w:ByteArray):Bool:=(Z0 w.data.toList).isSome
def numsW (l:List ByteArray):List Int:=l.map ZS
def ZZ (l:List ByteArray):Bool:=l.all Ya
def WC (w:ByteArray):Int:=1+Lib.idxOfS ZY w
def Y8:ByteArray:=⟨#[102,117,110,99]⟩
def YW:ByteArray:=⟨#[98,108,111,99,107]⟩
def Wv:ByteArray:=⟨#[112,104,105]⟩
def Wf:ByteArray:=⟨#[116,105,108,101]⟩
structure PSt where
 params:Int
 blocks:List Y1
 pl:Int
def onLast (s:PSt) (g:Y1→Y1):List Y1:=s.blocks.modify (s.blocks.length-1) g
def colons (w:ByteArray):Nat:=w.data.toList.count 58
def YQ (w:ByteArray):ByteArray:=⟨(ZB 58 w.data.toList).toArray⟩
def Yv (w:ByteArray):ByteArray:=⟨(w.data.toList.drop ((ZB 58 w.data.toList).length+1)).toArray⟩
def Xy (w:ByteArray):Int × Int:=(ZS (YQ w),ZS (Yv w))
def Wa (w:ByteArray):Bool:=Ya (YQ w)&&Ya (Yv w)
def phiSt (s:PSt) (l:List ByteArray):Except Int PSt:=
 match l with
 | []=>.error 70
 | d::r =>
  if r.all (fun w=>colons w==1) then
   (if Ya d&&r.all Wa then .ok ⟨s.params,onLast s (fun b=>⟨b.phis++[⟨ZS d,r.map Xy⟩],b.ins,b.term⟩),s.pl⟩ else .error 71)
  else .error 70
def least (op:Int):Nat:=if op=1 then 2 else if op=17 then 2 else if op=18 then 4 else 3
def most (op:Int):Nat:=if op=1 then 2 else if op=17 then 6 else if op=18 then 4 else 3
def YF (op:Int) (n:List Int):Zaq:=
 if op=1 then ⟨op,n.getD 0 0,0,[],n.getD 1 0⟩
 else if op=15 then ⟨op,n.getD 0 0,0,(n.drop 1).take 1,n.getD 2 0⟩
 else if op=16 then ⟨op,0,0,n.take 2,n.getD 2 0⟩
 else if op=17 then ⟨op,n.getD 0 0,0,n.drop 2,n.getD 1 0⟩
 else if op=18 then ⟨op,n.getD 0 0,n.getD 1 0,n.drop 2,0⟩
 else ⟨op,n.getD 0 0,0,n.drop 1,0⟩
def YZ (s:PSt) (op:Int) (l:List ByteArray):Except Int PSt:=
 if least op≤l.length∧l.length≤most op then
  (if ZZ l then .ok ⟨s.params,onLast s (fun b=>⟨b.phis,b.ins++[YF op (numsW l)],b.term⟩),3⟩ else .error 71)
 else .error 70
def Va (k:Int):Nat:=if k=1 then 1 else if k=2 then 3 else if k=3 then 2 else if k=4 then 0 else 1
def Jl (k:Int) (n:Nat):Nat:=if k=1 then 1 else if k=2 then 3 else if k=3 then n else 1
def YE (k:Int) (n:List Int):Kt:=
 if k=1 then ⟨k,[],n,0⟩ else if k=4 then ⟨k,n,[],0⟩ else if k=5 then ⟨k,[],[],n.getD 0 0⟩ else ⟨k,n.take 1,n.drop 1,0⟩
def YD (s:PSt) (k:Int) (l:List ByteArray):Except Int PSt:=
 if Va k≤l.length∧l.length≤Jl k l.length then
  (if ZZ l then .ok ⟨s.params,onLast s (fun b=>⟨b.phis,b.ins,YE k (numsW l)⟩),1⟩ else .error 71)
 else .error 70
def zeroBlk:Y1:=⟨[],[],⟨0,[],[],0⟩⟩
def ZD (s:PSt) (l:List ByteArray):Except Int PSt:=
 match l with
 | []=>.ok s
 | w::r =>
  if w=Y8 then
   (if s.pl=0∧r.length=1 then (if ZZ r then .ok ⟨(numsW r).getD 0 0,s.blocks,1⟩ else .error 71) else .error 70)
  else if w=YW then
   (if s.pl=1∧r.length=1 then (if ZZ r then (if (numsW r).getD 0 0=s.blocks.length then .ok ⟨s.params,s.blocks++[zeroBlk],2⟩ else .error 70) else .error 71) else .error 70)
  else if w=Wv then (if s.pl=2 then phiSt s r else .error 70)
  else if 0<Yp w then (if 2≤s.pl then YZ s (Yp w) r else .error 70)
  else if 0<WC w then (if 2≤s.pl then YD s (WC w) r else .error 70)
  else .error 72
def YO {σ:Type} (step:σ→List ByteArray→Except Int σ):Nat→σ→List (List ByteArray)→Except (Int × Int) σ
 | _,s,[]=>.ok s
 | i,s,l::r=>if l=[] then YO step (i+1) s r else match step s l with
  | .error e=>.error (i+1,e)
  | .ok t=>YO step (i+1) t r
structure Xm where
 f:DFn
 line:Int
 e:Int
def Yu (s:Bs):Xm:=
 match YO ZD 0 ⟨0,[],0⟩ (linesOf s) with
 | .error x=>⟨⟨0,[]⟩,x.1,x.2⟩
 | .ok t=>if t.pl=1∧t.blocks≠[] then ⟨⟨t.params,t.blocks⟩,0,0⟩ else ⟨⟨0,[]⟩,((linesOf s).length:Int),70⟩
def XO (w:ByteArray):Int:=1+Lib.idxOfS ZT w
def Yk (s:List ZH) (l:List ByteArray):Except Int (List ZH):=
 match l with
 | []=>.ok s
 | w::r =>
  if w=Wf then
   (if r.length=2 then
    (if 0<XO (r.getD 0 ByteArray.empty) then
     (if Ya (r.getD 1 ByteArray.empty) then .ok (s++[⟨XO (r.getD 0 ByteArray.empty),ZS (r.getD 1 ByteArray.empty)⟩]) else .error 71)
    else .error 72)
   else .error 70)
  else .error 72
structure X5 where
 l:List ZH
 line:Int
 e:Int
def XD (s:Bs):X5:=
 match YO Yk 0 [] (linesOf s) with
 | .error x=>⟨[],x.1,x.2⟩
 | .ok t=>⟨t,0,0⟩
example:(Yu [102,117,110,99,32,50,10,98,108,111,99,107,32,48,10,97,100,100,32,50,32,48,32,49,10,114,101,116,32,50,10]).e=0:=by decide +kernel
open Go.Lib
theorem Zgr (n b0 b1 b2 b3:Nat) (h:b0<128):decodeN n b0 b1 b2 b3=(b0,1):=by unfold decodeN;rw[if_pos h]
theorem Zfu (n b0 b1 b2 b3:Nat) (h:¬ b0<128):128≤(decodeN n b0 b1 b2 b3).1∧(decodeN n b0 b1 b2 b3).2≤4∧(1<(decodeN n b0 b1 b2 b3).2→128≤b1)∧(2<(decodeN n b0 b1 b2 b3).2→128≤b2)∧(3<(decodeN n b0 b1 b2 b3).2→128≤b3):=by
 unfold decodeN;rw[if_neg h];repeat' split
 all_goals (simp only;omega)
def Xf (r:Nat):Bool:=r==32||r==9
theorem ZcB (b:UInt8):Xf b.toNat=Xg b:=by
 unfold Xf Xg;congr 1
 iterate 2
  ·rw[Bool.eq_iff_iff];simp[←UInt8.toNat_inj]
theorem Ze0 (b:UInt8) (h:128≤b.toNat):Xg b=false:=by
 rw[←ZcB];unfold Xf;simp;omega
theorem Za1:∀ (a cur r:Bs),(∀ x∈a,Xg x=false)→fldGo cur (a++r)=fldGo (cur++a) r
 | [],cur,r,_=>by simp
 | x::a,cur,r,h=>by
  rw[List.cons_append,fldGo,if_neg (by rw[h x List.mem_cons_self];simp),Za1 a _ _ fun y hy=>h y (List.mem_cons_of_mem _ hy)]
  simp
theorem ZcU (l:Bs) (p:Nat) (h:p<l.length):l.drop p=l.getD p 0::l.drop (p+1):=by
 rw[List.drop_eq_getElem_cons h];simp[List.getD,h]
theorem Zd0 (s:ByteArray) (pos:Nat) (h:pos<s.size):(Xf (Utf8.decode s pos).1=true∧Xg (s.data.toList.getD pos 0)=true∧(Utf8.decode s pos).2=1) ∨
  (Xf (Utf8.decode s pos).1=false∧∀ x∈(s.data.toList.drop pos).take (Utf8.decode s pos).2,Xg x=false):=by
 have hs:s.data.toList.length=s.size:=(size_eq s).symm;generalize hL:s.data.toList=L at *;by_cases hb:(L.getD pos 0).toNat<128
 ·have hd:Utf8.decode s pos=((L.getD pos 0).toNat,1):=by rw[decode_N,hL,Zgr _ _ _ _ _ hb]
  rw[hd,ZcB]
  cases hq:Xg (L.getD pos 0)
  ·refine .inr ⟨rfl,fun x hx=>?_⟩;rw[ZcU L pos (by omega)]at hx;simp at hx;rw[hx];simpa using hq
  ·exact .inl ⟨rfl,rfl,rfl⟩
 ·have hd:=decode_N s pos;rw[hL]at hd;obtain⟨h1,h2,h3,h4,h5⟩:=Zfu (L.length-pos) (L.getD pos 0).toNat (L.getD (pos+1) 0).toNat (L.getD (pos+2) 0).toNat (L.getD (pos+3) 0).toNat hb;rw[←hd]at h1 h2 h3 h4 h5;refine .inr ⟨by unfold Xf;simp;omega,fun x hx=>Ze0 x ?_⟩;obtain⟨j,hj,rfl⟩:=List.getElem_of_mem hx;rw[List.getElem_take,List.getElem_drop];have hc:j<(Utf8.decode s pos).2:=by rw[List.length_take]at hj;omega
  have ha:pos+j<L.length:=by rw[List.length_take,List.length_drop]at hj;omega
  have e:L[pos+j]=L.getD (pos+j) 0:=by simp[List.getD,ha]
  rw[e];rcases (show j=0∨j=1∨j=2∨j=3 by omega) with rfl|rfl|rfl|rfl
  ·rw[Nat.add_zero];omega
  ·exact h3 (by omega)
  ·exact h4 (by omega)
  ·exact h5 (by omega)
theorem Zeu (cur:Bs):fldGo cur []=if cur=[] then [] else [cur]:=by rw[fldGo]
theorem Vb (s:ByteArray):∀ (f pos:Nat) (st:Option Nat) (acc:List (Nat × Nat)),s.size≤pos+f→pos≤s.size→(∀ a,st=some a→a<pos) →
  acc.map (fun p=>pieceU s.data.toList p.1 p.2)++fldGo (openPiece s.data.toList st pos) (s.data.toList.drop pos)=(closeSpans s (spansFromP Xf s f pos st acc)).map (fun p=>pieceU s.data.toList p.1 p.2)
 | f,pos,st,acc,h,hp,hst=>by
  by_cases ha:pos<s.size
  ·obtain⟨f,rfl⟩:∃ g,f=g+1:=⟨f-1,by omega⟩
   have hw:=width_pos s pos
   have hb:pos+(Utf8.decode s pos).2≤s.size:=by
    have:=decodeN_le_n' (s.size-pos) (s.get! pos).toNat (s.get! (pos+1)).toNat (s.get! (pos+2)).toNat (s.get! (pos+3)).toNat (by omega);rw[←decode_at]at this;omega
   have hL:pos<s.data.toList.length:=by rw[←size_eq];exact ha
   simp only[spansFromP,if_pos ha];rcases Zd0 s pos ha with ⟨h1,h2,h3⟩|⟨h1,h2⟩
   ·rw[h1,h3];simp only[if_true];rw[ZcU _ _ hL,fldGo,if_pos h2]
    cases st with
    | none =>
     have ih:=Vb s f (pos+1) none acc (by omega) (by omega) (fun a h=>by cases h);simpa [openPiece]using ih
    | some a =>
     have hc:=pieceU_ne s.data.toList a pos (hst a rfl) (by omega);have ih:=Vb s f (pos+1) none (acc++[(a,pos)]) (by omega) (by omega) (fun a h=>by cases h);simpa [openPiece,hc]using ih
   ·rw[h1];simp only[Bool.false_eq_true,if_false];have e0:s.data.toList.drop pos=(s.data.toList.drop pos).take (Utf8.decode s pos).2++s.data.toList.drop (pos+(Utf8.decode s pos).2):=by
     rw[←List.drop_drop,List.take_append_drop]
    rw[e0,Za1 _ _ _ h2]
    cases st with
    | none =>
     have ih:=Vb s f (pos+(Utf8.decode s pos).2) (some pos) acc (by omega) hb (fun a h=>by cases h;omega);have e:([]:List UInt8)++(s.data.toList.drop pos).take (Utf8.decode s pos).2=pieceU s.data.toList pos (pos+(Utf8.decode s pos).2):=by
      unfold pieceU;rw[List.nil_append,Nat.add_sub_cancel_left]
     simp only[openPiece]at ih ⊢;rw[e];exact ih
    | some a =>
     have ih:=Vb s f (pos+(Utf8.decode s pos).2) (some a) acc (by omega) hb (fun b h=>by cases h;have:=hst a rfl;omega);simp only[openPiece]at ih ⊢;rw[pieceU_grow _ _ _ _ (Nat.le_of_lt (hst a rfl))];exact ih
  ·obtain rfl:pos=s.size:=by omega
   have hd:s.data.toList.drop s.size=[]:=List.drop_eq_nil_of_le (by rw[←size_eq];exact Nat.le_refl _);rw[hd,Zeu,spansFromP_end _ s _ _ _ _ ha]
   cases st with
   | none=>simp[closeSpans,openPiece]
   | some a =>
    have:=pieceU_ne s.data.toList a s.size (hst a rfl) (by rw[←size_eq];exact Nat.le_refl _);simp[closeSpans,openPiece,this]
theorem ZbQ (s:ByteArray):goFieldsP Xf s=(fldGo [] s.data.toList).map fun x=>(⟨x.toArray⟩:ByteArray):=by
 have h:=Vb s s.size 0 none [] (by omega) (Nat.zero_le _) (fun a h=>by cases h);simp only[List.map_nil,List.nil_append,openPiece,List.drop_zero]at h;rw[h,List.map_map];unfold goFieldsP spansOfP;refine List.map_congr_left fun p _=>?_
 apply ByteArray.ext
 apply Array.toList_inj.mp
 simp[pieceU]
theorem J4 (c:UInt8) (r:Bs):index (c::r) [c]=0:=by rw[index];simp[List.isPrefixOf]
theorem J3 (x c:UInt8) (r:Bs) (h:x≠c):index (x::r) [c]=if index r [c]==-1 then -1 else index r [c]+1:=by
 have hp:([c]:List UInt8).isPrefixOf (x::r)=false:=by simp[List.isPrefixOf,Ne.symm h]
 rw[index,hp];simp
theorem Zdr {x c:UInt8} {r : Bs} (h:x≠c) (hm:index r [c]=-1):index (x::r) [c]=-1:=by rw[J3 x c r h,hm];rfl
theorem ZaY {x c:UInt8} {r : Bs} (h:x≠c) {j : Nat} (hm:index r [c]=j):index (x::r) [c]=((j+1:Nat):Int):=by
 rw[J3 x c r h,hm,if_neg (by simp)];omega
theorem ZaX {c : UInt8} {r : Bs} (h:index r [c]≠-1):∃ j:Nat,index r [c]=j:=by
 have:=index_ge r [c];exact⟨(index r [c]).toNat,by omega⟩
theorem ZaF (c:UInt8):∀ s:Bs,split s [c]=spl c s
 | []=>by unfold split;rw[count_miss (by simp[index])];rfl
 | x::r=>by
  have ih:=ZaF c r
  by_cases hx:x=c
  ·subst hx
   unfold split
   rw[count_cons_eq,Nat.add_comm,splitK,J4,if_neg (by decide),spl,if_pos rfl,←ih]
   rfl
  ·unfold split at ih ⊢
   rw[count_cons_ne x c r hx,spl,if_neg hx,←ih]
   cases hn:count r [c]with
   | zero=>rfl
   | succ k =>
    obtain⟨j,hj⟩:=ZaX (c:=c) (r:=r) fun e=>by rw[count_miss e]at hn;omega
    rw[splitK,splitK,ZaY hx hj,hj,if_neg (by simp;omega),if_neg (by simp)]
    rfl
theorem Kb (c:UInt8):∀ s:Bs,(cut s [c]).1=ZB c s∧(cut s [c]).2.1=s.drop ((ZB c s).length+1)
 | []=>by simp[cut,index,ZB]
 | x::r=>by
  obtain⟨h1,h2⟩:=Kb c r
  by_cases hx:x=c
  ·subst hx
   unfold cut
   rw[J4,if_pos (by decide)]
   simp[ZB]
  ·have ha:ZB c (x::r)=x::ZB c r:=by unfold ZB;rw[List.takeWhile_cons,if_pos (by simpa using hx)]
   rw[ha]
   unfold cut at h1 h2 ⊢
   by_cases hm:index r [c]=-1
   ·rw[hm,if_neg (by decide)]at h1 h2
    rw[Zdr hx hm,if_neg (by decide)]
    exact⟨congrArg (x::·) h1,h2⟩
   ·obtain⟨j,hj⟩:=ZaX hm
    rw[hj,if_pos (by omega)]at h1 h2
    rw[ZaY hx hj,if_pos (by omega)]
    rw[Int.toNat_natCast]at h1 h2 ⊢
    refine⟨congrArg (x::·) h1,?_⟩
    show (x::r).drop (j+1+1)=_
    exact h2
def mkB (l:Bs):ByteArray:=⟨l.toArray⟩
def Xd (l:List ByteArray) (now:Bs):List ByteArray:=if now=[] then l else l++[mkB now]
def emitL (n:Int) (l:List ByteArray):List (List ByteArray × Int):=if l=[] then [] else [(l,n)]
def Xr:Int→List ByteArray→Bs→Bool→Bs→List (List ByteArray × Int) × Int
 | n,l,now,note,[]=>(emitL n (Xd l now),n)
 | n,l,now,note,c::r =>
  if c=10 then (emitL n (Xd l now)++(Xr (n+1) [] [] false r).1,(Xr (n+1) [] [] false r).2)
  else if (note||c==35)=true then Xr n (Xd l now) [] true r
  else if Xg c=true then Xr n (Xd l now) [] false r
  else Xr n l (now++[c]) false r
def numd:Int→List (List ByteArray)→List (List ByteArray × Int)
 | _,[]=>[]
 | n,x::r=>emitL n x++numd (n+1) r
def wgo (now:Bs) (note:Bool) (h:Bs):List ByteArray:=if note=true then Xd [] now else (fldGo now (ZB 35 h)).map mkB
theorem Jq (l:List ByteArray) (now:Bs):Xd l now=l++Xd [] now:=by
 unfold Xd;by_cases h:now=[]<;>simp[h]
theorem Zcx (now:Bs) (note:Bool):wgo now note []=Xd [] now:=by
 unfold wgo
 cases note with
 | true=>rfl
 | false=>simp only[ZB,List.takeWhile_nil,fldGo,Xd];by_cases h:now=[]<;>simp[h]
theorem ZeK (now:Bs) (note:Bool) (c:UInt8) (h:Bs) (hc:(note||c==35)=true):wgo now note (c::h)=Xd [] now++wgo [] true h:=by
 unfold wgo
 cases note with
 | true=>simp[Xd]
 | false =>
  have:c=35:=by simpa using hc
  subst this;have e:ZB 35 (35::h)=[]:=by unfold ZB;simp
  rw[e];simp only[fldGo,Xd];by_cases h:now=[]<;>simp[h]
theorem ZfN (now:Bs) (c:UInt8) (h:Bs) (hn:(false||c==35)=false) (hc:Xg c=true):wgo now false (c::h)=Xd [] now++wgo [] false h:=by
 have ha:(c != 35)=true:=by simpa using hn
 have e:ZB 35 (c::h)=c::ZB 35 h:=by unfold ZB;rw[List.takeWhile_cons];rw[if_pos ha]
 unfold wgo;simp only[e,fldGo,hc,if_true,Xd];by_cases h:now=[]<;>simp[h]
theorem ZdP (now:Bs) (c:UInt8) (h:Bs) (hn:(false||c==35)=false) (hc:¬ Xg c=true):wgo now false (c::h)=wgo (now++[c]) false h:=by
 have ha:(c != 35)=true:=by simpa using hn
 have e:ZB 35 (c::h)=c::ZB 35 h:=by unfold ZB;rw[List.takeWhile_cons];rw[if_pos ha]
 unfold wgo;simp only[e,fldGo,if_neg hc];rfl
theorem KU (c:UInt8):∀ l:Bs,∃ h t,spl c l=h::t
 | []=>⟨[],[],rfl⟩
 | x::r=>by
  obtain⟨h,t,e⟩:=KU c r
  unfold spl
  by_cases hx:x=c
  ·exact⟨[],spl c r,by rw[if_pos hx]⟩
  ·exact⟨x::h,t,by rw[if_neg hx,e]⟩
theorem ZgI (c:UInt8) (r:Bs):spl c (c::r)=[]::spl c r:=by rw[spl,if_pos rfl]
theorem ZeV {c x:UInt8} {r h:Bs} {t : List Bs} (hx:¬ x=c) (e:spl c r=h::t):spl c (x::r)=(x::h)::t:=by rw[spl,if_neg hx,e]
theorem VL:∀ (s:Bs) (n:Int) (l:List ByteArray) (now:Bs) (note:Bool) (h:Bs) (t:List Bs),spl 10 s=h::t →
  Xr n l now note s=(emitL n (l++wgo now note h)++numd (n+1) (t.map wordsOf),n+t.length)
 | [],n,l,now,note,h,t,e=>by
  simp only[spl,List.cons.injEq]at e
  obtain⟨rfl,rfl⟩:=e
  rw[Xr,Zcx,Jq]
  simp[numd]
 | c::r,n,l,now,note,h,t,e=>by
  obtain⟨h2,t2,e2⟩:=KU 10 r
  rw[Xr]
  by_cases hc:c=10
  ·subst hc
   rw[ZgI]at e
   simp only[List.cons.injEq]at e
   obtain⟨rfl,rfl⟩:=e
   rw[if_pos rfl,VL r (n+1) [] [] false h2 t2 e2,Zcx,Jq,e2]
   simp only[List.nil_append,List.map_cons,numd,List.length_cons]
   have:wgo [] false h2=wordsOf h2:=rfl
   rw[this]
   refine Prod.ext rfl ?_
   show n+1+(t2.length:Int)=n+((t2.length+1:Nat):Int)
   omega
  ·rw[ZeV hc e2]at e
   simp only[List.cons.injEq]at e
   obtain⟨rfl,rfl⟩:=e
   rw[if_neg hc]
   cases hn:(note||c==35) with
   | true =>
    rw[if_pos rfl,VL r n _ [] true h2 t2 e2,ZeK now note c h2 hn,Jq l now,List.append_assoc]
   | false =>
    have ha:note=false:=by cases note<;>simp_all
    subst ha
    rw[if_neg (by simp)]
    by_cases hs:Xg c=true
    ·rw[if_pos hs,VL r n _ [] false h2 t2 e2,ZfN now c h2 hn hs,Jq l now,List.append_assoc]
    ·rw[if_neg hs,VL r n l _ false h2 t2 e2,ZdP now c h2 hn hs]
theorem Zdo (s:Bs):Xr 1 [] [] false s=(numd 1 (linesOf s),((linesOf s).length:Int)):=by
 obtain⟨h,t,e⟩:=KU 10 s;rw[VL s 1 [] [] false h t e];unfold linesOf;rw[e];have:wgo [] false h=wordsOf h:=rfl;simp only[List.nil_append,this,List.map_cons,numd,List.length_cons,List.length_map];refine Prod.ext rfl ?_;show 1+(t.length:Int)=((t.length+1:Nat):Int)
 omega
def YK {σ:Type} (step:σ→List ByteArray→Except Int σ):σ→List (List ByteArray × Int)→Except (Int × Int) σ
 | s,[]=>.ok s
 | s,x::r=>match step s x.1 with
  | .error e=>.error (x.2,e)
  | .ok t=>YK step t r
theorem V0 {σ:Type} (step:σ→List ByteArray→Except Int σ):∀ (L:List (List ByteArray)) (i:Nat) (s:σ),YO step i s L=YK step s (numd ((i:Int)+1) L)
 | [],i,s=>rfl
 | l::r,i,s=>by
  rw[YO,numd]
  have e:(((i+1:Nat):Int)+1)=(i:Int)+1+1:=by omega
  by_cases h:l=[]
  ·rw[if_pos h,V0 step r (i+1) s,emitL,if_pos h,List.nil_append,e]
  ·rw[if_neg h,emitL,if_neg h,List.singleton_append,YK]
   cases hs:step s l with
   | error n=>rfl
   | ok t =>
    simp only[]
    rw[V0 step r (i+1) t,e]
theorem ZaH {σ:Type} (step:σ→List ByteArray→Except Int σ):∀ (l:List (List ByteArray × Int)) (s:σ) (x:List ByteArray × Int),YK step s (l++[x])=match YK step s l with
  | .error e=>.error e
  | .ok t=>(match step t x.1 with | .error e=>.error (x.2,e) | .ok u=>.ok u)
 | [],s,x=>by
  simp only[List.nil_append,YK]
 | y::r,s,x=>by
  rw[List.cons_append,YK,YK]
  cases step s y.1 with
  | error e=>rfl
  | ok t=>exact ZaH step r t x
theorem Qo {σ:Type} (step:σ→List ByteArray→Except Int σ):∀ (l r:List (List ByteArray × Int)) (s:σ) (e:Int × Int),YK step s l=.error e→YK step s (l++r)=.error e
 | [],_,_,_,h=>by cases h
 | x::l,r,s,e,h=>by
  rw[List.cons_append]
  rw[YK]at h ⊢
  cases hs:step s x.1 with
  | error n=>rw[hs]at h;exact h
  | ok t=>rw[hs]at h;exact Qo step l r t e h
theorem J7:∀ (l cur:Bs),(fldGo cur l).length≤l.length+(if cur=[] then 0 else 1)
 | [],cur=>by unfold fldGo;by_cases h:cur=[]<;>simp[h]
 | x::r,cur=>by
  unfold fldGo
  by_cases hx:Xg x=true
  ·rw[if_pos hx]
   have h0:=J7 r []
   rw[if_pos rfl]at h0
   by_cases h:cur=[]
   ·rw[if_pos h,if_pos h];simp only[List.length_cons];omega
   ·rw[if_neg h,if_neg h];simp only[List.length_cons];omega
  ·rw[if_neg hx]
   have h0:=J7 r (cur++[x])
   rw[if_neg (by simp)]at h0
   simp only[List.length_cons]
   omega
theorem Kx (l:Bs):(wordsOf l).length≤l.length:=by
 unfold wordsOf;rw[List.length_map];have h:=J7 (ZB 35 l) [];rw[if_pos rfl]at h;have h2:(ZB 35 l).length≤l.length:=by unfold ZB;exact (List.takeWhile_sublist _).length_le
 omega
theorem W2 (c:UInt8):∀ (s:Bs),∀ x∈spl c s,x.length≤s.length
 | [],x,hx=>by simp[spl]at hx;simp[hx]
 | y::r,x,hx=>by
  rw[spl]at hx
  by_cases hy:y=c
  ·rw[if_pos hy]at hx
   rcases List.mem_cons.1 hx with h|h
   ·subst h;simp
   ·have:=W2 c r x h;simp only[List.length_cons];omega
  ·rw[if_neg hy]at hx
   have ih:=W2 c r
   cases hs:spl c r with
   | nil=>rw[hs]at hx;simp at hx;simp[hx]
   | cons h t =>
    rw[hs]at hx ih
    rcases List.mem_cons.1 hx with h1|h1
    ·have:=ih h (by simp);subst h1;simp only[List.length_cons];omega
    ·have:=ih x (by simp[h1]);simp only[List.length_cons];omega
theorem Zcz (c:UInt8):∀ (s:Bs),(spl c s).length≤s.length+1
 | []=>by simp[spl]
 | y::r=>by
  rw[spl]
  have ih:=Zcz c r
  by_cases hy:y=c
  ·rw[if_pos hy];simp only[List.length_cons];omega
  ·rw[if_neg hy]
   cases hs:spl c r with
   | nil=>simp
   | cons h t=>rw[hs]at ih;simp only[List.length_cons]at ih ⊢;omega
theorem W4 (s:Bs):(linesOf s).length≤s.length+1:=by unfold linesOf;rw[List.length_map];exact Zcz 10 s
theorem KK (s:Bs):∀ l∈linesOf s,l.length≤s.length:=fun l hl=>by
 obtain⟨x,hx,rfl⟩:=List.mem_map.1 hl
 have:=Kx x
 have:=W2 10 s x hx
 omega
theorem Ju:∀ (L:List (List ByteArray)) (n:Int),∀ x∈numd n L,x.1∈L∧x.1≠[]
 | [],_,x,hx=>by cases hx
 | l::r,n,x,hx=>by
  rw[numd]at hx
  rcases List.mem_append.1 hx with h|h
  ·unfold emitL at h
   by_cases hl:l=[]
   ·rw[if_pos hl]at h;cases h
   ·rw[if_neg hl]at h
    rw[List.mem_singleton.1 h]
    exact⟨by simp,hl⟩
  ·have:=Ju r (n+1) x h
   exact⟨List.mem_cons_of_mem _ this.1,this.2⟩
theorem Jv:∀ (L:List (List ByteArray)) (n:Int),(numd n L).length≤L.length
 | [],_=>Nat.le_refl _
 | l::r,n=>by
  rw[numd,List.length_append,List.length_cons]
  have:=Jv r (n+1)
  have:(emitL n l).length≤1:=by unfold emitL;by_cases h:l=[]<;>simp[h]
  omega
structure FewSt (n:Nat) (s:PSt):Prop where
 bl:s.blocks.length≤n
 each:∀ b∈s.blocks,b.phis.length≤n∧b.ins.length≤n
 pl:0≤s.pl∧s.pl≤3∧(2≤s.pl→s.blocks≠[])
theorem Jx {α:Type} {g : α→α}:∀ (l:List α) (i:Nat) (x:α),x∈l.modify i g→x∈l∨∃ y∈l,x=g y
 | [],i,x,h=>by simp at h
 | y::r,0,x,h=>by
  simp only[List.modify_zero_cons,List.mem_cons]at h
  rcases h with h|h
  ·exact .inr ⟨y,by simp,h⟩
  ·exact .inl (by simp[h])
 | y::r,i+1,x,h=>by
  simp only[List.modify_succ_cons,List.mem_cons]at h
  rcases h with h|h
  ·exact .inl (by simp[h])
  ·rcases Jx r i x h with h|⟨z,hz,e⟩
   ·exact .inl (by simp[h])
   ·exact .inr ⟨z,by simp[hz],e⟩
theorem FewSt.more {n : Nat} {s : PSt} (h:FewSt n s):FewSt (n+1) s:=⟨by have:=h.bl;omega,fun b hb=>by have:=h.each b hb;omega,h.pl⟩
theorem FewSt.last {n : Nat} {s : PSt} (h:FewSt n s) (g:Y1→Y1) (hg:∀ b,(g b).phis.length≤b.phis.length+1∧(g b).ins.length≤b.ins.length+1) (k:Int) (hk:0≤k∧k≤3∧(2≤k→s.blocks≠[])) (p:Int):FewSt (n+1) ⟨p,onLast s g,k⟩:=by
 refine⟨?_,fun b hb=>?_,hk.1,hk.2.1,fun h2=>?_⟩
 ·show (onLast s g).length≤n+1
  unfold onLast;rw[List.length_modify];have:=h.bl;omega
 ·rcases Jx _ _ _ hb with h1|⟨y,hy,rfl⟩
  ·have:=h.each b h1;omega
  ·have:=h.each y hy;have:=hg y;omega
 ·show onLast s g≠[]
  have h3:=hk.2.2 h2;unfold onLast;intro e;apply h3
  rw[←List.length_eq_zero_iff]at e ⊢
  rwa [List.length_modify]at e
theorem FewSt.step {n : Nat} {s t:PSt} {l : List ByteArray} (h:FewSt n s) (hs:ZD s l=.ok t):FewSt (n+1) t:=by
 unfold ZD at hs;split at hs
 ·cases hs;exact h.more
 ·rename_i w r
  split at hs
  ·split at hs
   ·split at hs
    ·cases hs;exact⟨by have:=h.bl;show s.blocks.length≤n+1;omega,fun b hb=>(by have:=h.each b hb;omega),(show (0:Int)≤1 from by decide),(show (1:Int)≤3 from by decide),fun h=>absurd (show (2:Int)≤1 from h) (by decide)⟩
    ·cases hs
   ·cases hs
  ·split at hs
   ·split at hs
    ·split at hs
     ·split at hs
      ·cases hs
       refine⟨by have:=h.bl;show (s.blocks++[zeroBlk]).length≤n+1;simp;omega,fun b hb=>?_,(show (0:Int)≤2 from by decide),(show (2:Int)≤3 from by decide),fun _=>by simp⟩;rcases List.mem_append.1 hb with h1|h1
       ·have:=h.each b h1;omega
       ·rw[List.mem_singleton.1 h1];simp[zeroBlk]
      ·cases hs
     ·cases hs
    ·cases hs
   ·split at hs
    ·split at hs
     ·rename_i hpl
      unfold phiSt at hs;split at hs
      ·cases hs
      ·split at hs
       ·split at hs
        ·cases hs
         exact h.last _ (fun b=>by simp) _ h.pl _
        ·cases hs
       ·cases hs
     ·cases hs
    ·split at hs
     ·split at hs
      ·rename_i hpl
       unfold YZ at hs;split at hs
       ·split at hs
        ·cases hs
         exact h.last _ (fun b=>by simp) _ ⟨by decide,by decide,fun _=>h.pl.2.2 hpl⟩ _
        ·cases hs
       ·cases hs
      ·cases hs
     ·split at hs
      ·split at hs
       ·rename_i hpl
        unfold YD at hs;split at hs
        ·split at hs
         ·cases hs
          exact h.last _ (fun b=>by simp) _ ⟨by decide,by decide,fun h=>absurd h (by decide)⟩ _
         ·cases hs
        ·cases hs
       ·cases hs
      ·cases hs
theorem FewSt.start:FewSt 0 ⟨0,[],0⟩:=⟨Nat.le_refl _,fun b hb=>(by cases hb),(show (0:Int)≤0 from by decide),(show (0:Int)≤3 from by decide),fun h=>absurd (show (2:Int)≤0 from h) (by decide)⟩
end Go.Proofs.YtmhojfpidedjeaaGreatDoor
