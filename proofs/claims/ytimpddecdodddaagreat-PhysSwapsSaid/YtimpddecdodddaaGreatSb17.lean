import Derived.Test.YtimpddecdodddaaGreatSb16
import Derived.Laws.BitsLemmas
namespace Go.Proofs.YtimpddecdodddaaGreat
open Go.RowKit Go.Lib
set_option linter.unusedVariables false
set_option maxHeartbeats 4000000
set_option maxRecDepth 100000
theorem zG {P:Prop} (h:P:=by
 go_wp2_with fail
 go_quiet (fail)
 go_wp2_with fail
 go_quiet (fail)
 go_wp2
 go_ret
 exact⟨rfl,(HM.out.keep (Since.drewN (Since.refl w) _)).next,(Turn.since (Since.drewN (Since.refl w) _)).trans ((Turn.refl (fun q=>q=mb) _).setCell (p:=⟨mb,1,none⟩) rfl _),by rw[YV];rfl⟩):P:=h
theorem zU {P:Prop} (h:P:=by
 go_wp2_with fail
 go_quiet (fail)
 go_wp2
 go_ret
 exact⟨rfl,(HM.out.keep (Since.drewN (Since.refl w) _)).next,(Turn.since (Since.drewN (Since.refl w) _)).trans ((Turn.refl (fun q=>q=mb) _).setCell (p:=⟨mb,1,none⟩) rfl _),by rw[YV];rfl⟩):P:=h
theorem qr {P:Prop} (h:P:=by
 go_wp2_with fail
 go_quiet (fail)
 go_wp2
 go_roundw
 case rel=>exact⟨k+1,by omega,by go_num,HS.out.trans (Since.drewN (Since.refl _) _)⟩
 case measure=>simp[intOf];omega):P:=h
theorem q5 {P:Prop} (h:P:=by
 obtain⟨h0,h1|⟨g,c,u,h1,h2,h3⟩⟩:=h
 ·exact⟨h0,.inl h1⟩
 ·exact⟨h0,.inr ⟨g,c,u,h1,Nat.le_trans hb h2,h3⟩⟩):P:=h
theorem jL {P:Prop} (h:P:=by
 go_wp2
 go_ret
 exact⟨rfl,HQ.out⟩):P:=h
def swapP (x y:Value):Z2:=⟨2,4,0,[⟨[⟨⟨2,0,0,0,1,0,0,[]⟩,.slice none 0 0,0⟩,⟨⟨6,0,0,0,1,0,0,[]⟩,.slice none 0 0,0⟩],x,⟨7,0,0,[],.slice none 0 0,0⟩⟩],y⟩
theorem Zay {α:Type} {f : α→List Value} {sz:Nat} {p : World→α→Prop} (hf:∀ x,(f x).length=sz) {w : World} {b : Nat} {l : List α} {T : TypeId} (hb:HeapIs w b (l.flatMap f).toArray T) (hm:l.length≤maxLen) (hp:∀ x∈l,p w x):RowIn f sz p w (.slice (some ⟨b,0,none⟩) l.length l.length) l:=by
 refine .inr ⟨b,0,l.length,rfl,Nat.le_refl _,hm,hb.lt,fun j x hj=>⟨fun t ht=>?_,hp x (List.mem_of_getElem? hj)⟩⟩
 rw[Nat.zero_add,hb.cell];simp only[List.getElem?_toArray];exact XQ f sz hf l j t x hj ht
def Zfh (w:World) (e:Ending) (w':World):Prop:=∃ x y,e=.returned (pv (swapP x y))∧Xu w' (swapP x y)∧Since w w'∧∃ b,y=.slice (some ⟨b,0,none⟩) 1 1
theorem Vr (w:World):Calls Tryz.prog 28 #[] w (Zfh w):=by
 go_enter Tryz.func28,Tryz.ntmps28
 go_wp2
 have h1:HeapIs ((w.alloc (.cells #[.int .i64 2,.int .i64 4,.int .i64 0,.slice (some ⟨w.heap.size+1+1,0,none⟩) 1 1] 27)).alloc (.cells #[.int .i64 2,.int .i64 0,.int .i64 0,.int .i64 0,.int .i64 1,.int .i64 0,.int .i32 0,.slice none 0 0,.int .i64 0,.int .i64 6,.int .i64 0,.int .i64 0,.int .i64 0,.int .i64 1,.int .i64 0,.int .i32 0,.slice none 0 0,.int .i64 0] 38)) (w.heap.size+1) #[.int .i64 2,.int .i64 0,.int .i64 0,.int .i64 0,.int .i64 1,.int .i64 0,.int .i32 0,.slice none 0 0,.int .i64 0,.int .i64 6,.int .i64 0,.int .i64 0,.int .i64 0,.int .i64 1,.int .i64 0,.int .i32 0,.slice none 0 0,.int .i64 0] 38:=by
  have:=HeapIs.new (w.alloc (.cells #[.int .i64 2,.int .i64 4,.int .i64 0,.slice (some ⟨w.heap.size+1+1,0,none⟩) 1 1] 27)) #[.int .i64 2,.int .i64 0,.int .i64 0,.int .i64 0,.int .i64 1,.int .i64 0,.int .i32 0,.slice none 0 0,.int .i64 0,.int .i64 6,.int .i64 0,.int .i64 0,.int .i64 0,.int .i64 1,.int .i64 0,.int .i32 0,.slice none 0 0,.int .i64 0] 38
  rwa [show (w.alloc (.cells #[.int .i64 2,.int .i64 4,.int .i64 0,.slice (some ⟨w.heap.size+1+1,0,none⟩) 1 1] 27)).heap.size=w.heap.size+1 from by simp]at this
 have h2:HeapIs (((w.alloc (.cells #[.int .i64 2,.int .i64 4,.int .i64 0,.slice (some ⟨w.heap.size+1+1,0,none⟩) 1 1] 27)).alloc (.cells #[.int .i64 2,.int .i64 0,.int .i64 0,.int .i64 0,.int .i64 1,.int .i64 0,.int .i32 0,.slice none 0 0,.int .i64 0,.int .i64 6,.int .i64 0,.int .i64 0,.int .i64 0,.int .i64 1,.int .i64 0,.int .i32 0,.slice none 0 0,.int .i64 0] 38)).alloc (.cells #[.slice (some ⟨w.heap.size+1,0,none⟩) 2 2,.int .i64 7,.int .i64 0,.int .i64 0,.slice none 0 0,.int .i32 0] 34)) (w.heap.size+1+1) #[.slice (some ⟨w.heap.size+1,0,none⟩) 2 2,.int .i64 7,.int .i64 0,.int .i64 0,.slice none 0 0,.int .i32 0] 34:=by
  have:=HeapIs.new ((w.alloc (.cells #[.int .i64 2,.int .i64 4,.int .i64 0,.slice (some ⟨w.heap.size+1+1,0,none⟩) 1 1] 27)).alloc (.cells #[.int .i64 2,.int .i64 0,.int .i64 0,.int .i64 0,.int .i64 1,.int .i64 0,.int .i32 0,.slice none 0 0,.int .i64 0,.int .i64 6,.int .i64 0,.int .i64 0,.int .i64 0,.int .i64 1,.int .i64 0,.int .i32 0,.slice none 0 0,.int .i64 0] 38)) #[.slice (some ⟨w.heap.size+1,0,none⟩) 2 2,.int .i64 7,.int .i64 0,.int .i64 0,.slice none 0 0,.int .i32 0] 34
  rwa [show ((w.alloc (.cells #[.int .i64 2,.int .i64 4,.int .i64 0,.slice (some ⟨w.heap.size+1+1,0,none⟩) 1 1] 27)).alloc (.cells #[.int .i64 2,.int .i64 0,.int .i64 0,.int .i64 0,.int .i64 1,.int .i64 0,.int .i32 0,.slice none 0 0,.int .i64 0,.int .i64 6,.int .i64 0,.int .i64 0,.int .i64 0,.int .i64 1,.int .i64 0,.int .i32 0,.slice none 0 0,.int .i64 0] 38)).heap.size=w.heap.size+1+1 from by simp]at this
 have hs:Since w (((w.alloc (.cells #[.int .i64 2,.int .i64 4,.int .i64 0,.slice (some ⟨w.heap.size+1+1,0,none⟩) 1 1] 27)).alloc (.cells #[.int .i64 2,.int .i64 0,.int .i64 0,.int .i64 0,.int .i64 1,.int .i64 0,.int .i32 0,.slice none 0 0,.int .i64 0,.int .i64 6,.int .i64 0,.int .i64 0,.int .i64 0,.int .i64 1,.int .i64 0,.int .i32 0,.slice none 0 0,.int .i64 0] 38)).alloc (.cells #[.slice (some ⟨w.heap.size+1,0,none⟩) 2 2,.int .i64 7,.int .i64 0,.int .i64 0,.slice none 0 0,.int .i32 0] 34)):=(((Since.refl w).alloc _).alloc _).alloc _;have hP:Xu (((w.alloc (.cells #[.int .i64 2,.int .i64 4,.int .i64 0,.slice (some ⟨w.heap.size+1+1,0,none⟩) 1 1] 27)).alloc (.cells #[.int .i64 2,.int .i64 0,.int .i64 0,.int .i64 0,.int .i64 1,.int .i64 0,.int .i32 0,.slice none 0 0,.int .i64 0,.int .i64 6,.int .i64 0,.int .i64 0,.int .i64 0,.int .i64 1,.int .i64 0,.int .i32 0,.slice none 0 0,.int .i64 0] 38)).alloc (.cells #[.slice (some ⟨w.heap.size+1,0,none⟩) 2 2,.int .i64 7,.int .i64 0,.int .i64 0,.slice none 0 0,.int .i32 0] 34)) (swapP (.slice (some ⟨w.heap.size+1,0,none⟩) 2 2) (.slice (some ⟨w.heap.size+1+1,0,none⟩) 1 1)):=by
  refine⟨Zay (l:=(swapP (.slice (some ⟨w.heap.size+1,0,none⟩) 2 2) (.slice (some ⟨w.heap.size+1+1,0,none⟩) 1 1)).blocks) YE (T:=34) h2 (show 1≤maxLen by decide) fun b hb=>?_,show 1≤100000 by decide⟩;obtain rfl:=List.mem_singleton.1 hb;refine⟨Zay (l:=[⟨⟨2,0,0,0,1,0,0,[]⟩,.slice none 0 0,0⟩,⟨⟨6,0,0,0,1,0,0,[]⟩,.slice none 0 0,0⟩]) ZE (T:=38) (h1.keep ((Since.refl _).alloc _)) kS fun x hx=>?_,.nil _ _,show 2≤100000 by decide⟩;simp only[List.mem_cons,List.not_mem_nil,or_false]at hx;rcases hx with rfl|rfl;iterate 2
   ·exact⟨.nil _ _,⟨kS,kS,kS⟩,fun q (hq:none=some q)=>(nomatch hq)⟩
 exact bodyPost_ret (v:=pv (swapP (.slice (some ⟨w.heap.size+1,0,none⟩) 2 2) (.slice (some ⟨w.heap.size+1+1,0,none⟩) 1 1))) (by simp[results,Tryz.results28,go_sem,pv,swapP]) rfl ⟨_,_,rfl,hP,hs,_,rfl⟩
theorem Qk (va vb:Value) (l:List Int) (w:World) (ha:Zi w va l) (hb:Zi w vb l) (hl:l.length≤1000):Calls Tryz.prog 33 #[va,vb] w (TellsS true w):=by
 obtain⟨aa,ac,rfl⟩:=Zb ha;obtain⟨ba,bc,rfl⟩:=Zb hb;have HA:=hid ha;clear ha;have HB:=hid hb;clear hb;generalize hn:l.length=n at *;have HN:=hid hn;clear hn;go_enter Tryz.func33,Tryz.ntmps33
 go_wp2
 go_loopw [5] (fun i wr=>∃ k:Nat,k≤n∧i=.int .i64 k∧Since w wr) (fun i _=>n-(intOf i).toNat)
 case atStart=>exact⟨0,Nat.zero_le _,rfl,.refl _⟩
 case round =>
  obtain⟨k,hk,rfl,hs⟩:=hrel;have HS:=hid hs;by_cases hh:k<n
  ·have he:l≠[]:=by intro e;have:=HN.out;rw[e]at this;simp at this;omega
   obtain⟨_,h1⟩:=Zx (HN.out ▸ HA.out.keep hs);obtain⟨B,off,rfl,hB,hd⟩:=h1 he;obtain⟨_,h2⟩:=Zx (HN.out ▸ HB.out.keep hs);obtain⟨B2,off2,rfl,hf,hc⟩:=h2 he;obtain⟨x,hx⟩:∃ x,l[k]? = some x:=⟨_,List.getElem?_eq_getElem (by have:=HN.out;omega)⟩
   have c1:=hd k x hx;have c2:=hc k x hx;have hg:(x != x)=false:=by simp
   clear hd hc h1 h2 hs hB hf hx;exact qr
  ·obtain rfl:k=n:=kT
   exact jM
def KD (e v st:Int) (w:World) (en:Ending) (w':World):Prop:=∃ a n c b m d,en=.returned (.agg #[.int .i64 e,.int .i32 v,.slice a n c,.slice b m d,.int .i64 st])∧Since w w'
theorem QU {p : Z2} {i : InV} {w : World} {e v st:Int} {o : VV} (hp:Xu w p) (hi:VX w i) (h:YW p i=o) (he:o.e=e) (hv:o.v=v) (hs:o.steps=st):Calls Tryz.prog 13 #[pv p,iv i] w (KD e v st w):=by
 refine (Zax p i w hp hi).mono ?_;rintro en w' ⟨x,rfl,⟨mv,cv,rfl,hm,hc,_⟩,ha⟩;obtain⟨a,c,rfl,_⟩:=hm.shape;obtain⟨evs,hb,_⟩:=hc;obtain⟨b,d,hd⟩:=OwnRow.shape hb;subst hd;rw[h,he,hv,hs];exact⟨_,_,_,_,_,_,rfl,ha⟩
def Zac (b:Nat) (n:Int):InV:=⟨[5,9],.slice (some ⟨b,0,none⟩) 2 2,[],.slice none 0 0,[],.slice none 0 0,n⟩
theorem ZaB {w : World} {b : Nat} {n : Int} (h:Zt .i32 w (.slice (some ⟨b,0,none⟩) 2 2) [5,9]) (hn:n≤1000000):VX w (Zac b n):=by
 refine⟨⟨h,.nil _ _,.nil _ _⟩,⟨?_,?_,?_⟩,hn⟩
 ·intro x hx;have ha:x∈[(5:Int),9]:=hx;simp only[List.mem_cons,List.not_mem_nil,or_false]at ha;rcases ha with rfl|rfl<;>exact⟨kS,kS⟩
 iterate 2
  ·intro x hx;cases hx
theorem Zdu (x y:Value) (b:Nat):YW (swapP x y) (Zac b 3)=⟨1,4,[],[],3⟩:=by kernel_rfl
theorem Zdv (x y:Value) (b:Nat):YW (swapP x y) (Zac b 2)=⟨3,0,[],[],2⟩:=by rfl
def noP:Z2:=⟨0,0,0,[],.slice none 0 0⟩
def noI:InV:=⟨[],.slice none 0 0,[],.slice none 0 0,[],.slice none 0 0,0⟩
theorem Zef:YW noP noI=⟨4,0,[],[],0⟩:=by rfl
theorem Zem (w:World):Xu w noP:=⟨.inl ⟨none,rfl,rfl⟩,kS⟩
theorem Zen (w:World):VX w noI:=⟨⟨.nil _ _,.nil _ _,.nil _ _⟩,⟨fun x h=>(by cases h),fun x h=>(by cases h),fun x h=>(by cases h)⟩,kS⟩
theorem run3 (x:Value) (yb b:Nat) (w:World) (hp:Xu w (swapP x (.slice (some ⟨yb,0,none⟩) 1 1))) (hn:Zt .i32 w (.slice (some ⟨b,0,none⟩) 2 2) [5,9]) :
  Calls Tryz.prog 13 #[.agg #[.int .i64 2,.int .i64 4,.int .i64 0,.slice (some ⟨yb,0,none⟩) 1 1],.agg #[.slice (some ⟨b,0,none⟩) 2 2,.slice none 0 0,.slice none 0 0,.int .i64 3]] w (KD 1 4 3 w):=QU (p:=swapP x (.slice (some ⟨yb,0,none⟩) 1 1)) (i:=Zac b 3) (o:=⟨1,4,[],[],3⟩) hp (ZaB hn kS) (Zdu x _ b) rfl rfl rfl
theorem run2 (x:Value) (yb b:Nat) (w:World) (hp:Xu w (swapP x (.slice (some ⟨yb,0,none⟩) 1 1))) (hn:Zt .i32 w (.slice (some ⟨b,0,none⟩) 2 2) [5,9]) :
  Calls Tryz.prog 13 #[.agg #[.int .i64 2,.int .i64 4,.int .i64 0,.slice (some ⟨yb,0,none⟩) 1 1],.agg #[.slice (some ⟨b,0,none⟩) 2 2,.slice none 0 0,.slice none 0 0,.int .i64 2]] w (KD 3 0 2 w):=QU (p:=swapP x (.slice (some ⟨yb,0,none⟩) 1 1)) (i:=Zac b 2) (o:=⟨3,0,[],[],2⟩) hp (ZaB hn kS) (Zdv x _ b) rfl rfl rfl
theorem run0 (w:World):Calls Tryz.prog 13 #[.agg #[.int .i64 0,.int .i64 0,.int .i64 0,.slice none 0 0],.agg #[.slice none 0 0,.slice none 0 0,.slice none 0 0,.int .i64 0]] w (KD 4 0 0 w):=QU (p:=noP) (i:=noI) (o:=⟨4,0,[],[],0⟩) (Zem w) (Zen w) Zef rfl rfl rfl
theorem rightSw (x:Value) (yb:Nat) (w:World) (hp:Xu w (swapP x (.slice (some ⟨yb,0,none⟩) 1 1))):Calls Tryz.prog 34 #[.agg #[.int .i64 2,.int .i64 4,.int .i64 0,.slice (some ⟨yb,0,none⟩) 1 1]] w (TellsS true w):=Qf _ w hp
theorem Zfr (b:Nat) (w:World) (h:Zi w (.slice (some ⟨b,0,none⟩) 1 1) [1]):Calls Tryz.prog 29 #[.agg #[.int .i64 28,.int .i64 0,.int .i64 0,.int .i64 0,.int .i64 0,.int .i64 0,.int .i32 0,.slice (some ⟨b,0,none⟩) 1 1],.int .i64 4,.int .i64 0] w (NumP 30 w):=KY ⟨28,0,0,0,0,0,0,[1]⟩ _ 4 0 w h ⟨kS,kS,kS⟩
theorem ins2 (w:World):Calls Tryz.prog 29 #[.agg #[.int .i64 31,.int .i64 0,.int .i64 0,.int .i64 0,.int .i64 0,.int .i64 0,.int .i32 2,.slice none 0 0],.int .i64 4,.int .i64 2] w (NumP 43 w):=KY ⟨31,0,0,0,0,0,2,[]⟩ _ 4 2 w (.nil _ _) ⟨kS,kS,kS⟩
theorem end1 (w:World):Calls Tryz.prog 30 #[.agg #[.int .i64 7,.int .i64 1,.int .i64 0,.slice none 0 0,.int .i32 0],.int .i64 4,.int .i64 1] w (NumP 31 w):=ZaE ⟨7,1,0,[],.slice none 0 0,0⟩ 4 1 w (.nil _ _)
theorem spoils1 (w:World):Calls Tryz.prog 31 #[.agg #[.int .i64 28,.int .i64 0,.int .i64 0,.int .i64 0,.int .i64 0,.int .i64 0,.int .i32 0,.slice none 0 0]] w (YK w [1,2,3]):=ZaL ⟨28,0,0,0,0,0,0,[]⟩ _ w
theorem makes1 (w:World):Calls Tryz.prog 32 #[.agg #[.int .i64 31,.int .i64 0,.int .i64 0,.int .i64 3,.int .i64 0,.int .i64 0,.int .i32 2,.slice none 0 0]] w (YK w [18]):=Qp ⟨31,0,0,3,0,0,2,[]⟩ _ w (.nil _ _) ⟨kS,kS,kS⟩
theorem Vu (w:World) (T:TypeId) (k:IntKind) (l:List Int) (hl:l.length≤maxLen):Zt k (w.alloc (.cells (l.map (Value.int k)).toArray T)) (.slice (some ⟨w.heap.size,0,none⟩) l.length l.length) l:=
 Xr l T _ (Nat.le_refl _) hl (ZV _ _) (by intro j n hj;simp[hj])
theorem Zbz (w:World):Calls Tryz.prog 7 #[] w (TellsS true w):=by
 go_enter Tryz.func7,Tryz.ntmps7
 go_wp2_with fail
 refine (Vr _).mono ?_;rintro e w1 ⟨x1,y1,rfl,hu,hs,b1,rfl⟩;dsimp only[pv,swapP];have hQ:=hid hu;have hL:=hid hs;clear hu hs;go_wp2_with fail
 refine (run3 x1 b1 w1.heap.size _ (hQ.out.keep ((Since.refl _).alloc _)) (Vu w1 _ .i32 [5,9] kS)).mono ?_;rintro e w2 ⟨a2,n2,c2,r2,m2,d2,rfl,hr⟩;have hK:=hid ((hL.out.alloc _).trans hr);have hO:=hid (HeapIs.new w2 #[.int .i64 1,.int .i32 4,.slice a2 n2 c2,.slice r2 m2 d2,.int .i64 3] 47);clear hr;go_wp2_with fail
 refine (Vr _).mono ?_;rintro e w3 ⟨x3,y3,rfl,ht,hf,b3,rfl⟩;dsimp only[pv,swapP];have hP:=hid ht;have hJ:=hid (((Since.refl w2).alloc _).trans hf);have hD:=hid (hO.out.keep hf);clear ht hf;go_wp2_with fail
 refine (run2 x3 b3 w3.heap.size _ (hP.out.keep ((Since.refl _).alloc _)) (Vu w3 _ .i32 [5,9] kS)).mono ?_;rintro e w4 ⟨a4,n4,c4,r4,m4,d4,rfl,hq⟩;have hx:=hid (((Since.refl w3).alloc _).trans hq);have hN:=hid (HeapIs.new w4 #[.int .i64 3,.int .i32 0,.slice a4 n4 c4,.slice r4 m4 d4,.int .i64 2] 47);clear hq;go_wp2_with fail
 refine (run0 _).mono ?_;rintro e w5 ⟨a5,n5,c5,r5,m5,d5,rfl,he⟩;have hw:=hid (((Since.refl w4).alloc _).trans he);have hC:=hid (hN.out.keep he);have hM:=hid (HeapIs.new w5 #[.int .i64 4,.int .i32 0,.slice a5 n5 c5,.slice r5 m5 d5,.int .i64 0] 47);clear he;go_wp2_with fail
 have hv:Zi ((w5.alloc (.cells #[.int .i64 4,.int .i32 0,.slice a5 n5 c5,.slice r5 m5 d5,.int .i64 0] 47)).alloc (.cells #[.int .i64 1] 3)) (.slice (some ⟨w5.heap.size+1,0,none⟩) 1 1) [1]:=by
  have:=Vu (w5.alloc (.cells #[.int .i64 4,.int .i32 0,.slice a5 n5 c5,.slice r5 m5 d5,.int .i64 0] 47)) 3 .i64 [1] kS;rw[show (w5.alloc (.cells #[.int .i64 4,.int .i32 0,.slice a5 n5 c5,.slice r5 m5 d5,.int .i64 0] 47)).heap.size=w5.heap.size+1 from by simp]at this;exact this
 refine (Zfr _ _ hv).mono ?_;rintro e w6 ⟨rfl,hd⟩;clear hv;have hl:=hid (Since.trans (((Since.refl w5).alloc (.cells #[.int .i64 4,.int .i32 0,.slice a5 n5 c5,.slice r5 m5 d5,.int .i64 0] 47)).alloc (.cells #[.int .i64 1] 3)) hd);have hB:=hid (hM.out.keep (Since.trans ((Since.refl (w5.alloc (.cells #[.int .i64 4,.int .i32 0,.slice a5 n5 c5,.slice r5 m5 d5,.int .i64 0] 47))).alloc (.cells #[.int .i64 1] 3)) hd));clear hd;go_wp2_with fail
 refine (ins2 _).mono ?_;rintro e w7 ⟨rfl,hp⟩;have hI:=hid hp;clear hp;go_wp2_with fail
 refine (end1 _).mono ?_;rintro e w8 ⟨rfl,ho⟩;have hH:=hid ho;clear ho;go_wp2_with fail
 refine (spoils1 _).mono ?_;rintro e w9 ⟨v9,rfl,hc,hn⟩;obtain⟨a9,c9,rfl⟩:=Zb hc;have hF:=hid hc;have hG:=hid hn;clear hn hc;go_wp2_with fail
 refine (makes1 _).mono ?_;rintro e w10 ⟨v10,rfl,ha,hb⟩;obtain⟨a10,c10,rfl⟩:=Zb ha;have S36:=hid (hI.out.trans (hH.out.trans (hG.out.trans hb)));have S10:=hid (hK.out.trans (hJ.out.trans (hx.out.trans (hw.out.trans (hl.out.trans S36.out)))));have Q1:=hid (hD.out.keep (hx.out.trans (hw.out.trans (hl.out.trans S36.out))));have Q2:=hid (hC.out.keep (hl.out.trans S36.out));have Q3:=hid (hB.out.keep S36.out);have V9:=hid (hF.out.keep hb);have V10:=hid ha;clear hb ha;have q10:=Q1.out.cell 0;have q11:=Q1.out.cell 1;have q14:=Q1.out.cell 4;have q20:=Q2.out.cell 0;have q24:=Q2.out.cell 4;have q30:=Q3.out.cell 0;have l1:=Q1.out.lt;have l2:=Q2.out.lt;have l3:=Q3.out.lt;go_wp2_with fail
 refine (Qk _ _ [1,2,3] _ (V9.out.keep ((Since.refl _).alloc _)) (Vu w10 _ .i64 [1,2,3] kS) kS).mono ?_;rintro e w11 ⟨rfl,hj⟩;have hm:=hid (Since.trans ((Since.refl w10).alloc _) hj);clear q10 q11 q14 q20 q24 q30 l1 l2 l3 hj;go_wp2_with fail
 refine (Qk _ _ [18] _ (V10.out.keep (hm.out.alloc _)) (Vu w11 _ .i64 [18] kS) kS).mono ?_;rintro e w12 ⟨rfl,hi⟩;have hA:=hid (Since.trans ((Since.refl w11).alloc _) hi);clear hi;go_wp2_with fail
 refine (Vr _).mono ?_;rintro e w13 ⟨x13,y13,rfl,hk,hh,b13,rfl⟩;dsimp only[pv,swapP];have hE:=hid hk;have hz:=hid hh;clear hk hh;go_wp2_with fail
 refine (rightSw x13 b13 _ hE.out).mono ?_;rintro e w14 ⟨rfl,hg⟩;have hy:=hid hg;clear hg;go_wp2
 go_ret
 exact⟨rfl,S10.out.trans (hm.out.trans (hA.out.trans (hz.out.trans hy.out)))⟩
def Z6 (w:World) (v v':Value):Prop:=∀ q,v'.ownBlock=some q→v.ownBlock=some q∨w.heap.size≤q
theorem Ke {P : Program} (w:World) (base:Nat) (t ty e:TypeId) (i:TypeInfo) (z:Value) (size bytes:Nat) (ht:P.underlying t=some (.slice e)) (hi:P.info? e=some i) (hz:i.zero=some z)
  (he:i.size=size) (hm:i.bytes=bytes) (hw:z.cells.size=size) (hx:0<size)
  (v:Value) (n:Nat) (xs:List Value) (hk:w.ownsRow base e size v n xs)
  (a:Addr) (m c:Nat) (news:List Value) (hl:news.length=m*size) (hc:∀ j u,news[j]? = some u→w.cell? (a.add j)=some u) (h1:∀ u∈news,u.oneCell'=true)
  (ho:n+m≤maxLen) (hd:(n+m)*bytes≤140737488355328) (hu:base≤w.heap.size) :
  ∃ v' w',(Builtin.append_ #[t,t] ty #[v,.slice (some a) m c]).run P w=.ok v' w'∧w'.ownsRow base e size v' (n+m) (xs++news)∧w.grownBy w' v.ownBlock∧Z6 w v v':=by
 obtain⟨v',w',hr,h2,h3,_⟩:=run_append_own w base t ty e i z size bytes ht hi hz he hm hw hx v n xs hk a m c news hl hc h1 ho hd hu;refine⟨v',w',hr,h2,h3,?_⟩;obtain⟨hh,⟨hv,hn⟩|⟨g,cap,cur,hv,hb,hg,hC,hD,hy,hp⟩⟩:=hk
 ·obtain⟨v2,w2,ha,hF,_,_⟩:=run_append_own (P:=P) w w.heap.size t ty e i z size bytes ht hi hz he hm hw hx v n xs ⟨hh,.inl ⟨hv,hn⟩⟩ a m c news hl hc h1 ho hd (Nat.le_refl _);rw[hr]at ha
  cases ha
  obtain⟨_,⟨hj,_⟩|⟨g2,_,_,hj,hE,_⟩⟩:=hF
  ·intro q hq;rw[hj]at hq;cases hq
  ·intro q hq;rw[hj]at hq;cases hq;exact .inr hE
 ·subst hv;subst he;by_cases hf:n+m≤cap
  ·have hA:n*i.size+news.length≤cur.size:=by rw[hl,hy,←Nat.add_mul];exact Nat.mul_le_mul_right _ hf
   have ha:=run_append_room (P:=P) w t ty e i ht hi g n cap cur hg a m c news hl hc h1 hf hA;rw[hr]at ha
   cases ha
   exact fun q hq=>.inl hq
  ·have hs:∀ j u,xs[j]? = some u→w.cell? ((⟨g,0,none⟩:Addr).add j)=some u:=World.ownsRow.cells (show w.ownsRow base e i.size (.slice (some ⟨g,0,none⟩) n cap) n xs from⟨hh,.inr ⟨g,cap,cur,rfl,hb,hg,hC,hD,hy,hp⟩⟩) (g:=g) rfl
   have hB:n+m≤9223372036854775807:=by simp only[maxLen]at ho;omega
   have ha:=run_append_grow (P:=P) w t ty e i z ht hi hz ⟨g,0,none⟩ n cap xs hh hs a m c news hl hc kT kT (growslice_fits kT (by rw[hm];exact hd));rw[hr]at ha
   cases ha
   intro q hq
   cases hq
   exact .inr (Nat.le_refl _)
theorem Yz {P : Program} {w : World} {ops:Array Oper} {rest:List Oper} {o : Oper} {a : Act} {Q : Exit→Act→World→Prop} (hh:o.guard=none) (s x:Operand) (t:TypeId)
  (ho:o.op=.call { callee:=.builtin .append,args:=#[s,x],argTypes:=#[t,t] })
  (base:Nat) (e:TypeId) (i:TypeInfo) (z:Value) (size bytes:Nat) (ht:P.underlying t=some (.slice e)) (hi:P.info? e=some i) (hz:i.zero=some z)
  (hb:i.size=size) (hj:i.bytes=bytes) (hf:z.cells.size=size) (hg:0<size)
  (v:Value) (n:Nat) (xs:List Value) (hs:a.eval s=v) (he:w.ownsRow base e size v n xs)
  (ad:Addr) (m c:Nat) (news:List Value) (hx:a.eval x=.slice (some ad) m c) (hl:news.length=m*size) (hc:∀ j u,news[j]? = some u→w.cell? (ad.add j)=some u) (h1:∀ u∈news,u.oneCell'=true)
  (hk:n+m≤maxLen) (ha:(n+m)*bytes≤140737488355328) (hd:base≤w.heap.size)
  (h:∀ v' w',w'.ownsRow base e size v' (n+m) (xs++news)→Turn (fun q=>v.ownBlock=some q) w w'→Z6 w v v'→wpList P ops Q rest (a.put o.dst v') w'):wpList P ops Q (o::rest) a w:=by
 refine wpList_plain hh fun _ hK=>?_
 obtain⟨v',w',hr,h2,h3,h4⟩:=Ke (P:=P) w base t o.type e i z size bytes ht hi hz hb hj hf hg v n xs he ad m c news hl hc h1 hk ha hd;unfold Oper.wp execOp;simp only[ho,resolve,invoke,builtin,Sem.run_bind,Sem.run_pure,Result.andThen_ok,List.map_toArray,List.map_cons,List.map_nil,hs,hx,hr];exact hK _ _ (h v' w' h2 (WJ h3) h4)
theorem ZL {α:Type} {P : Program} {base:Nat} {w : World} {ops:Array Oper} {rest:List Oper} {o : Oper} {a : Act} {Q : Exit→Act→World→Prop} (f:α→List Value) (sz:Nat) (hf:∀ x,(f x).length=sz) (hl:0<sz) (hn:o.guard=none) (s x:Operand) (t:TypeId)
  (ho:o.op=.call { callee:=.builtin .append,args:=#[s,x],argTypes:=#[t,t] })
  (e:TypeId) (z:Value) (bytes:Nat) (ht:P.underlying t=some (.slice e)) (hc:(P.info? e).map (fun i=>(i.zero,i.size,i.bytes))=some (some z,sz,bytes)) (hz:z.cells.size=sz)
  (v:Value) (l:List α) (y:α) (b cap:Nat) (t2:TypeId) (hs:a.eval s=v) (hx:a.eval x=.slice (some ⟨b,0,none⟩) 1 cap) (he:OwnRow f sz e base w v l) (hb:w.heap[b]? = some (.cells (f y).toArray t2 (0,0))) (h1:∀ u∈f y,u.oneCell'=true)
  (hm:l.length+1≤maxLen) (hg:(l.length+1)*bytes≤140737488355328) (hd:base≤w.heap.size)
  (h:∀ v' w',OwnRow f sz e base w' v' (l++[y])→Turn (fun k=>v.ownBlock=some k) w w'→Z6 w v v'→wpList P ops Q rest (a.put o.dst v') w'):wpList P ops Q (o::rest) a w:=by
 obtain⟨i,hi,hk,hj,hh⟩:=info_parts hc;refine Yz hn s x t ho base e i z sz bytes ht hi hk hj hh hz hl v _ _ hs he ⟨b,0,none⟩ 1 cap (f y) hx (by rw[hf,Nat.one_mul]) ?_ h1 hm hg hd ?_
 ·exact qC
 ·intro v' w' ha t h4;refine h v' w' ?_ t h4;unfold OwnRow;rw[List.length_append,List.flatMap_append];simpa using ha
theorem Zo {P : Program} {base:Nat} {w : World} {ops:Array Oper} {rest:List Oper} {o : Oper} {a : Act} {Q : Exit→Act→World→Prop} (k:IntKind) (hf:o.guard=none) (s x:Operand) (t:TypeId)
  (ho:o.op=.call { callee:=.builtin .append,args:=#[s,x],argTypes:=#[t,t] })
  (e:TypeId) (z:Value) (bytes:Nat) (ht:P.underlying t=some (.slice e)) (hg:(P.info? e).map (fun i=>(i.zero,i.size,i.bytes))=some (some z,1,bytes)) (hz:z.cells.size=1) (hm:bytes≤8)
  (v xv:Value) (l1 l2:List Int) (hs:a.eval s=v) (hx:a.eval x=xv) (hc:w.ownsRow base e 1 v l1.length (l1.map (Value.int k))) (hp:Zt k w xv l2)
  (hd:l1.length+l2.length≤1000000) (he:base≤w.heap.size)
  (h:∀ v' w',w'.ownsRow base e 1 v' (l1++l2).length ((l1++l2).map (Value.int k))→Turn (fun q=>v.ownBlock=some q) w w'→Z6 w v v'→wpList P ops Q rest (a.put o.dst v') w'):wpList P ops Q (o::rest) a w:=by
 obtain⟨i,hi,hl,hk,hj⟩:=info_parts hg;rcases hp with ⟨ad,hv,rfl⟩|⟨b,off,cap,hv,hr,_,hb,hh⟩
 ·subst hv
  cases ad with
  | none =>
   refine wpList_append_own_none hf s x t ho base e i 1 ht hi v _ _ hs hc hx (h v w ?_ (Turn.refl _ _) fun q hq=>.inl hq)
   simpa using hc
  | some ad =>
   refine Yz hf s x t ho base e i z 1 bytes ht hi hl hk hj hz kS v _ _ hs hc ad 0 0 [] hx rfl (fun j u hu=>by cases hu) (fun u hu=>by cases hu) (by unfold maxLen;simp at hd;omega) ?_ he ?_
   ·have:(l1.length+0)*bytes≤1000000*8:=Nat.mul_le_mul (by simpa using hd) hm;omega
   ·intro v' w' ha t h4;exact h v' w' kJ t h4
 ·subst hv;refine Yz hf s x t ho base e i z 1 bytes ht hi hl hk hj hz kS v _ _ hs hc ⟨b,off,none⟩ l2.length cap (l2.map (Value.int k)) hx kU ?_ ?_ ky ?_ he ?_
  ·intro j u hu;rw[List.getElem?_map]at hu;obtain⟨n,hn,rfl⟩:=Option.map_eq_some_iff.1 hu;have:=hh j n hn;exact ja
  ·exact jt
  ·have:(l1.length+l2.length)*bytes≤1000000*8:=Nat.mul_le_mul hd hm;omega
  ·intro v' w' ha t h4;exact h v' w' kJ t h4
theorem RowIn.turn {α:Type} {f : α→List Value} {sz:Nat} {p : World→α→Prop} {S : Nat→Prop} {w w':World} {v : Value} {l : List α} (h:RowIn f sz p w v l) (t:Turn S w w') (hn:∀ q,v.ownBlock=some q→¬ S q) (hp:∀ x∈l,p w x→p w' x):RowIn f sz p w' v l:=by
 rcases h with h|⟨b,off,cap,h1,h2,h3,h4,h5⟩
 ·exact .inl h
 ·exact .inr ⟨b,off,cap,h1,h2,h3,Nat.lt_of_lt_of_le h4 t.size,fun j x hj=>⟨fun t2 ht=>by rw[t.cell (p:=⟨b,off+j*sz+t2,none⟩) h4 (hn b (by rw[h1];rfl))];exact (h5 j x hj).1 t2 ht,hp x (List.mem_of_getElem? hj) (h5 j x hj).2⟩⟩
theorem Yl {α:Type} {f : α→List Value} {sz:Nat} (hf:∀ x,(f x).length=sz) {p : World→α→Prop} {e : TypeId} {base:Nat} {w : World} {v : Value} {l : List α} (h:OwnRow f sz e base w v l) (hp:∀ x∈l,p w x):RowIn f sz p w v l:=by
 rcases OwnRow.cells hf h with ⟨h1,h2⟩|⟨g,cap,h1,h2,h3,_,h4,h5⟩
 ·exact .inl ⟨none,h1,h2⟩
 ·exact .inr ⟨g,0,cap,h1,h2,h3,h4,fun j x hj=>⟨fun t ht=>by rw[show 0+j*sz+t=j*sz+t from by omega];exact h5 j t x hj ht,hp x (List.mem_of_getElem? hj)⟩⟩
theorem ZcZ {α:Type} (f:α→List Value) (x:α):(f x).toArray=([x].flatMap f).toArray:=by simp
structure Yx where
 op:Int
 dst:Int
 two:Int
 args:List Int
 av:Value
 imm:Int
structure YY where
 dst:Int
 ins:List (Int × Int)
 inv:Value
structure YL where
 kind:Int
 args:List Int
 argsv:Value
 «to» : List Int
 tov:Value
 imm:Int
structure Zr where
 phis:List YY
 phv:Value
 ins:List Yx
 inv:Value
 term:YL
structure FnV where
 params:Int
 blocks:List Zr
 bv:Value
def Z3 (x:Yx):List Value:=[.int .i64 x.op,.int .i64 x.dst,.int .i64 x.two,x.av,.int .i32 x.imm]
theorem Vs (x:Yx):(Z3 x).length=5:=rfl
def prcells (x:Int × Int):List Value:=[.int .i64 x.1,.int .i64 x.2]
theorem Y4 (x:Int × Int):(prcells x).length=2:=rfl
def fpcells (x:YY):List Value:=[.int .i64 x.dst,x.inv]
theorem Xi (x:YY):(fpcells x).length=2:=rfl
def Vy (x:YL):List Value:=[.int .i64 x.kind,x.argsv,x.tov,.int .i32 x.imm]
def fbcells (x:Zr):List Value:=[x.phv,x.inv,.int .i64 x.term.kind,x.term.argsv,x.term.tov,.int .i32 x.term.imm]
theorem ZT (x:Zr):(fbcells x).length=6:=rfl
def fiv (x:Yx):Value:=.agg #[.int .i64 x.op,.int .i64 x.dst,.int .i64 x.two,x.av,.int .i32 x.imm]
def fv (f:FnV):Value:=.agg #[.int .i64 f.params,f.bv]
def Wz (w:World) (x:Yx):Prop:=Zi w x.av x.args
abbrev XB (w:World) (v:Value) (l:List (Int × Int)):Prop:=RowIn prcells 2 (fun _ _=>True) w v l
def YD (w:World) (x:YY):Prop:=XB w x.inv x.ins
def Wm (w:World) (x:YL):Prop:=Zi w x.argsv x.args∧Zi w x.tov x.to
def FBlkIn (w:World) (b:Zr):Prop:=RowIn fpcells 2 YD w b.phv b.phis∧RowIn Z3 5 Wz w b.inv b.ins∧Wm w b.term
def FnIn (w:World) (f:FnV):Prop:=RowIn fbcells 6 FBlkIn w f.bv f.blocks
theorem XB.keep {w w':World} {v : Value} {l : List (Int × Int)} (h:XB w v l) (s:Since w w'):XB w' v l:=RowIn.keep (fun _ _ _ _ _=>trivial) h s
theorem Wz.keep (w w':World) (x:Yx) (h:Wz w x) (s:Since w w'):Wz w' x:=Zt.keep h s
theorem YD.keep (w w':World) (x:YY) (h:YD w x) (s:Since w w'):YD w' x:=XB.keep h s
theorem Wm.keep {w w':World} {x : YL} (h:Wm w x) (s:Since w w'):Wm w' x:=⟨h.1.keep s,h.2.keep s⟩
theorem FBlkIn.keep (w w':World) (b:Zr) (h:FBlkIn w b) (s:Since w w'):FBlkIn w' b:=⟨RowIn.keep YD.keep h.1 s,RowIn.keep Wz.keep h.2.1 s,h.2.2.keep s⟩
theorem FnIn.keep {w w':World} {f : FnV} (h:FnIn w f) (s:Since w w'):FnIn w' f:=RowIn.keep FBlkIn.keep h s
theorem Zm {w : World} {b : Nat} {e : TypeId} {size n:Nat} {v : Value} {xs:List Value} (h:w.ownsRow b e size v n xs) {q : Nat} {cs:Array Value} {T : TypeId} (hb:HeapIs w q cs T) (hT:e≠T):¬ v.ownBlock=some q:=by
 intro hq;obtain⟨cur,hc⟩:=XZ h hq;rw[show w.heap[q]? = _ from hb]at hc
 simp only[Option.some.injEq,Obj.cells.injEq]at hc;exact hT hc.2.1.symm
theorem HeapIs.set {w : World} {q : Nat} {cs:Array Value} {T : TypeId} (h:HeapIs w q cs T) (i:Nat) (x:Value):HeapIs (w.setCell ⟨q,i,none⟩ x) q (cs.setIfInBounds i x) T:=by
 unfold HeapIs at h ⊢;exact jD
theorem HeapIs.frozen {w : World} {q : Nat} {cs:Array Value} {T : TypeId} (h:HeapIs w q cs T) (i:Nat):w.frozen? ⟨q,i,none⟩=false:=by
 simp[World.frozen?,show w.heap[q]? = _ from h]
theorem Yy.keep {base:Nat} {w w':World} {cv:Value} {calls:List (Int × List Int)} (h:Yy base w cv calls) (s:Since w w'):Yy base w' cv calls:=h.turn (S:=fun _=>False) (Turn.since s) fun _ _ h=>h
theorem Yy.setRow {base:Nat} {w : World} {cv:Value} {calls:List (Int × List Int)} (h:Yy base w cv calls) {b : Nat} {cs:Array Value} (hb:HeapIs w b cs 47) (cs':Array Value):Yy base (w.setRow b cs') cv calls:=by
 obtain⟨evs,h1,h2,h3⟩:=h;have t:Turn (fun q=>q=b) w (w.setRow b cs'):=Xg (S:=fun q=>q=b) rfl _;exact⟨evs,Zj h1 t fun q hq e=>by subst e;exact Zm h1 hb kS hq,h2,fun e he=>Zj (h3 e he) t fun q hq e=>by subst e;exact Zm (h3 _ he) hb kS hq⟩
theorem Ja {k : IntKind} {w : World} {b : Nat} {l : List Int} {T : TypeId} (h:HeapIs w b (l.map (Value.int k)).toArray T) (hm:l.length≤maxLen):Zt k w (.slice (some ⟨b,0,none⟩) l.length l.length) l:=
 Xr l T _ (Nat.le_refl _) hm h (by intro j n hj;simp[hj])
def MkAt (w:World) (mb:Nat) (sv:Value) (at_:Nat) (rest:List Value):Prop:=HeapIs w mb (sv::.int .i64 at_::rest).toArray 111
theorem MkAt.keep {w w':World} {mb:Nat} {sv:Value} {at_:Nat} {rest:List Value} (h:MkAt w mb sv at_ rest) (s:Since w w'):MkAt w' mb sv at_ rest:=HeapIs.keep h s
def takeF (l:List Int) (at_:Nat) (n:Int):Int:=((l.getD at_ 0).tmod n+n) % n
theorem Y6 (l:List Int) (at_:Nat) {n : Int} (hn:0<n):0≤takeF l at_ n∧takeF l at_ n<n:=by
 unfold takeF;have h1:=Int.tmod_lt_of_pos (l.getD at_ 0) hn;have h2 : -n<(l.getD at_ 0).tmod n:=by
  have:=Int.lt_tmod_of_pos (l.getD at_ 0) hn;exact this
 exact⟨Int.emod_nonneg _ kT,Int.emod_lt_of_pos _ hn⟩
def QE (w:World) (mb:Nat) (sv:Value) (at_ k:Nat) (rest:List Value) (r:Value) (e:Ending) (w':World):Prop:=e=.returned r∧MkAt w' mb sv (at_+k) rest∧Turn (fun q=>q=mb) w w'∧w'.heap.size=w.heap.size
theorem MkAt.next {w : World} {mb:Nat} {sv:Value} {at_:Nat} {rest:List Value} (h:MkAt w mb sv at_ rest):MkAt (w.setCell ⟨mb,1,none⟩ (.int .i64 (at_+1))) mb sv (at_+1) rest:=by
 have h1:=HeapIs.set (show HeapIs w mb _ _ from h) 1 (.int .i64 (at_+1));simpa [MkAt]using h1
theorem YV (w:World) (a:Addr) (v:Value):(w.setCell a v).heap.size=w.heap.size:=by simp[World.setCell]
theorem WV (sv:Value) (l:List Int) (w:World) (mb at_:Nat) (rest:List Value) (n:Int) (hm:MkAt w mb sv at_ rest) (hs:Zi w sv l) (hi:at_≤1000000) (hn:1≤n∧n≤1048576):Calls Tryz.prog 55 #[.pointer (some ⟨mb,0,none⟩),.int .i64 n] w (QE w mb sv at_ 1 rest (.int .i64 (takeF l at_ n))):=by
 obtain⟨sa,sc,rfl⟩:=Zb hs;have he:=hs.len;unfold maxLen at he;obtain⟨x,hx⟩:∃ x,l.getD at_ 0=x:=⟨_,rfl⟩
 unfold takeF;rw[hx];have hh:=Int.tmod_lt_of_pos x (show 0<n by omega);have hg : -n<x.tmod n:=Int.lt_tmod_of_pos x kT;have HX:=hid hx;have HM:=hid hm;have HS:=hid hs;have c0:w.cell? ⟨mb,0,none⟩=some (.slice sa l.length sc):=hm.cell 0;have c1:w.cell? ⟨mb,1,none⟩=some (.int .i64 at_):=hm.cell 1;have hl:=hm.lt;have hf:=hm.frozen;clear hx hm hs;by_cases hb:at_<l.length
 ·obtain⟨_,hd⟩:=Zx HS.out;obtain⟨B,off,rfl,hB,ha⟩:=hd (by intro e;rw[e]at hb;simp at hb);have hc:l[at_]? = some x:=by rw[←HX.out,List.getD_eq_getElem?_getD,List.getElem?_eq_getElem hb];rfl
  have c2:=ha at_ x hc;clear ha hd hc;go_enter Tryz.func55,Tryz.ntmps55
  exact zG
 ·obtain rfl:x=0:=by rw[←HX.out,List.getD_eq_getElem?_getD,List.getElem?_eq_none kT];rfl
  rw[show ((0:Int).tmod n+n) % n=0 from by simp];go_enter Tryz.func55,Tryz.ntmps55
  exact zU
def wordF (l:List Int) (at_:Nat):Int:=
 if takeF l (at_+1) 8=0 then wrap32 (takeF l at_ 1048576*4099)
 else if takeF l (at_+1) 8=1 then -takeF l at_ 1048576
 else if takeF l (at_+1) 8=2 then -2147483648
 else if takeF l (at_+1) 8=3 then takeF l at_ 1048576 % 70000
 else takeF l at_ 1048576 % 20-4
theorem Zbp (x:Int):In32 (wrap32 x):=by
 unfold wrap32 In32;omega
theorem QL (l:List Int) (at_:Nat):In32 (wordF l at_):=by
 have b1:=Y6 l at_ (n:=1048576) kS;unfold wordF;split
 ·exact Zbp _
 split
 ·unfold In32;omega
 split
 ·unfold In32;omega
 split
 iterate 2
  ·unfold In32;omega
theorem VH (sv:Value) (l:List Int) (w:World) (mb at_:Nat) (rest:List Value) (hm:MkAt w mb sv at_ rest) (hs:∀ w',Turn (fun q=>q=mb) w w'→Zi w' sv l) (hl:at_≤100000):Calls Tryz.prog 54 #[.pointer (some ⟨mb,0,none⟩)] w (QE w mb sv at_ 2 rest (.int .i32 (wordF l at_))):=by
 have hb:=WV sv l w mb at_ rest 1048576 hm (hs w (Turn.refl _ _)) kT kS;have ha:=fun w1 (h:MkAt w1 mb sv (at_+1) rest) (h2:Zi w1 sv l)=>WV sv l w1 mb (at_+1) rest 8 h h2 kT kS
 have b1:=Y6 l at_ (n:=1048576) kS;have b2:=Y6 l (at_+1) (n:=8) kS;obtain⟨r,hr⟩:∃ r,wordF l at_=r:=⟨_,rfl⟩
 rw[hr];unfold wordF at hr;generalize takeF l at_ 1048576=x at *;generalize takeF l (at_+1) 8=y at *;have HR:=hid hr;clear hr;have hi:=hid hb;have hh:=hid ha;have HS:=hid hs;clear hb ha hm hs;have hy:y=0∨y=1∨y=2∨y=3∨(4≤y∧y<8):=kT
 go_enter Tryz.func54,Tryz.ntmps54
 go_wp2_with fail
 refine hi.out.mono ?_;rintro e w1 ⟨rfl,he,t1,z1⟩;have hc:Zi w1 sv l:=HS.out w1 t1;have hk:=hid he;have hj:=hid hc;have hf:=hid t1;have hg:=hid z1;clear he hc t1 z1;go_wp2_with fail
 refine (hh.out w1 hk.out hj.out).mono ?_;rintro e w2 ⟨rfl,hd,t2,z2⟩;have HQ:=zH (MkAt w2 mb sv (at_+2) rest∧Turn (fun q=>q=mb) w w2∧w2.heap.size=w.heap.size) ⟨hd,hf.out.trans t2,z2.trans hg.out⟩;clear hd t2 z2;rcases hy with rfl|rfl|rfl|rfl|hy
 ·obtain rfl:wrap32 (x*4099)=r:=HR.out;exact jL
 ·obtain rfl : -x=r:=HR.out;exact jL
 ·obtain rfl:(-2147483648:Int)=r:=HR.out;exact jL
 ·obtain rfl:x % 70000=r:=HR.out;exact jL
 ·have y0:=zN y 0;have y1:=zN y 1;have y2:=zN y 2;have y3:=zN y 3;have hr:=HR.out;rw[if_neg kT,if_neg kT,if_neg kT,if_neg kT]at hr;subst hr;exact jL
theorem Vw {b1 b2 sz n:Nat} {e : TypeId} {w : World} {v : Value} {xs:List Value} (h:w.ownsRow b1 e sz v n xs) (hb:b2≤b1):w.ownsRow b2 e sz v n xs:=by
 exact q5
theorem XH {w : World} {k : IntKind} {ta:Option Addr} {tn tc:Nat} {l : List Int} (h:Zt k w (.slice ta tn tc) l) {j : Nat} {v : Int} (hj:l[j]? = some v):∃ b off,ta=some ⟨b,off,none⟩∧b<w.heap.size∧w.cell? ⟨b,off+j,none⟩=some (.int k v):=by
 rcases h with ⟨_,_,h2⟩|⟨b,off,cap,h1,_,_,h4,h5⟩
 ·rw[h2]at hj;cases hj
 ·injection h1 with e1 e2 e3
  exact⟨b,off,e1,h4,h5 j v hj⟩
section
variable {w : World} {T : Nat→Prop}
def Kin (w:World) (U:TypeId) (T:Nat→Prop):Prop:=∀ q,T q→∃ cs,w.heap[q]? = some (.cells cs U)
theorem YS {base:Nat} {e : TypeId} {sz n g cap:Nat} {xs:List Value} (h:w.ownsRow base e sz (.slice (some ⟨g,0,none⟩) n cap) n xs) (j:Nat) (y:Value):(w.setCell ⟨g,j,none⟩ y).ownsRow base e sz (.slice (some ⟨g,0,none⟩) n cap) n (xs.set j y):=by
 obtain⟨h0,⟨hv,_⟩|⟨g2,cap2,cur,hv,h2,hg,h4,h5,h6,h7⟩⟩:=h
 ·cases hv
 ·cases hv
  have h1:=HeapIs.set (show HeapIs w g cur e from hg) j y;refine⟨by rw[List.length_set];exact h0,.inr ⟨g,cap,cur.setIfInBounds j y,rfl,h2,h1,h4,h5,by rw[Array.size_setIfInBounds];exact h6,?_⟩⟩
  rw[Array.toList_setIfInBounds,List.take_set,h7]
theorem Kin.box {q0:Nat} {cs:Array Value} {U : TypeId} (h:HeapIs w q0 cs U):Kin w U (fun q=>q=q0):=fun q e=>⟨cs,by rw[e];exact h⟩
theorem Kin.row {b sz n:Nat} {e : TypeId} {v : Value} {xs:List Value} (h:w.ownsRow b e sz v n xs):Kin w e (fun q=>v.ownBlock=some q):=fun q hq=>XZ h hq
theorem Kin.apart {b sz n:Nat} {e U:TypeId} {v : Value} {xs:List Value} (k:Kin w U T) (h:w.ownsRow b e sz v n xs) (ha:e≠U):∀ q,v.ownBlock=some q→¬ T q:=fun q hq ht=>by
 obtain⟨c1,h1⟩:=XZ h hq
 obtain⟨c2,h2⟩:=k q ht
 rw[h1]at h2
 simp only[Option.some.injEq,Obj.cells.injEq]at h2
 exact ha h2.2.1
theorem Kin.heap {q : Nat} {cs:Array Value} {e U:TypeId} (k:Kin w U T) (h:HeapIs w q cs e) (ha:e≠U):¬ T q:=fun ht=>by
 obtain⟨c2,h2⟩:=k q ht
 rw[show w.heap[q]? = _ from h]at h2
 simp only[Option.some.injEq,Obj.cells.injEq]at h2
 exact ha h2.2.1
end
theorem XR.since {w w':World} {base:Nat} {v : Value} {o : VV} (h:XR w base v o) (s:Since w w'):XR w' base v o:=by
 obtain⟨mv,cv,h1,h2,h3,h4⟩:=h;exact⟨mv,cv,h1,h2.keep s,h3.turn (S:=fun _=>False) (Turn.since s) fun _ _=>id,h4⟩
def WR (w:World) (v:Value) (l:List Int):Prop:=∃ a c,v=.slice a l.length c∧(l≠[]→∃ b off,a=some ⟨b,off,none⟩∧b<w.heap.size∧∀ (j:Nat) (x:Int),l[j]? = some x→w.cell? ⟨b,off+j,none⟩=some (.int .i32 x))
theorem WR.keep {w w':World} {v : Value} {l : List Int} (h:WR w v l) (s:Since w w'):WR w' v l:=by
 obtain⟨a,c,h1,h2⟩:=h;refine⟨a,c,h1,fun ha=>?_⟩;obtain⟨b,off,h3,h4,h5⟩:=h2 ha;exact⟨b,off,h3,Nat.lt_of_lt_of_le h4 s.size,fun j x hj=>(s.cell (p:=⟨b,off+j,none⟩) h4).trans (h5 j x hj)⟩
theorem Kk {w : World} {v : Value} {l : List Int} (h:Zt .i32 w v l):WR w v l:=by
 obtain⟨a,c,rfl⟩:=Zb h;exact⟨a,c,rfl,(Zx h).2⟩
theorem Qo {w : World} {v : Value} {l : List Int} (h:MemIs w v l):WR w v l:=by
 obtain⟨a,c,rfl,hl⟩:=h.shape;refine⟨a,c,rfl,fun ha=>?_⟩;obtain⟨b,r,T,rfl,hw⟩:=h.at (List.length_pos_iff.2 ha);refine⟨b,0,rfl,hw.lt,fun j x hj=>?_⟩;rw[Nat.zero_add,hw.cell (List.getElem?_eq_some_iff.1 hj).1,List.getD_eq_getElem?_getD,hj];rfl
end Go.Proofs.YtimpddecdodddaaGreat
