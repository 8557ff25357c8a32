import Derived.Test.YtimpddecdodddaaGreatSt28
namespace Go.Proofs.YtimpddecdodddaaGreat
open Go.Proofs.Tryz Go.RowKit Go.Lib
set_option linter.unusedVariables false
set_option maxHeartbeats 8000000
set_option maxRecDepth 100000
theorem qG {P:Prop} (h:P:=by
 go_roundw
 case rel=>exact⟨t+1,_,xs++[_],by omega,rfl,by go_num,hE.out,hT.out,by rw[List.length_append,hd.out];show xl+1≤_;omega⟩
 case measure=>simp[intOf];omega):P:=h
theorem kN {P:Prop} (h:P:=by intro u hu;simp only[thcells,List.mem_cons,List.not_mem_nil,or_false]at hu;rcases hu with rfl | rfl | rfl | rfl<;>rfl):P:=h
structure ThV where
 block:Int
 place:Int
 mkl:List Int
 mkv:Value
 tkv:Value
def thcells (x:ThV):List Value:=[.int .i64 x.block,.int .i64 x.place,x.mkv,x.tkv]
theorem X6 (x:ThV):(thcells x).length=4:=rfl
def WM (base:Nat) (l:List Int) (v:Value) (w:World):Prop:=w.ownsRow base 3 1 v l.length (l.map (Value.int .i64))
theorem WM.stable (base:Nat) (l:List Int):ZH (WM base l):=fun v w w' h s=>Zv h s
def WL (base:Nat) (N:Int) (n:Nat) (w:World) (x:ThV):Prop:=WM base x.mkl x.mkv w∧(∀ y∈x.mkl,0≤y∧y<N)∧(0≤x.block∧x.block<n)∧x.mkl.length≤2∧x.tkv.oneCell'=true
theorem WL.keep {base:Nat} {N : Int} {n : Nat} {w w':World} {x : ThV} (h:WL base N n w x) (s:Since w w'):WL base N n w' x:=⟨Zv h.1 s,h.2⟩
theorem Zaz {w : World} {base base':Nat} {e : TypeId} {sz n:Nat} {v : Value} {xs:List Value} (h:w.ownsRow base e sz v n xs) (hb:base'≤base):w.ownsRow base' e sz v n xs:=by
 obtain⟨h0,h1|⟨g,cap,cur,h1,h2,h3⟩⟩:=h
 ·exact⟨h0,.inl h1⟩
 ·exact⟨h0,.inr ⟨g,cap,cur,h1,Nat.le_trans hb h2,h3⟩⟩
theorem Qq {w : World} {q base:Nat} {cs:List Value} {T : TypeId} (h:HeapIs w q cs.toArray T) (hb:base≤q) (hl:cs.length≤maxLen):w.ownsRow base T 1 (.slice (some ⟨q,0,none⟩) cs.length cs.length) cs.length cs:=
 ⟨by simp,.inr ⟨q,cs.length,cs.toArray,rfl,hb,h,Nat.le_refl _,hl,by simp,by simp⟩⟩
theorem Jr (w:World) (o:Obj) (cs:Array Value) (T:TypeId):HeapIs ((w.alloc o).alloc (.cells cs T)) (w.heap.size+1) cs T:=by
 have h2:=HeapIs.new (w.alloc o) cs T;rw[show (w.alloc o).heap.size=w.heap.size+1 from by simp]at h2;exact h2
structure Wv (N:Int) (n:Nat) (w:World) (cs:Array Value) (v:Value) (xs:List ThV) (wr:World):Prop where
 box:HeapIs wr w.heap.size cs 109
 own:OwnRow thcells 4 205 (w.heap.size+1) wr v xs
 each:∀ x∈xs,WL w.heap.size N n wr x
 old:Since w wr
 size:w.heap.size+1≤wr.heap.size
theorem Wv.new (N:Int) (n:Nat) (w:World) (cs:Array Value):Wv N n w cs (.slice (some ⟨w.heap.size+1,0,none⟩) 0 0) [] ((w.alloc (.cells cs 109)).alloc (.cells #[] 205)):=by
 have h2:=HeapIs.new (w.alloc (.cells cs 109)) #[] 205;rw[show (w.alloc (.cells cs 109)).heap.size=w.heap.size+1 from by simp]at h2;exact⟨(HeapIs.new w cs 109).keep ((Since.refl _).alloc _),⟨rfl,.inr ⟨w.heap.size+1,0,#[],rfl,Nat.le_refl _,h2,Nat.le_refl _,Nat.zero_le _,rfl,rfl⟩⟩,fun x hx=>zaI,((Since.refl _).alloc _).alloc _,by simp⟩
section
variable {N : Int} {n : Nat} {w wr w2 w6:World} {cs:Array Value} {v v':Value} {xs:List ThV} {x : ThV}
theorem Wv.keep (h:Wv N n w cs v xs wr) (s:Since wr w2):Wv N n w cs v xs w2:=
 ⟨h.box.keep s,OwnRow.keep h.own s,fun x hx=>(h.each x hx).keep s,h.old.trans s,Nat.le_trans h.size s.size⟩
theorem Wv.add (h:Wv N n w cs v xs wr) (hx:WL w.heap.size N n wr x) (ha:OwnRow thcells 4 205 (w.heap.size+1) w6 v' (xs++[x])) (t6:Zb (fun q=>v.ownBlock=some q) wr w6):Wv N n w cs v' (xs++[x]) w6:=by
 have hv:∀ q,v.ownBlock=some q→w.heap.size+1≤q:=fun q hq=>(World.ownsRow.lt (show wr.ownsRow _ _ _ _ _ _ from h.own) q hq).1
 have hz:=t6.size;refine⟨h.box.turn t6 fun e=>by have:=hv _ e;omega,ha,fun y hy=>?_,t6.toSince h.old fun q hq e=>by have:=hv _ e;omega,by have:=h.size;omega⟩;have h3:WL w.heap.size N n wr y:=by
  rcases List.mem_append.1 hy with hy|hy
  ·exact h.each y hy
  ·obtain rfl:=List.mem_singleton.1 hy;exact hx
 exact⟨Zg h3.1 t6 fun q hq e=>Xr h3.1 (show wr.ownsRow _ _ _ _ _ _ from h.own) zaJ q hq e,h3.2⟩
end
structure WK (w2:World) (bV pV dst:Int) (tv:Value) (ts:List Int) (w4:World):Prop where
 box:HeapIs w4 (w2.heap.size+1) #[.int .i64 bV,.int .i64 pV,.slice (some ⟨w2.heap.size,0,none⟩) 1 1,tv] 205
 dst:HeapIs w4 w2.heap.size #[.int .i64 dst] 3
 own:w4.ownsRow (w2.heap.size+2) 3 1 tv ts.length (ts.map (Value.int .i64))
 old:Since w2 w4
 size:w2.heap.size+2≤w4.heap.size
section
variable {w2 w4 w5 w6:World} {bV pV dst y:Int} {tv tv':Value} {ts:List Int}
theorem WK.new (w2:World) (bV pV dst:Int):WK w2 bV pV dst (.slice none 0 0) [] ((w2.alloc (.cells #[.int .i64 dst] 3)).alloc (.cells #[.int .i64 bV,.int .i64 pV,.slice (some ⟨w2.heap.size,0,none⟩) 1 1,.slice none 0 0] 205)):=by
 have h2:=HeapIs.new (w2.alloc (.cells #[.int .i64 dst] 3)) #[.int .i64 bV,.int .i64 pV,.slice (some ⟨w2.heap.size,0,none⟩) 1 1,.slice none 0 0] 205;rw[show (w2.alloc (.cells #[.int .i64 dst] 3)).heap.size=w2.heap.size+1 from by simp]at h2;exact⟨h2,(HeapIs.new _ _ _).keep ((Since.refl _).alloc _),W5 _ _ _ _,((Since.refl _).alloc _).alloc _,by simp⟩
theorem WK.keep (h:WK w2 bV pV dst tv ts w4) (s:Since w4 w5):WK w2 bV pV dst tv ts w5:=⟨h.box.keep s,h.dst.keep s,Zv h.own s,h.old.trans s,Nat.le_trans h.size s.size⟩
theorem WK.add (h:WK w2 bV pV dst tv ts w4) (ha:w6.ownsRow (w2.heap.size+2) 3 1 tv' (ts++[y]).length ((ts++[y]).map (Value.int .i64))) (t6:Zb (fun q=>tv.ownBlock=some q) w4 w6):WK w2 bV pV dst tv' (ts++[y]) (w6.setCell ⟨w2.heap.size+1,3,none⟩ tv'):=by
 have hv:∀ q,tv.ownBlock=some q→w2.heap.size+2≤q:=fun q hq=>(World.ownsRow.lt h.own q hq).1
 have tc:Zb (fun q=>q=w2.heap.size+1) w6 (w6.setCell ⟨w2.heap.size+1,3,none⟩ tv'):=(Zb.refl (fun q=>q=w2.heap.size+1) w6).setCell (p:=⟨w2.heap.size+1,3,none⟩) rfl _;have hz:=t6.size;have hb:=tc.size;have:=h.size;refine⟨(h.box.turn t6 fun e=>by have:=hv _ e;omega).set 3 tv',(h.dst.turn t6 fun e=>by have:=hv _ e;omega).turn tc zaK,Zg ha tc fun q hq e=>by have:=(World.ownsRow.lt ha q hq).1;omega,?_,zaK⟩;exact tc.toSince (t6.toSince h.old fun q hq e=>by have:=hv _ e;omega) fun q hq e=>by omega
end
theorem ZcK {base:Nat} {N : Int} {n : Nat} {w3 w5:World} {bV pV dst:Int} {tv:Value} {ts:List Int} (hk:WK w3 bV pV dst tv ts w5) (hd:0≤dst∧dst<N) (hb:0≤bV∧bV<n) (hc:tv.oneCell'=true) (ha:base≤w3.heap.size) (o:Obj):WL base N n (w5.alloc o) ⟨bV,pV,[dst],.slice (some ⟨w3.heap.size,0,none⟩) 1 1,tv⟩:=
 ⟨Qq (cs:=[.int .i64 dst]) (hk.dst.keep ((Since.refl _).alloc _)) ha zap,fun y hy=>(by obtain rfl:=List.mem_singleton.1 hy;exact hd),hb,by show 1≤2;decide,hc⟩
theorem ZcV {base:Nat} {N : Int} {n : Nat} {w5:World} {bV pV:Int} {tv:Value} (hb:0≤bV∧bV<n) (ha:tv.oneCell'=true) (o:Obj):WL base N n (w5.alloc o) ⟨bV,pV,[],.slice none 0 0,tv⟩:=
 ⟨W5 _ _ _ _,fun y hy=>(by cases hy),hb,by show 0≤2;decide,ha⟩
def ThA (base:Nat) (b t:Int) (l:List Int) (tk v:Value) (w:World):Prop:=∃ ma mc,v=.agg #[.int .i64 b,.int .i64 t,.slice ma l.length mc,tk]∧WM base l (.slice ma l.length mc) w
theorem ThA.stable (base:Nat) (b t:Int) (l:List Int) (tk:Value):ZH (ThA base b t l tk):=fun v w w' ⟨ma,mc,h1,h2⟩ s=>⟨ma,mc,h1,Zv h2 s⟩
def ThB (base:Nat) (b t:Int) (l:List Int) (tk v:Value) (w:World):Prop:=∃ q ma mc,v=.slice (some ⟨q,0,none⟩) 1 1∧HeapIs w q #[.int .i64 b,.int .i64 t,.slice ma l.length mc,tk] 205∧WM base l (.slice ma l.length mc) w
theorem ThB.stable (base:Nat) (b t:Int) (l:List Int) (tk:Value):ZH (ThB base b t l tk):=fun v w w' ⟨q,ma,mc,h1,h2,h3⟩ s=>⟨q,ma,mc,h1,h2.keep s,Zv h3 s⟩
theorem VW {base:Nat} {l : List Int} {v : Value} {w : World} (h:WM base l v w):∃ ma mc,v=.slice ma l.length mc:=Ze h
structure Qh (N:Int) (bl:List Zt):Prop where
 n:bl.length≤512
 phis:∀ b∈bl,b.phis.length≤1000∧∀ p∈b.phis,(0≤p.dst∧p.dst<N)∧p.ins.length≤1000
 ins:∀ b∈bl,b.ins.length≤10000∧∀ x∈b.ins,Ye N x
def ZeI (N:Int) (n:Nat) (w:World) (e:Ending) (w':World):Prop:=∃ v xs,e=.returned v∧OwnRow thcells 4 205 w.heap.size w' v xs∧(∀ x∈xs,WL w.heap.size N n w' x)∧Since w w'∧xs.length≤20000*n
theorem Zb9 (base:Nat) (x:YF) (w:World) (ha:base≤w.heap.size):Calls prog 110 #[fiv x] w fun e w'=>∃ v,e=.returned v∧WM base (fmakes x) v w'∧Since w w':=by
 obtain⟨op,dst,two,args,av,imm⟩:=x;unfold fiv fmakes;dsimp only;by_cases h1:op=16
 ·subst h1;rw[if_pos rfl];go_enter func110,ntmps110
  go_wp2
  go_ret
  exact⟨_,rfl,W5 _ _ _ _,(Since.refl _).alloc _⟩
 ·rw[if_neg h1];have hc:(op==16)=false:=by simpa using h1
  by_cases h2:op=18
  ·subst h2;rw[if_pos rfl];clear h1;go_enter func110,ntmps110
   go_wp2
   go_ret
   exact⟨_,rfl,Qq (cs:=[.int .i64 dst,.int .i64 two]) (Jr _ _ _ _) zaK zao,((Since.refl _).alloc _).alloc _⟩
  ·rw[if_neg h2];have hb:(op==18)=false:=by simpa using h2
   clear h1 h2;go_enter func110,ntmps110
   go_wp2
   go_ret
   exact⟨_,rfl,Qq (cs:=[.int .i64 dst]) (Jr _ _ _ _) zaK zap,((Since.refl _).alloc _).alloc _⟩
theorem Kr (N:Int) (params:Int) (bl:List Zt) (bv:Value) (w:World) (h:FnIn w ⟨params,bl,bv⟩) (hn:Qh N bl) :
  Calls prog 135 #[.agg #[.int .i64 params,bv]] w (ZeI N bl.length w):=by
 have h:RowIn fbcells 6 FBlkIn w bv bl:=h;obtain⟨ba,bc,HN,Hs⟩:=RowIn.shape h;subst HN;obtain⟨n,hl⟩:∃ n,bl.length=n:=⟨_,rfl⟩
 have H6:n≤512:=by rw[←hl];exact hn.n
 rw[hl]at Hs h ⊢;have H:=hid h;have H0:=hid hl;have HF:=hid hn;clear h hl hn Hs;have HW:=hid (Wv.new N n w #[.int .i64 params,.slice ba n bc]);go_enter func135,ntmps135
 go_wp2_with fail
 obtain⟨w1,Hj⟩:∃ x,x=(w.alloc (.cells #[.int .i64 params,.slice ba n bc] 109)).alloc (.cells #[] 205):=⟨_,rfl⟩
 rw[←Hj]at HW ⊢;clear Hj
 go_loopw [3,4] (fun av i wr=>∃ (b:Nat) (v:Value) (xs:List ThV),b≤n∧av=v∧i=.int .i64 b∧Wv N n w #[.int .i64 params,.slice ba n bc] v xs wr∧xs.length≤20000*b) (fun _ i _=>n-(intOf i).toNat)
 case atStart=>exact⟨0,_,[],Nat.zero_le _,rfl,rfl,HW.out,Nat.le_refl _⟩
 case round =>
  obtain⟨b,v,xs,hb,rfl,rfl,ha,hh⟩:=hrel;obtain⟨xa,xc,hv⟩:=OwnRow.shape ha.own;obtain⟨xl,hf⟩:∃ x,xs.length=x:=⟨_,rfl⟩
  rw[hf]at hv hh;subst hv;have HT:=hid ha;have hd:=hid hf;have c1:wr.cell? ⟨w.heap.size,1,none⟩=some (.slice ba n bc):=ha.box.cell 1;have Hx:=ha.box.lt;clear ha hf HW;by_cases HH:b<n
  ·obtain⟨B,off,x,rfl,hB,hx,Hr,HG⟩:=RowIn.at H.out (by rw[H0.out];exact HH);have hL:=List.mem_of_getElem? hx;obtain⟨hK,hJ,hI⟩:=HG;obtain⟨pa,pc,hN,hD⟩:=RowIn.shape hK;obtain⟨ia,ic,hQ,HJ⟩:=RowIn.shape hJ;obtain⟨pl,hO⟩:∃ y,x.phis.length=y:=⟨_,rfl⟩
   obtain⟨il,hR⟩:∃ y,x.ins.length=y:=⟨_,rfl⟩
   rw[hO]at hN;rw[hR]at hQ;have H7:pl≤1000:=by rw[←hO];exact (HF.out.phis x hL).1
   have H9:il≤10000:=by rw[←hR];exact (HF.out.ins x hL).1
   have ho:=fun t' h3=>(HT.out.old.cell (p:=⟨B,off+b*6+t',none⟩) hB).trans (Hr t' h3)
   have c0:wr.cell? ⟨B,off+b*6,none⟩=some (.slice pa pl pc):=by rw[←hN];exact ho 0 zaJ
   have c1b:wr.cell? ⟨B,off+b*6+1,none⟩=some (.slice ia il ic):=by rw[←hQ];exact ho 1 zaJ
   have c2:wr.cell? ⟨B,off+b*6+2,none⟩=some (.int .i64 x.term.kind):=ho 2 zaJ;obtain⟨ta,tc,h1⟩:=Zc hI.1;obtain⟨ta2,tc2,hG⟩:=Zc hI.2;obtain⟨al,Ht⟩:∃ y,x.term.args.length=y:=⟨_,rfl⟩
   obtain⟨tl,Hl⟩:∃ y,x.term.to.length=y:=⟨_,rfl⟩
   rw[Ht]at h1;rw[Hl]at hG;have c3:wr.cell? ⟨B,off+b*6+3,none⟩=some (.slice ta al tc):=by rw[←h1];exact ho 3 zaJ
   have c4:wr.cell? ⟨B,off+b*6+4,none⟩=some (.slice ta2 tl tc2):=by rw[←hG];exact ho 4 zaJ
   have c5:wr.cell? ⟨B,off+b*6+5,none⟩=some (.int .i32 x.term.imm):=ho 5 zaJ;have HR:B<wr.heap.size:=Nat.lt_of_lt_of_le hB HT.out.old.size;have HP:=zH (RowIn fpcells 2 YJ w (.slice pa pl pc) x.phis) (by rw[←hN];exact hK);have HI:=zH (RowIn Z6 5 WG w (.slice ia il ic) x.ins) (by rw[←hQ];exact hJ);have Hu:=hid hL;have HV:=hid hO;have H4:=hid hR;clear ho hB hx Hr hK hJ hI hN hQ hO hR hL h1 hG hD HJ Ht Hl;obtain⟨wo,HC⟩:∃ x,x=wr:=⟨_,rfl⟩
   subst HC;go_wp2_with fail
   obtain⟨xb,hY⟩:∃ y,y=wo.heap.size:=⟨_,rfl⟩
   obtain⟨w2,hM⟩:∃ y,y=wo.alloc (.cells #[.slice pa pl pc,.slice ia il ic,.int .i64 x.term.kind,.slice ta al tc,.slice ta2 tl tc2,.int .i32 x.term.imm] 177):=⟨_,rfl⟩
   have HX:=zH (HeapIs w2 xb #[.slice pa pl pc,.slice ia il ic,.int .i64 x.term.kind,.slice ta al tc,.slice ta2 tl tc2,.int .i32 x.term.imm] 177) (by rw[hM,hY];exact HeapIs.new _ _ _);have Hw:=zH (Wv N n w #[.int .i64 params,.slice (some ⟨B,off,none⟩) n bc] (.slice xa xl xc) xs w2) (by rw[hM];exact HT.out.keep ((Since.refl _).alloc _))
   rw[←hY,←hM];clear hM hY HT c0 c1 c1b c2 c3 c4 c5 HR Hx
   go_loopw [3,6] (fun av i w3=>∃ (t:Nat) (v:Value) (xs:List ThV),t≤pl∧av=v∧i=.int .i64 t∧Wv N n w #[.int .i64 params,.slice (some ⟨B,off,none⟩) n bc] v xs w3∧HeapIs w3 xb #[.slice pa pl pc,.slice ia il ic,.int .i64 x.term.kind,.slice ta al tc,.slice ta2 tl tc2,.int .i32 x.term.imm] 177∧xs.length≤20000*b+t) (fun _ i _=>pl-(intOf i).toNat)
   case atStart=>exact⟨0,_,xs,Nat.zero_le _,rfl,rfl,Hw.out,HX.out,by rw[hd.out];omega⟩
   case round =>
    clear Hw HX hd hh;obtain⟨t,v,xs,ht,rfl,rfl,ha,hx,hh⟩:=hrel;obtain⟨w3,h0⟩:∃ y,y=wr:=⟨_,rfl⟩
    subst h0;obtain⟨xa,xc,hv⟩:=OwnRow.shape ha.own;obtain⟨xl,hf⟩:∃ x,xs.length=x:=⟨_,rfl⟩
    rw[hf]at hv hh;subst hv;have HT:=hid ha;have HX:=hid hx;have hd:=hid hf;have cx0:w3.cell? ⟨xb,0,none⟩=some (.slice pa pl pc):=hx.cell 0;have hr:=hx.lt;clear ha hf hx;by_cases h6:t<pl
    ·obtain⟨PB,poff,p,rfl,hS,hp,h8,hH⟩:=RowIn.at HP.out (by rw[HV.out];exact h6);have hD:=(HF.out.phis x Hu.out).2 p (List.mem_of_getElem? hp);obtain⟨na,nc,hj,_⟩:=RowIn.shape (show XG w p.inv p.ins from hH);obtain⟨nl,hP⟩:∃ y,p.ins.length=y:=⟨_,rfl⟩
     rw[hP]at hj;have cp0:w3.cell? ⟨PB,poff+t*2,none⟩=some (.int .i64 p.dst):=(HT.out.old.cell (p:=⟨PB,poff+t*2,none⟩) hS).trans (h8 0 zaJ);have He:Hid (PB<w.heap.size∧w.cell? ⟨PB,poff+t*2+1,none⟩=some (.slice na nl nc)):=hid ⟨hS,by rw[←hj];exact h8 1 zaJ⟩;have HY:Hid (XG w (.slice na nl nc) p.ins):=hid (by rw[←hj];exact hH);have Hz:PB<w3.heap.size:=Nat.lt_of_lt_of_le hS HT.out.old.size;have H8:nl≤1000:=by rw[←hP];exact hD.2
     have HB:=hid hD.1;have H1:=hid hP;clear hS hp h8 hH hD hP hj;go_wp2_with fail
     obtain⟨w4,hZ⟩:∃ y,y=(w3.alloc (.cells #[.int .i64 p.dst] 3)).alloc (.cells #[.int .i64 b,.int .i64 (-1-(t:Int)),.slice (some ⟨w3.heap.size,0,none⟩) 1 1,.slice none 0 0] 205):=⟨_,rfl⟩
     have HK:=zH (WK w3 b (-1-(t:Int)) p.dst (.slice none 0 0) [] w4) (by rw[hZ];exact WK.new _ _ _ _);rw[←hZ];clear hZ cp0 Hz cx0 hr
     go_loopw [8] (fun i w5=>∃ (k:Nat) (tv:Value) (ts:List Int),k≤nl∧i=.int .i64 k∧WK w3 b (-1-(t:Int)) p.dst tv ts w5∧ts.length=k) (fun i _=>nl-(intOf i).toNat)
     case atStart=>exact⟨0,_,[],Nat.zero_le _,rfl,HK.out,rfl⟩
     case round =>
      clear HK;obtain⟨k,tv,ts,hk,rfl,ha,h7⟩:=hrel;obtain⟨w5,HD⟩:∃ y,y=wr:=⟨_,rfl⟩
      subst HD;obtain⟨sa,sc,hv⟩:=Ze ha.own;rw[h7]at hv;subst hv;have HK:=hid ha;have hV:=hid h7;have Hv:=hid (HX.out.keep ha.old);have cx0:w5.cell? ⟨xb,0,none⟩=some (.slice (some ⟨PB,poff,none⟩) pl pc):=Hv.out.cell 0;have hf:=Hv.out.lt;have hW:=hid (HT.out.old.trans ha.old);have cp1:w5.cell? ⟨PB,poff+t*2+1,none⟩=some (.slice na nl nc):=(hW.out.cell (p:=⟨PB,poff+t*2+1,none⟩) He.out.1).trans He.out.2;have Hy:PB<w5.heap.size:=Nat.lt_of_lt_of_le He.out.1 hW.out.size;have cb3:=ha.box.cell 3;have HO:=ha.box.lt;clear ha h7;by_cases hz:k<nl
      ·obtain⟨NB,noff,pr,rfl,Ha,HE,Hp,_⟩:=RowIn.at HY.out (by rw[H1.out];exact hz);obtain⟨py,y⟩:=pr;have KW:Hid (w5.cell? ⟨w3.heap.size+1,3,none⟩=some (.slice sa k sc)∧w5.cell? ⟨xb,0,none⟩=some (.slice (some ⟨PB,poff,none⟩) pl pc)∧w5.cell? ⟨PB,poff+t*2+1,none⟩=some (.slice (some ⟨NB,noff,none⟩) nl nc)∧w5.cell? ⟨NB,noff+k*2+1,none⟩=some (.int .i64 y)∧xb<w5.heap.size∧PB<w5.heap.size∧NB<w5.heap.size∧w3.heap.size+1<w5.heap.size∧True):=hid ⟨cb3,cx0,cp1,(hW.out.cell (p:=⟨NB,noff+k*2+1,none⟩) Ha).trans (Hp 1 zaJ),hf,Hy,Nat.lt_of_lt_of_le Ha hW.out.size,HO,trivial⟩;clear Ha HE Hp;go_wp2_with fail
       refine Zh 13 rfl zaC zaC zaC zaJ
        [Is (.pointer (some ⟨w3.heap.size+1,3,none⟩)),Is (.slice sa k sc),Is (.pointer (some ⟨xb,0,none⟩)),Is (.slice (some ⟨PB,poff,none⟩) pl pc),Is (.int .i64 t),Is (.pointer (some ⟨PB,poff+t*2,none⟩)),Is (.pointer (some ⟨PB,poff+t*2+1,none⟩)),Is (.slice (some ⟨NB,noff,none⟩) nl nc),Is (.int .i64 k),Is (.pointer (some ⟨NB,noff+k*2,none⟩)),Is (.pointer (some ⟨NB,noff+k*2+1,none⟩)),Is (.int .i64 y),Zo .i64 [y]]
        kP ⟨?_,?_,?_,?_,?_,?_,?_,?_,?_,?_,?_,?_,?_,trivial⟩ ?_
       rotate_right
       ·intro vs w6 hs hk;have k1:w6.cell? ⟨w3.heap.size+1,3,none⟩=some (.slice sa k sc):=(hs.cell KW.out.2.2.2.2.2.2.2.1).trans KW.out.1;have k2:w6.cell? ⟨xb,0,none⟩=some (.slice (some ⟨PB,poff,none⟩) pl pc):=(hs.cell KW.out.2.2.2.2.1).trans KW.out.2.1;have k3:w6.cell? ⟨PB,poff+t*2+1,none⟩=some (.slice (some ⟨NB,noff,none⟩) nl nc):=(hs.cell KW.out.2.2.2.2.2.1).trans KW.out.2.2.1;have k4:w6.cell? ⟨NB,noff+k*2+1,none⟩=some (.int .i64 y):=(hs.cell KW.out.2.2.2.2.2.2.1).trans KW.out.2.2.2.1;have l1:xb<w6.heap.size:=Nat.lt_of_lt_of_le KW.out.2.2.2.2.1 hs.size;have l2:PB<w6.heap.size:=Nat.lt_of_lt_of_le KW.out.2.2.2.2.2.1 hs.size;have l3:NB<w6.heap.size:=Nat.lt_of_lt_of_le KW.out.2.2.2.2.2.2.1 hs.size;have l4:w3.heap.size+1<w6.heap.size:=Nat.lt_of_lt_of_le KW.out.2.2.2.2.2.2.2.1 hs.size;simp only[List.take,List.drop,putAll,Act.put,Zi,Zj,Is,List.setIfInBounds_toArray,List.set_cons_zero,List.set_cons_succ,Nat.reduceAdd]at hk ⊢
        try simp only[hk]
        obtain⟨nv,hj⟩:∃ z,vs 12=z:=⟨_,rfl⟩
        have hl:Zy .i64 w6 nv [y]:=by rw[←hj];exact hk.2.2.2.2.2.2.2.2.2.2.2.2.1
        rw[hj];have hF:=hid (HK.out.keep hs);have HZ:=hid hl;have HL:=(HK.out.keep hs).box.frozen;clear hk hs hl hj k2 k3 k4 l1 l2 l3;go_wp2_with (refine Zl (base:=w3.heap.size+2) .i64 rfl _ _ 22 rfl 3 (.int .i64 0) 8 underlying22 Tryz.info3 rfl zaJ (.slice sa k sc) nv ts [y] rfl rfl (by have h9:=hF.out.own;rw[hV.out]at h9 ⊢;exact h9) HZ.out (by rw[hV.out];simp;omega) (by have:=hF.out.size;omega) ?_;intro v7 w7 hw h2 Hf;obtain⟨a7,c7,Hk⟩:=Ze hw;rw[show (ts++[y]).length=k+1 from by rw[List.length_append,hV.out];rfl]at Hk;subst Hk;have hA:=hF.out.box.turn h2 (fun e=>by have:=(World.ownsRow.lt hF.out.own _ e).1;omega);have td:=hA.frozen;have tf:=hA.lt;have k7:=hA.cell 3;have H2:=hid (hF.out.add hw h2);clear hw h2 Hf hA HL k1 l4)
        go_roundw
        case rel=>exact⟨k+1,_,ts++[y],zaK,by go_num,H2.out,by rw[List.length_append,hV.out];rfl⟩
        case measure=>simp[intOf];omega
       all_goals
        intro vs w6 hs hk _;have k1:w6.cell? ⟨w3.heap.size+1,3,none⟩=some (.slice sa k sc):=(hs.cell KW.out.2.2.2.2.2.2.2.1).trans KW.out.1;have k2:w6.cell? ⟨xb,0,none⟩=some (.slice (some ⟨PB,poff,none⟩) pl pc):=(hs.cell KW.out.2.2.2.2.1).trans KW.out.2.1;have k3:w6.cell? ⟨PB,poff+t*2+1,none⟩=some (.slice (some ⟨NB,noff,none⟩) nl nc):=(hs.cell KW.out.2.2.2.2.2.1).trans KW.out.2.2.1;have k4:w6.cell? ⟨NB,noff+k*2+1,none⟩=some (.int .i64 y):=(hs.cell KW.out.2.2.2.2.2.2.1).trans KW.out.2.2.2.1;have l1:xb<w6.heap.size:=Nat.lt_of_lt_of_le KW.out.2.2.2.2.1 hs.size;have l2:PB<w6.heap.size:=Nat.lt_of_lt_of_le KW.out.2.2.2.2.2.1 hs.size;have l3:NB<w6.heap.size:=Nat.lt_of_lt_of_le KW.out.2.2.2.2.2.2.1 hs.size;have l4:w3.heap.size+1<w6.heap.size:=Nat.lt_of_lt_of_le KW.out.2.2.2.2.2.2.2.1 hs.size;simp only[List.take,putAll,Act.put,Zp,Zj,Is,List.setIfInBounds_toArray,List.set_cons_zero,List.set_cons_succ,Nat.reduceAdd]at hk ⊢
        try simp only[hk]
       iterate 12
        ·exact kH
       ·go_wp2
        exact⟨_,rfl,Ym _ _ _,(Since.refl _).alloc _⟩
      ·obtain rfl:nl=k:=zaK
       have H5:=hid HK.out.box;have hU:=hid (HT.out.keep HK.out.old);go_wp2_with (first | (refine wpList_load_row rfl _ _ rfl (w3.heap.size+1) rfl 205 _ (0,0) _ H5.out underlying205 rfl zaF ?_) | (refine ZC (base:=w.heap.size+1) thcells 4 X6 zaJ rfl _ _ 202 rfl 205 (.agg #[.int .i64 0,.int .i64 0,.slice none 0 0,.slice none 0 0]) 64 underlying202 zaF rfl (.slice xa xl xc) xs ⟨b,-1-(t:Int),[p.dst],.slice (some ⟨w3.heap.size,0,none⟩) 1 1,.slice sa nl sc⟩ _ _ _ rfl rfl (by have h9:=OwnRow.keep hU.out.own ((Since.refl w5).alloc (.cells #[.int .i64 b,.int .i64 (-1-(t:Int)),.slice (some ⟨w3.heap.size,0,none⟩) 1 1,.slice sa nl sc] 205));exact h9) (HeapIs.new _ _ _) kN (by rw[hd.out];unfold maxLen;omega) (by rw[hd.out];omega) (by have:=hU.out.size;simp;omega) ?_;intro v8 w8 hc hg hi;obtain⟨a8,c8,he⟩:=OwnRow.shape hc;rw[List.length_append,hd.out]at he;have he:v8=.slice a8 (xl+1) c8:=he;subst he;have hE:=hid ((hU.out.keep ((Since.refl _).alloc _)).add (ZcK HK.out HB.out ⟨zaK,zaK⟩ rfl HT.out.old.size _) hc hg);have hT:=hid (((HX.out.keep HK.out.old).keep ((Since.refl _).alloc _)).turn hg (Zn (show w5.ownsRow _ _ _ _ _ _ from hU.out.own) (HX.out.keep HK.out.old) zaJ));clear hc hg hi))
       exact qG
    ·obtain rfl:pl=t:=zaK
     clear h6;go_wp2_with fail
     go_loopw [3,9] (fun av i wr=>∃ (t:Nat) (v:Value) (xs:List ThV),t≤il∧av=v∧i=.int .i64 t∧Wv N n w #[.int .i64 params,.slice (some ⟨B,off,none⟩) n bc] v xs wr∧HeapIs wr xb #[.slice pa pl pc,.slice ia il ic,.int .i64 x.term.kind,.slice ta al tc,.slice ta2 tl tc2,.int .i32 x.term.imm] 177∧xs.length≤20000*b+1000+t) (fun _ i _=>il-(intOf i).toNat)
     case atStart=>exact⟨0,_,xs,Nat.zero_le _,rfl,rfl,HT.out,HX.out,by rw[hd.out];omega⟩
     case round =>
      clear HT HX hd hh ht cx0 hr;obtain⟨t,v,xs,ht,rfl,rfl,ha,hx,hh⟩:=hrel;obtain⟨w3,h0⟩:∃ y,y=wr:=⟨_,rfl⟩
      subst h0;obtain⟨xa,xc,hv⟩:=OwnRow.shape ha.own;obtain⟨xl,hf⟩:∃ x,xs.length=x:=⟨_,rfl⟩
      rw[hf]at hv hh;subst hv;have HT:=hid ha;have HX:=hid hx;have hd:=hid hf;have cx1:w3.cell? ⟨xb,1,none⟩=some (.slice ia il ic):=hx.cell 1;have hr:=hx.lt;clear ha hf hx;by_cases hz:t<il
      ·obtain⟨IB,ioff,y,rfl,Hb,hy,Hq,hX⟩:=RowIn.at HI.out (by rw[H4.out];exact hz);have Hh:=(HF.out.ins x Hu.out).2 y (List.mem_of_getElem? hy);obtain⟨yop,ydst,ytwo,yargs,yav,yimm⟩:=y;obtain⟨ya,yc,Hg⟩:=Zc (show Zd w yav yargs from hX);obtain⟨yl,Hi⟩:∃ z,yargs.length=z:=⟨_,rfl⟩
       rw[Hi]at Hg;subst Hg;have H3:=hid (Js Hh);have hq:=fun t' h3=>(HT.out.old.cell (p:=⟨IB,ioff+t*5+t',none⟩) Hb).trans (Hq t' h3)
       have KW:Hid (w3.cell? ⟨xb,1,none⟩=some (.slice (some ⟨IB,ioff,none⟩) il ic)∧w3.cell? ⟨IB,ioff+t*5,none⟩=some (.int .i64 yop)∧w3.cell? ⟨IB,ioff+t*5+1,none⟩=some (.int .i64 ydst)∧w3.cell? ⟨IB,ioff+t*5+2,none⟩=some (.int .i64 ytwo)∧w3.cell? ⟨IB,ioff+t*5+3,none⟩=some (.slice ya yl yc)∧w3.cell? ⟨IB,ioff+t*5+4,none⟩=some (.int .i32 yimm)∧xb<w3.heap.size∧IB<w3.heap.size):=hid ⟨cx1,hq 0 zaJ,hq 1 zaJ,hq 2 zaJ,hq 3 zaJ,hq 4 zaJ,hr,Nat.lt_of_lt_of_le Hb HT.out.old.size⟩;clear Hb hy Hq hq hX Hh Hi;go_wp2_with fail
       refine Zh 17 rfl zaC zaC zaC zaJ
        [Is (.slice xa xl xc),Is (.int .i64 b),Is (.int .i64 t),Is (.pointer (some ⟨xb,1,none⟩)),Is (.slice (some ⟨IB,ioff,none⟩) il ic),Is (.int .i64 t),Is (.pointer (some ⟨IB,ioff+t*5,none⟩)),Is (.agg #[.int .i64 yop,.int .i64 ydst,.int .i64 ytwo,.slice ya yl yc,.int .i32 yimm]),WM w.heap.size (fmakes ⟨yop,ydst,ytwo,yargs,.slice ya yl yc,yimm⟩),Is (.pointer (some ⟨xb,1,none⟩)),Is (.slice (some ⟨IB,ioff,none⟩) il ic),Is (.int .i64 t),Is (.pointer (some ⟨IB,ioff+t*5,none⟩)),Is (.pointer (some ⟨IB,ioff+t*5+3,none⟩)),Is (.slice ya yl yc),ThA w.heap.size b t (fmakes ⟨yop,ydst,ytwo,yargs,.slice ya yl yc,yimm⟩) (.slice ya yl yc),ThB w.heap.size b t (fmakes ⟨yop,ydst,ytwo,yargs,.slice ya yl yc,yimm⟩) (.slice ya yl yc)]
        (by repeat (first | exact trivial | refine⟨Is.stable _,?_⟩ | refine⟨WM.stable _ _,?_⟩ | refine⟨ThA.stable _ _ _ _ _,?_⟩ | refine⟨ThB.stable _ _ _ _ _,?_⟩)) ⟨?_,?_,?_,?_,?_,?_,?_,?_,?_,?_,?_,?_,?_,?_,?_,?_,?_,trivial⟩ ?_
       rotate_right
       ·intro vs w20 hs hk;have k1:w20.cell? ⟨xb,1,none⟩=some (.slice (some ⟨IB,ioff,none⟩) il ic):=(hs.cell KW.out.2.2.2.2.2.2.1).trans KW.out.1;have i0:w20.cell? ⟨IB,ioff+t*5,none⟩=some (.int .i64 yop):=(hs.cell KW.out.2.2.2.2.2.2.2).trans KW.out.2.1;have i1:w20.cell? ⟨IB,ioff+t*5+1,none⟩=some (.int .i64 ydst):=(hs.cell KW.out.2.2.2.2.2.2.2).trans KW.out.2.2.1;have i2:w20.cell? ⟨IB,ioff+t*5+2,none⟩=some (.int .i64 ytwo):=(hs.cell KW.out.2.2.2.2.2.2.2).trans KW.out.2.2.2.1;have i3:w20.cell? ⟨IB,ioff+t*5+3,none⟩=some (.slice ya yl yc):=(hs.cell KW.out.2.2.2.2.2.2.2).trans KW.out.2.2.2.2.1;have i4:w20.cell? ⟨IB,ioff+t*5+4,none⟩=some (.int .i32 yimm):=(hs.cell KW.out.2.2.2.2.2.2.2).trans KW.out.2.2.2.2.2.1;have l1:xb<w20.heap.size:=Nat.lt_of_lt_of_le KW.out.2.2.2.2.2.2.1 hs.size;have l2:IB<w20.heap.size:=Nat.lt_of_lt_of_le KW.out.2.2.2.2.2.2.2 hs.size;simp only[List.take,List.drop,putAll,Act.put,Zi,Zj,Is,List.setIfInBounds_toArray,List.set_cons_zero,List.set_cons_succ,Nat.reduceAdd]at hk ⊢
        try simp only[hk]
        obtain⟨q9,ma,mc,Ho,Hn,h4⟩:ThB w.heap.size b t (fmakes ⟨yop,ydst,ytwo,yargs,.slice ya yl yc,yimm⟩) (.slice ya yl yc) (vs 16) w20:=hk.2.2.2.2.2.2.2.2.2.2.2.2.2.2.2.2.1;simp only[Ho];have HQ:=hid (And.intro Hn h4);have hC:=hid (HT.out.keep hs);have Hc:=hid (HX.out.keep hs);have HS:=zH (WL w.heap.size N n w20 ⟨b,t,(fmakes ⟨yop,ydst,ytwo,yargs,.slice ya yl yc,yimm⟩),.slice ma (fmakes ⟨yop,ydst,ytwo,yargs,.slice ya yl yc,yimm⟩).length mc,.slice ya yl yc⟩) ⟨h4,H3.out,⟨by show (0:Int)≤b;omega,by show (b:Int)<n;omega⟩,VZ _,rfl⟩;clear hk hs Ho Hn h4 k1 i0 i1 i2 i3 i4 l1 l2;go_wp2_with (refine ZC (base:=w.heap.size+1) thcells 4 X6 zaJ rfl _ _ 202 rfl 205 (.agg #[.int .i64 0,.int .i64 0,.slice none 0 0,.slice none 0 0]) 64 underlying202 zaF rfl (.slice xa xl xc) xs ⟨b,t,(fmakes ⟨yop,ydst,ytwo,yargs,.slice ya yl yc,yimm⟩),.slice ma (fmakes ⟨yop,ydst,ytwo,yargs,.slice ya yl yc,yimm⟩).length mc,.slice ya yl yc⟩ _ _ _ rfl rfl (hC.out.own) (HQ.out.1) kN (by rw[hd.out];unfold maxLen;omega) (by rw[hd.out];omega) (hC.out.size) ?_;intro v8 w8 hc hg hi;obtain⟨a8,c8,he⟩:=OwnRow.shape hc;rw[List.length_append,hd.out]at he;have he:v8=.slice a8 (xl+1) c8:=he;subst he;have hE:=hid (hC.out.add (HS.out) hc hg);have hT:=hid ((Hc.out).turn hg (Zn (show World.ownsRow _ _ _ _ _ _ _ from hC.out.own) (Hc.out) zaJ));clear hc hg hi)
        exact qG
       all_goals
        intro vs w20 hs hk _;have k1:w20.cell? ⟨xb,1,none⟩=some (.slice (some ⟨IB,ioff,none⟩) il ic):=(hs.cell KW.out.2.2.2.2.2.2.1).trans KW.out.1;have i0:w20.cell? ⟨IB,ioff+t*5,none⟩=some (.int .i64 yop):=(hs.cell KW.out.2.2.2.2.2.2.2).trans KW.out.2.1;have i1:w20.cell? ⟨IB,ioff+t*5+1,none⟩=some (.int .i64 ydst):=(hs.cell KW.out.2.2.2.2.2.2.2).trans KW.out.2.2.1;have i2:w20.cell? ⟨IB,ioff+t*5+2,none⟩=some (.int .i64 ytwo):=(hs.cell KW.out.2.2.2.2.2.2.2).trans KW.out.2.2.2.1;have i3:w20.cell? ⟨IB,ioff+t*5+3,none⟩=some (.slice ya yl yc):=(hs.cell KW.out.2.2.2.2.2.2.2).trans KW.out.2.2.2.2.1;have i4:w20.cell? ⟨IB,ioff+t*5+4,none⟩=some (.int .i32 yimm):=(hs.cell KW.out.2.2.2.2.2.2.2).trans KW.out.2.2.2.2.2.1;have l1:xb<w20.heap.size:=Nat.lt_of_lt_of_le KW.out.2.2.2.2.2.2.1 hs.size;have l2:IB<w20.heap.size:=Nat.lt_of_lt_of_le KW.out.2.2.2.2.2.2.2 hs.size;simp only[List.take,putAll,Act.put,Zp,Zj,Is,List.setIfInBounds_toArray,List.set_cons_zero,List.set_cons_succ,Nat.reduceAdd]at hk ⊢
        try simp only[hk]
       iterate 8
        ·exact kH
       ·have HA:=hid hs;go_wp2_with fail
        refine (Zb9 w.heap.size ⟨yop,ydst,ytwo,yargs,.slice ya yl yc,yimm⟩ _ (Nat.le_trans HT.out.old.size HA.out.size)).mono ?_;rintro e w21 ⟨mv,rfl,hm,Hm⟩;have HM:=hid hm;have HU:=hid Hm;clear hm Hm hk hs k1 i0 i1 i2 i3 i4 l1 l2;go_wp2
        exact⟨_,rfl,HM.out,HU.out⟩
       iterate 6
        ·exact kH
       ·have hm:WM w.heap.size (fmakes ⟨yop,ydst,ytwo,yargs,.slice ya yl yc,yimm⟩) (vs 8) w20:=hk.2.2.1;obtain⟨ma,mc,h5⟩:=VW hm;have HM:=zH (WM w.heap.size (fmakes ⟨yop,ydst,ytwo,yargs,.slice ya yl yc,yimm⟩) (.slice ma (fmakes ⟨yop,ydst,ytwo,yargs,.slice ya yl yc,yimm⟩).length mc) w20) (by rw[←h5];exact hm);simp only[h5];clear hk hm h5;go_wp2
        exact⟨_,rfl,⟨_,_,rfl,HM.out⟩,.refl _⟩
       ·obtain⟨ma,mc,hv,hm⟩:ThA w.heap.size b t (fmakes ⟨yop,ydst,ytwo,yargs,.slice ya yl yc,yimm⟩) (.slice ya yl yc) (vs 15) w20:=hk.1;simp only[hv];have HM:=hid hm;clear hk hm hv;go_wp2
        exact⟨_,rfl,⟨_,_,_,rfl,HeapIs.new _ _ _,Zv HM.out ((Since.refl _).alloc _)⟩,(Since.refl _).alloc _⟩
      ·obtain rfl:il=t:=zaK
       have cx3:w3.cell? ⟨xb,3,none⟩=some (.slice ta al tc):=HX.out.cell 3;clear hz;go_wp2_with (refine ZC (base:=w.heap.size+1) thcells 4 X6 zaJ rfl _ _ 202 rfl 205 (.agg #[.int .i64 0,.int .i64 0,.slice none 0 0,.slice none 0 0]) 64 underlying202 zaF rfl (.slice xa xl xc) xs ⟨b,il,[],.slice none 0 0,.slice ta al tc⟩ _ _ _ rfl rfl (by have h9:=OwnRow.keep HT.out.own ((Since.refl w3).alloc (.cells #[.int .i64 b,.int .i64 il,.slice none 0 0,.slice ta al tc] 205));exact h9) (HeapIs.new _ _ _) kN (by rw[hd.out];unfold maxLen;omega) (by rw[hd.out];omega) (by have:=HT.out.size;simp;omega) ?_;intro v8 w8 hc hg hi;obtain⟨a8,c8,he⟩:=OwnRow.shape hc;rw[List.length_append,hd.out]at he;have he:v8=.slice a8 (xl+1) c8:=he;subst he;have hE:=hid ((HT.out.keep ((Since.refl _).alloc _)).add (ZcV ⟨zaK,zaK⟩ rfl _) hc hg);have hT:=hid ((HX.out.keep ((Since.refl _).alloc _)).turn hg (Zn (show World.ownsRow _ _ _ _ _ _ _ from HT.out.own) (HX.out) zaJ));clear hc hg hi)
       go_roundw
       case rel=>exact⟨b+1,_,xs++[_],zaK,rfl,by go_num,hE.out,by rw[List.length_append,hd.out];show xl+1≤_;omega⟩
       case measure=>simp[intOf];omega
  ·obtain rfl:n=b:=zaK
   go_wp2
   go_ret
   exact⟨_,xs,rfl,Zaz HT.out.own (Nat.le_succ _),HT.out.each,HT.out.old,by rw[hd.out];omega⟩
end Go.Proofs.YtimpddecdodddaaGreat
