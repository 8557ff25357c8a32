import Derived.Test.YtimpddecdodddaaGreatSb28
namespace Go.Proofs.YtimpddecdodddaaGreat
open Go.RowKit Go.Lib
set_option linter.unusedVariables false
set_option maxHeartbeats 8000000
set_option maxRecDepth 100000
theorem qs {P:Prop} (h:P:=by
 go_roundw
 case rel=>exact⟨t+1,_,xs++[_],by omega,rfl,by go_num,hE.out,hT.out,by rw[List.length_append,hd.out];show xl+1≤_;omega⟩
 case measure=>simp[intOf];omega):P:=h
theorem jR {P:Prop} (h:P:=by intro u hu;simp only[thcells,List.mem_cons,List.not_mem_nil,or_false]at hu;rcases hu with rfl | rfl | rfl | rfl<;>rfl):P:=h
structure ThV where
 block:Int
 place:Int
 mkl:List Int
 mkv:Value
 tkv:Value
def thcells (x:ThV):List Value:=[.int .i64 x.block,.int .i64 x.place,x.mkv,x.tkv]
theorem XU (x:ThV):(thcells x).length=4:=rfl
def WG (base:Nat) (l:List Int) (v:Value) (w:World):Prop:=w.ownsRow base 3 1 v l.length (l.map (Value.int .i64))
theorem WG.stable (base:Nat) (l:List Int):ZM (WG base l):=fun v w w' h s=>Zs h s
def WE (base:Nat) (N:Int) (n:Nat) (w:World) (x:ThV):Prop:=WG base x.mkl x.mkv w∧(∀ y∈x.mkl,0≤y∧y<N)∧(0≤x.block∧x.block<n)∧x.mkl.length≤2∧x.tkv.oneCell'=true
theorem WE.keep {base:Nat} {N : Int} {n : Nat} {w w':World} {x : ThV} (h:WE base N n w x) (s:Since w w'):WE base N n w' x:=⟨Zs h.1 s,h.2⟩
theorem QW {w : World} {base base':Nat} {e : TypeId} {sz n:Nat} {v : Value} {xs:List Value} (h:w.ownsRow base e sz v n xs) (hb:base'≤base):w.ownsRow base' e sz v n xs:=by
 obtain⟨h0,h1|⟨g,cap,cur,h1,h2,h3⟩⟩:=h
 ·exact⟨h0,.inl h1⟩
 ·exact⟨h0,.inr ⟨g,cap,cur,h1,Nat.le_trans hb h2,h3⟩⟩
theorem KU {w : World} {q base:Nat} {cs:List Value} {T : TypeId} (h:HeapIs w q cs.toArray T) (hb:base≤q) (hl:cs.length≤maxLen):w.ownsRow base T 1 (.slice (some ⟨q,0,none⟩) cs.length cs.length) cs.length cs:=
 ⟨by simp,.inr ⟨q,cs.length,cs.toArray,rfl,hb,h,Nat.le_refl _,hl,by simp,by simp⟩⟩
theorem Jf (w:World) (o:Obj) (cs:Array Value) (T:TypeId):HeapIs ((w.alloc o).alloc (.cells cs T)) (w.heap.size+1) cs T:=by
 have h2:=HeapIs.new (w.alloc o) cs T;rw[show (w.alloc o).heap.size=w.heap.size+1 from by simp]at h2;exact h2
structure Wl (N:Int) (n:Nat) (w:World) (cs:Array Value) (v:Value) (xs:List ThV) (wr:World):Prop where
 box:HeapIs wr w.heap.size cs 109
 own:OwnRow thcells 4 205 (w.heap.size+1) wr v xs
 each:∀ x∈xs,WE w.heap.size N n wr x
 old:Since w wr
 size:w.heap.size+1≤wr.heap.size
theorem Wl.new (N:Int) (n:Nat) (w:World) (cs:Array Value):Wl N n w cs (.slice (some ⟨w.heap.size+1,0,none⟩) 0 0) [] ((w.alloc (.cells cs 109)).alloc (.cells #[] 205)):=by
 have h2:=HeapIs.new (w.alloc (.cells cs 109)) #[] 205;rw[show (w.alloc (.cells cs 109)).heap.size=w.heap.size+1 from by simp]at h2;exact⟨(HeapIs.new w cs 109).keep ((Since.refl _).alloc _),⟨rfl,.inr ⟨w.heap.size+1,0,#[],rfl,Nat.le_refl _,h2,Nat.le_refl _,Nat.zero_le _,rfl,rfl⟩⟩,fun x hx=>kR,((Since.refl _).alloc _).alloc _,by simp⟩
section
variable {N : Int} {n : Nat} {w wr w2 w6:World} {cs:Array Value} {v v':Value} {xs:List ThV} {x : ThV}
theorem Wl.keep (h:Wl N n w cs v xs wr) (s:Since wr w2):Wl N n w cs v xs w2:=
 ⟨h.box.keep s,OwnRow.keep h.own s,fun x hx=>(h.each x hx).keep s,h.old.trans s,Nat.le_trans h.size s.size⟩
theorem Wl.add (h:Wl N n w cs v xs wr) (hx:WE w.heap.size N n wr x) (ha:OwnRow thcells 4 205 (w.heap.size+1) w6 v' (xs++[x])) (t6:Turn (fun q=>v.ownBlock=some q) wr w6):Wl N n w cs v' (xs++[x]) w6:=by
 have hv:∀ q,v.ownBlock=some q→w.heap.size+1≤q:=fun q hq=>(World.ownsRow.lt (show wr.ownsRow _ _ _ _ _ _ from h.own) q hq).1
 have hz:=t6.size;refine⟨h.box.turn t6 fun e=>by have:=hv _ e;omega,ha,fun y hy=>?_,t6.toSince h.old fun q hq e=>by have:=hv _ e;omega,by have:=h.size;omega⟩;have h3:WE w.heap.size N n wr y:=by
  rcases List.mem_append.1 hy with hy|hy
  ·exact h.each y hy
  ·obtain rfl:=List.mem_singleton.1 hy;exact hx
 exact⟨Zj h3.1 t6 fun q hq e=>Xd h3.1 (show wr.ownsRow _ _ _ _ _ _ from h.own) kS q hq e,h3.2⟩
end
structure WD (w2:World) (bV pV dst:Int) (tv:Value) (ts:List Int) (w4:World):Prop where
 box:HeapIs w4 (w2.heap.size+1) #[.int .i64 bV,.int .i64 pV,.slice (some ⟨w2.heap.size,0,none⟩) 1 1,tv] 205
 dst:HeapIs w4 w2.heap.size #[.int .i64 dst] 3
 own:w4.ownsRow (w2.heap.size+2) 3 1 tv ts.length (ts.map (Value.int .i64))
 old:Since w2 w4
 size:w2.heap.size+2≤w4.heap.size
section
variable {w2 w4 w5 w6:World} {bV pV dst y:Int} {tv tv':Value} {ts:List Int}
theorem WD.new (w2:World) (bV pV dst:Int):WD w2 bV pV dst (.slice none 0 0) [] ((w2.alloc (.cells #[.int .i64 dst] 3)).alloc (.cells #[.int .i64 bV,.int .i64 pV,.slice (some ⟨w2.heap.size,0,none⟩) 1 1,.slice none 0 0] 205)):=by
 have h2:=HeapIs.new (w2.alloc (.cells #[.int .i64 dst] 3)) #[.int .i64 bV,.int .i64 pV,.slice (some ⟨w2.heap.size,0,none⟩) 1 1,.slice none 0 0] 205;rw[show (w2.alloc (.cells #[.int .i64 dst] 3)).heap.size=w2.heap.size+1 from by simp]at h2;exact⟨h2,(HeapIs.new _ _ _).keep ((Since.refl _).alloc _),XO _ _ _ _,((Since.refl _).alloc _).alloc _,by simp⟩
theorem WD.keep (h:WD w2 bV pV dst tv ts w4) (s:Since w4 w5):WD w2 bV pV dst tv ts w5:=⟨h.box.keep s,h.dst.keep s,Zs h.own s,h.old.trans s,Nat.le_trans h.size s.size⟩
theorem WD.add (h:WD w2 bV pV dst tv ts w4) (ha:w6.ownsRow (w2.heap.size+2) 3 1 tv' (ts++[y]).length ((ts++[y]).map (Value.int .i64))) (t6:Turn (fun q=>tv.ownBlock=some q) w4 w6):WD w2 bV pV dst tv' (ts++[y]) (w6.setCell ⟨w2.heap.size+1,3,none⟩ tv'):=by
 have hv:∀ q,tv.ownBlock=some q→w2.heap.size+2≤q:=fun q hq=>(World.ownsRow.lt h.own q hq).1
 have tc:Turn (fun q=>q=w2.heap.size+1) w6 (w6.setCell ⟨w2.heap.size+1,3,none⟩ tv'):=(Turn.refl (fun q=>q=w2.heap.size+1) w6).setCell (p:=⟨w2.heap.size+1,3,none⟩) rfl _;have hz:=t6.size;have hb:=tc.size;have:=h.size;refine⟨(h.box.turn t6 fun e=>by have:=hv _ e;omega).set 3 tv',(h.dst.turn t6 fun e=>by have:=hv _ e;omega).turn tc kT,Zj ha tc fun q hq e=>by have:=(World.ownsRow.lt ha q hq).1;omega,?_,kT⟩;exact tc.toSince (t6.toSince h.old fun q hq e=>by have:=hv _ e;omega) fun q hq e=>by omega
end
theorem ZbI {base:Nat} {N : Int} {n : Nat} {w3 w5:World} {bV pV dst:Int} {tv:Value} {ts:List Int} (hk:WD w3 bV pV dst tv ts w5) (hd:0≤dst∧dst<N) (hb:0≤bV∧bV<n) (hc:tv.oneCell'=true) (ha:base≤w3.heap.size) (o:Obj):WE base N n (w5.alloc o) ⟨bV,pV,[dst],.slice (some ⟨w3.heap.size,0,none⟩) 1 1,tv⟩:=
 ⟨KU (cs:=[.int .i64 dst]) (hk.dst.keep ((Since.refl _).alloc _)) ha kx,fun y hy=>(by obtain rfl:=List.mem_singleton.1 hy;exact hd),hb,by show 1≤2;decide,hc⟩
theorem ZbR {base:Nat} {N : Int} {n : Nat} {w5:World} {bV pV:Int} {tv:Value} (hb:0≤bV∧bV<n) (ha:tv.oneCell'=true) (o:Obj):WE base N n (w5.alloc o) ⟨bV,pV,[],.slice none 0 0,tv⟩:=
 ⟨XO _ _ _ _,fun y hy=>(by cases hy),hb,by show 0≤2;decide,ha⟩
def ThA (base:Nat) (b t:Int) (l:List Int) (tk v:Value) (w:World):Prop:=∃ ma mc,v=.agg #[.int .i64 b,.int .i64 t,.slice ma l.length mc,tk]∧WG base l (.slice ma l.length mc) w
theorem ThA.stable (base:Nat) (b t:Int) (l:List Int) (tk:Value):ZM (ThA base b t l tk):=fun v w w' ⟨ma,mc,h1,h2⟩ s=>⟨ma,mc,h1,Zs h2 s⟩
def ThB (base:Nat) (b t:Int) (l:List Int) (tk v:Value) (w:World):Prop:=∃ q ma mc,v=.slice (some ⟨q,0,none⟩) 1 1∧HeapIs w q #[.int .i64 b,.int .i64 t,.slice ma l.length mc,tk] 205∧WG base l (.slice ma l.length mc) w
theorem ThB.stable (base:Nat) (b t:Int) (l:List Int) (tk:Value):ZM (ThB base b t l tk):=fun v w w' ⟨q,ma,mc,h1,h2,h3⟩ s=>⟨q,ma,mc,h1,h2.keep s,Zs h3 s⟩
theorem VN {base:Nat} {l : List Int} {v : Value} {w : World} (h:WG base l v w):∃ ma mc,v=.slice ma l.length mc:=Zf h
structure KL (N:Int) (bl:List Zr):Prop where
 n:bl.length≤512
 phis:∀ b∈bl,b.phis.length≤1000∧∀ p∈b.phis,(0≤p.dst∧p.dst<N)∧p.ins.length≤1000
 ins:∀ b∈bl,b.ins.length≤10000∧∀ x∈b.ins,Ya N x
def Zd9 (N:Int) (n:Nat) (w:World) (e:Ending) (w':World):Prop:=∃ v xs,e=.returned v∧OwnRow thcells 4 205 w.heap.size w' v xs∧(∀ x∈xs,WE w.heap.size N n w' x)∧Since w w'∧xs.length≤20000*n
theorem Zbd (base:Nat) (x:Yx) (w:World) (ha:base≤w.heap.size):Calls Tryz.prog 110 #[fiv x] w fun e w'=>∃ v,e=.returned v∧WG base (fmakes x) v w'∧Since w w':=by
 obtain⟨op,dst,two,args,av,imm⟩:=x;unfold fiv fmakes;dsimp only;by_cases h1:op=16
 ·subst h1;rw[if_pos rfl];go_enter Tryz.func110,Tryz.ntmps110
  go_wp2
  go_ret
  exact⟨_,rfl,XO _ _ _ _,(Since.refl _).alloc _⟩
 ·rw[if_neg h1];have hc:(op==16)=false:=by simpa using h1
  by_cases h2:op=18
  ·subst h2;rw[if_pos rfl];clear h1;go_enter Tryz.func110,Tryz.ntmps110
   go_wp2
   go_ret
   exact⟨_,rfl,KU (cs:=[.int .i64 dst,.int .i64 two]) (Jf _ _ _ _) kT kw,((Since.refl _).alloc _).alloc _⟩
  ·rw[if_neg h2];have hb:(op==18)=false:=by simpa using h2
   clear h1 h2;go_enter Tryz.func110,Tryz.ntmps110
   go_wp2
   go_ret
   exact⟨_,rfl,KU (cs:=[.int .i64 dst]) (Jf _ _ _ _) kT kx,((Since.refl _).alloc _).alloc _⟩
theorem J7 (N:Int) (params:Int) (bl:List Zr) (bv:Value) (w:World) (h:FnIn w ⟨params,bl,bv⟩) (hn:KL N bl) :
  Calls Tryz.prog 135 #[.agg #[.int .i64 params,bv]] w (Zd9 N bl.length w):=by
 have h:RowIn fbcells 6 FBlkIn w bv bl:=h;obtain⟨ba,bc,HN,Hs⟩:=RowIn.shape h;subst HN;obtain⟨n,hl⟩:∃ n,bl.length=n:=⟨_,rfl⟩
 have H6:n≤512:=by rw[←hl];exact hn.n
 rw[hl]at Hs h ⊢;have H:=hid h;have H0:=hid hl;have HF:=hid hn;clear h hl hn Hs;have HW:=hid (Wl.new N n w #[.int .i64 params,.slice ba n bc]);go_enter Tryz.func135,Tryz.ntmps135
 go_wp2_with fail
 obtain⟨w1,Hj⟩:∃ x,x=(w.alloc (.cells #[.int .i64 params,.slice ba n bc] 109)).alloc (.cells #[] 205):=⟨_,rfl⟩
 rw[←Hj]at HW ⊢;clear Hj
 go_loopw [3,4] (fun av i wr=>∃ (b:Nat) (v:Value) (xs:List ThV),b≤n∧av=v∧i=.int .i64 b∧Wl N n w #[.int .i64 params,.slice ba n bc] v xs wr∧xs.length≤20000*b) (fun _ i _=>n-(intOf i).toNat)
 case atStart=>exact⟨0,_,[],Nat.zero_le _,rfl,rfl,HW.out,Nat.le_refl _⟩
 case round =>
  obtain⟨b,v,xs,hb,rfl,rfl,ha,hh⟩:=hrel;obtain⟨xa,xc,hv⟩:=OwnRow.shape ha.own;obtain⟨xl,hf⟩:∃ x,xs.length=x:=⟨_,rfl⟩
  rw[hf]at hv hh;subst hv;have HT:=hid ha;have hd:=hid hf;have c1:wr.cell? ⟨w.heap.size,1,none⟩=some (.slice ba n bc):=ha.box.cell 1;have Hx:=ha.box.lt;clear ha hf HW;by_cases HH:b<n
  ·obtain⟨B,off,x,rfl,hB,hx,Hr,HG⟩:=RowIn.at H.out (by rw[H0.out];exact HH);have hL:=List.mem_of_getElem? hx;obtain⟨hK,hJ,hI⟩:=HG;obtain⟨pa,pc,hN,hD⟩:=RowIn.shape hK;obtain⟨ia,ic,hQ,HJ⟩:=RowIn.shape hJ;obtain⟨pl,hO⟩:∃ y,x.phis.length=y:=⟨_,rfl⟩
   obtain⟨il,hR⟩:∃ y,x.ins.length=y:=⟨_,rfl⟩
   rw[hO]at hN;rw[hR]at hQ;have H7:pl≤1000:=by rw[←hO];exact (HF.out.phis x hL).1
   have H9:il≤10000:=by rw[←hR];exact (HF.out.ins x hL).1
   have ho:=fun t' h3=>(HT.out.old.cell (p:=⟨B,off+b*6+t',none⟩) hB).trans (Hr t' h3)
   have c0:wr.cell? ⟨B,off+b*6,none⟩=some (.slice pa pl pc):=by rw[←hN];exact ho 0 kS
   have c1b:wr.cell? ⟨B,off+b*6+1,none⟩=some (.slice ia il ic):=by rw[←hQ];exact ho 1 kS
   have c2:wr.cell? ⟨B,off+b*6+2,none⟩=some (.int .i64 x.term.kind):=ho 2 kS;obtain⟨ta,tc,h1⟩:=Zb hI.1;obtain⟨ta2,tc2,hG⟩:=Zb hI.2;obtain⟨al,Ht⟩:∃ y,x.term.args.length=y:=⟨_,rfl⟩
   obtain⟨tl,Hl⟩:∃ y,x.term.to.length=y:=⟨_,rfl⟩
   rw[Ht]at h1;rw[Hl]at hG;have c3:wr.cell? ⟨B,off+b*6+3,none⟩=some (.slice ta al tc):=by rw[←h1];exact ho 3 kS
   have c4:wr.cell? ⟨B,off+b*6+4,none⟩=some (.slice ta2 tl tc2):=by rw[←hG];exact ho 4 kS
   have c5:wr.cell? ⟨B,off+b*6+5,none⟩=some (.int .i32 x.term.imm):=ho 5 kS;have HR:B<wr.heap.size:=Nat.lt_of_lt_of_le hB HT.out.old.size;have HP:=zH (RowIn fpcells 2 YD w (.slice pa pl pc) x.phis) (by rw[←hN];exact hK);have HI:=zH (RowIn Z3 5 Wz w (.slice ia il ic) x.ins) (by rw[←hQ];exact hJ);have Hu:=hid hL;have HV:=hid hO;have H4:=hid hR;clear ho hB hx Hr hK hJ hI hN hQ hO hR hL h1 hG hD HJ Ht Hl;obtain⟨wo,HC⟩:∃ x,x=wr:=⟨_,rfl⟩
   subst HC;go_wp2_with fail
   obtain⟨xb,hY⟩:∃ y,y=wo.heap.size:=⟨_,rfl⟩
   obtain⟨w2,hM⟩:∃ y,y=wo.alloc (.cells #[.slice pa pl pc,.slice ia il ic,.int .i64 x.term.kind,.slice ta al tc,.slice ta2 tl tc2,.int .i32 x.term.imm] 177):=⟨_,rfl⟩
   have HX:=zH (HeapIs w2 xb #[.slice pa pl pc,.slice ia il ic,.int .i64 x.term.kind,.slice ta al tc,.slice ta2 tl tc2,.int .i32 x.term.imm] 177) (by rw[hM,hY];exact HeapIs.new _ _ _);have Hw:=zH (Wl N n w #[.int .i64 params,.slice (some ⟨B,off,none⟩) n bc] (.slice xa xl xc) xs w2) (by rw[hM];exact HT.out.keep ((Since.refl _).alloc _))
   rw[←hY,←hM];clear hM hY HT c0 c1 c1b c2 c3 c4 c5 HR Hx
   go_loopw [3,6] (fun av i w3=>∃ (t:Nat) (v:Value) (xs:List ThV),t≤pl∧av=v∧i=.int .i64 t∧Wl N n w #[.int .i64 params,.slice (some ⟨B,off,none⟩) n bc] v xs w3∧HeapIs w3 xb #[.slice pa pl pc,.slice ia il ic,.int .i64 x.term.kind,.slice ta al tc,.slice ta2 tl tc2,.int .i32 x.term.imm] 177∧xs.length≤20000*b+t) (fun _ i _=>pl-(intOf i).toNat)
   case atStart=>exact⟨0,_,xs,Nat.zero_le _,rfl,rfl,Hw.out,HX.out,by rw[hd.out];omega⟩
   case round =>
    clear Hw HX hd hh;obtain⟨t,v,xs,ht,rfl,rfl,ha,hx,hh⟩:=hrel;obtain⟨w3,h0⟩:∃ y,y=wr:=⟨_,rfl⟩
    subst h0;obtain⟨xa,xc,hv⟩:=OwnRow.shape ha.own;obtain⟨xl,hf⟩:∃ x,xs.length=x:=⟨_,rfl⟩
    rw[hf]at hv hh;subst hv;have HT:=hid ha;have HX:=hid hx;have hd:=hid hf;have cx0:w3.cell? ⟨xb,0,none⟩=some (.slice pa pl pc):=hx.cell 0;have hr:=hx.lt;clear ha hf hx;by_cases h6:t<pl
    ·obtain⟨PB,poff,p,rfl,hS,hp,h8,hH⟩:=RowIn.at HP.out (by rw[HV.out];exact h6);have hD:=(HF.out.phis x Hu.out).2 p (List.mem_of_getElem? hp);obtain⟨na,nc,hj,_⟩:=RowIn.shape (show XB w p.inv p.ins from hH);obtain⟨nl,hP⟩:∃ y,p.ins.length=y:=⟨_,rfl⟩
     rw[hP]at hj;have cp0:w3.cell? ⟨PB,poff+t*2,none⟩=some (.int .i64 p.dst):=(HT.out.old.cell (p:=⟨PB,poff+t*2,none⟩) hS).trans (h8 0 kS);have He:Hid (PB<w.heap.size∧w.cell? ⟨PB,poff+t*2+1,none⟩=some (.slice na nl nc)):=hid ⟨hS,by rw[←hj];exact h8 1 kS⟩;have HY:Hid (XB w (.slice na nl nc) p.ins):=hid (by rw[←hj];exact hH);have Hz:PB<w3.heap.size:=Nat.lt_of_lt_of_le hS HT.out.old.size;have H8:nl≤1000:=by rw[←hP];exact hD.2
     have HB:=hid hD.1;have H1:=hid hP;clear hS hp h8 hH hD hP hj;go_wp2_with fail
     obtain⟨w4,hZ⟩:∃ y,y=(w3.alloc (.cells #[.int .i64 p.dst] 3)).alloc (.cells #[.int .i64 b,.int .i64 (-1-(t:Int)),.slice (some ⟨w3.heap.size,0,none⟩) 1 1,.slice none 0 0] 205):=⟨_,rfl⟩
     have HK:=zH (WD w3 b (-1-(t:Int)) p.dst (.slice none 0 0) [] w4) (by rw[hZ];exact WD.new _ _ _ _);rw[←hZ];clear hZ cp0 Hz cx0 hr
     go_loopw [8] (fun i w5=>∃ (k:Nat) (tv:Value) (ts:List Int),k≤nl∧i=.int .i64 k∧WD w3 b (-1-(t:Int)) p.dst tv ts w5∧ts.length=k) (fun i _=>nl-(intOf i).toNat)
     case atStart=>exact⟨0,_,[],Nat.zero_le _,rfl,HK.out,rfl⟩
     case round =>
      clear HK;obtain⟨k,tv,ts,hk,rfl,ha,h7⟩:=hrel;obtain⟨w5,HD⟩:∃ y,y=wr:=⟨_,rfl⟩
      subst HD;obtain⟨sa,sc,hv⟩:=Zf ha.own;rw[h7]at hv;subst hv;have HK:=hid ha;have hV:=hid h7;have Hv:=hid (HX.out.keep ha.old);have cx0:w5.cell? ⟨xb,0,none⟩=some (.slice (some ⟨PB,poff,none⟩) pl pc):=Hv.out.cell 0;have hf:=Hv.out.lt;have hW:=hid (HT.out.old.trans ha.old);have cp1:w5.cell? ⟨PB,poff+t*2+1,none⟩=some (.slice na nl nc):=(hW.out.cell (p:=⟨PB,poff+t*2+1,none⟩) He.out.1).trans He.out.2;have Hy:PB<w5.heap.size:=Nat.lt_of_lt_of_le He.out.1 hW.out.size;have cb3:=ha.box.cell 3;have HO:=ha.box.lt;clear ha h7;by_cases hz:k<nl
      ·obtain⟨NB,noff,pr,rfl,Ha,HE,Hp,_⟩:=RowIn.at HY.out (by rw[H1.out];exact hz);obtain⟨py,y⟩:=pr;have KW:Hid (w5.cell? ⟨w3.heap.size+1,3,none⟩=some (.slice sa k sc)∧w5.cell? ⟨xb,0,none⟩=some (.slice (some ⟨PB,poff,none⟩) pl pc)∧w5.cell? ⟨PB,poff+t*2+1,none⟩=some (.slice (some ⟨NB,noff,none⟩) nl nc)∧w5.cell? ⟨NB,noff+k*2+1,none⟩=some (.int .i64 y)∧xb<w5.heap.size∧PB<w5.heap.size∧NB<w5.heap.size∧w3.heap.size+1<w5.heap.size∧True):=hid ⟨cb3,cx0,cp1,(hW.out.cell (p:=⟨NB,noff+k*2+1,none⟩) Ha).trans (Hp 1 kS),hf,Hy,Nat.lt_of_lt_of_le Ha hW.out.size,HO,trivial⟩;clear Ha HE Hp;go_wp2_with fail
       refine Zg 13 rfl kK kK kK kS
        [Is (.pointer (some ⟨w3.heap.size+1,3,none⟩)),Is (.slice sa k sc),Is (.pointer (some ⟨xb,0,none⟩)),Is (.slice (some ⟨PB,poff,none⟩) pl pc),Is (.int .i64 t),Is (.pointer (some ⟨PB,poff+t*2,none⟩)),Is (.pointer (some ⟨PB,poff+t*2+1,none⟩)),Is (.slice (some ⟨NB,noff,none⟩) nl nc),Is (.int .i64 k),Is (.pointer (some ⟨NB,noff+k*2,none⟩)),Is (.pointer (some ⟨NB,noff+k*2+1,none⟩)),Is (.int .i64 y),Zn .i64 [y]]
        jT ⟨?_,?_,?_,?_,?_,?_,?_,?_,?_,?_,?_,?_,?_,trivial⟩ ?_
       rotate_right
       ·intro vs w6 hs hk;have k1:w6.cell? ⟨w3.heap.size+1,3,none⟩=some (.slice sa k sc):=(hs.cell KW.out.2.2.2.2.2.2.2.1).trans KW.out.1;have k2:w6.cell? ⟨xb,0,none⟩=some (.slice (some ⟨PB,poff,none⟩) pl pc):=(hs.cell KW.out.2.2.2.2.1).trans KW.out.2.1;have k3:w6.cell? ⟨PB,poff+t*2+1,none⟩=some (.slice (some ⟨NB,noff,none⟩) nl nc):=(hs.cell KW.out.2.2.2.2.2.1).trans KW.out.2.2.1;have k4:w6.cell? ⟨NB,noff+k*2+1,none⟩=some (.int .i64 y):=(hs.cell KW.out.2.2.2.2.2.2.1).trans KW.out.2.2.2.1;have l1:xb<w6.heap.size:=Nat.lt_of_lt_of_le KW.out.2.2.2.2.1 hs.size;have l2:PB<w6.heap.size:=Nat.lt_of_lt_of_le KW.out.2.2.2.2.2.1 hs.size;have l3:NB<w6.heap.size:=Nat.lt_of_lt_of_le KW.out.2.2.2.2.2.2.1 hs.size;have l4:w3.heap.size+1<w6.heap.size:=Nat.lt_of_lt_of_le KW.out.2.2.2.2.2.2.2.1 hs.size;simp only[List.take,List.drop,putAll,Act.put,Zc,Ze,Is,List.setIfInBounds_toArray,List.set_cons_zero,List.set_cons_succ,Nat.reduceAdd]at hk ⊢
        try simp only[hk]
        obtain⟨nv,hj⟩:∃ z,vs 12=z:=⟨_,rfl⟩
        have hl:Zt .i64 w6 nv [y]:=by rw[←hj];exact hk.2.2.2.2.2.2.2.2.2.2.2.2.1
        rw[hj];have hF:=hid (HK.out.keep hs);have HZ:=hid hl;have HL:=(HK.out.keep hs).box.frozen;clear hk hs hl hj k2 k3 k4 l1 l2 l3;go_wp2_with (refine Zo (base:=w3.heap.size+2) .i64 rfl _ _ 22 rfl 3 (.int .i64 0) 8 Tryz.underlying22 Tryz.info3 rfl kS (.slice sa k sc) nv ts [y] rfl rfl (by have h9:=hF.out.own;rw[hV.out]at h9 ⊢;exact h9) HZ.out (by rw[hV.out];simp;omega) (by have:=hF.out.size;omega) ?_;intro v7 w7 hw h2 Hf;obtain⟨a7,c7,Hk⟩:=Zf hw;rw[show (ts++[y]).length=k+1 from by rw[List.length_append,hV.out];rfl]at Hk;subst Hk;have hA:=hF.out.box.turn h2 (fun e=>by have:=(World.ownsRow.lt hF.out.own _ e).1;omega);have td:=hA.frozen;have te:=hA.lt;have k7:=hA.cell 3;have H2:=hid (hF.out.add hw h2);clear hw h2 Hf hA HL k1 l4)
        go_roundw
        case rel=>exact⟨k+1,_,ts++[y],kT,by go_num,H2.out,by rw[List.length_append,hV.out];rfl⟩
        case measure=>simp[intOf];omega
       all_goals
        intro vs w6 hs hk _;have k1:w6.cell? ⟨w3.heap.size+1,3,none⟩=some (.slice sa k sc):=(hs.cell KW.out.2.2.2.2.2.2.2.1).trans KW.out.1;have k2:w6.cell? ⟨xb,0,none⟩=some (.slice (some ⟨PB,poff,none⟩) pl pc):=(hs.cell KW.out.2.2.2.2.1).trans KW.out.2.1;have k3:w6.cell? ⟨PB,poff+t*2+1,none⟩=some (.slice (some ⟨NB,noff,none⟩) nl nc):=(hs.cell KW.out.2.2.2.2.2.1).trans KW.out.2.2.1;have k4:w6.cell? ⟨NB,noff+k*2+1,none⟩=some (.int .i64 y):=(hs.cell KW.out.2.2.2.2.2.2.1).trans KW.out.2.2.2.1;have l1:xb<w6.heap.size:=Nat.lt_of_lt_of_le KW.out.2.2.2.2.1 hs.size;have l2:PB<w6.heap.size:=Nat.lt_of_lt_of_le KW.out.2.2.2.2.2.1 hs.size;have l3:NB<w6.heap.size:=Nat.lt_of_lt_of_le KW.out.2.2.2.2.2.2.1 hs.size;have l4:w3.heap.size+1<w6.heap.size:=Nat.lt_of_lt_of_le KW.out.2.2.2.2.2.2.2.1 hs.size;simp only[List.take,putAll,Act.put,Zk,Ze,Is,List.setIfInBounds_toArray,List.set_cons_zero,List.set_cons_succ,Nat.reduceAdd]at hk ⊢
        try simp only[hk]
       iterate 12
        ·exact jK
       ·go_wp2
        exact⟨_,rfl,Yq _ _ _,(Since.refl _).alloc _⟩
      ·obtain rfl:nl=k:=kT
       have H5:=hid HK.out.box;have hU:=hid (HT.out.keep HK.out.old);go_wp2_with (first | (refine wpList_load_row rfl _ _ rfl (w3.heap.size+1) rfl 205 _ (0,0) _ H5.out Tryz.underlying205 rfl kO ?_) | (refine ZL (base:=w.heap.size+1) thcells 4 XU kS rfl _ _ 202 rfl 205 (.agg #[.int .i64 0,.int .i64 0,.slice none 0 0,.slice none 0 0]) 64 Tryz.underlying202 kO rfl (.slice xa xl xc) xs ⟨b,-1-(t:Int),[p.dst],.slice (some ⟨w3.heap.size,0,none⟩) 1 1,.slice sa nl sc⟩ _ _ _ rfl rfl (by have h9:=OwnRow.keep hU.out.own ((Since.refl w5).alloc (.cells #[.int .i64 b,.int .i64 (-1-(t:Int)),.slice (some ⟨w3.heap.size,0,none⟩) 1 1,.slice sa nl sc] 205));exact h9) (HeapIs.new _ _ _) jR (by rw[hd.out];unfold maxLen;omega) (by rw[hd.out];omega) (by have:=hU.out.size;simp;omega) ?_;intro v8 w8 hc hg hi;obtain⟨a8,c8,he⟩:=OwnRow.shape hc;rw[List.length_append,hd.out]at he;have he:v8=.slice a8 (xl+1) c8:=he;subst he;have hE:=hid ((hU.out.keep ((Since.refl _).alloc _)).add (ZbI HK.out HB.out ⟨kT,kT⟩ rfl HT.out.old.size _) hc hg);have hT:=hid (((HX.out.keep HK.out.old).keep ((Since.refl _).alloc _)).turn hg (Zm (show w5.ownsRow _ _ _ _ _ _ from hU.out.own) (HX.out.keep HK.out.old) kS));clear hc hg hi))
       exact qs
    ·obtain rfl:pl=t:=kT
     clear h6;go_wp2_with fail
     go_loopw [3,9] (fun av i wr=>∃ (t:Nat) (v:Value) (xs:List ThV),t≤il∧av=v∧i=.int .i64 t∧Wl N n w #[.int .i64 params,.slice (some ⟨B,off,none⟩) n bc] v xs wr∧HeapIs wr xb #[.slice pa pl pc,.slice ia il ic,.int .i64 x.term.kind,.slice ta al tc,.slice ta2 tl tc2,.int .i32 x.term.imm] 177∧xs.length≤20000*b+1000+t) (fun _ i _=>il-(intOf i).toNat)
     case atStart=>exact⟨0,_,xs,Nat.zero_le _,rfl,rfl,HT.out,HX.out,by rw[hd.out];omega⟩
     case round =>
      clear HT HX hd hh ht cx0 hr;obtain⟨t,v,xs,ht,rfl,rfl,ha,hx,hh⟩:=hrel;obtain⟨w3,h0⟩:∃ y,y=wr:=⟨_,rfl⟩
      subst h0;obtain⟨xa,xc,hv⟩:=OwnRow.shape ha.own;obtain⟨xl,hf⟩:∃ x,xs.length=x:=⟨_,rfl⟩
      rw[hf]at hv hh;subst hv;have HT:=hid ha;have HX:=hid hx;have hd:=hid hf;have cx1:w3.cell? ⟨xb,1,none⟩=some (.slice ia il ic):=hx.cell 1;have hr:=hx.lt;clear ha hf hx;by_cases hz:t<il
      ·obtain⟨IB,ioff,y,rfl,Hb,hy,Hq,hX⟩:=RowIn.at HI.out (by rw[H4.out];exact hz);have Hh:=(HF.out.ins x Hu.out).2 y (List.mem_of_getElem? hy);obtain⟨yop,ydst,ytwo,yargs,yav,yimm⟩:=y;obtain⟨ya,yc,Hg⟩:=Zb (show Zi w yav yargs from hX);obtain⟨yl,Hi⟩:∃ z,yargs.length=z:=⟨_,rfl⟩
       rw[Hi]at Hg;subst Hg;have H3:=hid (Jg Hh);have hq:=fun t' h3=>(HT.out.old.cell (p:=⟨IB,ioff+t*5+t',none⟩) Hb).trans (Hq t' h3)
       have KW:Hid (w3.cell? ⟨xb,1,none⟩=some (.slice (some ⟨IB,ioff,none⟩) il ic)∧w3.cell? ⟨IB,ioff+t*5,none⟩=some (.int .i64 yop)∧w3.cell? ⟨IB,ioff+t*5+1,none⟩=some (.int .i64 ydst)∧w3.cell? ⟨IB,ioff+t*5+2,none⟩=some (.int .i64 ytwo)∧w3.cell? ⟨IB,ioff+t*5+3,none⟩=some (.slice ya yl yc)∧w3.cell? ⟨IB,ioff+t*5+4,none⟩=some (.int .i32 yimm)∧xb<w3.heap.size∧IB<w3.heap.size):=hid ⟨cx1,hq 0 kS,hq 1 kS,hq 2 kS,hq 3 kS,hq 4 kS,hr,Nat.lt_of_lt_of_le Hb HT.out.old.size⟩;clear Hb hy Hq hq hX Hh Hi;go_wp2_with fail
       refine Zg 17 rfl kK kK kK kS
        [Is (.slice xa xl xc),Is (.int .i64 b),Is (.int .i64 t),Is (.pointer (some ⟨xb,1,none⟩)),Is (.slice (some ⟨IB,ioff,none⟩) il ic),Is (.int .i64 t),Is (.pointer (some ⟨IB,ioff+t*5,none⟩)),Is (.agg #[.int .i64 yop,.int .i64 ydst,.int .i64 ytwo,.slice ya yl yc,.int .i32 yimm]),WG w.heap.size (fmakes ⟨yop,ydst,ytwo,yargs,.slice ya yl yc,yimm⟩),Is (.pointer (some ⟨xb,1,none⟩)),Is (.slice (some ⟨IB,ioff,none⟩) il ic),Is (.int .i64 t),Is (.pointer (some ⟨IB,ioff+t*5,none⟩)),Is (.pointer (some ⟨IB,ioff+t*5+3,none⟩)),Is (.slice ya yl yc),ThA w.heap.size b t (fmakes ⟨yop,ydst,ytwo,yargs,.slice ya yl yc,yimm⟩) (.slice ya yl yc),ThB w.heap.size b t (fmakes ⟨yop,ydst,ytwo,yargs,.slice ya yl yc,yimm⟩) (.slice ya yl yc)]
        (by repeat (first | exact trivial | refine⟨Is.stable _,?_⟩ | refine⟨WG.stable _ _,?_⟩ | refine⟨ThA.stable _ _ _ _ _,?_⟩ | refine⟨ThB.stable _ _ _ _ _,?_⟩)) ⟨?_,?_,?_,?_,?_,?_,?_,?_,?_,?_,?_,?_,?_,?_,?_,?_,?_,trivial⟩ ?_
       rotate_right
       ·intro vs w20 hs hk;have k1:w20.cell? ⟨xb,1,none⟩=some (.slice (some ⟨IB,ioff,none⟩) il ic):=(hs.cell KW.out.2.2.2.2.2.2.1).trans KW.out.1;have i0:w20.cell? ⟨IB,ioff+t*5,none⟩=some (.int .i64 yop):=(hs.cell KW.out.2.2.2.2.2.2.2).trans KW.out.2.1;have i1:w20.cell? ⟨IB,ioff+t*5+1,none⟩=some (.int .i64 ydst):=(hs.cell KW.out.2.2.2.2.2.2.2).trans KW.out.2.2.1;have i2:w20.cell? ⟨IB,ioff+t*5+2,none⟩=some (.int .i64 ytwo):=(hs.cell KW.out.2.2.2.2.2.2.2).trans KW.out.2.2.2.1;have i3:w20.cell? ⟨IB,ioff+t*5+3,none⟩=some (.slice ya yl yc):=(hs.cell KW.out.2.2.2.2.2.2.2).trans KW.out.2.2.2.2.1;have i4:w20.cell? ⟨IB,ioff+t*5+4,none⟩=some (.int .i32 yimm):=(hs.cell KW.out.2.2.2.2.2.2.2).trans KW.out.2.2.2.2.2.1;have l1:xb<w20.heap.size:=Nat.lt_of_lt_of_le KW.out.2.2.2.2.2.2.1 hs.size;have l2:IB<w20.heap.size:=Nat.lt_of_lt_of_le KW.out.2.2.2.2.2.2.2 hs.size;simp only[List.take,List.drop,putAll,Act.put,Zc,Ze,Is,List.setIfInBounds_toArray,List.set_cons_zero,List.set_cons_succ,Nat.reduceAdd]at hk ⊢
        try simp only[hk]
        obtain⟨q9,ma,mc,Ho,Hn,h4⟩:ThB w.heap.size b t (fmakes ⟨yop,ydst,ytwo,yargs,.slice ya yl yc,yimm⟩) (.slice ya yl yc) (vs 16) w20:=hk.2.2.2.2.2.2.2.2.2.2.2.2.2.2.2.2.1;simp only[Ho];have HQ:=hid (And.intro Hn h4);have hC:=hid (HT.out.keep hs);have Hc:=hid (HX.out.keep hs);have HS:=zH (WE w.heap.size N n w20 ⟨b,t,(fmakes ⟨yop,ydst,ytwo,yargs,.slice ya yl yc,yimm⟩),.slice ma (fmakes ⟨yop,ydst,ytwo,yargs,.slice ya yl yc,yimm⟩).length mc,.slice ya yl yc⟩) ⟨h4,H3.out,⟨by show (0:Int)≤b;omega,by show (b:Int)<n;omega⟩,VQ _,rfl⟩;clear hk hs Ho Hn h4 k1 i0 i1 i2 i3 i4 l1 l2;go_wp2_with (refine ZL (base:=w.heap.size+1) thcells 4 XU kS rfl _ _ 202 rfl 205 (.agg #[.int .i64 0,.int .i64 0,.slice none 0 0,.slice none 0 0]) 64 Tryz.underlying202 kO rfl (.slice xa xl xc) xs ⟨b,t,(fmakes ⟨yop,ydst,ytwo,yargs,.slice ya yl yc,yimm⟩),.slice ma (fmakes ⟨yop,ydst,ytwo,yargs,.slice ya yl yc,yimm⟩).length mc,.slice ya yl yc⟩ _ _ _ rfl rfl (hC.out.own) (HQ.out.1) jR (by rw[hd.out];unfold maxLen;omega) (by rw[hd.out];omega) (hC.out.size) ?_;intro v8 w8 hc hg hi;obtain⟨a8,c8,he⟩:=OwnRow.shape hc;rw[List.length_append,hd.out]at he;have he:v8=.slice a8 (xl+1) c8:=he;subst he;have hE:=hid (hC.out.add (HS.out) hc hg);have hT:=hid ((Hc.out).turn hg (Zm (show World.ownsRow _ _ _ _ _ _ _ from hC.out.own) (Hc.out) kS));clear hc hg hi)
        exact qs
       all_goals
        intro vs w20 hs hk _;have k1:w20.cell? ⟨xb,1,none⟩=some (.slice (some ⟨IB,ioff,none⟩) il ic):=(hs.cell KW.out.2.2.2.2.2.2.1).trans KW.out.1;have i0:w20.cell? ⟨IB,ioff+t*5,none⟩=some (.int .i64 yop):=(hs.cell KW.out.2.2.2.2.2.2.2).trans KW.out.2.1;have i1:w20.cell? ⟨IB,ioff+t*5+1,none⟩=some (.int .i64 ydst):=(hs.cell KW.out.2.2.2.2.2.2.2).trans KW.out.2.2.1;have i2:w20.cell? ⟨IB,ioff+t*5+2,none⟩=some (.int .i64 ytwo):=(hs.cell KW.out.2.2.2.2.2.2.2).trans KW.out.2.2.2.1;have i3:w20.cell? ⟨IB,ioff+t*5+3,none⟩=some (.slice ya yl yc):=(hs.cell KW.out.2.2.2.2.2.2.2).trans KW.out.2.2.2.2.1;have i4:w20.cell? ⟨IB,ioff+t*5+4,none⟩=some (.int .i32 yimm):=(hs.cell KW.out.2.2.2.2.2.2.2).trans KW.out.2.2.2.2.2.1;have l1:xb<w20.heap.size:=Nat.lt_of_lt_of_le KW.out.2.2.2.2.2.2.1 hs.size;have l2:IB<w20.heap.size:=Nat.lt_of_lt_of_le KW.out.2.2.2.2.2.2.2 hs.size;simp only[List.take,putAll,Act.put,Zk,Ze,Is,List.setIfInBounds_toArray,List.set_cons_zero,List.set_cons_succ,Nat.reduceAdd]at hk ⊢
        try simp only[hk]
       iterate 8
        ·exact jK
       ·have HA:=hid hs;go_wp2_with fail
        refine (Zbd w.heap.size ⟨yop,ydst,ytwo,yargs,.slice ya yl yc,yimm⟩ _ (Nat.le_trans HT.out.old.size HA.out.size)).mono ?_;rintro e w21 ⟨mv,rfl,hm,Hm⟩;have HM:=hid hm;have HU:=hid Hm;clear hm Hm hk hs k1 i0 i1 i2 i3 i4 l1 l2;go_wp2
        exact⟨_,rfl,HM.out,HU.out⟩
       iterate 6
        ·exact jK
       ·have hm:WG w.heap.size (fmakes ⟨yop,ydst,ytwo,yargs,.slice ya yl yc,yimm⟩) (vs 8) w20:=hk.2.2.1;obtain⟨ma,mc,h5⟩:=VN hm;have HM:=zH (WG w.heap.size (fmakes ⟨yop,ydst,ytwo,yargs,.slice ya yl yc,yimm⟩) (.slice ma (fmakes ⟨yop,ydst,ytwo,yargs,.slice ya yl yc,yimm⟩).length mc) w20) (by rw[←h5];exact hm);simp only[h5];clear hk hm h5;go_wp2
        exact⟨_,rfl,⟨_,_,rfl,HM.out⟩,.refl _⟩
       ·obtain⟨ma,mc,hv,hm⟩:ThA w.heap.size b t (fmakes ⟨yop,ydst,ytwo,yargs,.slice ya yl yc,yimm⟩) (.slice ya yl yc) (vs 15) w20:=hk.1;simp only[hv];have HM:=hid hm;clear hk hm hv;go_wp2
        exact⟨_,rfl,⟨_,_,_,rfl,HeapIs.new _ _ _,Zs HM.out ((Since.refl _).alloc _)⟩,(Since.refl _).alloc _⟩
      ·obtain rfl:il=t:=kT
       have cx3:w3.cell? ⟨xb,3,none⟩=some (.slice ta al tc):=HX.out.cell 3;clear hz;go_wp2_with (refine ZL (base:=w.heap.size+1) thcells 4 XU kS rfl _ _ 202 rfl 205 (.agg #[.int .i64 0,.int .i64 0,.slice none 0 0,.slice none 0 0]) 64 Tryz.underlying202 kO rfl (.slice xa xl xc) xs ⟨b,il,[],.slice none 0 0,.slice ta al tc⟩ _ _ _ rfl rfl (by have h9:=OwnRow.keep HT.out.own ((Since.refl w3).alloc (.cells #[.int .i64 b,.int .i64 il,.slice none 0 0,.slice ta al tc] 205));exact h9) (HeapIs.new _ _ _) jR (by rw[hd.out];unfold maxLen;omega) (by rw[hd.out];omega) (by have:=HT.out.size;simp;omega) ?_;intro v8 w8 hc hg hi;obtain⟨a8,c8,he⟩:=OwnRow.shape hc;rw[List.length_append,hd.out]at he;have he:v8=.slice a8 (xl+1) c8:=he;subst he;have hE:=hid ((HT.out.keep ((Since.refl _).alloc _)).add (ZbR ⟨kT,kT⟩ rfl _) hc hg);have hT:=hid ((HX.out.keep ((Since.refl _).alloc _)).turn hg (Zm (show World.ownsRow _ _ _ _ _ _ _ from HT.out.own) (HX.out) kS));clear hc hg hi)
       go_roundw
       case rel=>exact⟨b+1,_,xs++[_],kT,rfl,by go_num,hE.out,by rw[List.length_append,hd.out];show xl+1≤_;omega⟩
       case measure=>simp[intOf];omega
  ·obtain rfl:n=b:=kT
   go_wp2
   go_ret
   exact⟨_,xs,rfl,QW HT.out.own (Nat.le_succ _),HT.out.each,HT.out.old,by rw[hd.out];omega⟩
end Go.Proofs.YtimpddecdodddaaGreat
