import Derived.Test.YtmhojfpidedjeaaGreatDoorTp33
namespace Go.Proofs.YtmhojfpidedjeaaGreatDoor
open Go.RowKit Go.Lib
set_option linter.unusedVariables false
set_option maxHeartbeats 8000000
set_option maxRecDepth 100000
structure ThV where
 block:Int
 place:Int
 mkl:List Int
 mkv:Value
 tkv:Value
def thcells (x:ThV):List Value:=[.int .i64 x.block,.int .i64 x.place,x.mkv,x.tkv]
theorem W0 (x:ThV):(thcells x).length=4:=rfl
def Vp (base:Nat) (l:List Int) (v:Value) (w:World):Prop:=w.ownsRow base 3 1 v l.length (l.map (Value.int .i64))
theorem Vp.stable (base:Nat) (l:List Int):Z7 (Vp base l):=fun v w w' h s=>ZE h s
def VQ (base:Nat) (N:Int) (n:Nat) (w:World) (x:ThV):Prop:=Vp base x.mkl x.mkv w∧(∀ y∈x.mkl,0≤y∧y<N)∧(0≤x.block∧x.block<n)∧x.mkl.length≤2∧x.tkv.oneCell'=true
theorem VQ.keep {base:Nat} {N : Int} {n : Nat} {w w':World} {x : ThV} (h:VQ base N n w x) (s:Since w w'):VQ base N n w' x:=⟨ZE h.1 s,h.2⟩
theorem ZbB {w : World} {base base':Nat} {e : TypeId} {sz n:Nat} {v : Value} {xs:List Value} (h:w.ownsRow base e sz v n xs) (hb:base'≤base):w.ownsRow base' e sz v n xs:=by
 obtain⟨h0,h1|⟨g,cap,cur,h1,h2,h3⟩⟩:=h
 ·exact⟨h0,.inl h1⟩
 ·exact⟨h0,.inr ⟨g,cap,cur,h1,Nat.le_trans hb h2,h3⟩⟩
theorem Zab {w : World} {q base:Nat} {cs:List Value} {T : TypeId} (h:HeapIs w q cs.toArray T) (hb:base≤q) (hl:cs.length≤maxLen):w.ownsRow base T 1 (.slice (some ⟨q,0,none⟩) cs.length cs.length) cs.length cs:=
 ⟨by simp,.inr ⟨q,cs.length,cs.toArray,rfl,hb,h,Nat.le_refl _,hl,by simp,by simp⟩⟩
theorem ZaZ (w:World) (o:Obj) (cs:Array Value) (T:TypeId):HeapIs ((w.alloc o).alloc (.cells cs T)) (w.heap.size+1) cs T:=by
 have h2:=HeapIs.new (w.alloc o) cs T;rw[show (w.alloc o).heap.size=w.heap.size+1 from by simp]at h2;exact h2
structure WW (N:Int) (n:Nat) (w:World) (cs:Array Value) (v:Value) (xs:List ThV) (wr:World):Prop where
 box:HeapIs wr w.heap.size cs 24
 own:OwnRow thcells 4 158 (w.heap.size+1) wr v xs
 each:∀ x∈xs,VQ w.heap.size N n wr x
 old:Since w wr
 size:w.heap.size+1≤wr.heap.size
theorem WW.new (N:Int) (n:Nat) (w:World) (cs:Array Value):WW N n w cs (.slice (some ⟨w.heap.size+1,0,none⟩) 0 0) [] ((w.alloc (.cells cs 24)).alloc (.cells #[] 158)):=by
 have h2:=HeapIs.new (w.alloc (.cells cs 24)) #[] 158;rw[show (w.alloc (.cells cs 24)).heap.size=w.heap.size+1 from by simp]at h2;exact⟨(HeapIs.new w cs 24).keep ((Since.refl _).alloc _),⟨rfl,.inr ⟨w.heap.size+1,0,#[],rfl,Nat.le_refl _,h2,Nat.le_refl _,Nat.zero_le _,rfl,rfl⟩⟩,fun x hx=>(by cases hx),((Since.refl _).alloc _).alloc _,by simp⟩
section
variable {N : Int} {n : Nat} {w wr w2 w6:World} {cs:Array Value} {v v':Value} {xs:List ThV} {x : ThV}
theorem WW.keep (h:WW N n w cs v xs wr) (s:Since wr w2):WW N n w cs v xs w2:=
 ⟨h.box.keep s,OwnRow.keep h.own s,fun x hx=>(h.each x hx).keep s,h.old.trans s,Nat.le_trans h.size s.size⟩
theorem WW.add (h:WW N n w cs v xs wr) (hx:VQ w.heap.size N n wr x) (ha:OwnRow thcells 4 158 (w.heap.size+1) w6 v' (xs++[x])) (t6:Turn (fun q=>v.ownBlock=some q) wr w6):WW N n w cs v' (xs++[x]) w6:=by
 have hv:∀ q,v.ownBlock=some q→w.heap.size+1≤q:=fun q hq=>(World.ownsRow.lt (show wr.ownsRow _ _ _ _ _ _ from h.own) q hq).1
 have hz:=t6.size;refine⟨h.box.turn t6 fun e=>by have:=hv _ e;omega,ha,fun y hy=>?_,t6.toSince h.old fun q hq e=>by have:=hv _ e;omega,by have:=h.size;omega⟩;have h3:VQ w.heap.size N n wr y:=by
  rcases List.mem_append.1 hy with hy|hy
  ·exact h.each y hy
  ·obtain rfl:=List.mem_singleton.1 hy;exact hx
 exact⟨Zi h3.1 t6 fun q hq e=>Z9 h3.1 (show wr.ownsRow _ _ _ _ _ _ from h.own) (by decide) q hq e,h3.2⟩
end
structure Vo (w2:World) (bV pV dst:Int) (tv:Value) (ts:List Int) (w4:World):Prop where
 box:HeapIs w4 (w2.heap.size+1) #[.int .i64 bV,.int .i64 pV,.slice (some ⟨w2.heap.size,0,none⟩) 1 1,tv] 158
 dst:HeapIs w4 w2.heap.size #[.int .i64 dst] 3
 own:w4.ownsRow (w2.heap.size+2) 3 1 tv ts.length (ts.map (Value.int .i64))
 old:Since w2 w4
 size:w2.heap.size+2≤w4.heap.size
section
variable {w2 w4 w5 w6:World} {bV pV dst y:Int} {tv tv':Value} {ts:List Int}
theorem Vo.new (w2:World) (bV pV dst:Int):Vo w2 bV pV dst (.slice none 0 0) [] ((w2.alloc (.cells #[.int .i64 dst] 3)).alloc (.cells #[.int .i64 bV,.int .i64 pV,.slice (some ⟨w2.heap.size,0,none⟩) 1 1,.slice none 0 0] 158)):=by
 have h2:=HeapIs.new (w2.alloc (.cells #[.int .i64 dst] 3)) #[.int .i64 bV,.int .i64 pV,.slice (some ⟨w2.heap.size,0,none⟩) 1 1,.slice none 0 0] 158;rw[show (w2.alloc (.cells #[.int .i64 dst] 3)).heap.size=w2.heap.size+1 from by simp]at h2;exact⟨h2,(HeapIs.new _ _ _).keep ((Since.refl _).alloc _),V8 _ _ _ _,((Since.refl _).alloc _).alloc _,by simp⟩
theorem Vo.keep (h:Vo w2 bV pV dst tv ts w4) (s:Since w4 w5):Vo w2 bV pV dst tv ts w5:=⟨h.box.keep s,h.dst.keep s,ZE h.own s,h.old.trans s,Nat.le_trans h.size s.size⟩
theorem Vo.add (h:Vo w2 bV pV dst tv ts w4) (ha:w6.ownsRow (w2.heap.size+2) 3 1 tv' (ts++[y]).length ((ts++[y]).map (Value.int .i64))) (t6:Turn (fun q=>tv.ownBlock=some q) w4 w6):Vo w2 bV pV dst tv' (ts++[y]) (w6.setCell ⟨w2.heap.size+1,3,none⟩ tv'):=by
 have hv:∀ q,tv.ownBlock=some q→w2.heap.size+2≤q:=fun q hq=>(World.ownsRow.lt h.own q hq).1
 have tc:Turn (fun q=>q=w2.heap.size+1) w6 (w6.setCell ⟨w2.heap.size+1,3,none⟩ tv'):=(Turn.refl (fun q=>q=w2.heap.size+1) w6).setCell (p:=⟨w2.heap.size+1,3,none⟩) rfl _;have hz:=t6.size;have hb:=tc.size;have:=h.size;refine⟨(h.box.turn t6 fun e=>by have:=hv _ e;omega).set 3 tv',(h.dst.turn t6 fun e=>by have:=hv _ e;omega).turn tc (by omega),Zi ha tc fun q hq e=>by have:=(World.ownsRow.lt ha q hq).1;omega,?_,by omega⟩;exact tc.toSince (t6.toSince h.old fun q hq e=>by have:=hv _ e;omega) fun q hq e=>by omega
end
theorem Zd7 {base:Nat} {N : Int} {n : Nat} {w3 w5:World} {bV pV dst:Int} {tv:Value} {ts:List Int} (hk:Vo w3 bV pV dst tv ts w5) (hd:0≤dst∧dst<N) (hb:0≤bV∧bV<n) (hc:tv.oneCell'=true) (ha:base≤w3.heap.size) (o:Obj):VQ base N n (w5.alloc o) ⟨bV,pV,[dst],.slice (some ⟨w3.heap.size,0,none⟩) 1 1,tv⟩:=
 ⟨Zab (cs:=[.int .i64 dst]) (hk.dst.keep ((Since.refl _).alloc _)) ha (by show 1≤maxLen;decide),fun y hy=>(by obtain rfl:=List.mem_singleton.1 hy;exact hd),hb,by show 1≤2;decide,hc⟩
theorem Zed {base:Nat} {N : Int} {n : Nat} {w5:World} {bV pV:Int} {tv:Value} (hb:0≤bV∧bV<n) (ha:tv.oneCell'=true) (o:Obj):VQ base N n (w5.alloc o) ⟨bV,pV,[],.slice none 0 0,tv⟩:=
 ⟨V8 _ _ _ _,fun y hy=>(by cases hy),hb,by show 0≤2;decide,ha⟩
def ThA (base:Nat) (b t:Int) (l:List Int) (tk v:Value) (w:World):Prop:=∃ ma mc,v=.agg #[.int .i64 b,.int .i64 t,.slice ma l.length mc,tk]∧Vp base l (.slice ma l.length mc) w
theorem ThA.stable (base:Nat) (b t:Int) (l:List Int) (tk:Value):Z7 (ThA base b t l tk):=fun v w w' ⟨ma,mc,h1,h2⟩ s=>⟨ma,mc,h1,ZE h2 s⟩
def ThB (base:Nat) (b t:Int) (l:List Int) (tk v:Value) (w:World):Prop:=∃ q ma mc,v=.slice (some ⟨q,0,none⟩) 1 1∧HeapIs w q #[.int .i64 b,.int .i64 t,.slice ma l.length mc,tk] 158∧Vp base l (.slice ma l.length mc) w
theorem ThB.stable (base:Nat) (b t:Int) (l:List Int) (tk:Value):Z7 (ThB base b t l tk):=fun v w w' ⟨q,ma,mc,h1,h2,h3⟩ s=>⟨q,ma,mc,h1,h2.keep s,ZE h3 s⟩
theorem Qy {base:Nat} {l : List Int} {v : Value} {w : World} (h:Vp base l v w):∃ ma mc,v=.slice ma l.length mc:=Ze h
structure ZdL (N:Int) (bl:List FBlk):Prop where
 n:bl.length≤512
 phis:∀ b∈bl,b.phis.length≤1000∧∀ p∈b.phis,(0≤p.dst∧p.dst<N)∧p.ins.length≤1000
 ins:∀ b∈bl,b.ins.length≤10000∧∀ x∈b.ins,Yq N x
def ZgC (N:Int) (n:Nat) (w:World) (e:Ending) (w':World):Prop:=∃ v xs,e=.returned v∧OwnRow thcells 4 158 w.heap.size w' v xs∧(∀ x∈xs,VQ w.heap.size N n w' x)∧Since w w'∧xs.length≤20000*n
theorem Zdw (base:Nat) (x:FIns) (w:World) (ha:base≤w.heap.size):Calls Tryz.prog 61 #[fiv x] w fun e w'=>∃ v,e=.returned v∧Vp base (fmakes x) v w'∧Since w w':=by
 obtain⟨op,dst,two,args,av,imm⟩:=x;unfold fiv fmakes;dsimp only;by_cases h1:op=16
 ·subst h1;rw[if_pos rfl];go_enter Tryz.func61,Tryz.ntmps61
  go_wp2
  go_ret
  exact⟨_,rfl,V8 _ _ _ _,(Since.refl _).alloc _⟩
 ·rw[if_neg h1];have hc:(op==16)=false:=by simpa using h1
  by_cases h2:op=18
  ·subst h2;rw[if_pos rfl];clear h1;go_enter Tryz.func61,Tryz.ntmps61
   go_wp2
   go_ret
   exact⟨_,rfl,Zab (cs:=[.int .i64 dst,.int .i64 two]) (ZaZ _ _ _ _) (by omega) (by show 2≤maxLen;decide),((Since.refl _).alloc _).alloc _⟩
  ·rw[if_neg h2];have hb:(op==18)=false:=by simpa using h2
   clear h1 h2;go_enter Tryz.func61,Tryz.ntmps61
   go_wp2
   go_ret
   exact⟨_,rfl,Zab (cs:=[.int .i64 dst]) (ZaZ _ _ _ _) (by omega) (by show 1≤maxLen;decide),((Since.refl _).alloc _).alloc _⟩
theorem Zc7 (N:Int) (params:Int) (bl:List FBlk) (bv:Value) (w:World) (h:FnIn w ⟨params,bl,bv⟩) (hn:ZdL N bl) :
  Calls Tryz.prog 99 #[.agg #[.int .i64 params,bv]] w (ZgC N bl.length w):=by
 have h:RowIn fbcells 6 We w bv bl:=h;obtain⟨ba,bc,HO,Ht⟩:=RowIn.shape h;subst HO;obtain⟨n,hl⟩:∃ n,bl.length=n:=⟨_,rfl⟩
 have H7:n≤512:=by rw[←hl];exact hn.n
 rw[hl]at Ht h ⊢;have H:=hid h;have H1:=hid hl;have HF:=hid hn;clear h hl hn Ht;have HW:=hid (WW.new N n w #[.int .i64 params,.slice ba n bc]);go_enter Tryz.func99,Tryz.ntmps99
 go_wp2_with fail
 obtain⟨w1,Hk⟩:∃ x,x=(w.alloc (.cells #[.int .i64 params,.slice ba n bc] 24)).alloc (.cells #[] 158):=⟨_,rfl⟩
 rw[←Hk]at HW ⊢;clear Hk
 go_loopw [3,4] (fun av i wr=>∃ (b:Nat) (v:Value) (xs:List ThV),b≤n∧av=v∧i=.int .i64 b∧WW N n w #[.int .i64 params,.slice ba n bc] v xs wr∧xs.length≤20000*b) (fun _ i _=>n-(intOf i).toNat)
 case atStart=>exact⟨0,_,[],Nat.zero_le _,rfl,rfl,HW.out,Nat.le_refl _⟩
 case round =>
  obtain⟨b,v,xs,hb,rfl,rfl,ha,hh⟩:=hrel;obtain⟨xa,xc,hv⟩:=OwnRow.shape ha.own;obtain⟨xl,hf⟩:∃ x,xs.length=x:=⟨_,rfl⟩
  rw[hf]at hv hh;subst hv;have HT:=hid ha;have hd:=hid hf;have c1:wr.cell? ⟨w.heap.size,1,none⟩=some (.slice ba n bc):=ha.box.cell 1;have Hy:=ha.box.lt;clear ha hf HW;by_cases HJ:b<n
  ·obtain⟨B,off,x,rfl,hB,hx,Hs,HH⟩:=RowIn.at H.out (by rw[H1.out];exact HJ);have hM:=List.mem_of_getElem? hx;obtain⟨hL,hK,hJ⟩:=HH;obtain⟨pa,pc,hO,hE⟩:=RowIn.shape hL;obtain⟨ia,ic,hR,HL⟩:=RowIn.shape hK;obtain⟨pl,hP⟩:∃ y,x.phis.length=y:=⟨_,rfl⟩
   obtain⟨il,hS⟩:∃ y,x.ins.length=y:=⟨_,rfl⟩
   rw[hP]at hO;rw[hS]at hR;have H8:pl≤1000:=by rw[←hP];exact (HF.out.phis x hM).1
   have td:il≤10000:=by rw[←hS];exact (HF.out.ins x hM).1
   have ho:=fun t' h4=>(HT.out.old.cell (p:=⟨B,off+b*6+t',none⟩) hB).trans (Hs t' h4)
   have c0:wr.cell? ⟨B,off+b*6,none⟩=some (.slice pa pl pc):=by rw[←hO];exact ho 0 (by decide)
   have c1b:wr.cell? ⟨B,off+b*6+1,none⟩=some (.slice ia il ic):=by rw[←hR];exact ho 1 (by decide)
   have c2:wr.cell? ⟨B,off+b*6+2,none⟩=some (.int .i64 x.term.kind):=ho 2 (by decide);obtain⟨ta,tc,h2⟩:=Zp hJ.1;obtain⟨ta2,tc2,hH⟩:=Zp hJ.2;obtain⟨al,Hu⟩:∃ y,x.term.args.length=y:=⟨_,rfl⟩
   obtain⟨tl,Hm⟩:∃ y,x.term.to.length=y:=⟨_,rfl⟩
   rw[Hu]at h2;rw[Hm]at hH;have c3:wr.cell? ⟨B,off+b*6+3,none⟩=some (.slice ta al tc):=by rw[←h2];exact ho 3 (by decide)
   have c4:wr.cell? ⟨B,off+b*6+4,none⟩=some (.slice ta2 tl tc2):=by rw[←hH];exact ho 4 (by decide)
   have c5:wr.cell? ⟨B,off+b*6+5,none⟩=some (.int .i32 x.term.imm):=ho 5 (by decide);have HS:B<wr.heap.size:=Nat.lt_of_lt_of_le hB HT.out.old.size;have HP:=zH (RowIn fpcells 2 VR w (.slice pa pl pc) x.phis) (by rw[←hO];exact hL);have HI:=zH (RowIn ZA 5 Wd w (.slice ia il ic) x.ins) (by rw[←hR];exact hK);have Hv:=hid hM;have HY:=hid hP;have H5:=hid hS;clear ho hB hx Hs hL hK hJ hO hR hP hS hM h2 hH hE HL Hu Hm;obtain⟨wo,HD⟩:∃ x,x=wr:=⟨_,rfl⟩
   subst HD;go_wp2_with fail
   obtain⟨xb,hZ⟩:∃ y,y=wo.heap.size:=⟨_,rfl⟩
   obtain⟨w2,hN⟩:∃ y,y=wo.alloc (.cells #[.slice pa pl pc,.slice ia il ic,.int .i64 x.term.kind,.slice ta al tc,.slice ta2 tl tc2,.int .i32 x.term.imm] 57):=⟨_,rfl⟩
   have HX:=zH (HeapIs w2 xb #[.slice pa pl pc,.slice ia il ic,.int .i64 x.term.kind,.slice ta al tc,.slice ta2 tl tc2,.int .i32 x.term.imm] 57) (by rw[hN,hZ];exact HeapIs.new _ _ _);have Hx:=zH (WW N n w #[.int .i64 params,.slice (some ⟨B,off,none⟩) n bc] (.slice xa xl xc) xs w2) (by rw[hN];exact HT.out.keep ((Since.refl _).alloc _))
   rw[←hZ,←hN];clear hN hZ HT c0 c1 c1b c2 c3 c4 c5 HS Hy
   go_loopw [3,6] (fun av i w3=>∃ (t:Nat) (v:Value) (xs:List ThV),t≤pl∧av=v∧i=.int .i64 t∧WW N n w #[.int .i64 params,.slice (some ⟨B,off,none⟩) n bc] v xs w3∧HeapIs w3 xb #[.slice pa pl pc,.slice ia il ic,.int .i64 x.term.kind,.slice ta al tc,.slice ta2 tl tc2,.int .i32 x.term.imm] 57∧xs.length≤20000*b+t) (fun _ i _=>pl-(intOf i).toNat)
   case atStart=>exact⟨0,_,xs,Nat.zero_le _,rfl,rfl,Hx.out,HX.out,by rw[hd.out];omega⟩
   case round =>
    clear Hx HX hd hh;obtain⟨t,v,xs,ht,rfl,rfl,ha,hx,hh⟩:=hrel;obtain⟨w3,h1⟩:∃ y,y=wr:=⟨_,rfl⟩
    subst h1;obtain⟨xa,xc,hv⟩:=OwnRow.shape ha.own;obtain⟨xl,hf⟩:∃ x,xs.length=x:=⟨_,rfl⟩
    rw[hf]at hv hh;subst hv;have HT:=hid ha;have HX:=hid hx;have hd:=hid hf;have cx0:w3.cell? ⟨xb,0,none⟩=some (.slice pa pl pc):=hx.cell 0;have hr:=hx.lt;clear ha hf hx;by_cases h7:t<pl
    ·obtain⟨PB,poff,p,rfl,hT,hp,Ha,hI⟩:=RowIn.at HP.out (by rw[HY.out];exact h7);have hE:=(HF.out.phis x Hv.out).2 p (List.mem_of_getElem? hp);obtain⟨na,nc,hj,_⟩:=RowIn.shape (show YI w p.inv p.ins from hI);obtain⟨nl,hQ⟩:∃ y,p.ins.length=y:=⟨_,rfl⟩
     rw[hQ]at hj;have cp0:w3.cell? ⟨PB,poff+t*2,none⟩=some (.int .i64 p.dst):=(HT.out.old.cell (p:=⟨PB,poff+t*2,none⟩) hT).trans (Ha 0 (by decide));have Hf:Hid (PB<w.heap.size∧w.cell? ⟨PB,poff+t*2+1,none⟩=some (.slice na nl nc)):=hid ⟨hT,by rw[←hj];exact Ha 1 (by decide)⟩;have HZ:Hid (YI w (.slice na nl nc) p.ins):=hid (by rw[←hj];exact hI);have HA:PB<w3.heap.size:=Nat.lt_of_lt_of_le hT HT.out.old.size;have H9:nl≤1000:=by rw[←hQ];exact hE.2
     have HC:=hid hE.1;have H2:=hid hQ;clear hT hp Ha hI hE hQ hj;go_wp2_with fail
     obtain⟨w4,h0⟩:∃ y,y=(w3.alloc (.cells #[.int .i64 p.dst] 3)).alloc (.cells #[.int .i64 b,.int .i64 (-1-(t:Int)),.slice (some ⟨w3.heap.size,0,none⟩) 1 1,.slice none 0 0] 158):=⟨_,rfl⟩
     have HK:=zH (Vo w3 b (-1-(t:Int)) p.dst (.slice none 0 0) [] w4) (by rw[h0];exact Vo.new _ _ _ _);rw[←h0];clear h0 cp0 HA cx0 hr
     go_loopw [8] (fun i w5=>∃ (k:Nat) (tv:Value) (ts:List Int),k≤nl∧i=.int .i64 k∧Vo w3 b (-1-(t:Int)) p.dst tv ts w5∧ts.length=k) (fun i _=>nl-(intOf i).toNat)
     case atStart=>exact⟨0,_,[],Nat.zero_le _,rfl,HK.out,rfl⟩
     case round =>
      clear HK;obtain⟨k,tv,ts,hk,rfl,ha,h8⟩:=hrel;obtain⟨w5,HE⟩:∃ y,y=wr:=⟨_,rfl⟩
      subst HE;obtain⟨sa,sc,hv⟩:=Ze ha.own;rw[h8]at hv;subst hv;have HK:=hid ha;have hW:=hid h8;have Hw:=hid (HX.out.keep ha.old);have cx0:w5.cell? ⟨xb,0,none⟩=some (.slice (some ⟨PB,poff,none⟩) pl pc):=Hw.out.cell 0;have hf:=Hw.out.lt;have hX:=hid (HT.out.old.trans ha.old);have cp1:w5.cell? ⟨PB,poff+t*2+1,none⟩=some (.slice na nl nc):=(hX.out.cell (p:=⟨PB,poff+t*2+1,none⟩) Hf.out.1).trans Hf.out.2;have Hz:PB<w5.heap.size:=Nat.lt_of_lt_of_le Hf.out.1 hX.out.size;have cb3:=ha.box.cell 3;have HR:=ha.box.lt;clear ha h8;by_cases hA:k<nl
      ·obtain⟨NB,noff,pr,rfl,Hb,HG,Hq,_⟩:=RowIn.at HZ.out (by rw[H2.out];exact hA);obtain⟨py,y⟩:=pr;have KW:Hid (w5.cell? ⟨w3.heap.size+1,3,none⟩=some (.slice sa k sc)∧w5.cell? ⟨xb,0,none⟩=some (.slice (some ⟨PB,poff,none⟩) pl pc)∧w5.cell? ⟨PB,poff+t*2+1,none⟩=some (.slice (some ⟨NB,noff,none⟩) nl nc)∧w5.cell? ⟨NB,noff+k*2+1,none⟩=some (.int .i64 y)∧xb<w5.heap.size∧PB<w5.heap.size∧NB<w5.heap.size∧w3.heap.size+1<w5.heap.size∧True):=hid ⟨cb3,cx0,cp1,(hX.out.cell (p:=⟨NB,noff+k*2+1,none⟩) Hb).trans (Hq 1 (by decide)),hf,Hz,Nat.lt_of_lt_of_le Hb hX.out.size,HR,trivial⟩;clear Hb HG Hq;go_wp2_with fail
       refine Zb 13 rfl (by decide +kernel) (by decide +kernel) (by decide +kernel) (by decide)
        [Is (.pointer (some ⟨w3.heap.size+1,3,none⟩)),Is (.slice sa k sc),Is (.pointer (some ⟨xb,0,none⟩)),Is (.slice (some ⟨PB,poff,none⟩) pl pc),Is (.int .i64 t),Is (.pointer (some ⟨PB,poff+t*2,none⟩)),Is (.pointer (some ⟨PB,poff+t*2+1,none⟩)),Is (.slice (some ⟨NB,noff,none⟩) nl nc),Is (.int .i64 k),Is (.pointer (some ⟨NB,noff+k*2,none⟩)),Is (.pointer (some ⟨NB,noff+k*2+1,none⟩)),Is (.int .i64 y),ZV .i64 [y]]
        (by repeat (first | exact trivial | refine⟨Is.stable _,?_⟩ | refine⟨Any.stable,?_⟩ | refine⟨ZV.stable _ _,?_⟩)) ⟨?_,?_,?_,?_,?_,?_,?_,?_,?_,?_,?_,?_,?_,trivial⟩ ?_
       rotate_right
       ·intro vs w6 hs hk;have k1:w6.cell? ⟨w3.heap.size+1,3,none⟩=some (.slice sa k sc):=(hs.cell KW.out.2.2.2.2.2.2.2.1).trans KW.out.1;have k2:w6.cell? ⟨xb,0,none⟩=some (.slice (some ⟨PB,poff,none⟩) pl pc):=(hs.cell KW.out.2.2.2.2.1).trans KW.out.2.1;have k3:w6.cell? ⟨PB,poff+t*2+1,none⟩=some (.slice (some ⟨NB,noff,none⟩) nl nc):=(hs.cell KW.out.2.2.2.2.2.1).trans KW.out.2.2.1;have k4:w6.cell? ⟨NB,noff+k*2+1,none⟩=some (.int .i64 y):=(hs.cell KW.out.2.2.2.2.2.2.1).trans KW.out.2.2.2.1;have l1:xb<w6.heap.size:=Nat.lt_of_lt_of_le KW.out.2.2.2.2.1 hs.size;have l2:PB<w6.heap.size:=Nat.lt_of_lt_of_le KW.out.2.2.2.2.2.1 hs.size;have l3:NB<w6.heap.size:=Nat.lt_of_lt_of_le KW.out.2.2.2.2.2.2.1 hs.size;have l4:w3.heap.size+1<w6.heap.size:=Nat.lt_of_lt_of_le KW.out.2.2.2.2.2.2.2.1 hs.size;simp only[List.take,List.drop,putAll,Act.put,Zc,Zd,Is,List.setIfInBounds_toArray,List.set_cons_zero,List.set_cons_succ,Nat.reduceAdd]at hk ⊢
        try simp only[hk]
        obtain⟨nv,hj⟩:∃ z,vs 12=z:=⟨_,rfl⟩
        have hl:ZN .i64 w6 nv [y]:=by rw[←hj];exact hk.2.2.2.2.2.2.2.2.2.2.2.2.1
        rw[hj];have hG:=hid (HK.out.keep hs);have H0:=hid hl;have HN:=(HK.out.keep hs).box.frozen;clear hk hs hl hj k2 k3 k4 l1 l2 l3;go_wp2_with (refine Zl (base:=w3.heap.size+2) .i64 rfl _ _ 32 rfl 3 (.int .i64 0) 8 Tryz.underlying32 Tryz.info3 rfl (by decide) (.slice sa k sc) nv ts [y] rfl rfl (by have h9:=hG.out.own;rw[hW.out]at h9 ⊢;exact h9) H0.out (by rw[hW.out];simp;omega) (by have:=hG.out.size;omega) ?_;intro v7 w7 hz h3 Hg;obtain⟨a7,c7,Hl⟩:=Ze hz;rw[show (ts++[y]).length=k+1 from by rw[List.length_append,hW.out];rfl]at Hl;subst Hl;have hC:=hG.out.box.turn h3 (fun e=>by have:=(World.ownsRow.lt hG.out.own _ e).1;omega);have te:=hC.frozen;have tf:=hC.lt;have k7:=hC.cell 3;have H3:=hid (hG.out.add hz h3);clear hz h3 Hg hC HN k1 l4)
        go_roundw
        case rel=>exact⟨k+1,_,ts++[y],by omega,by go_num,H3.out,by rw[List.length_append,hW.out];rfl⟩
        case measure=>simp[intOf];omega
       all_goals
        intro vs w6 hs hk _;have k1:w6.cell? ⟨w3.heap.size+1,3,none⟩=some (.slice sa k sc):=(hs.cell KW.out.2.2.2.2.2.2.2.1).trans KW.out.1;have k2:w6.cell? ⟨xb,0,none⟩=some (.slice (some ⟨PB,poff,none⟩) pl pc):=(hs.cell KW.out.2.2.2.2.1).trans KW.out.2.1;have k3:w6.cell? ⟨PB,poff+t*2+1,none⟩=some (.slice (some ⟨NB,noff,none⟩) nl nc):=(hs.cell KW.out.2.2.2.2.2.1).trans KW.out.2.2.1;have k4:w6.cell? ⟨NB,noff+k*2+1,none⟩=some (.int .i64 y):=(hs.cell KW.out.2.2.2.2.2.2.1).trans KW.out.2.2.2.1;have l1:xb<w6.heap.size:=Nat.lt_of_lt_of_le KW.out.2.2.2.2.1 hs.size;have l2:PB<w6.heap.size:=Nat.lt_of_lt_of_le KW.out.2.2.2.2.2.1 hs.size;have l3:NB<w6.heap.size:=Nat.lt_of_lt_of_le KW.out.2.2.2.2.2.2.1 hs.size;have l4:w3.heap.size+1<w6.heap.size:=Nat.lt_of_lt_of_le KW.out.2.2.2.2.2.2.2.1 hs.size;simp only[List.take,putAll,Act.put,Zh,Zd,Is,List.setIfInBounds_toArray,List.set_cons_zero,List.set_cons_succ,Nat.reduceAdd]at hk ⊢
        try simp only[hk]
       iterate 12
        ·go_wp2
         exact⟨_,rfl,rfl,.refl _⟩
       ·go_wp2
        exact⟨_,rfl,YM _ _ _,(Since.refl _).alloc _⟩
      ·obtain rfl:nl=k:=by omega
       have H6:=hid HK.out.box;have hV:=hid (HT.out.keep HK.out.old);go_wp2_with (first | (refine wpList_load_row rfl _ _ rfl (w3.heap.size+1) rfl 158 _ (0,0) _ H6.out Tryz.underlying158 rfl (by kernel_rfl) ?_) | (refine Zf (base:=w.heap.size+1) thcells 4 W0 (by decide) rfl _ _ 155 rfl 158 (.agg #[.int .i64 0,.int .i64 0,.slice none 0 0,.slice none 0 0]) 64 Tryz.underlying155 (by kernel_rfl) rfl (.slice xa xl xc) xs ⟨b,-1-(t:Int),[p.dst],.slice (some ⟨w3.heap.size,0,none⟩) 1 1,.slice sa nl sc⟩ _ _ _ rfl rfl (by have h9:=OwnRow.keep hV.out.own ((Since.refl w5).alloc (.cells #[.int .i64 b,.int .i64 (-1-(t:Int)),.slice (some ⟨w3.heap.size,0,none⟩) 1 1,.slice sa nl sc] 158));exact h9) (HeapIs.new _ _ _) (by intro u hu;simp only[thcells,List.mem_cons,List.not_mem_nil,or_false]at hu;rcases hu with rfl | rfl | rfl | rfl<;>rfl) (by rw[hd.out];unfold maxLen;omega) (by rw[hd.out];omega) (by have:=hV.out.size;simp;omega) ?_;intro v8 w8 hc hg hi;obtain⟨a8,c8,he⟩:=OwnRow.shape hc;rw[List.length_append,hd.out]at he;have he:v8=.slice a8 (xl+1) c8:=he;subst he;have hF:=hid ((hV.out.keep ((Since.refl _).alloc _)).add (Zd7 HK.out HC.out ⟨by omega,by omega⟩ rfl HT.out.old.size _) hc hg);have hU:=hid (((HX.out.keep HK.out.old).keep ((Since.refl _).alloc _)).turn hg (Zk (show w5.ownsRow _ _ _ _ _ _ from hV.out.own) (HX.out.keep HK.out.old) (by decide)));clear hc hg hi))
       go_roundw
       case rel=>exact⟨t+1,_,xs++[_],by omega,rfl,by go_num,hF.out,hU.out,by rw[List.length_append,hd.out];show xl+1≤_;omega⟩
       case measure=>simp[intOf];omega
    ·obtain rfl:pl=t:=by omega
     clear h7;go_wp2_with fail
     go_loopw [3,9] (fun av i wr=>∃ (t:Nat) (v:Value) (xs:List ThV),t≤il∧av=v∧i=.int .i64 t∧WW N n w #[.int .i64 params,.slice (some ⟨B,off,none⟩) n bc] v xs wr∧HeapIs wr xb #[.slice pa pl pc,.slice ia il ic,.int .i64 x.term.kind,.slice ta al tc,.slice ta2 tl tc2,.int .i32 x.term.imm] 57∧xs.length≤20000*b+1000+t) (fun _ i _=>il-(intOf i).toNat)
     case atStart=>exact⟨0,_,xs,Nat.zero_le _,rfl,rfl,HT.out,HX.out,by rw[hd.out];omega⟩
     case round =>
      clear HT HX hd hh ht cx0 hr;obtain⟨t,v,xs,ht,rfl,rfl,ha,hx,hh⟩:=hrel;obtain⟨w3,h1⟩:∃ y,y=wr:=⟨_,rfl⟩
      subst h1;obtain⟨xa,xc,hv⟩:=OwnRow.shape ha.own;obtain⟨xl,hf⟩:∃ x,xs.length=x:=⟨_,rfl⟩
      rw[hf]at hv hh;subst hv;have HT:=hid ha;have HX:=hid hx;have hd:=hid hf;have cx1:w3.cell? ⟨xb,1,none⟩=some (.slice ia il ic):=hx.cell 1;have hr:=hx.lt;clear ha hf hx;by_cases hA:t<il
      ·obtain⟨IB,ioff,y,rfl,Hc,hy,Hr,hY⟩:=RowIn.at HI.out (by rw[H5.out];exact hA);have Hi:=(HF.out.ins x Hv.out).2 y (List.mem_of_getElem? hy);obtain⟨yop,ydst,ytwo,yargs,yav,yimm⟩:=y;obtain⟨ya,yc,Hh⟩:=Zp (show Zm w yav yargs from hY);obtain⟨yl,Hj⟩:∃ z,yargs.length=z:=⟨_,rfl⟩
       rw[Hj]at Hh;subst Hh;have H4:=hid (J6 Hi);have hq:=fun t' h4=>(HT.out.old.cell (p:=⟨IB,ioff+t*5+t',none⟩) Hc).trans (Hr t' h4)
       have KW:Hid (w3.cell? ⟨xb,1,none⟩=some (.slice (some ⟨IB,ioff,none⟩) il ic)∧w3.cell? ⟨IB,ioff+t*5,none⟩=some (.int .i64 yop)∧w3.cell? ⟨IB,ioff+t*5+1,none⟩=some (.int .i64 ydst)∧w3.cell? ⟨IB,ioff+t*5+2,none⟩=some (.int .i64 ytwo)∧w3.cell? ⟨IB,ioff+t*5+3,none⟩=some (.slice ya yl yc)∧w3.cell? ⟨IB,ioff+t*5+4,none⟩=some (.int .i32 yimm)∧xb<w3.heap.size∧IB<w3.heap.size):=hid ⟨cx1,hq 0 (by decide),hq 1 (by decide),hq 2 (by decide),hq 3 (by decide),hq 4 (by decide),hr,Nat.lt_of_lt_of_le Hc HT.out.old.size⟩;clear Hc hy Hr hq hY Hi Hj;go_wp2_with fail
       refine Zb 17 rfl (by decide +kernel) (by decide +kernel) (by decide +kernel) (by decide)
        [Is (.slice xa xl xc),Is (.int .i64 b),Is (.int .i64 t),Is (.pointer (some ⟨xb,1,none⟩)),Is (.slice (some ⟨IB,ioff,none⟩) il ic),Is (.int .i64 t),Is (.pointer (some ⟨IB,ioff+t*5,none⟩)),Is (.agg #[.int .i64 yop,.int .i64 ydst,.int .i64 ytwo,.slice ya yl yc,.int .i32 yimm]),Vp w.heap.size (fmakes ⟨yop,ydst,ytwo,yargs,.slice ya yl yc,yimm⟩),Is (.pointer (some ⟨xb,1,none⟩)),Is (.slice (some ⟨IB,ioff,none⟩) il ic),Is (.int .i64 t),Is (.pointer (some ⟨IB,ioff+t*5,none⟩)),Is (.pointer (some ⟨IB,ioff+t*5+3,none⟩)),Is (.slice ya yl yc),ThA w.heap.size b t (fmakes ⟨yop,ydst,ytwo,yargs,.slice ya yl yc,yimm⟩) (.slice ya yl yc),ThB w.heap.size b t (fmakes ⟨yop,ydst,ytwo,yargs,.slice ya yl yc,yimm⟩) (.slice ya yl yc)]
        (by repeat (first | exact trivial | refine⟨Is.stable _,?_⟩ | refine⟨Vp.stable _ _,?_⟩ | refine⟨ThA.stable _ _ _ _ _,?_⟩ | refine⟨ThB.stable _ _ _ _ _,?_⟩)) ⟨?_,?_,?_,?_,?_,?_,?_,?_,?_,?_,?_,?_,?_,?_,?_,?_,?_,trivial⟩ ?_
       rotate_right
       ·intro vs w20 hs hk;have k1:w20.cell? ⟨xb,1,none⟩=some (.slice (some ⟨IB,ioff,none⟩) il ic):=(hs.cell KW.out.2.2.2.2.2.2.1).trans KW.out.1;have i0:w20.cell? ⟨IB,ioff+t*5,none⟩=some (.int .i64 yop):=(hs.cell KW.out.2.2.2.2.2.2.2).trans KW.out.2.1;have i1:w20.cell? ⟨IB,ioff+t*5+1,none⟩=some (.int .i64 ydst):=(hs.cell KW.out.2.2.2.2.2.2.2).trans KW.out.2.2.1;have i2:w20.cell? ⟨IB,ioff+t*5+2,none⟩=some (.int .i64 ytwo):=(hs.cell KW.out.2.2.2.2.2.2.2).trans KW.out.2.2.2.1;have i3:w20.cell? ⟨IB,ioff+t*5+3,none⟩=some (.slice ya yl yc):=(hs.cell KW.out.2.2.2.2.2.2.2).trans KW.out.2.2.2.2.1;have i4:w20.cell? ⟨IB,ioff+t*5+4,none⟩=some (.int .i32 yimm):=(hs.cell KW.out.2.2.2.2.2.2.2).trans KW.out.2.2.2.2.2.1;have l1:xb<w20.heap.size:=Nat.lt_of_lt_of_le KW.out.2.2.2.2.2.2.1 hs.size;have l2:IB<w20.heap.size:=Nat.lt_of_lt_of_le KW.out.2.2.2.2.2.2.2 hs.size;simp only[List.take,List.drop,putAll,Act.put,Zc,Zd,Is,List.setIfInBounds_toArray,List.set_cons_zero,List.set_cons_succ,Nat.reduceAdd]at hk ⊢
        try simp only[hk]
        obtain⟨q9,ma,mc,Hp,Ho,h5⟩:ThB w.heap.size b t (fmakes ⟨yop,ydst,ytwo,yargs,.slice ya yl yc,yimm⟩) (.slice ya yl yc) (vs 16) w20:=hk.2.2.2.2.2.2.2.2.2.2.2.2.2.2.2.2.1;simp only[Hp];have HQ:=hid (And.intro Ho h5);have hD:=hid (HT.out.keep hs);have He:=hid (HX.out.keep hs);have HU:=zH (VQ w.heap.size N n w20 ⟨b,t,(fmakes ⟨yop,ydst,ytwo,yargs,.slice ya yl yc,yimm⟩),.slice ma (fmakes ⟨yop,ydst,ytwo,yargs,.slice ya yl yc,yimm⟩).length mc,.slice ya yl yc⟩) ⟨h5,H4.out,⟨by show (0:Int)≤b;omega,by show (b:Int)<n;omega⟩,JD _,rfl⟩;clear hk hs Hp Ho h5 k1 i0 i1 i2 i3 i4 l1 l2;go_wp2_with (refine Zf (base:=w.heap.size+1) thcells 4 W0 (by decide) rfl _ _ 155 rfl 158 (.agg #[.int .i64 0,.int .i64 0,.slice none 0 0,.slice none 0 0]) 64 Tryz.underlying155 (by kernel_rfl) rfl (.slice xa xl xc) xs ⟨b,t,(fmakes ⟨yop,ydst,ytwo,yargs,.slice ya yl yc,yimm⟩),.slice ma (fmakes ⟨yop,ydst,ytwo,yargs,.slice ya yl yc,yimm⟩).length mc,.slice ya yl yc⟩ _ _ _ rfl rfl (hD.out.own) (HQ.out.1) (by intro u hu;simp only[thcells,List.mem_cons,List.not_mem_nil,or_false]at hu;rcases hu with rfl | rfl | rfl | rfl<;>rfl) (by rw[hd.out];unfold maxLen;omega) (by rw[hd.out];omega) (hD.out.size) ?_;intro v8 w8 hc hg hi;obtain⟨a8,c8,he⟩:=OwnRow.shape hc;rw[List.length_append,hd.out]at he;have he:v8=.slice a8 (xl+1) c8:=he;subst he;have hF:=hid (hD.out.add (HU.out) hc hg);have hU:=hid ((He.out).turn hg (Zk (show World.ownsRow _ _ _ _ _ _ _ from hD.out.own) (He.out) (by decide)));clear hc hg hi)
        go_roundw
        case rel=>exact⟨t+1,_,xs++[_],by omega,rfl,by go_num,hF.out,hU.out,by rw[List.length_append,hd.out];show xl+1≤_;omega⟩
        case measure=>simp[intOf];omega
       all_goals
        intro vs w20 hs hk _;have k1:w20.cell? ⟨xb,1,none⟩=some (.slice (some ⟨IB,ioff,none⟩) il ic):=(hs.cell KW.out.2.2.2.2.2.2.1).trans KW.out.1;have i0:w20.cell? ⟨IB,ioff+t*5,none⟩=some (.int .i64 yop):=(hs.cell KW.out.2.2.2.2.2.2.2).trans KW.out.2.1;have i1:w20.cell? ⟨IB,ioff+t*5+1,none⟩=some (.int .i64 ydst):=(hs.cell KW.out.2.2.2.2.2.2.2).trans KW.out.2.2.1;have i2:w20.cell? ⟨IB,ioff+t*5+2,none⟩=some (.int .i64 ytwo):=(hs.cell KW.out.2.2.2.2.2.2.2).trans KW.out.2.2.2.1;have i3:w20.cell? ⟨IB,ioff+t*5+3,none⟩=some (.slice ya yl yc):=(hs.cell KW.out.2.2.2.2.2.2.2).trans KW.out.2.2.2.2.1;have i4:w20.cell? ⟨IB,ioff+t*5+4,none⟩=some (.int .i32 yimm):=(hs.cell KW.out.2.2.2.2.2.2.2).trans KW.out.2.2.2.2.2.1;have l1:xb<w20.heap.size:=Nat.lt_of_lt_of_le KW.out.2.2.2.2.2.2.1 hs.size;have l2:IB<w20.heap.size:=Nat.lt_of_lt_of_le KW.out.2.2.2.2.2.2.2 hs.size;simp only[List.take,putAll,Act.put,Zh,Zd,Is,List.setIfInBounds_toArray,List.set_cons_zero,List.set_cons_succ,Nat.reduceAdd]at hk ⊢
        try simp only[hk]
       iterate 8
        ·go_wp2
         exact⟨_,rfl,rfl,.refl _⟩
       ·have HB:=hid hs;go_wp2_with fail
        refine (Zdw w.heap.size ⟨yop,ydst,ytwo,yargs,.slice ya yl yc,yimm⟩ _ (Nat.le_trans HT.out.old.size HB.out.size)).mono ?_;rintro e w21 ⟨mv,rfl,hm,Hn⟩;have HM:=hid hm;have HV:=hid Hn;clear hm Hn hk hs k1 i0 i1 i2 i3 i4 l1 l2;go_wp2
        exact⟨_,rfl,HM.out,HV.out⟩
       iterate 6
        ·go_wp2
         exact⟨_,rfl,rfl,.refl _⟩
       ·have hm:Vp w.heap.size (fmakes ⟨yop,ydst,ytwo,yargs,.slice ya yl yc,yimm⟩) (vs 8) w20:=hk.2.2.1;obtain⟨ma,mc,h6⟩:=Qy hm;have HM:=zH (Vp w.heap.size (fmakes ⟨yop,ydst,ytwo,yargs,.slice ya yl yc,yimm⟩) (.slice ma (fmakes ⟨yop,ydst,ytwo,yargs,.slice ya yl yc,yimm⟩).length mc) w20) (by rw[←h6];exact hm);simp only[h6];clear hk hm h6;go_wp2
        exact⟨_,rfl,⟨_,_,rfl,HM.out⟩,.refl _⟩
       ·obtain⟨ma,mc,hv,hm⟩:ThA w.heap.size b t (fmakes ⟨yop,ydst,ytwo,yargs,.slice ya yl yc,yimm⟩) (.slice ya yl yc) (vs 15) w20:=hk.1;simp only[hv];have HM:=hid hm;clear hk hm hv;go_wp2
        exact⟨_,rfl,⟨_,_,_,rfl,HeapIs.new _ _ _,ZE HM.out ((Since.refl _).alloc _)⟩,(Since.refl _).alloc _⟩
      ·obtain rfl:il=t:=by omega
       have cx3:w3.cell? ⟨xb,3,none⟩=some (.slice ta al tc):=HX.out.cell 3;clear hA;go_wp2_with (refine Zf (base:=w.heap.size+1) thcells 4 W0 (by decide) rfl _ _ 155 rfl 158 (.agg #[.int .i64 0,.int .i64 0,.slice none 0 0,.slice none 0 0]) 64 Tryz.underlying155 (by kernel_rfl) rfl (.slice xa xl xc) xs ⟨b,il,[],.slice none 0 0,.slice ta al tc⟩ _ _ _ rfl rfl (by have h9:=OwnRow.keep HT.out.own ((Since.refl w3).alloc (.cells #[.int .i64 b,.int .i64 il,.slice none 0 0,.slice ta al tc] 158));exact h9) (HeapIs.new _ _ _) (by intro u hu;simp only[thcells,List.mem_cons,List.not_mem_nil,or_false]at hu;rcases hu with rfl | rfl | rfl | rfl<;>rfl) (by rw[hd.out];unfold maxLen;omega) (by rw[hd.out];omega) (by have:=HT.out.size;simp;omega) ?_;intro v8 w8 hc hg hi;obtain⟨a8,c8,he⟩:=OwnRow.shape hc;rw[List.length_append,hd.out]at he;have he:v8=.slice a8 (xl+1) c8:=he;subst he;have hF:=hid ((HT.out.keep ((Since.refl _).alloc _)).add (Zed ⟨by omega,by omega⟩ rfl _) hc hg);have hU:=hid ((HX.out.keep ((Since.refl _).alloc _)).turn hg (Zk (show World.ownsRow _ _ _ _ _ _ _ from HT.out.own) (HX.out) (by decide)));clear hc hg hi)
       go_roundw
       case rel=>exact⟨b+1,_,xs++[_],by omega,rfl,by go_num,hF.out,by rw[List.length_append,hd.out];show xl+1≤_;omega⟩
       case measure=>simp[intOf];omega
  ·obtain rfl:n=b:=by omega
   go_wp2
   go_ret
   exact⟨_,xs,rfl,ZbB HT.out.own (Nat.le_succ _),HT.out.each,HT.out.old,by rw[hd.out];omega⟩
theorem FnIn.tos {w : World} {params:Int} {bl:List FBlk} {bv:Value} (h:FnIn w ⟨params,bl,bv⟩):TosIn w bv bl:=RowIn.imp (show RowIn fbcells 6 We w bv bl from h) fun b h=>h.2.2.2
structure Ki (w wT:World) (base:Nat) (cs:Array Value) (v:Value) (xs:List Int) (wr:World):Prop where
 box:HeapIs wr w.heap.size cs 24
 own:wr.ownsRow (w.heap.size+1) 3 1 v xs.length (xs.map (Value.int .i64))
 old:Since w wr
 low:Turn (fun q=>q<base) wT wr
 at_:∀ q,v.ownBlock=some q→q<base∨wT.heap.size≤q
 size:w.heap.size+1≤wr.heap.size
section
variable {w wT wr w2 w6:World} {base:Nat} {cs:Array Value} {v v':Value} {xs ys:List Int}
theorem Ki.keep (h:Ki w wT base cs v xs wr) (s:Since wr w2):Ki w wT base cs v xs w2:=
 ⟨h.box.keep s,ZE h.own s,h.old.trans s,h.low.trans (Turn.since s),h.at_,Nat.le_trans h.size s.size⟩
theorem Ki.add (h:Ki w wT base cs v xs wr) (ha:w6.ownsRow (w.heap.size+1) 3 1 v' (xs++ys).length ((xs++ys).map (Value.int .i64))) (t6:Turn (fun q=>v.ownBlock=some q) wr w6) (hb:ZP wr v v'):Ki w wT base cs v' (xs++ys) w6:=by
 have hv:∀ q,v.ownBlock=some q→w.heap.size+1≤q:=fun q hq=>(World.ownsRow.lt h.own q hq).1
 have hz:=t6.size;have hc:=h.low.size;refine⟨h.box.turn t6 fun e=>by have:=hv _ e;omega,ha,t6.toSince h.old fun q hq e=>by have:=hv _ e;omega,?_,fun q hq=>?_,by have:=h.size;omega⟩
 ·have h1:Turn (fun q=>q<base∨wT.heap.size≤q) wT wr:=h.low.mono fun _ _ e=>.inl e
  have h2:Turn (fun q=>q<base∨wT.heap.size≤q) wr w6:=t6.mono fun q _ e=>h.at_ q e
  refine (h1.trans h2).mono fun q hq hs=>?_
  rcases hs with hs|hs
  ·exact hs
  ·omega
 ·rcases hb q hq with h1|h1
  ·exact h.at_ q h1
  ·exact .inr (by omega)
end
def ReachP (n:Nat) (v:Value) (w:World):Prop:=∃ ob out,v=.slice (some ⟨ob,0,none⟩) n n∧HeapIs w ob ((out:List Bool).map Value.bool).toArray 4∧out.length=n
theorem ReachP.stable (n:Nat):Z7 (ReachP n):=fun v w w' ⟨ob,out,h1,h2,h3⟩ s=>⟨ob,out,h1,h2.keep s,h3⟩
theorem Zbn (N:Int) (params:Int) (bl:List FBlk) (bv:Value) (w:World) (h:FnIn w ⟨params,bl,bv⟩) (hn:ZdL N bl) (h9:1≤bl.length∧bl.length≤9) (hp:0≤params∧params≤8∧params≤N) (block:Int) (hb:0≤block∧block<bl.length) :
  Calls Tryz.prog 64 #[.agg #[.int .i64 params,bv],.int .i64 block] w (Zg3 w fun l=>l.length≤500000∧∀ y∈l,0≤y∧y<N):=by
 obtain⟨ba,bc,Hg,hY⟩:=RowIn.shape (show RowIn fbcells 6 We w bv bl from h);subst Hg;obtain⟨n,hL⟩:∃ n,bl.length=n:=⟨_,rfl⟩
 rw[hL]at hY h hb h9 ⊢;obtain⟨bk,rfl⟩:∃ bk:Nat,block=bk:=⟨block.toNat,by omega⟩
 have Hh:bk<n:=by omega
 obtain⟨Ho,Hn,Hm⟩:=hp;obtain⟨Hq,Hp⟩:=h9;have H:=hid h;have hI:=hid hL;have HF:=hid hn;clear h hL hn hY hb;have HW:=hid (XZ.new w #[.int .i64 params,.slice ba n bc] 24);go_enter Tryz.func64,Tryz.ntmps64
 go_wp2_with fail
 obtain⟨w1,hS⟩:∃ x,x=(w.alloc (.cells #[.int .i64 params,.slice ba n bc] 24)).alloc (.cells #[] 3):=⟨_,rfl⟩
 rw[←hS]at HW ⊢;clear hS
 go_loopw [5,6] (fun av i wr=>∃ (k:Nat) (v:Value) (xs:List Int),(k:Int)≤params∧av=v∧i=.int .i64 k∧XZ w #[.int .i64 params,.slice ba n bc] 24 v xs wr∧xs.length≤k∧∀ p∈xs,0≤p∧p<N) (fun _ i _=>params.toNat-(intOf i).toNat)
 case atStart=>exact⟨0,_,[],by omega,rfl,rfl,HW.out,Nat.le_refl _,fun p hp=>(by cases hp)⟩
 case round =>
  obtain⟨i,v,xs,hi,rfl,rfl,hf,hz,hD⟩:=hrel;obtain⟨xa,xc,hv⟩:=Ze hf.own;obtain⟨xl,ht⟩:∃ x,xs.length=x:=⟨_,rfl⟩
  rw[ht]at hv hz;subst hv;have HT:=hid hf;have hc:=hid ht;have hr:=hid hD;have c0:wr.cell? ⟨w.heap.size,0,none⟩=some (.int .i64 params):=hf.box.cell 0;have c1:wr.cell? ⟨w.heap.size,1,none⟩=some (.slice ba n bc):=hf.box.cell 1;have h0:=hf.box.lt;clear hf ht hD HW;by_cases hM:(i:Int)<params
  ·go_wp2_with (refine Zl (base:=w.heap.size+1) .i64 rfl _ _ 32 rfl 3 (.int .i64 0) 8 Tryz.underlying32 Tryz.info3 rfl (by decide) (.slice xa xl xc) _ xs [(i:Int)] rfl rfl (ZE (by have h9:=HT.out.own;rw[hc.out]at h9 ⊢;exact h9) ((Since.refl _).alloc _)) (YM _ _ _) (by rw[hc.out];simp;omega) (by have:=HT.out.size;simp;omega) ?_;intro v6 w6 ha hm he;obtain⟨a6,c6,hl⟩:=Ze ha;rw[show (xs++[(i:Int)]).length=xl+1 from by rw[List.length_append,hc.out];rfl]at hl;subst hl;have hE:=hid (HT.out.add ha hm);clear ha hm he)
   go_roundw
   case rel=>exact⟨i+1,_,xs++[(i:Int)],by omega,rfl,by go_num,hE.out,by rw[List.length_append,hc.out];show xl+1≤i+1;omega,fun p hp=>by
    rcases List.mem_append.1 hp with hp|hp
    ·exact hr.out p hp
    ·obtain rfl:=List.mem_singleton.1 hp;omega⟩
   case measure=>simp[intOf];omega
  ·obtain rfl:params=i:=by omega
   clear hM hi;go_wp2_with fail
   refine (Zc7 N _ bl (.slice ba n bc) wr (FnIn.keep H.out HT.out.old) HF.out).mono ?_;rintro e wT ⟨tv,things,rfl,hg,hu,hC,hT⟩;rw[hI.out]at hT;obtain⟨sa,sc,hU⟩:=OwnRow.shape hg;obtain⟨tn,hJ⟩:∃ x,things.length=x:=⟨_,rfl⟩
   rw[hJ]at hU hT;subst hU;have Hj:=hid hJ;obtain⟨base,hA⟩:∃ x,x=wr.heap.size:=⟨_,rfl⟩
   rw[←hA]at hg hu;have Hi:=hid hg;have Hk:=zH (RowIn thcells 4 (VQ base N bl.length) wT (.slice sa tn sc) things) (Vu W0 hg hu);have HS:=zH (Ki w wT base _ (.slice xa xl xc) xs wT) ⟨HT.out.box.keep hC,ZE HT.out.own hC,HT.out.old.trans hC,Turn.refl _ _,fun q hq=>.inl (by rw[hA];exact Z5 HT.out.own hq),Nat.le_trans HT.out.size hC.size⟩;clear hg hu hC hJ hA c0 c1 h0 HT;go_wp2_with fail
   go_loopw [5,8] (fun av z wr=>∃ (j:Nat) (v:Value) (xs:List Int),j≤tn∧av=v∧z=.int .i64 j∧Ki w wT base #[.int .i64 i,.slice ba n bc] v xs wr∧xs.length≤8+2*j∧∀ p∈xs,0≤p∧p<N) (fun _ z _=>tn-(intOf z).toNat)
   case atStart=>exact⟨0,_,xs,Nat.zero_le _,rfl,rfl,HS.out,by rw[hc.out];omega,hr.out⟩
   case round =>
    clear HS hc hr hz;obtain⟨j,v,xs,hj,rfl,rfl,hf,hz,hD⟩:=hrel;obtain⟨xa,xc,hv⟩:=Ze hf.own;obtain⟨xl,ht⟩:∃ x,xs.length=x:=⟨_,rfl⟩
    rw[ht]at hv hz;subst hv;have hd:=hid hf;have hc:=hid ht;have hr:=hid hD;clear hf ht hD;by_cases hM:j<tn
    ·obtain⟨TB,toff,th,rfl,hO,Hc,hX,hh⟩:=RowIn.at Hk.out (by rw[Hj.out];exact hM);have h8:¬ TB<base:=by have:=(World.ownsRow.lt (show wT.ownsRow _ _ _ _ _ _ from Hi.out) TB rfl).1;omega
     have hN:=fun t' He=>(hd.out.low.cell (p:=⟨TB,toff+j*4+t',none⟩) hO h8).trans (hX t' He)
     have hP:=zH (Vp base th.mkl th.mkv wr) (Zi hh.1 hd.out.low fun q hq e=>by have:=(World.ownsRow.lt (show wT.ownsRow _ _ _ _ _ _ from hh.1) q hq).1;omega)
     obtain⟨ma,mc,hF⟩:=Qy hP.out;obtain⟨ml,hG⟩:∃ x,th.mkl.length=x:=⟨_,rfl⟩
     rw[hG]at hF;have Hl:ml≤2:=by rw[←hG];exact hh.2.2.2.1
     have hQ:=zH (ZN .i64 wr (.slice ma ml mc) th.mkl) (by rw[←hF];exact XI hP.out);have hZ:=hid hh;have hx:=hid hG;have t0:wr.cell? ⟨TB,toff+j*4,none⟩=some (.int .i64 th.block):=hN 0 (by decide);have t2:wr.cell? ⟨TB,toff+j*4+2,none⟩=some (.slice ma ml mc):=by rw[←hF];exact hN 2 (by decide)
     have h7:TB<wr.heap.size:=Nat.lt_of_lt_of_le hO hd.out.low.size;have c0:=hd.out.box.cell 0;have c1:=hd.out.box.cell 1;have Hf:=hd.out.box.lt;clear hN hX Hc hh hG hF hO;by_cases hH:th.block=bk
     ·have h6:(th.block != (bk:Int))=false:=by simpa using hH
      clear hH;go_wp2_with (refine Zl (base:=w.heap.size+1) .i64 rfl _ _ 32 rfl 3 (.int .i64 0) 8 Tryz.underlying32 Tryz.info3 rfl (by decide) (.slice xa xl xc) _ xs th.mkl rfl rfl (by have h9:=hd.out.own;rw[hc.out]at h9 ⊢;exact h9) (hQ.out) (by rw[hc.out,hx.out];omega) (by have:=hd.out.size;omega) ?_;intro v6 w6 ha hm he;obtain⟨a6,c6,hl⟩:=Ze ha;rw[show (xs++th.mkl).length=xl+ml from by rw[List.length_append,hc.out,hx.out]]at hl;subst hl;have hE:=hid (hd.out.add ha hm he);clear ha hm he)
      go_roundw
      case rel=>exact⟨j+1,_,xs++th.mkl,by omega,rfl,by go_num,hE.out,by rw[List.length_append,hc.out,hx.out];omega,fun y hy=>by
       rcases List.mem_append.1 hy with hy|hy
       ·exact hr.out y hy
       ·exact hZ.out.2.1 y hy⟩
      case measure=>simp[intOf];omega
     ·have h6:(th.block != (bk:Int))=true:=by simpa using hH
      clear hH;have KW:Hid (wr.cell? ⟨TB,toff+j*4,none⟩=some (.int .i64 th.block)∧wr.cell? ⟨TB,toff+j*4+2,none⟩=some (.slice ma ml mc)∧wr.cell? ⟨w.heap.size,0,none⟩=some (.int .i64 i)∧wr.cell? ⟨w.heap.size,1,none⟩=some (.slice ba n bc)∧TB<wr.heap.size∧w.heap.size<wr.heap.size):=hid ⟨t0,t2,c0,c1,h7,Hf⟩;go_wp2_with fail
      refine Zb 7 rfl (by decide +kernel) (by decide +kernel) (by decide +kernel) (by decide)
       [Is (.agg #[.int .i64 i,.slice ba n bc]),Is (.slice (some ⟨TB,toff,none⟩) tn sc),Is (.int .i64 j),Is (.pointer (some ⟨TB,toff+j*4,none⟩)),Is (.pointer (some ⟨TB,toff+j*4,none⟩)),Is (.int .i64 th.block),ReachP n]
       (by repeat (first | exact trivial | refine⟨Is.stable _,?_⟩ | refine⟨ReachP.stable _,?_⟩)) ⟨?_,?_,?_,?_,?_,?_,?_,trivial⟩ ?_
      rotate_right
      ·intro vs w20 hs hk;have k0:w20.cell? ⟨TB,toff+j*4,none⟩=some (.int .i64 th.block):=(hs.cell KW.out.2.2.2.2.1).trans KW.out.1;have k2:w20.cell? ⟨TB,toff+j*4+2,none⟩=some (.slice ma ml mc):=(hs.cell KW.out.2.2.2.2.1).trans KW.out.2.1;have b0:w20.cell? ⟨w.heap.size,0,none⟩=some (.int .i64 i):=(hs.cell KW.out.2.2.2.2.2).trans KW.out.2.2.1;have b1:w20.cell? ⟨w.heap.size,1,none⟩=some (.slice ba n bc):=(hs.cell KW.out.2.2.2.2.2).trans KW.out.2.2.2.1;have l1:TB<w20.heap.size:=Nat.lt_of_lt_of_le KW.out.2.2.2.2.1 hs.size;have l2:w.heap.size<w20.heap.size:=Nat.lt_of_lt_of_le KW.out.2.2.2.2.2 hs.size;simp only[List.take,List.drop,putAll,Act.put,Zc,Zd,Is,List.setIfInBounds_toArray,List.set_cons_zero,List.set_cons_succ,Nat.reduceAdd]at hk ⊢;try simp only[hk]
       obtain⟨ob,out,hW,hK,hV⟩:ReachP n (vs 6) w20:=hk.2.2.2.2.2.2.1;simp only[hW];obtain⟨o,ho⟩:∃ o,out[bk]? = some o:=⟨_,List.getElem?_eq_getElem (by rw[hV];exact Hh)⟩
       have co:w20.cell? ⟨ob,bk,none⟩=some (.bool o):=by rw[hK.cell,List.getElem?_toArray,List.getElem?_map,ho];rfl
       have ol:=hK.lt;have hB:=hid (hd.out.keep hs);have hR:=hid (ZN.keep hQ.out hs);clear hk hs hW hK hV ho k0 b0 b1 l2
       cases o with
       | true =>
        go_wp2
        go_roundw
        case rel=>exact⟨j+1,_,xs,by omega,rfl,by go_num,hB.out,by rw[hc.out];omega,hr.out⟩
        case measure=>simp[intOf];omega
       | false =>
        go_wp2_with (refine Zl (base:=w.heap.size+1) .i64 rfl _ _ 32 rfl 3 (.int .i64 0) 8 Tryz.underlying32 Tryz.info3 rfl (by decide) (.slice xa xl xc) _ xs th.mkl rfl rfl (by have h9:=hB.out.own;rw[hc.out]at h9 ⊢;exact h9) (hR.out) (by rw[hc.out,hx.out];omega) (by have:=hB.out.size;omega) ?_;intro v6 w6 ha hm he;obtain⟨a6,c6,hl⟩:=Ze ha;rw[show (xs++th.mkl).length=xl+ml from by rw[List.length_append,hc.out,hx.out]]at hl;subst hl;have hE:=hid (hB.out.add ha hm he);clear ha hm he)
        go_roundw
        case rel=>exact⟨j+1,_,xs++th.mkl,by omega,rfl,by go_num,hE.out,by rw[List.length_append,hc.out,hx.out];omega,fun y hy=>by
         rcases List.mem_append.1 hy with hy|hy
         ·exact hr.out y hy
         ·exact hZ.out.2.1 y hy⟩
        case measure=>simp[intOf];omega
      all_goals
       intro vs w20 hs hk _;have k0:w20.cell? ⟨TB,toff+j*4,none⟩=some (.int .i64 th.block):=(hs.cell KW.out.2.2.2.2.1).trans KW.out.1;have k2:w20.cell? ⟨TB,toff+j*4+2,none⟩=some (.slice ma ml mc):=(hs.cell KW.out.2.2.2.2.1).trans KW.out.2.1;have b0:w20.cell? ⟨w.heap.size,0,none⟩=some (.int .i64 i):=(hs.cell KW.out.2.2.2.2.2).trans KW.out.2.2.1;have b1:w20.cell? ⟨w.heap.size,1,none⟩=some (.slice ba n bc):=(hs.cell KW.out.2.2.2.2.2).trans KW.out.2.2.2.1;have l1:TB<w20.heap.size:=Nat.lt_of_lt_of_le KW.out.2.2.2.2.1 hs.size;have l2:w.heap.size<w20.heap.size:=Nat.lt_of_lt_of_le KW.out.2.2.2.2.2 hs.size;simp only[List.take,putAll,Act.put,Zh,Zd,Is,List.setIfInBounds_toArray,List.set_cons_zero,List.set_cons_succ,Nat.reduceAdd]at hk ⊢;try simp only[hk]
      iterate 6
       ·go_wp2
        exact⟨_,rfl,rfl,.refl _⟩
      ·have Hb:=hid hs;clear hk hs k0 k2 b0 b1 l1 l2;go_wp2_with fail
       refine (KD _ bl (.slice ba n bc) _ (TosIn.keep (FnIn.tos H.out) (hd.out.old.trans Hb.out)) (by rw[hI.out];omega) th.block).mono ?_;rintro e w21 ⟨ob,out,rfl,h1,h2,h3,h4,h5⟩;rw[hI.out]at h4;have HR:=zH (ReachP n (.slice (some ⟨ob,0,none⟩) n n) w21) ⟨ob,out,rfl,h1,h4⟩;have Ha:=hid h3;rw[hI.out];clear h1 h2 h3 h4 h5;go_wp2
       exact⟨_,rfl,HR.out,Ha.out⟩
    ·obtain rfl:tn=j:=by omega
     go_wp2
     go_ret
     exact⟨_,xs,rfl,ZbB (by have h9:=hd.out.own;rw[hc.out]at h9 ⊢;exact h9) (Nat.le_succ _),hd.out.old,by rw[hc.out];omega,hr.out⟩
end Go.Proofs.YtmhojfpidedjeaaGreatDoor
