/- MkThings MkStanding -/
import Derived.Test.YtmhojfpidedjeaaGreatDoorTq34
namespace Go.Proofs.YtmhojfpidedjeaaGreatDoor
open Go.RowKit
set_option linter.unusedVariables false
structure ThV where
 block:Int
 place:Int
 mkl:List Int
 mkv:Value
 tkv:Value
def thcells (x:ThV):List Value:=[.int .i64 x.block,.int .i64 x.place,x.mkv,x.tkv]
theorem thcells_len (x:ThV):(thcells x).length=4:=rfl
def OwnI (base:Nat) (l:List Int) (v:Value) (w:World):Prop:=w.ownsRow base 3 1 v l.length (l.map (Value.int .i64))
theorem OwnI.stable (base:Nat) (l:List Int):Stable (OwnI base l):=fun v w w' h s=>own_keep h s
def ThIn (base:Nat) (N:Int) (n:Nat) (w:World) (x:ThV):Prop:=OwnI base x.mkl x.mkv w∧(∀ y∈x.mkl,0≤y∧y<N)∧(0≤x.block∧x.block<n)∧x.mkl.length≤2∧x.tkv.oneCell'=true
theorem ThIn.keep {base:Nat} {N : Int} {n : Nat} {w w':World} {x : ThV} (h:ThIn base N n w x) (s:Since w w'):ThIn base N n w' x:=⟨own_keep h.1 s,h.2⟩
theorem own_down {w : World} {base base':Nat} {e : TypeId} {sz n:Nat} {v : Value} {xs:List Value} (h:w.ownsRow base e sz v n xs) (hb:base'≤base):w.ownsRow base' e sz v n xs:=by
 obtain⟨h0,h1|⟨g,cap,cur,h1,h2,h3⟩⟩:=h
 ·exact⟨h0,.inl h1⟩
 ·exact⟨h0,.inr ⟨g,cap,cur,h1,Nat.le_trans hb h2,h3⟩⟩
theorem own_box {w : World} {q base:Nat} {cs:List Value} {T : TypeId} (h:HeapIs w q cs.toArray T) (hb:base≤q) (hl:cs.length≤maxLen):w.ownsRow base T 1 (.slice (some ⟨q,0,none⟩) cs.length cs.length) cs.length cs:=
 ⟨by simp,.inr ⟨q,cs.length,cs.toArray,rfl,hb,h,Nat.le_refl _,hl,by simp,by simp⟩⟩
theorem heap_new1 (w:World) (o:Obj) (cs:Array Value) (T:TypeId):HeapIs ((w.alloc o).alloc (.cells cs T)) (w.heap.size+1) cs T:=by
 have h2:=HeapIs.new (w.alloc o) cs T
 rw[show (w.alloc o).heap.size=w.heap.size+1 from by simp]at h2
 exact h2
structure ThSt (N:Int) (n:Nat) (w:World) (cs:Array Value) (v:Value) (xs:List ThV) (wr:World):Prop where
 box:HeapIs wr w.heap.size cs 24
 own:OwnRow thcells 4 158 (w.heap.size+1) wr v xs
 each:∀ x∈xs,ThIn w.heap.size N n wr x
 old:Since w wr
 size:w.heap.size+1≤wr.heap.size
theorem ThSt.new (N:Int) (n:Nat) (w:World) (cs:Array Value):ThSt N n w cs (.slice (some ⟨w.heap.size+1,0,none⟩) 0 0) [] ((w.alloc (.cells cs 24)).alloc (.cells #[] 158)):=by
 have h2:=HeapIs.new (w.alloc (.cells cs 24)) #[] 158
 rw[show (w.alloc (.cells cs 24)).heap.size=w.heap.size+1 from by simp]at h2
 exact⟨(HeapIs.new w cs 24).keep ((Since.refl _).alloc _),⟨rfl,.inr ⟨w.heap.size+1,0,#[],rfl,Nat.le_refl _,h2,Nat.le_refl _,Nat.zero_le _,rfl,rfl⟩⟩,fun x hx=>(by cases hx),((Since.refl _).alloc _).alloc _,by simp⟩
section
variable {N : Int} {n : Nat} {w wr w2 w6:World} {cs:Array Value} {v v':Value} {xs:List ThV} {x : ThV}
theorem ThSt.keep (h:ThSt N n w cs v xs wr) (s:Since wr w2):ThSt N n w cs v xs w2:=
 ⟨h.box.keep s,OwnRow.keep h.own s,fun x hx=>(h.each x hx).keep s,h.old.trans s,Nat.le_trans h.size s.size⟩
theorem ThSt.add (h:ThSt N n w cs v xs wr) (hx:ThIn w.heap.size N n wr x) (hown:OwnRow thcells 4 158 (w.heap.size+1) w6 v' (xs++[x])) (t6:Turn (fun q=>v.ownBlock=some q) wr w6):ThSt N n w cs v' (xs++[x]) w6:=by
 have hv:∀ q,v.ownBlock=some q→w.heap.size+1≤q:=fun q hq=>(World.ownsRow.lt (show wr.ownsRow _ _ _ _ _ _ from h.own) q hq).1
 have hz:=t6.size
 refine⟨h.box.turn t6 fun e=>by have:=hv _ e;omega,hown,fun y hy=>?_,t6.toSince h.old fun q hq e=>by have:=hv _ e;omega,by have:=h.size;omega⟩
 have h3:ThIn w.heap.size N n wr y:=by
  rcases List.mem_append.1 hy with hy|hy
  ·exact h.each y hy
  ·obtain rfl:=List.mem_singleton.1 hy;exact hx
 exact⟨own_turn h3.1 t6 fun q hq e=>own_ne h3.1 (show wr.ownsRow _ _ _ _ _ _ from h.own) (by decide) q hq e,h3.2⟩
end
structure TkSt (w2:World) (bV pV dst:Int) (tv:Value) (ts:List Int) (w4:World):Prop where
 box:HeapIs w4 (w2.heap.size+1) #[.int .i64 bV,.int .i64 pV,.slice (some ⟨w2.heap.size,0,none⟩) 1 1,tv] 158
 dst:HeapIs w4 w2.heap.size #[.int .i64 dst] 3
 own:w4.ownsRow (w2.heap.size+2) 3 1 tv ts.length (ts.map (Value.int .i64))
 old:Since w2 w4
 size:w2.heap.size+2≤w4.heap.size
section
variable {w2 w4 w5 w6:World} {bV pV dst y:Int} {tv tv':Value} {ts:List Int}
theorem TkSt.new (w2:World) (bV pV dst:Int):TkSt w2 bV pV dst (.slice none 0 0) [] ((w2.alloc (.cells #[.int .i64 dst] 3)).alloc (.cells #[.int .i64 bV,.int .i64 pV,.slice (some ⟨w2.heap.size,0,none⟩) 1 1,.slice none 0 0] 158)):=by
 have h2:=HeapIs.new (w2.alloc (.cells #[.int .i64 dst] 3)) #[.int .i64 bV,.int .i64 pV,.slice (some ⟨w2.heap.size,0,none⟩) 1 1,.slice none 0 0] 158
 rw[show (w2.alloc (.cells #[.int .i64 dst] 3)).heap.size=w2.heap.size+1 from by simp]at h2
 exact⟨h2,(HeapIs.new _ _ _).keep ((Since.refl _).alloc _),own_nil _ _ _ _,((Since.refl _).alloc _).alloc _,by simp⟩
theorem TkSt.keep (h:TkSt w2 bV pV dst tv ts w4) (s:Since w4 w5):TkSt w2 bV pV dst tv ts w5:=⟨h.box.keep s,h.dst.keep s,own_keep h.own s,h.old.trans s,Nat.le_trans h.size s.size⟩
theorem TkSt.add (h:TkSt w2 bV pV dst tv ts w4) (hown:w6.ownsRow (w2.heap.size+2) 3 1 tv' (ts++[y]).length ((ts++[y]).map (Value.int .i64))) (t6:Turn (fun q=>tv.ownBlock=some q) w4 w6):TkSt w2 bV pV dst tv' (ts++[y]) (w6.setCell ⟨w2.heap.size+1,3,none⟩ tv'):=by
 have hv:∀ q,tv.ownBlock=some q→w2.heap.size+2≤q:=fun q hq=>(World.ownsRow.lt h.own q hq).1
 have tc:Turn (fun q=>q=w2.heap.size+1) w6 (w6.setCell ⟨w2.heap.size+1,3,none⟩ tv'):=(Turn.refl (fun q=>q=w2.heap.size+1) w6).setCell (p:=⟨w2.heap.size+1,3,none⟩) rfl _
 have hz:=t6.size
 have hz2:=tc.size
 have:=h.size
 refine⟨(h.box.turn t6 fun e=>by have:=hv _ e;omega).set 3 tv',(h.dst.turn t6 fun e=>by have:=hv _ e;omega).turn tc (by omega),own_turn hown tc fun q hq e=>by have:=(World.ownsRow.lt hown q hq).1;omega,?_,by omega⟩
 exact tc.toSince (t6.toSince h.old fun q hq e=>by have:=hv _ e;omega) fun q hq e=>by omega
end
theorem phi_thing {base:Nat} {N : Int} {n : Nat} {w3 w5:World} {bV pV dst:Int} {tv:Value} {ts:List Int} (hk:TkSt w3 bV pV dst tv ts w5) (hd:0≤dst∧dst<N) (hb:0≤bV∧bV<n) (htv:tv.oneCell'=true) (hbase:base≤w3.heap.size) (o:Obj):ThIn base N n (w5.alloc o) ⟨bV,pV,[dst],.slice (some ⟨w3.heap.size,0,none⟩) 1 1,tv⟩:=
 ⟨own_box (cs:=[.int .i64 dst]) (hk.dst.keep ((Since.refl _).alloc _)) hbase (by show 1≤maxLen;decide),fun y hy=>(by obtain rfl:=List.mem_singleton.1 hy;exact hd),hb,by show 1≤2;decide,htv⟩
theorem nil_thing {base:Nat} {N : Int} {n : Nat} {w5:World} {bV pV:Int} {tv:Value} (hb:0≤bV∧bV<n) (htv:tv.oneCell'=true) (o:Obj):ThIn base N n (w5.alloc o) ⟨bV,pV,[],.slice none 0 0,tv⟩:=
 ⟨own_nil _ _ _ _,fun y hy=>(by cases hy),hb,by show 0≤2;decide,htv⟩
def ThA (base:Nat) (b t:Int) (l:List Int) (tk v:Value) (w:World):Prop:=∃ ma mc,v=.agg #[.int .i64 b,.int .i64 t,.slice ma l.length mc,tk]∧OwnI base l (.slice ma l.length mc) w
theorem ThA.stable (base:Nat) (b t:Int) (l:List Int) (tk:Value):Stable (ThA base b t l tk):=fun v w w' ⟨ma,mc,h1,h2⟩ s=>⟨ma,mc,h1,own_keep h2 s⟩
def ThB (base:Nat) (b t:Int) (l:List Int) (tk v:Value) (w:World):Prop:=∃ q ma mc,v=.slice (some ⟨q,0,none⟩) 1 1∧HeapIs w q #[.int .i64 b,.int .i64 t,.slice ma l.length mc,tk] 158∧OwnI base l (.slice ma l.length mc) w
theorem ThB.stable (base:Nat) (b t:Int) (l:List Int) (tk:Value):Stable (ThB base b t l tk):=fun v w w' ⟨q,ma,mc,h1,h2,h3⟩ s=>⟨q,ma,mc,h1,h2.keep s,own_keep h3 s⟩
theorem ownI_shape {base:Nat} {l : List Int} {v : Value} {w : World} (h:OwnI base l v w):∃ ma mc,v=.slice ma l.length mc:=own_shape h
structure FnFew (N:Int) (bl:List FBlk):Prop where
 n:bl.length≤512
 phis:∀ b∈bl,b.phis.length≤1000∧∀ p∈b.phis,(0≤p.dst∧p.dst<N)∧p.ins.length≤1000
 ins:∀ b∈bl,b.ins.length≤10000∧∀ x∈b.ins,InsGood N x
def ThingsQ (N:Int) (n:Nat) (w:World) (e:Ending) (w':World):Prop:=∃ v xs,e=.returned v∧OwnRow thcells 4 158 w.heap.size w' v xs∧(∀ x∈xs,ThIn w.heap.size N n w' x)∧Since w w'∧xs.length≤20000*n
set_option maxHeartbeats 1000000 in
set_option maxRecDepth 100000 in
theorem fmakes_own (base:Nat) (x:FIns) (w:World) (hbase:base≤w.heap.size):Calls Tryz.prog 61 #[fiv x] w fun e w'=>∃ v,e=.returned v∧OwnI base (fmakes x) v w'∧Since w w':=by
 obtain⟨op,dst,two,args,av,imm⟩:=x
 unfold fiv fmakes
 dsimp only
 by_cases h1:op=16
 ·subst h1
  rw[if_pos rfl]
  go_enter Tryz.func61,Tryz.ntmps61
  go_wp2
  go_ret
  exact⟨_,rfl,own_nil _ _ _ _,(Since.refl _).alloc _⟩
 ·rw[if_neg h1]
  have h1q:(op==16)=false:=by simpa using h1
  by_cases h2:op=18
  ·subst h2
   rw[if_pos rfl]
   clear h1
   go_enter Tryz.func61,Tryz.ntmps61
   go_wp2
   go_ret
   exact⟨_,rfl,own_box (cs:=[.int .i64 dst,.int .i64 two]) (heap_new1 _ _ _ _) (by omega) (by show 2≤maxLen;decide),((Since.refl _).alloc _).alloc _⟩
  ·rw[if_neg h2]
   have h2q:(op==18)=false:=by simpa using h2
   clear h1 h2
   go_enter Tryz.func61,Tryz.ntmps61
   go_wp2
   go_ret
   exact⟨_,rfl,own_box (cs:=[.int .i64 dst]) (heap_new1 _ _ _ _) (by omega) (by show 1≤maxLen;decide),((Since.refl _).alloc _).alloc _⟩
set_option maxHeartbeats 8000000 in
set_option maxRecDepth 100000 in
theorem things_any (N:Int) (params:Int) (bl:List FBlk) (bv:Value) (w:World) (h:FnIn w ⟨params,bl,bv⟩) (hn:FnFew N bl) :
  Calls Tryz.prog 99 #[.agg #[.int .i64 params,bv]] w (ThingsQ N bl.length w):=by
 have h:RowIn fbcells 6 FBlkIn w bv bl:=h
 obtain⟨ba,bc,hbv,hbm⟩:=RowIn.shape h
 subst hbv
 obtain⟨n,hnn⟩:∃ n,bl.length=n:=⟨_,rfl⟩
 have hn512:n≤512:=by rw[←hnn];exact hn.n
 rw[hnn]at hbm h ⊢
 have H:=Lib.hid h
 have HNN:=Lib.hid hnn
 have HF:=Lib.hid hn
 clear h hnn hn hbm
 have HW:=Lib.hid (ThSt.new N n w #[.int .i64 params,.slice ba n bc])
 go_enter Tryz.func99,Tryz.ntmps99
 go_wp2_with fail
 obtain⟨w1,hw1⟩:∃ x,x=(w.alloc (.cells #[.int .i64 params,.slice ba n bc] 24)).alloc (.cells #[] 158):=⟨_,rfl⟩
 rw[←hw1]at HW ⊢
 clear hw1
 go_loopw [3,4] (fun av i wr=>∃ (b:Nat) (v:Value) (xs:List ThV),b≤n∧av=v∧i=.int .i64 b∧ThSt N n w #[.int .i64 params,.slice ba n bc] v xs wr∧xs.length≤20000*b) (fun _ i _=>n-(intOf i).toNat)
 case atStart=>exact⟨0,_,[],Nat.zero_le _,rfl,rfl,HW.out,Nat.le_refl _⟩
 case round =>
  obtain⟨b,v,xs,hb,rfl,rfl,hst,hlen⟩:=hrel
  obtain⟨xa,xc,hv⟩:=OwnRow.shape hst.own
  obtain⟨xl,hxl⟩:∃ x,xs.length=x:=⟨_,rfl⟩
  rw[hxl]at hv hlen
  subst hv
  have HT:=Lib.hid hst
  have HXL:=Lib.hid hxl
  have c1:wr.cell? ⟨w.heap.size,1,none⟩=some (.slice ba n bc):=hst.box.cell 1
  have hlt0:=hst.box.lt
  clear hst hxl HW
  by_cases hlt:b<n
  ·obtain⟨B,off,x,rfl,hB,hx,hcB,hok⟩:=RowIn.at H.out (by rw[HNN.out];exact hlt)
   have hxm:=List.mem_of_getElem? hx
   obtain⟨hok1,hok2,hok3⟩:=hok
   obtain⟨pa,pc,hpv,hpm⟩:=RowIn.shape hok1
   obtain⟨ia,ic,hiv,him⟩:=RowIn.shape hok2
   obtain⟨pl,hpl⟩:∃ y,x.phis.length=y:=⟨_,rfl⟩
   obtain⟨il,hil⟩:∃ y,x.ins.length=y:=⟨_,rfl⟩
   rw[hpl]at hpv
   rw[hil]at hiv
   have hpl2:pl≤1000:=by rw[←hpl];exact (HF.out.phis x hxm).1
   have hil2:il≤10000:=by rw[←hil];exact (HF.out.ins x hxm).1
   have hcw:=fun t' ht'=>(HT.out.old.cell (p:=⟨B,off+b*6+t',none⟩) hB).trans (hcB t' ht')
   have c0:wr.cell? ⟨B,off+b*6,none⟩=some (.slice pa pl pc):=by rw[←hpv];exact hcw 0 (by decide)
   have c1b:wr.cell? ⟨B,off+b*6+1,none⟩=some (.slice ia il ic):=by rw[←hiv];exact hcw 1 (by decide)
   have c2:wr.cell? ⟨B,off+b*6+2,none⟩=some (.int .i64 x.term.kind):=hcw 2 (by decide)
   obtain⟨ta,tc,hta⟩:=nums_lenI hok3.1
   obtain⟨ta2,tc2,hta2⟩:=nums_lenI hok3.2
   obtain⟨al,hal⟩:∃ y,x.term.args.length=y:=⟨_,rfl⟩
   obtain⟨tl,htl⟩:∃ y,x.term.to.length=y:=⟨_,rfl⟩
   rw[hal]at hta
   rw[htl]at hta2
   have c3:wr.cell? ⟨B,off+b*6+3,none⟩=some (.slice ta al tc):=by rw[←hta];exact hcw 3 (by decide)
   have c4:wr.cell? ⟨B,off+b*6+4,none⟩=some (.slice ta2 tl tc2):=by rw[←hta2];exact hcw 4 (by decide)
   have c5:wr.cell? ⟨B,off+b*6+5,none⟩=some (.int .i32 x.term.imm):=hcw 5 (by decide)
   have hB2:B<wr.heap.size:=Nat.lt_of_lt_of_le hB HT.out.old.size
   have HP:=Lib.hid (show RowIn fpcells 2 FPhiIn w (.slice pa pl pc) x.phis from by rw[←hpv];exact hok1)
   have HI:=Lib.hid (show RowIn ficells 5 FInsIn w (.slice ia il ic) x.ins from by rw[←hiv];exact hok2)
   have HXM:=Lib.hid hxm
   have HPL:=Lib.hid hpl
   have HIL:=Lib.hid hil
   clear hcw hB hx hcB hok1 hok2 hok3 hpv hiv hpl hil hxm hta hta2 hpm him hal htl
   obtain⟨wo,hwo⟩:∃ x,x=wr:=⟨_,rfl⟩
   subst hwo
   go_wp2_with fail
   obtain⟨xb,hxb⟩:∃ y,y=wo.heap.size:=⟨_,rfl⟩
   obtain⟨w2,hw2⟩:∃ y,y=wo.alloc (.cells #[.slice pa pl pc,.slice ia il ic,.int .i64 x.term.kind,.slice ta al tc,.slice ta2 tl tc2,.int .i32 x.term.imm] 57):=⟨_,rfl⟩
   have HX:=Lib.hid (show HeapIs w2 xb #[.slice pa pl pc,.slice ia il ic,.int .i64 x.term.kind,.slice ta al tc,.slice ta2 tl tc2,.int .i32 x.term.imm] 57 from by rw[hw2,hxb];exact HeapIs.new _ _ _)
   have HT2:=Lib.hid (show ThSt N n w #[.int .i64 params,.slice (some ⟨B,off,none⟩) n bc] (.slice xa xl xc) xs w2 from by rw[hw2];exact HT.out.keep ((Since.refl _).alloc _))
   rw[←hxb,←hw2]
   clear hw2 hxb HT c0 c1 c1b c2 c3 c4 c5 hB2 hlt0
   go_loopw [3,6] (fun av i w3=>∃ (t:Nat) (v:Value) (xs:List ThV),t≤pl∧av=v∧i=.int .i64 t∧ThSt N n w #[.int .i64 params,.slice (some ⟨B,off,none⟩) n bc] v xs w3∧HeapIs w3 xb #[.slice pa pl pc,.slice ia il ic,.int .i64 x.term.kind,.slice ta al tc,.slice ta2 tl tc2,.int .i32 x.term.imm] 57∧xs.length≤20000*b+t) (fun _ i _=>pl-(intOf i).toNat)
   case atStart=>exact⟨0,_,xs,Nat.zero_le _,rfl,rfl,HT2.out,HX.out,by rw[HXL.out];omega⟩
   case round =>
    clear HT2 HX HXL hlen
    obtain⟨t,v,xs,ht,rfl,rfl,hst,hx,hlen⟩:=hrel
    obtain⟨w3,hw3⟩:∃ y,y=wr:=⟨_,rfl⟩
    subst hw3
    obtain⟨xa,xc,hv⟩:=OwnRow.shape hst.own
    obtain⟨xl,hxl⟩:∃ x,xs.length=x:=⟨_,rfl⟩
    rw[hxl]at hv hlen
    subst hv
    have HT:=Lib.hid hst
    have HX:=Lib.hid hx
    have HXL:=Lib.hid hxl
    have cx0:w3.cell? ⟨xb,0,none⟩=some (.slice pa pl pc):=hx.cell 0
    have hxlt:=hx.lt
    clear hst hxl hx
    by_cases hlt2:t<pl
    ·obtain⟨PB,poff,p,rfl,hPB,hp,hcP,hpok⟩:=RowIn.at HP.out (by rw[HPL.out];exact hlt2)
     have hpm:=(HF.out.phis x HXM.out).2 p (List.mem_of_getElem? hp)
     obtain⟨na,nc,hnv,_⟩:=RowIn.shape (show PairsIn w p.inv p.ins from hpok)
     obtain⟨nl,hnl⟩:∃ y,p.ins.length=y:=⟨_,rfl⟩
     rw[hnl]at hnv
     have cp0:w3.cell? ⟨PB,poff+t*2,none⟩=some (.int .i64 p.dst):=(HT.out.old.cell (p:=⟨PB,poff+t*2,none⟩) hPB).trans (hcP 0 (by decide))
     have HPB:Hid (PB<w.heap.size∧w.cell? ⟨PB,poff+t*2+1,none⟩=some (.slice na nl nc)):=Lib.hid ⟨hPB,by rw[←hnv];exact hcP 1 (by decide)⟩
     have HPI:Hid (PairsIn w (.slice na nl nc) p.ins):=Lib.hid (by rw[←hnv];exact hpok)
     have hPB3:PB<w3.heap.size:=Nat.lt_of_lt_of_le hPB HT.out.old.size
     have hnl2:nl≤1000:=by rw[←hnl];exact hpm.2
     have HDST:=Lib.hid hpm.1
     have HNL:=Lib.hid hnl
     clear hPB hp hcP hpok hpm hnl hnv
     go_wp2_with fail
     obtain⟨w4,hw4⟩:∃ y,y=(w3.alloc (.cells #[.int .i64 p.dst] 3)).alloc (.cells #[.int .i64 b,.int .i64 (-1-(t:Int)),.slice (some ⟨w3.heap.size,0,none⟩) 1 1,.slice none 0 0] 158):=⟨_,rfl⟩
     have HK:=Lib.hid (show TkSt w3 b (-1-(t:Int)) p.dst (.slice none 0 0) [] w4 from by rw[hw4];exact TkSt.new _ _ _ _)
     rw[←hw4]
     clear hw4 cp0 hPB3 cx0 hxlt
     go_loopw [8] (fun i w5=>∃ (k:Nat) (tv:Value) (ts:List Int),k≤nl∧i=.int .i64 k∧TkSt w3 b (-1-(t:Int)) p.dst tv ts w5∧ts.length=k) (fun i _=>nl-(intOf i).toNat)
     case atStart=>exact⟨0,_,[],Nat.zero_le _,rfl,HK.out,rfl⟩
     case round =>
      clear HK
      obtain⟨k,tv,ts,hk,rfl,hst,hlk⟩:=hrel
      obtain⟨w5,hw5⟩:∃ y,y=wr:=⟨_,rfl⟩
      subst hw5
      obtain⟨sa,sc,hv⟩:=own_shape hst.own
      rw[hlk]at hv
      subst hv
      have HK:=Lib.hid hst
      have HSL:=Lib.hid hlk
      have HX5:=Lib.hid (HX.out.keep hst.old)
      have cx0:w5.cell? ⟨xb,0,none⟩=some (.slice (some ⟨PB,poff,none⟩) pl pc):=HX5.out.cell 0
      have hxl:=HX5.out.lt
      have HS5:=Lib.hid (HT.out.old.trans hst.old)
      have cp1:w5.cell? ⟨PB,poff+t*2+1,none⟩=some (.slice na nl nc):=(HS5.out.cell (p:=⟨PB,poff+t*2+1,none⟩) HPB.out.1).trans HPB.out.2
      have hPB5:PB<w5.heap.size:=Nat.lt_of_lt_of_le HPB.out.1 HS5.out.size
      have cb3:=hst.box.cell 3
      have hbl:=hst.box.lt
      clear hst hlk
      by_cases hlt3:k<nl
      ·obtain⟨NB,noff,pr,rfl,hNB,hpr,hcN,_⟩:=RowIn.at HPI.out (by rw[HNL.out];exact hlt3)
       obtain⟨py,y⟩:=pr
       have KW:Hid (w5.cell? ⟨w3.heap.size+1,3,none⟩=some (.slice sa k sc)∧w5.cell? ⟨xb,0,none⟩=some (.slice (some ⟨PB,poff,none⟩) pl pc)∧w5.cell? ⟨PB,poff+t*2+1,none⟩=some (.slice (some ⟨NB,noff,none⟩) nl nc)∧w5.cell? ⟨NB,noff+k*2+1,none⟩=some (.int .i64 y)∧xb<w5.heap.size∧PB<w5.heap.size∧NB<w5.heap.size∧w3.heap.size+1<w5.heap.size∧True):=Lib.hid ⟨cb3,cx0,cp1,(HS5.out.cell (p:=⟨NB,noff+k*2+1,none⟩) hNB).trans (hcN 1 (by decide)),hxl,hPB5,Nat.lt_of_lt_of_le hNB HS5.out.size,hbl,trivial⟩
       clear hNB hpr hcN
       go_wp2_with fail
       refine wp_region_since_tail 13 rfl (by decide +kernel) (by decide +kernel) (by decide +kernel) (by decide)
        [Is (.pointer (some ⟨w3.heap.size+1,3,none⟩)),Is (.slice sa k sc),Is (.pointer (some ⟨xb,0,none⟩)),Is (.slice (some ⟨PB,poff,none⟩) pl pc),Is (.int .i64 t),Is (.pointer (some ⟨PB,poff+t*2,none⟩)),Is (.pointer (some ⟨PB,poff+t*2+1,none⟩)),Is (.slice (some ⟨NB,noff,none⟩) nl nc),Is (.int .i64 k),Is (.pointer (some ⟨NB,noff+k*2,none⟩)),Is (.pointer (some ⟨NB,noff+k*2+1,none⟩)),Is (.int .i64 y),IsNums .i64 [y]]
        (by repeat (first | exact trivial | refine⟨Is.stable _,?_⟩ | refine⟨Any.stable,?_⟩ | refine⟨IsNums.stable _ _,?_⟩)) ⟨?_,?_,?_,?_,?_,?_,?_,?_,?_,?_,?_,?_,?_,trivial⟩ ?_
       rotate_right
       ·intro vs w6 hs hk
        have k1:w6.cell? ⟨w3.heap.size+1,3,none⟩=some (.slice sa k sc):=(hs.cell KW.out.2.2.2.2.2.2.2.1).trans KW.out.1
        have k2:w6.cell? ⟨xb,0,none⟩=some (.slice (some ⟨PB,poff,none⟩) pl pc):=(hs.cell KW.out.2.2.2.2.1).trans KW.out.2.1
        have k3:w6.cell? ⟨PB,poff+t*2+1,none⟩=some (.slice (some ⟨NB,noff,none⟩) nl nc):=(hs.cell KW.out.2.2.2.2.2.1).trans KW.out.2.2.1
        have k4:w6.cell? ⟨NB,noff+k*2+1,none⟩=some (.int .i64 y):=(hs.cell KW.out.2.2.2.2.2.2.1).trans KW.out.2.2.2.1
        have l1:xb<w6.heap.size:=Nat.lt_of_lt_of_le KW.out.2.2.2.2.1 hs.size
        have l2:PB<w6.heap.size:=Nat.lt_of_lt_of_le KW.out.2.2.2.2.2.1 hs.size
        have l3:NB<w6.heap.size:=Nat.lt_of_lt_of_le KW.out.2.2.2.2.2.2.1 hs.size
        have l4:w3.heap.size+1<w6.heap.size:=Nat.lt_of_lt_of_le KW.out.2.2.2.2.2.2.2.1 hs.size
        simp only[List.take,List.drop,putAll,Act.put,KnowsAll,nthF,Is,List.setIfInBounds_toArray,List.set_cons_zero,List.set_cons_succ,Nat.reduceAdd]at hk ⊢
        try simp only[hk]
        obtain⟨nv,hnv⟩:∃ z,vs 12=z:=⟨_,rfl⟩
        have hnn:Nums .i64 w6 nv [y]:=by rw[←hnv];exact hk.2.2.2.2.2.2.2.2.2.2.2.2.1
        rw[hnv]
        have HK6:=Lib.hid (HK.out.keep hs)
        have HNV:=Lib.hid hnn
        have hfz:=(HK.out.keep hs).box.frozen
        clear hk hs hnn hnv k2 k3 k4 l1 l2 l3
        go_wp2_with (refine wpList_append_nums2 (base:=w3.heap.size+2) .i64 rfl _ _ 32 rfl 3 (.int .i64 0) 8 Tryz.underlying32 Tryz.info3 rfl (by decide) (.slice sa k sc) nv ts [y] rfl rfl (by have h9:=HK6.out.own;rw[HSL.out]at h9 ⊢;exact h9) HNV.out (by rw[HSL.out];simp;omega) (by have:=HK6.out.size;omega) ?_;intro v7 w7 hown7 ht7 hnew7;obtain⟨a7,c7,hv7⟩:=own_shape hown7;rw[show (ts++[y]).length=k+1 from by rw[List.length_append,HSL.out];rfl]at hv7;subst hv7;have hbx7:=HK6.out.box.turn ht7 (fun e=>by have:=(World.ownsRow.lt HK6.out.own _ e).1;omega);have hfz7:=hbx7.frozen;have hl7:=hbx7.lt;have k7:=hbx7.cell 3;have HN7:=Lib.hid (HK6.out.add hown7 ht7);clear hown7 ht7 hnew7 hbx7 hfz k1 l4)
        go_roundw
        case rel=>exact⟨k+1,_,ts++[y],by omega,by go_num,HN7.out,by rw[List.length_append,HSL.out];rfl⟩
        case measure=>simp[intOf];omega
       all_goals
        intro vs w6 hs hk _
        have k1:w6.cell? ⟨w3.heap.size+1,3,none⟩=some (.slice sa k sc):=(hs.cell KW.out.2.2.2.2.2.2.2.1).trans KW.out.1
        have k2:w6.cell? ⟨xb,0,none⟩=some (.slice (some ⟨PB,poff,none⟩) pl pc):=(hs.cell KW.out.2.2.2.2.1).trans KW.out.2.1
        have k3:w6.cell? ⟨PB,poff+t*2+1,none⟩=some (.slice (some ⟨NB,noff,none⟩) nl nc):=(hs.cell KW.out.2.2.2.2.2.1).trans KW.out.2.2.1
        have k4:w6.cell? ⟨NB,noff+k*2+1,none⟩=some (.int .i64 y):=(hs.cell KW.out.2.2.2.2.2.2.1).trans KW.out.2.2.2.1
        have l1:xb<w6.heap.size:=Nat.lt_of_lt_of_le KW.out.2.2.2.2.1 hs.size
        have l2:PB<w6.heap.size:=Nat.lt_of_lt_of_le KW.out.2.2.2.2.2.1 hs.size
        have l3:NB<w6.heap.size:=Nat.lt_of_lt_of_le KW.out.2.2.2.2.2.2.1 hs.size
        have l4:w3.heap.size+1<w6.heap.size:=Nat.lt_of_lt_of_le KW.out.2.2.2.2.2.2.2.1 hs.size
        simp only[List.take,putAll,Act.put,Knows,nthF,Is,List.setIfInBounds_toArray,List.set_cons_zero,List.set_cons_succ,Nat.reduceAdd]at hk ⊢
        try simp only[hk]
       ·go_wp2
        exact⟨_,rfl,rfl,Since.refl _⟩
       ·go_wp2
        exact⟨_,rfl,rfl,Since.refl _⟩
       ·go_wp2
        exact⟨_,rfl,rfl,Since.refl _⟩
       ·go_wp2
        exact⟨_,rfl,rfl,Since.refl _⟩
       ·go_wp2
        exact⟨_,rfl,rfl,Since.refl _⟩
       ·go_wp2
        exact⟨_,rfl,rfl,Since.refl _⟩
       ·go_wp2
        exact⟨_,rfl,rfl,Since.refl _⟩
       ·go_wp2
        exact⟨_,rfl,rfl,Since.refl _⟩
       ·go_wp2
        exact⟨_,rfl,rfl,Since.refl _⟩
       ·go_wp2
        exact⟨_,rfl,rfl,Since.refl _⟩
       ·go_wp2
        exact⟨_,rfl,rfl,Since.refl _⟩
       ·go_wp2
        exact⟨_,rfl,rfl,Since.refl _⟩
       ·go_wp2
        exact⟨_,rfl,one_nums _ _ _,(Since.refl _).alloc _⟩
      ·obtain rfl:nl=k:=by omega
       have HB5:=Lib.hid HK.out.box
       have HT5:=Lib.hid (HT.out.keep HK.out.old)
       go_wp2_with (first | (refine wpList_load_row rfl _ _ rfl (w3.heap.size+1) rfl 158 _ (0,0) _ HB5.out Tryz.underlying158 rfl (by kernel_rfl) ?_) | (refine wpList_append_one2 (base:=w.heap.size+1) thcells 4 thcells_len (by decide) rfl _ _ 155 rfl 158 (.agg #[.int .i64 0,.int .i64 0,.slice none 0 0,.slice none 0 0]) 64 Tryz.underlying155 (by kernel_rfl) rfl (.slice xa xl xc) xs ⟨b,-1-(t:Int),[p.dst],.slice (some ⟨w3.heap.size,0,none⟩) 1 1,.slice sa nl sc⟩ _ _ _ rfl rfl (by have h9:=OwnRow.keep HT5.out.own ((Since.refl w5).alloc (.cells #[.int .i64 b,.int .i64 (-1-(t:Int)),.slice (some ⟨w3.heap.size,0,none⟩) 1 1,.slice sa nl sc] 158));exact h9) (HeapIs.new _ _ _) (by intro u hu;simp only[thcells,List.mem_cons,List.not_mem_nil,or_false]at hu;rcases hu with rfl | rfl | rfl | rfl<;>rfl) (by rw[HXL.out];unfold maxLen;omega) (by rw[HXL.out];omega) (by have:=HT5.out.size;simp;omega) ?_;intro v8 w8 hown8 ht8 hnew8;obtain⟨a8,c8,hv8⟩:=OwnRow.shape hown8;rw[List.length_append,HXL.out]at hv8;have hv8:v8=.slice a8 (xl+1) c8:=hv8;subst hv8;have HN8:=Lib.hid ((HT5.out.keep ((Since.refl _).alloc _)).add (phi_thing HK.out HDST.out ⟨by omega,by omega⟩ rfl HT.out.old.size _) hown8 ht8);have HX8:=Lib.hid (((HX.out.keep HK.out.old).keep ((Since.refl _).alloc _)).turn ht8 (own_not (show w5.ownsRow _ _ _ _ _ _ from HT5.out.own) (HX.out.keep HK.out.old) (by decide)));clear hown8 ht8 hnew8))
       go_roundw
       case rel=>exact⟨t+1,_,xs++[_],by omega,rfl,by go_num,HN8.out,HX8.out,by rw[List.length_append,HXL.out];show xl+1≤_;omega⟩
       case measure=>simp[intOf];omega
    ·obtain rfl:pl=t:=by omega
     clear hlt2
     go_wp2_with fail
     go_loopw [3,9] (fun av i wr=>∃ (t:Nat) (v:Value) (xs:List ThV),t≤il∧av=v∧i=.int .i64 t∧ThSt N n w #[.int .i64 params,.slice (some ⟨B,off,none⟩) n bc] v xs wr∧HeapIs wr xb #[.slice pa pl pc,.slice ia il ic,.int .i64 x.term.kind,.slice ta al tc,.slice ta2 tl tc2,.int .i32 x.term.imm] 57∧xs.length≤20000*b+1000+t) (fun _ i _=>il-(intOf i).toNat)
     case atStart=>exact⟨0,_,xs,Nat.zero_le _,rfl,rfl,HT.out,HX.out,by rw[HXL.out];omega⟩
     case round =>
      clear HT HX HXL hlen ht cx0 hxlt
      obtain⟨t,v,xs,ht,rfl,rfl,hst,hx,hlen⟩:=hrel
      obtain⟨w3,hw3⟩:∃ y,y=wr:=⟨_,rfl⟩
      subst hw3
      obtain⟨xa,xc,hv⟩:=OwnRow.shape hst.own
      obtain⟨xl,hxl⟩:∃ x,xs.length=x:=⟨_,rfl⟩
      rw[hxl]at hv hlen
      subst hv
      have HT:=Lib.hid hst
      have HX:=Lib.hid hx
      have HXL:=Lib.hid hxl
      have cx1:w3.cell? ⟨xb,1,none⟩=some (.slice ia il ic):=hx.cell 1
      have hxlt:=hx.lt
      clear hst hxl hx
      by_cases hlt3:t<il
      ·obtain⟨IB,ioff,y,rfl,hIB,hy,hcI,hyok⟩:=RowIn.at HI.out (by rw[HIL.out];exact hlt3)
       have hym:=(HF.out.ins x HXM.out).2 y (List.mem_of_getElem? hy)
       obtain⟨yop,ydst,ytwo,yargs,yav,yimm⟩:=y
       obtain⟨ya,yc,hyv⟩:=nums_lenI (show Ints w yav yargs from hyok)
       obtain⟨yl,hyl⟩:∃ z,yargs.length=z:=⟨_,rfl⟩
       rw[hyl]at hyv
       subst hyv
       have HMK:=Lib.hid (fmakes_in hym)
       have hci:=fun t' ht'=>(HT.out.old.cell (p:=⟨IB,ioff+t*5+t',none⟩) hIB).trans (hcI t' ht')
       have KW:Hid (w3.cell? ⟨xb,1,none⟩=some (.slice (some ⟨IB,ioff,none⟩) il ic)∧w3.cell? ⟨IB,ioff+t*5,none⟩=some (.int .i64 yop)∧w3.cell? ⟨IB,ioff+t*5+1,none⟩=some (.int .i64 ydst)∧w3.cell? ⟨IB,ioff+t*5+2,none⟩=some (.int .i64 ytwo)∧w3.cell? ⟨IB,ioff+t*5+3,none⟩=some (.slice ya yl yc)∧w3.cell? ⟨IB,ioff+t*5+4,none⟩=some (.int .i32 yimm)∧xb<w3.heap.size∧IB<w3.heap.size):=Lib.hid ⟨cx1,hci 0 (by decide),hci 1 (by decide),hci 2 (by decide),hci 3 (by decide),hci 4 (by decide),hxlt,Nat.lt_of_lt_of_le hIB HT.out.old.size⟩
       clear hIB hy hcI hci hyok hym hyl
       go_wp2_with fail
       refine wp_region_since_tail 17 rfl (by decide +kernel) (by decide +kernel) (by decide +kernel) (by decide)
        [Is (.slice xa xl xc),Is (.int .i64 b),Is (.int .i64 t),Is (.pointer (some ⟨xb,1,none⟩)),Is (.slice (some ⟨IB,ioff,none⟩) il ic),Is (.int .i64 t),Is (.pointer (some ⟨IB,ioff+t*5,none⟩)),Is (.agg #[.int .i64 yop,.int .i64 ydst,.int .i64 ytwo,.slice ya yl yc,.int .i32 yimm]),OwnI w.heap.size (fmakes ⟨yop,ydst,ytwo,yargs,.slice ya yl yc,yimm⟩),Is (.pointer (some ⟨xb,1,none⟩)),Is (.slice (some ⟨IB,ioff,none⟩) il ic),Is (.int .i64 t),Is (.pointer (some ⟨IB,ioff+t*5,none⟩)),Is (.pointer (some ⟨IB,ioff+t*5+3,none⟩)),Is (.slice ya yl yc),ThA w.heap.size b t (fmakes ⟨yop,ydst,ytwo,yargs,.slice ya yl yc,yimm⟩) (.slice ya yl yc),ThB w.heap.size b t (fmakes ⟨yop,ydst,ytwo,yargs,.slice ya yl yc,yimm⟩) (.slice ya yl yc)]
        (by repeat (first | exact trivial | refine⟨Is.stable _,?_⟩ | refine⟨OwnI.stable _ _,?_⟩ | refine⟨ThA.stable _ _ _ _ _,?_⟩ | refine⟨ThB.stable _ _ _ _ _,?_⟩)) ⟨?_,?_,?_,?_,?_,?_,?_,?_,?_,?_,?_,?_,?_,?_,?_,?_,?_,trivial⟩ ?_
       rotate_right
       ·intro vs w20 hs hk
        have k1:w20.cell? ⟨xb,1,none⟩=some (.slice (some ⟨IB,ioff,none⟩) il ic):=(hs.cell KW.out.2.2.2.2.2.2.1).trans KW.out.1
        have i0:w20.cell? ⟨IB,ioff+t*5,none⟩=some (.int .i64 yop):=(hs.cell KW.out.2.2.2.2.2.2.2).trans KW.out.2.1
        have i1:w20.cell? ⟨IB,ioff+t*5+1,none⟩=some (.int .i64 ydst):=(hs.cell KW.out.2.2.2.2.2.2.2).trans KW.out.2.2.1
        have i2:w20.cell? ⟨IB,ioff+t*5+2,none⟩=some (.int .i64 ytwo):=(hs.cell KW.out.2.2.2.2.2.2.2).trans KW.out.2.2.2.1
        have i3:w20.cell? ⟨IB,ioff+t*5+3,none⟩=some (.slice ya yl yc):=(hs.cell KW.out.2.2.2.2.2.2.2).trans KW.out.2.2.2.2.1
        have i4:w20.cell? ⟨IB,ioff+t*5+4,none⟩=some (.int .i32 yimm):=(hs.cell KW.out.2.2.2.2.2.2.2).trans KW.out.2.2.2.2.2.1
        have l1:xb<w20.heap.size:=Nat.lt_of_lt_of_le KW.out.2.2.2.2.2.2.1 hs.size
        have l2:IB<w20.heap.size:=Nat.lt_of_lt_of_le KW.out.2.2.2.2.2.2.2 hs.size
        simp only[List.take,List.drop,putAll,Act.put,KnowsAll,nthF,Is,List.setIfInBounds_toArray,List.set_cons_zero,List.set_cons_succ,Nat.reduceAdd]at hk ⊢
        try simp only[hk]
        obtain⟨q9,ma,mc,hq1,hq2,hq3⟩:ThB w.heap.size b t (fmakes ⟨yop,ydst,ytwo,yargs,.slice ya yl yc,yimm⟩) (.slice ya yl yc) (vs 16) w20:=hk.2.2.2.2.2.2.2.2.2.2.2.2.2.2.2.2.1
        simp only[hq1]
        have HQ:=Lib.hid (And.intro hq2 hq3)
        have HT20:=Lib.hid (HT.out.keep hs)
        have HX20:=Lib.hid (HX.out.keep hs)
        have HTH:=Lib.hid (show ThIn w.heap.size N n w20 ⟨b,t,(fmakes ⟨yop,ydst,ytwo,yargs,.slice ya yl yc,yimm⟩),.slice ma (fmakes ⟨yop,ydst,ytwo,yargs,.slice ya yl yc,yimm⟩).length mc,.slice ya yl yc⟩ from⟨hq3,HMK.out,⟨by show (0:Int)≤b;omega,by show (b:Int)<n;omega⟩,fmakes_len _,rfl⟩)
        clear hk hs hq1 hq2 hq3 k1 i0 i1 i2 i3 i4 l1 l2
        go_wp2_with (refine wpList_append_one2 (base:=w.heap.size+1) thcells 4 thcells_len (by decide) rfl _ _ 155 rfl 158 (.agg #[.int .i64 0,.int .i64 0,.slice none 0 0,.slice none 0 0]) 64 Tryz.underlying155 (by kernel_rfl) rfl (.slice xa xl xc) xs ⟨b,t,(fmakes ⟨yop,ydst,ytwo,yargs,.slice ya yl yc,yimm⟩),.slice ma (fmakes ⟨yop,ydst,ytwo,yargs,.slice ya yl yc,yimm⟩).length mc,.slice ya yl yc⟩ _ _ _ rfl rfl (HT20.out.own) (HQ.out.1) (by intro u hu;simp only[thcells,List.mem_cons,List.not_mem_nil,or_false]at hu;rcases hu with rfl | rfl | rfl | rfl<;>rfl) (by rw[HXL.out];unfold maxLen;omega) (by rw[HXL.out];omega) (HT20.out.size) ?_;intro v8 w8 hown8 ht8 hnew8;obtain⟨a8,c8,hv8⟩:=OwnRow.shape hown8;rw[List.length_append,HXL.out]at hv8;have hv8:v8=.slice a8 (xl+1) c8:=hv8;subst hv8;have HN8:=Lib.hid (HT20.out.add (HTH.out) hown8 ht8);have HX8:=Lib.hid ((HX20.out).turn ht8 (own_not (show World.ownsRow _ _ _ _ _ _ _ from HT20.out.own) (HX20.out) (by decide)));clear hown8 ht8 hnew8)
        go_roundw
        case rel=>exact⟨t+1,_,xs++[_],by omega,rfl,by go_num,HN8.out,HX8.out,by rw[List.length_append,HXL.out];show xl+1≤_;omega⟩
        case measure=>simp[intOf];omega
       all_goals
        intro vs w20 hs hk _
        have k1:w20.cell? ⟨xb,1,none⟩=some (.slice (some ⟨IB,ioff,none⟩) il ic):=(hs.cell KW.out.2.2.2.2.2.2.1).trans KW.out.1
        have i0:w20.cell? ⟨IB,ioff+t*5,none⟩=some (.int .i64 yop):=(hs.cell KW.out.2.2.2.2.2.2.2).trans KW.out.2.1
        have i1:w20.cell? ⟨IB,ioff+t*5+1,none⟩=some (.int .i64 ydst):=(hs.cell KW.out.2.2.2.2.2.2.2).trans KW.out.2.2.1
        have i2:w20.cell? ⟨IB,ioff+t*5+2,none⟩=some (.int .i64 ytwo):=(hs.cell KW.out.2.2.2.2.2.2.2).trans KW.out.2.2.2.1
        have i3:w20.cell? ⟨IB,ioff+t*5+3,none⟩=some (.slice ya yl yc):=(hs.cell KW.out.2.2.2.2.2.2.2).trans KW.out.2.2.2.2.1
        have i4:w20.cell? ⟨IB,ioff+t*5+4,none⟩=some (.int .i32 yimm):=(hs.cell KW.out.2.2.2.2.2.2.2).trans KW.out.2.2.2.2.2.1
        have l1:xb<w20.heap.size:=Nat.lt_of_lt_of_le KW.out.2.2.2.2.2.2.1 hs.size
        have l2:IB<w20.heap.size:=Nat.lt_of_lt_of_le KW.out.2.2.2.2.2.2.2 hs.size
        simp only[List.take,putAll,Act.put,Knows,nthF,Is,List.setIfInBounds_toArray,List.set_cons_zero,List.set_cons_succ,Nat.reduceAdd]at hk ⊢
        try simp only[hk]
       ·go_wp2
        exact⟨_,rfl,rfl,Since.refl _⟩
       ·go_wp2
        exact⟨_,rfl,rfl,Since.refl _⟩
       ·go_wp2
        exact⟨_,rfl,rfl,Since.refl _⟩
       ·go_wp2
        exact⟨_,rfl,rfl,Since.refl _⟩
       ·go_wp2
        exact⟨_,rfl,rfl,Since.refl _⟩
       ·go_wp2
        exact⟨_,rfl,rfl,Since.refl _⟩
       ·go_wp2
        exact⟨_,rfl,rfl,Since.refl _⟩
       ·go_wp2
        exact⟨_,rfl,rfl,Since.refl _⟩
       ·have HS20:=Lib.hid hs
        go_wp2_with fail
        refine (fmakes_own w.heap.size ⟨yop,ydst,ytwo,yargs,.slice ya yl yc,yimm⟩ _ (Nat.le_trans HT.out.old.size HS20.out.size)).mono ?_
        rintro e w21 ⟨mv,rfl,hm,hs2⟩
        have HM:=Lib.hid hm
        have HS2:=Lib.hid hs2
        clear hm hs2 hk hs k1 i0 i1 i2 i3 i4 l1 l2
        go_wp2
        exact⟨_,rfl,HM.out,HS2.out⟩
       ·go_wp2
        exact⟨_,rfl,rfl,Since.refl _⟩
       ·go_wp2
        exact⟨_,rfl,rfl,Since.refl _⟩
       ·go_wp2
        exact⟨_,rfl,rfl,Since.refl _⟩
       ·go_wp2
        exact⟨_,rfl,rfl,Since.refl _⟩
       ·go_wp2
        exact⟨_,rfl,rfl,Since.refl _⟩
       ·go_wp2
        exact⟨_,rfl,rfl,Since.refl _⟩
       ·have hm:OwnI w.heap.size (fmakes ⟨yop,ydst,ytwo,yargs,.slice ya yl yc,yimm⟩) (vs 8) w20:=hk.2.2.1
        obtain⟨ma,mc,hmv⟩:=ownI_shape hm
        have HM:=Lib.hid (show OwnI w.heap.size (fmakes ⟨yop,ydst,ytwo,yargs,.slice ya yl yc,yimm⟩) (.slice ma (fmakes ⟨yop,ydst,ytwo,yargs,.slice ya yl yc,yimm⟩).length mc) w20 from by rw[←hmv];exact hm)
        simp only[hmv]
        clear hk hm hmv
        go_wp2
        exact⟨_,rfl,⟨_,_,rfl,HM.out⟩,Since.refl _⟩
       ·obtain⟨ma,mc,hv,hm⟩:ThA w.heap.size b t (fmakes ⟨yop,ydst,ytwo,yargs,.slice ya yl yc,yimm⟩) (.slice ya yl yc) (vs 15) w20:=hk.1
        simp only[hv]
        have HM:=Lib.hid hm
        clear hk hm hv
        go_wp2
        exact⟨_,rfl,⟨_,_,_,rfl,HeapIs.new _ _ _,own_keep HM.out ((Since.refl _).alloc _)⟩,(Since.refl _).alloc _⟩
      ·obtain rfl:il=t:=by omega
       have cx3:w3.cell? ⟨xb,3,none⟩=some (.slice ta al tc):=HX.out.cell 3
       clear hlt3
       go_wp2_with (refine wpList_append_one2 (base:=w.heap.size+1) thcells 4 thcells_len (by decide) rfl _ _ 155 rfl 158 (.agg #[.int .i64 0,.int .i64 0,.slice none 0 0,.slice none 0 0]) 64 Tryz.underlying155 (by kernel_rfl) rfl (.slice xa xl xc) xs ⟨b,il,[],.slice none 0 0,.slice ta al tc⟩ _ _ _ rfl rfl (by have h9:=OwnRow.keep HT.out.own ((Since.refl w3).alloc (.cells #[.int .i64 b,.int .i64 il,.slice none 0 0,.slice ta al tc] 158));exact h9) (HeapIs.new _ _ _) (by intro u hu;simp only[thcells,List.mem_cons,List.not_mem_nil,or_false]at hu;rcases hu with rfl | rfl | rfl | rfl<;>rfl) (by rw[HXL.out];unfold maxLen;omega) (by rw[HXL.out];omega) (by have:=HT.out.size;simp;omega) ?_;intro v8 w8 hown8 ht8 hnew8;obtain⟨a8,c8,hv8⟩:=OwnRow.shape hown8;rw[List.length_append,HXL.out]at hv8;have hv8:v8=.slice a8 (xl+1) c8:=hv8;subst hv8;have HN8:=Lib.hid ((HT.out.keep ((Since.refl _).alloc _)).add (nil_thing ⟨by omega,by omega⟩ rfl _) hown8 ht8);have HX8:=Lib.hid ((HX.out.keep ((Since.refl _).alloc _)).turn ht8 (own_not (show World.ownsRow _ _ _ _ _ _ _ from HT.out.own) (HX.out) (by decide)));clear hown8 ht8 hnew8)
       go_roundw
       case rel=>exact⟨b+1,_,xs++[_],by omega,rfl,by go_num,HN8.out,by rw[List.length_append,HXL.out];show xl+1≤_;omega⟩
       case measure=>simp[intOf];omega
  ·obtain rfl:n=b:=by omega
   go_wp2
   go_ret
   exact⟨_,xs,rfl,own_down HT.out.own (Nat.le_succ _),HT.out.each,HT.out.old,by rw[HXL.out];omega⟩
theorem FnIn.tos {w : World} {params:Int} {bl:List FBlk} {bv:Value} (h:FnIn w ⟨params,bl,bv⟩):TosIn w bv bl:=RowIn.imp (show RowIn fbcells 6 FBlkIn w bv bl from h) fun b h=>h.2.2.2
structure StSt (w wT:World) (base:Nat) (cs:Array Value) (v:Value) (xs:List Int) (wr:World):Prop where
 box:HeapIs wr w.heap.size cs 24
 own:wr.ownsRow (w.heap.size+1) 3 1 v xs.length (xs.map (Value.int .i64))
 old:Since w wr
 low:Turn (fun q=>q<base) wT wr
 at_:∀ q,v.ownBlock=some q→q<base∨wT.heap.size≤q
 size:w.heap.size+1≤wr.heap.size
section
variable {w wT wr w2 w6:World} {base:Nat} {cs:Array Value} {v v':Value} {xs ys:List Int}
theorem StSt.keep (h:StSt w wT base cs v xs wr) (s:Since wr w2):StSt w wT base cs v xs w2:=
 ⟨h.box.keep s,own_keep h.own s,h.old.trans s,h.low.trans (Turn.since s),h.at_,Nat.le_trans h.size s.size⟩
theorem StSt.add (h:StSt w wT base cs v xs wr) (hown:w6.ownsRow (w.heap.size+1) 3 1 v' (xs++ys).length ((xs++ys).map (Value.int .i64))) (t6:Turn (fun q=>v.ownBlock=some q) wr w6) (hnew:NewOr wr v v'):StSt w wT base cs v' (xs++ys) w6:=by
 have hv:∀ q,v.ownBlock=some q→w.heap.size+1≤q:=fun q hq=>(World.ownsRow.lt h.own q hq).1
 have hz:=t6.size
 have hz2:=h.low.size
 refine⟨h.box.turn t6 fun e=>by have:=hv _ e;omega,hown,t6.toSince h.old fun q hq e=>by have:=hv _ e;omega,?_,fun q hq=>?_,by have:=h.size;omega⟩
 ·have h1:Turn (fun q=>q<base∨wT.heap.size≤q) wT wr:=h.low.mono fun _ _ e=>.inl e
  have h2:Turn (fun q=>q<base∨wT.heap.size≤q) wr w6:=t6.mono fun q _ e=>h.at_ q e
  refine (h1.trans h2).mono fun q hq hs=>?_
  rcases hs with hs|hs
  ·exact hs
  ·omega
 ·rcases hnew q hq with h1|h1
  ·exact h.at_ q h1
  ·exact .inr (by omega)
end
def ReachP (n:Nat) (v:Value) (w:World):Prop:=∃ ob out,v=.slice (some ⟨ob,0,none⟩) n n∧HeapIs w ob ((out:List Bool).map Value.bool).toArray 4∧out.length=n
theorem ReachP.stable (n:Nat):Stable (ReachP n):=fun v w w' ⟨ob,out,h1,h2,h3⟩ s=>⟨ob,out,h1,h2.keep s,h3⟩
set_option maxHeartbeats 8000000 in
set_option maxRecDepth 100000 in
theorem standing_any (N:Int) (params:Int) (bl:List FBlk) (bv:Value) (w:World) (h:FnIn w ⟨params,bl,bv⟩) (hn:FnFew N bl) (h9:1≤bl.length∧bl.length≤9) (hp:0≤params∧params≤8∧params≤N) (block:Int) (hb:0≤block∧block<bl.length) :
  Calls Tryz.prog 64 #[.agg #[.int .i64 params,bv],.int .i64 block] w (OwnQ w fun l=>l.length≤500000∧∀ y∈l,0≤y∧y<N):=by
 obtain⟨ba,bc,hbv,hbm⟩:=RowIn.shape (show RowIn fbcells 6 FBlkIn w bv bl from h)
 subst hbv
 obtain⟨n,hnn⟩:∃ n,bl.length=n:=⟨_,rfl⟩
 rw[hnn]at hbm h hb h9 ⊢
 obtain⟨bk,rfl⟩:∃ bk:Nat,block=bk:=⟨block.toNat,by omega⟩
 have hbk:bk<n:=by omega
 obtain⟨hp0,hp8,hpN⟩:=hp
 obtain⟨h1n,h9n⟩:=h9
 have H:=Lib.hid h
 have HNN:=Lib.hid hnn
 have HF:=Lib.hid hn
 clear h hnn hn hbm hb
 have HW:=Lib.hid (BoxRow.new w #[.int .i64 params,.slice ba n bc] 24)
 go_enter Tryz.func64,Tryz.ntmps64
 go_wp2_with fail
 obtain⟨w1,hw1⟩:∃ x,x=(w.alloc (.cells #[.int .i64 params,.slice ba n bc] 24)).alloc (.cells #[] 3):=⟨_,rfl⟩
 rw[←hw1]at HW ⊢
 clear hw1
 go_loopw [5,6] (fun av i wr=>∃ (k:Nat) (v:Value) (xs:List Int),(k:Int)≤params∧av=v∧i=.int .i64 k∧BoxRow w #[.int .i64 params,.slice ba n bc] 24 v xs wr∧xs.length≤k∧∀ p∈xs,0≤p∧p<N) (fun _ i _=>params.toNat-(intOf i).toNat)
 case atStart=>exact⟨0,_,[],by omega,rfl,rfl,HW.out,Nat.le_refl _,fun p hp=>(by cases hp)⟩
 case round =>
  obtain⟨i,v,xs,hi,rfl,rfl,hst,hlen,hin⟩:=hrel
  obtain⟨xa,xc,hv⟩:=own_shape hst.own
  obtain⟨xl,hxl⟩:∃ x,xs.length=x:=⟨_,rfl⟩
  rw[hxl]at hv hlen
  subst hv
  have HT:=Lib.hid hst
  have HXL:=Lib.hid hxl
  have HIN:=Lib.hid hin
  have c0:wr.cell? ⟨w.heap.size,0,none⟩=some (.int .i64 params):=hst.box.cell 0
  have c1:wr.cell? ⟨w.heap.size,1,none⟩=some (.slice ba n bc):=hst.box.cell 1
  have hlt0:=hst.box.lt
  clear hst hxl hin HW
  by_cases hlt:(i:Int)<params
  ·go_wp2_with (refine wpList_append_nums2 (base:=w.heap.size+1) .i64 rfl _ _ 32 rfl 3 (.int .i64 0) 8 Tryz.underlying32 Tryz.info3 rfl (by decide) (.slice xa xl xc) _ xs [(i:Int)] rfl rfl (own_keep (by have h9:=HT.out.own;rw[HXL.out]at h9 ⊢;exact h9) ((Since.refl _).alloc _)) (one_nums _ _ _) (by rw[HXL.out];simp;omega) (by have:=HT.out.size;simp;omega) ?_;intro v6 w6 hown6 ht6 hnew6;obtain⟨a6,c6,hv6⟩:=own_shape hown6;rw[show (xs++[(i:Int)]).length=xl+1 from by rw[List.length_append,HXL.out];rfl]at hv6;subst hv6;have HN6:=Lib.hid (HT.out.add hown6 ht6);clear hown6 ht6 hnew6)
   go_roundw
   case rel=>exact⟨i+1,_,xs++[(i:Int)],by omega,rfl,by go_num,HN6.out,by rw[List.length_append,HXL.out];show xl+1≤i+1;omega,fun p hp=>by
    rcases List.mem_append.1 hp with hp|hp
    ·exact HIN.out p hp
    ·obtain rfl:=List.mem_singleton.1 hp;omega⟩
   case measure=>simp[intOf];omega
  ·obtain rfl:params=i:=by omega
   clear hlt hi
   go_wp2_with fail
   refine (things_any N _ bl (.slice ba n bc) wr (FnIn.keep H.out HT.out.old) HF.out).mono ?_
   rintro e wT ⟨tv,things,rfl,htown,hteach,hsT,htl⟩
   rw[HNN.out]at htl
   obtain⟨sa,sc,hsv⟩:=OwnRow.shape htown
   obtain⟨tn,htn⟩:∃ x,things.length=x:=⟨_,rfl⟩
   rw[htn]at hsv htl
   subst hsv
   have HTN:=Lib.hid htn
   obtain⟨base,hbase⟩:∃ x,x=wr.heap.size:=⟨_,rfl⟩
   rw[←hbase]at htown hteach
   have HTO:=Lib.hid htown
   have HTI:=Lib.hid (show RowIn thcells 4 (ThIn base N bl.length) wT (.slice sa tn sc) things from row_own_in thcells_len htown hteach)
   have HS:=Lib.hid (show StSt w wT base _ (.slice xa xl xc) xs wT from⟨HT.out.box.keep hsT,own_keep HT.out.own hsT,HT.out.old.trans hsT,Turn.refl _ _,fun q hq=>.inl (by rw[hbase];exact own_some_lt HT.out.own hq),Nat.le_trans HT.out.size hsT.size⟩)
   clear htown hteach hsT htn hbase c0 c1 hlt0 HT
   go_wp2_with fail
   go_loopw [5,8] (fun av z wr=>∃ (j:Nat) (v:Value) (xs:List Int),j≤tn∧av=v∧z=.int .i64 j∧StSt w wT base #[.int .i64 i,.slice ba n bc] v xs wr∧xs.length≤8+2*j∧∀ p∈xs,0≤p∧p<N) (fun _ z _=>tn-(intOf z).toNat)
   case atStart=>exact⟨0,_,xs,Nat.zero_le _,rfl,rfl,HS.out,by rw[HXL.out];omega,HIN.out⟩
   case round =>
    clear HS HXL HIN hlen
    obtain⟨j,v,xs,hj,rfl,rfl,hst,hlen,hin⟩:=hrel
    obtain⟨xa,xc,hv⟩:=own_shape hst.own
    obtain⟨xl,hxl⟩:∃ x,xs.length=x:=⟨_,rfl⟩
    rw[hxl]at hv hlen
    subst hv
    have HTR:=Lib.hid hst
    have HXL:=Lib.hid hxl
    have HIN:=Lib.hid hin
    clear hst hxl hin
    by_cases hlt:j<tn
    ·obtain⟨TB,toff,th,rfl,hTB,hth,hcT,hthin⟩:=RowIn.at HTI.out (by rw[HTN.out];exact hlt)
     have hTB2:¬ TB<base:=by have:=(World.ownsRow.lt (show wT.ownsRow _ _ _ _ _ _ from HTO.out) TB rfl).1;omega
     have hct:=fun t' ht'=>(HTR.out.low.cell (p:=⟨TB,toff+j*4+t',none⟩) hTB hTB2).trans (hcT t' ht')
     have HMKW:=Lib.hid (show OwnI base th.mkl th.mkv wr from own_turn hthin.1 HTR.out.low fun q hq e=>by have:=(World.ownsRow.lt (show wT.ownsRow _ _ _ _ _ _ from hthin.1) q hq).1;omega)
     obtain⟨ma,mc,hmv⟩:=ownI_shape HMKW.out
     obtain⟨ml,hml⟩:∃ x,th.mkl.length=x:=⟨_,rfl⟩
     rw[hml]at hmv
     have hml2:ml≤2:=by rw[←hml];exact hthin.2.2.2.1
     have HMKR:=Lib.hid (show Nums .i64 wr (.slice ma ml mc) th.mkl from by rw[←hmv];exact nums_of_own HMKW.out)
     have HTH:=Lib.hid hthin
     have HML:=Lib.hid hml
     have t0:wr.cell? ⟨TB,toff+j*4,none⟩=some (.int .i64 th.block):=hct 0 (by decide)
     have t2:wr.cell? ⟨TB,toff+j*4+2,none⟩=some (.slice ma ml mc):=by rw[←hmv];exact hct 2 (by decide)
     have hTBl:TB<wr.heap.size:=Nat.lt_of_lt_of_le hTB HTR.out.low.size
     have c0:=HTR.out.box.cell 0
     have c1:=HTR.out.box.cell 1
     have hl0:=HTR.out.box.lt
     clear hct hcT hth hthin hml hmv hTB
     by_cases hbq:th.block=bk
     ·have hbq2:(th.block != (bk:Int))=false:=by simpa using hbq
      clear hbq
      go_wp2_with (refine wpList_append_nums2 (base:=w.heap.size+1) .i64 rfl _ _ 32 rfl 3 (.int .i64 0) 8 Tryz.underlying32 Tryz.info3 rfl (by decide) (.slice xa xl xc) _ xs th.mkl rfl rfl (by have h9:=HTR.out.own;rw[HXL.out]at h9 ⊢;exact h9) (HMKR.out) (by rw[HXL.out,HML.out];omega) (by have:=HTR.out.size;omega) ?_;intro v6 w6 hown6 ht6 hnew6;obtain⟨a6,c6,hv6⟩:=own_shape hown6;rw[show (xs++th.mkl).length=xl+ml from by rw[List.length_append,HXL.out,HML.out]]at hv6;subst hv6;have HN6:=Lib.hid (HTR.out.add hown6 ht6 hnew6);clear hown6 ht6 hnew6)
      go_roundw
      case rel=>exact⟨j+1,_,xs++th.mkl,by omega,rfl,by go_num,HN6.out,by rw[List.length_append,HXL.out,HML.out];omega,fun y hy=>by
       rcases List.mem_append.1 hy with hy|hy
       ·exact HIN.out y hy
       ·exact HTH.out.2.1 y hy⟩
      case measure=>simp[intOf];omega
     ·have hbq2:(th.block != (bk:Int))=true:=by simpa using hbq
      clear hbq
      have KW:Hid (wr.cell? ⟨TB,toff+j*4,none⟩=some (.int .i64 th.block)∧wr.cell? ⟨TB,toff+j*4+2,none⟩=some (.slice ma ml mc)∧wr.cell? ⟨w.heap.size,0,none⟩=some (.int .i64 i)∧wr.cell? ⟨w.heap.size,1,none⟩=some (.slice ba n bc)∧TB<wr.heap.size∧w.heap.size<wr.heap.size):=Lib.hid ⟨t0,t2,c0,c1,hTBl,hl0⟩
      go_wp2_with fail
      refine wp_region_since_tail 7 rfl (by decide +kernel) (by decide +kernel) (by decide +kernel) (by decide)
       [Is (.agg #[.int .i64 i,.slice ba n bc]),Is (.slice (some ⟨TB,toff,none⟩) tn sc),Is (.int .i64 j),Is (.pointer (some ⟨TB,toff+j*4,none⟩)),Is (.pointer (some ⟨TB,toff+j*4,none⟩)),Is (.int .i64 th.block),ReachP n]
       (by repeat (first | exact trivial | refine⟨Is.stable _,?_⟩ | refine⟨ReachP.stable _,?_⟩)) ⟨?_,?_,?_,?_,?_,?_,?_,trivial⟩ ?_
      rotate_right
      ·intro vs w20 hs hk
       have k0:w20.cell? ⟨TB,toff+j*4,none⟩=some (.int .i64 th.block):=(hs.cell KW.out.2.2.2.2.1).trans KW.out.1
       have k2:w20.cell? ⟨TB,toff+j*4+2,none⟩=some (.slice ma ml mc):=(hs.cell KW.out.2.2.2.2.1).trans KW.out.2.1
       have b0:w20.cell? ⟨w.heap.size,0,none⟩=some (.int .i64 i):=(hs.cell KW.out.2.2.2.2.2).trans KW.out.2.2.1
       have b1:w20.cell? ⟨w.heap.size,1,none⟩=some (.slice ba n bc):=(hs.cell KW.out.2.2.2.2.2).trans KW.out.2.2.2.1
       have l1:TB<w20.heap.size:=Nat.lt_of_lt_of_le KW.out.2.2.2.2.1 hs.size
       have l2:w.heap.size<w20.heap.size:=Nat.lt_of_lt_of_le KW.out.2.2.2.2.2 hs.size
       simp only[List.take,List.drop,putAll,Act.put,KnowsAll,nthF,Is,List.setIfInBounds_toArray,List.set_cons_zero,List.set_cons_succ,Nat.reduceAdd]at hk ⊢
       try simp only[hk]
       obtain⟨ob,out,hq1,hq2,hq3⟩:ReachP n (vs 6) w20:=hk.2.2.2.2.2.2.1
       simp only[hq1]
       obtain⟨o,ho⟩:∃ o,out[bk]? = some o:=⟨_,List.getElem?_eq_getElem (by rw[hq3];exact hbk)⟩
       have co:w20.cell? ⟨ob,bk,none⟩=some (.bool o):=by rw[hq2.cell,List.getElem?_toArray,List.getElem?_map,ho];rfl
       have ol:=hq2.lt
       have HT20:=Lib.hid (HTR.out.keep hs)
       have HMK20:=Lib.hid (Nums.keep HMKR.out hs)
       clear hk hs hq1 hq2 hq3 ho k0 b0 b1 l2
       cases o with
       | true =>
        go_wp2
        go_roundw
        case rel=>exact⟨j+1,_,xs,by omega,rfl,by go_num,HT20.out,by rw[HXL.out];omega,HIN.out⟩
        case measure=>simp[intOf];omega
       | false =>
        go_wp2_with (refine wpList_append_nums2 (base:=w.heap.size+1) .i64 rfl _ _ 32 rfl 3 (.int .i64 0) 8 Tryz.underlying32 Tryz.info3 rfl (by decide) (.slice xa xl xc) _ xs th.mkl rfl rfl (by have h9:=HT20.out.own;rw[HXL.out]at h9 ⊢;exact h9) (HMK20.out) (by rw[HXL.out,HML.out];omega) (by have:=HT20.out.size;omega) ?_;intro v6 w6 hown6 ht6 hnew6;obtain⟨a6,c6,hv6⟩:=own_shape hown6;rw[show (xs++th.mkl).length=xl+ml from by rw[List.length_append,HXL.out,HML.out]]at hv6;subst hv6;have HN6:=Lib.hid (HT20.out.add hown6 ht6 hnew6);clear hown6 ht6 hnew6)
        go_roundw
        case rel=>exact⟨j+1,_,xs++th.mkl,by omega,rfl,by go_num,HN6.out,by rw[List.length_append,HXL.out,HML.out];omega,fun y hy=>by
         rcases List.mem_append.1 hy with hy|hy
         ·exact HIN.out y hy
         ·exact HTH.out.2.1 y hy⟩
        case measure=>simp[intOf];omega
      all_goals
       intro vs w20 hs hk _
       have k0:w20.cell? ⟨TB,toff+j*4,none⟩=some (.int .i64 th.block):=(hs.cell KW.out.2.2.2.2.1).trans KW.out.1
       have k2:w20.cell? ⟨TB,toff+j*4+2,none⟩=some (.slice ma ml mc):=(hs.cell KW.out.2.2.2.2.1).trans KW.out.2.1
       have b0:w20.cell? ⟨w.heap.size,0,none⟩=some (.int .i64 i):=(hs.cell KW.out.2.2.2.2.2).trans KW.out.2.2.1
       have b1:w20.cell? ⟨w.heap.size,1,none⟩=some (.slice ba n bc):=(hs.cell KW.out.2.2.2.2.2).trans KW.out.2.2.2.1
       have l1:TB<w20.heap.size:=Nat.lt_of_lt_of_le KW.out.2.2.2.2.1 hs.size
       have l2:w.heap.size<w20.heap.size:=Nat.lt_of_lt_of_le KW.out.2.2.2.2.2 hs.size
       simp only[List.take,putAll,Act.put,Knows,nthF,Is,List.setIfInBounds_toArray,List.set_cons_zero,List.set_cons_succ,Nat.reduceAdd]at hk ⊢
       try simp only[hk]
      ·go_wp2
       exact⟨_,rfl,rfl,Since.refl _⟩
      ·go_wp2
       exact⟨_,rfl,rfl,Since.refl _⟩
      ·go_wp2
       exact⟨_,rfl,rfl,Since.refl _⟩
      ·go_wp2
       exact⟨_,rfl,rfl,Since.refl _⟩
      ·go_wp2
       exact⟨_,rfl,rfl,Since.refl _⟩
      ·go_wp2
       exact⟨_,rfl,rfl,Since.refl _⟩
      ·have HS20:=Lib.hid hs
       clear hk hs k0 k2 b0 b1 l1 l2
       go_wp2_with fail
       refine (reached_any _ bl (.slice ba n bc) _ (TosIn.keep (FnIn.tos H.out) (HTR.out.old.trans HS20.out)) (by rw[HNN.out];omega) th.block).mono ?_
       rintro e w21 ⟨ob,out,rfl,h1,h2,h3,h4,h5⟩
       rw[HNN.out]at h4
       have HR:=Lib.hid (show ReachP n (.slice (some ⟨ob,0,none⟩) n n) w21 from⟨ob,out,rfl,h1,h4⟩)
       have HS21:=Lib.hid h3
       rw[HNN.out]
       clear h1 h2 h3 h4 h5
       go_wp2
       exact⟨_,rfl,HR.out,HS21.out⟩
    ·obtain rfl:tn=j:=by omega
     go_wp2
     go_ret
     exact⟨_,xs,rfl,own_down (by have h9:=HTR.out.own;rw[HXL.out]at h9 ⊢;exact h9) (Nat.le_succ _),HTR.out.old,by rw[HXL.out];omega,HIN.out⟩
end Go.Proofs.YtmhojfpidedjeaaGreatDoor
