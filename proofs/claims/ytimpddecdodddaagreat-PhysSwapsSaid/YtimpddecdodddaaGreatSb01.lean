import Derived.Test.YtimpddecdodddaaGreatSb00
import Derived.Lib.AppendZeros
import Derived.Deep.QuietTactic
import Derived.BigQuiet
namespace Go.Proofs.YtimpddecdodddaaGreat
open Go.RowKit Go.Lib
set_option linter.unusedVariables false
set_option maxHeartbeats 1000000
set_option maxRecDepth 100000
theorem zM {P:Prop} (h:P:=by
 obtain⟨⟨x,hx,ha⟩,h4,_⟩:=hk;rw[hx];have hd:=ha.1;have HC:=hid ha.2;clear ha;unfold Enters at hd;go_wp2_with fail
 refine (HC.out av _ ((H.out.keep ((Since.refl _).alloc _)).keep hs) hl).mono ?_;rintro e w2 ⟨v,rfl,hv,hb⟩;go_wp2
 exact⟨_,rfl,hv,hb⟩):P:=h
theorem qJ {P:Prop} (h:P:=by
 go_enter Tryz.func32,Tryz.ntmps32
 go_wp2
 go_ret
 exact Zp ((Since.refl _).alloc _) _ _ (by simp) rfl (by simp[maxLen]) rfl):P:=h
theorem qK {P:Prop} (h:P:=by
 go_enter Tryz.func59,Tryz.ntmps59
 go_wp2
 go_ret
 exact Zp ((Since.refl _).alloc _) _ _ (by simp) rfl (by simp[maxLen]) rfl):P:=h
theorem qM {P:Prop} (h:P:=by
 go_wp2_with (go_at_call 87;refine (HK.out _).mono ?_;rintro e w2 ⟨x,y,rfl,hx,hy,hb⟩)
 exact⟨_,rfl,⟨x,y,rfl,hx,hy⟩,hb⟩):P:=h
theorem yT {P:Prop} (h:P:=by
 go_wp2
 go_ret
 exact⟨_,rfl,hk.2.2.2.2.2.2.1,((Since.refl _).alloc _).trans hs⟩):P:=h
theorem y8 {P:Prop} (h:P:=by rw[BitVec.ofInt_toInt,BitVec.ofInt_toInt,ZaG,←BitVec.toInt_eq_toNat_bmod]):P:=h
theorem jJ {P:Prop} (h:P:=by
 go_wp2
 exact⟨_,rfl,hk.1,.refl _⟩):P:=h
theorem jK {P:Prop} (h:P:=by
 go_wp2
 exact⟨_,rfl,rfl,.refl _⟩):P:=h
theorem jO {P:Prop} (h:P:=by rw[List.take_add_one,h];simp):P:=h
theorem kK {P:Prop} (h:P:=by decide +kernel):P:=h
def IsKinds (m:Mach) (v:Value) (_:World):Prop:=∃ x y,v=.agg #[.func (.func x) #[] #[],.func (.func y) #[] #[]]∧KindAt x m (takes7 m)∧KindAt y m (makes7 m)
theorem IsKinds.stable (m:Mach):ZM (IsKinds m):=fun _ _ _ h _=>h
def IsPlaces (m:Mach) (l:List Int) (v:Value) (_:World):Prop:=∃ x,v=.func (.func x) #[] #[]∧KindAt x m l
theorem IsPlaces.stable (m:Mach) (l:List Int):ZM (IsPlaces m l):=fun _ _ _ h _=>h
theorem J9 (m:Mach) (av:Value) (w:World) (h:Zi w av m.args) (hl:m.args.length≤1000) :
  Calls Tryz.prog 60 #[mv m av] w (YK w (takes7 m)):=by
 have HK:Hid (∀ w,Calls Tryz.prog 87 #[.int .i64 m.op] w (KJ m w)):=fun w=>Kq m w
 have H:=hid h;clear h;unfold mv;go_enter Tryz.func60,Tryz.ntmps60
 go_wp2
 refine Zd rfl kK kK
  [Is (.pointer (some ⟨w.heap.size,0,none⟩)),Is (.int .i64 m.op),IsKinds m,IsPlaces m (takes7 m),Is (mv m av),Zn .i64 (takes7 m),Zn .i64 (takes7 m)]
  ⟨Is.stable _,Is.stable _,IsKinds.stable _,IsPlaces.stable _ _,Is.stable _,Zn.stable _ _,Zn.stable _ _,trivial⟩ ⟨?_,?_,?_,?_,?_,?_,?_,trivial⟩ ?_
 all_goals
  intro vs w1 hs hk;have hc:∀ i,w1.cell? ⟨w.heap.size,i,none⟩=_:=fun i=>hs.cell (p:=⟨w.heap.size,i,none⟩) kU
  simp only[putAll,Act.put,Zk,Zc,Ze,Is,List.setIfInBounds_toArray,List.set_cons_zero,List.set_cons_succ,Nat.reduceAdd,List.length_cons,List.length_nil]at hk ⊢;try simp only[hk]
 iterate 2
  ·exact jK
 ·exact qM
 ·obtain⟨⟨x,y,he,hx,hy⟩,_⟩:=hk;rw[he];go_wp2
  rename_i hK
  exact hK _ _ ⟨_,rfl,⟨x,rfl,hx⟩,.refl _⟩
 ·exact jK
 ·exact zM
 ·exact jJ
 ·exact yT
theorem ZK (m:Mach) (av:Value) (w:World) (h:Zi w av m.args) (hl:m.args.length≤1000) :
  Calls Tryz.prog 61 #[mv m av] w (YK w (makes7 m)):=by
 have HK:Hid (∀ w,Calls Tryz.prog 87 #[.int .i64 m.op] w (KJ m w)):=fun w=>Kq m w
 have H:=hid h;clear h;unfold mv;go_enter Tryz.func61,Tryz.ntmps61
 go_wp2
 refine Zd rfl kK kK
  [Is (.pointer (some ⟨w.heap.size,0,none⟩)),Is (.int .i64 m.op),IsKinds m,IsPlaces m (makes7 m),Is (mv m av),Zn .i64 (makes7 m),Zn .i64 (makes7 m)]
  ⟨Is.stable _,Is.stable _,IsKinds.stable _,IsPlaces.stable _ _,Is.stable _,Zn.stable _ _,Zn.stable _ _,trivial⟩ ⟨?_,?_,?_,?_,?_,?_,?_,trivial⟩ ?_
 all_goals
  intro vs w1 hs hk;have hc:∀ i,w1.cell? ⟨w.heap.size,i,none⟩=_:=fun i=>hs.cell (p:=⟨w.heap.size,i,none⟩) kU
  simp only[putAll,Act.put,Zk,Zc,Ze,Is,List.setIfInBounds_toArray,List.set_cons_zero,List.set_cons_succ,Nat.reduceAdd,List.length_cons,List.length_nil]at hk ⊢;try simp only[hk]
 iterate 2
  ·exact jK
 ·exact qM
 ·obtain⟨⟨x,y,he,hx,hy⟩,_⟩:=hk;rw[he];go_wp2
  rename_i hK
  exact hK _ _ ⟨_,rfl,⟨y,rfl,hy⟩,.refl _⟩
 ·exact jK
 ·exact zM
 ·exact jJ
 ·exact yT
def takes (m:Mach):List Int:=if m.op=2 then [m.a,m.b] else if m.op=30 then [16+m.imm] else takes7 m
def makes (m:Mach):List Int:=if m.op=2 then [m.a,m.b] else if m.op=31 then [16+m.imm] else makes7 m
def YU (m:Mach):List Int:=if m.op=28 then [1,2,3] else []
def Yw (m:Mach):Prop:=-2147483648≤m.imm∧m.imm≤2147483647∧m.args.length≤1000
theorem Zbu (m:Mach) (av:Value) (w:World) (h:Zi w av m.args) (hf:Yw m) :
  Calls Tryz.prog 59 #[mv m av] w (YK w (takes m)):=by
 obtain⟨h1,h2,hl⟩:=hf;have H:=hid h;clear h;have HC:Hid (∀ w,Zi w av m.args→Calls Tryz.prog 60 #[mv m av] w (YK w (takes7 m))):=fun w h=>J9 m av w h hl
 unfold mv at HC ⊢;by_cases g1:m.op=2
 ·have e:takes m=[m.a,m.b]:=by unfold takes;rw[if_pos g1]
  rw[e];clear e;have g1':(m.op==2)=true:=by simpa using g1
  clear g1;exact qK
 ·have g1':(m.op==2)=false:=by simpa using g1
  by_cases g2:m.op=30
  ·have e:takes m=[16+m.imm]:=by unfold takes;rw[if_neg g1,if_pos g2]
   rw[e];clear e;have g2':(m.op==30)=true:=by simpa using g2
   clear g1 g2;exact qK
  ·have e:takes m=takes7 m:=by unfold takes;rw[if_neg g1,if_neg g2]
   rw[e];clear e;have g2':(m.op==30)=false:=by simpa using g2
   clear g1 g2;go_enter Tryz.func59,Tryz.ntmps59
   go_wp2_with (go_at_call 60;refine (HC.out _ (H.out.keep ((Since.refl _).alloc _))).mono ?_;rintro e w1 ⟨v,rfl,hv,hs⟩)
   exact jl
theorem Qp (m:Mach) (av:Value) (w:World) (h:Zi w av m.args) (hf:Yw m) :
  Calls Tryz.prog 32 #[mv m av] w (YK w (makes m)):=by
 obtain⟨h1,h2,hl⟩:=hf;have H:=hid h;clear h;have HC:Hid (∀ w,Zi w av m.args→Calls Tryz.prog 61 #[mv m av] w (YK w (makes7 m))):=fun w h=>ZK m av w h hl
 unfold mv at HC ⊢;by_cases g1:m.op=2
 ·have e:makes m=[m.a,m.b]:=by unfold makes;rw[if_pos g1]
  rw[e];clear e;have g1':(m.op==2)=true:=by simpa using g1
  clear g1;exact qJ
 ·have g1':(m.op==2)=false:=by simpa using g1
  by_cases g2:m.op=31
  ·have e:makes m=[16+m.imm]:=by unfold makes;rw[if_neg g1,if_pos g2]
   rw[e];clear e;have g2':(m.op==31)=true:=by simpa using g2
   clear g1 g2;exact qJ
  ·have e:makes m=makes7 m:=by unfold makes;rw[if_neg g1,if_neg g2]
   rw[e];clear e;have g2':(m.op==31)=false:=by simpa using g2
   clear g1 g2;go_enter Tryz.func32,Tryz.ntmps32
   go_wp2_with (go_at_call 61;refine (HC.out _ (H.out.keep ((Since.refl _).alloc _))).mono ?_;rintro e w1 ⟨v,rfl,hv,hs⟩)
   exact jl
theorem ZaL (m:Mach) (av:Value) (w:World):Calls Tryz.prog 31 #[mv m av] w (YK w (YU m)):=by
 unfold mv YU;by_cases g:m.op=28
 ·rw[if_pos g];have g':(m.op==28)=true:=by simpa using g
  clear g;go_enter Tryz.func31,Tryz.ntmps31
  exact yJ
 ·rw[if_neg g];have g':(m.op==28)=false:=by simpa using g
  clear g;go_enter Tryz.func31,Tryz.ntmps31
  exact jv
abbrev W:=BitVec 32
theorem XE (n:Int):wrap32 n=n.bmod (2 ^ 32):=by
 unfold wrap32 Int.bmod;have:((2 ^ 32:Nat):Int)=4294967296:=kS
 rw[this];dsimp only;split<;>omega
theorem ZaG (n:Int):IntKind.i32.wrap n=n.bmod (2 ^ 32):=by
 rw[←XE,IntKind.wrap_i32];unfold wrap32;rfl
theorem Ze5 (a b:W):wrap32 (a.toInt+b.toInt)=(a+b).toInt:=by rw[XE,BitVec.toInt_add]
theorem ZeX (a b:W):wrap32 (a.toInt-b.toInt)=(a-b).toInt:=by rw[XE,BitVec.toInt_sub]
theorem Ze1 (a b:W):wrap32 (a.toInt*b.toInt)=(a*b).toInt:=by rw[XE,BitVec.toInt_mul]
theorem Ze4 (a b:W):bits .and .i32 a.toInt b.toInt=(a &&& b).toInt:=by
 show IntKind.i32.wrap ((BitVec.ofInt 32 a.toInt &&& BitVec.ofInt 32 b.toInt).toNat:Int)=_
 exact y8
theorem Zfp (a b:W):bits .or .i32 a.toInt b.toInt=(a ||| b).toInt:=by
 show IntKind.i32.wrap ((BitVec.ofInt 32 a.toInt ||| BitVec.ofInt 32 b.toInt).toNat:Int)=_
 exact y8
theorem ZeW (a b:W):bits .xor .i32 a.toInt b.toInt=(a ^^^ b).toInt:=by
 show IntKind.i32.wrap ((BitVec.ofInt 32 a.toInt ^^^ BitVec.ofInt 32 b.toInt).toNat:Int)=_
 exact y8
theorem QD (b:W):b.toInt % 4294967296=(b.toNat:Int):=by
 have h:=BitVec.toInt_eq_toNat_bmod b;have:=b.isLt;rw[h,Int.bmod];split<;>omega
def far (b:W):Nat:=b.toNat % 32
theorem Ze2 (b:W):b.toInt % 32=(far b:Int):=by
 have h:=QD b;unfold far;omega
theorem ZeZ (a:W) (n:Nat):wrap32 (a.toInt*2 ^ n)=(a <<< n).toInt:=by
 rw[XE,BitVec.toInt_shiftLeft,Nat.shiftLeft_eq,BitVec.toInt_eq_toNat_bmod];push_cast
 rw[Int.bmod_mul_bmod]
theorem ZeY (a:W) (n:Nat):wrap32 (a.toInt % 4294967296 / 2 ^ n)=(a >>> n).toInt:=by
 rw[XE,QD,BitVec.toInt_eq_toNat_bmod,BitVec.toNat_ushiftRight,Nat.shiftRight_eq_div_pow];push_cast
 rfl
theorem Ze0 (a:W) (n:Nat):a.toInt / 2 ^ n=(a.sshiftRight n).toInt:=by
 rw[BitVec.toInt_sshiftRight,Int.shiftRight_eq_div_pow];norm_cast
theorem Ze3 (a b:W):wrap32 (a.toInt.tdiv b.toInt)=(a.sdiv b).toInt:=by
 rw[XE,BitVec.toInt_sdiv]
def doI (op a b:Int):Option Int:=
 if op=2 then some (wrap32 (a+b)) else if op=3 then some (wrap32 (a-b)) else if op=4 then some (wrap32 (a*b))
 else if op=5 then some (bits .and .i32 a b) else if op=6 then some (bits .or .i32 a b) else if op=7 then some (bits .xor .i32 a b)
 else if op=8 then some (wrap32 (a*2 ^ (b % 32).toNat)) else if op=9 then some (wrap32 (a % 4294967296 / 2 ^ (b % 32).toNat)) else if op=10 then some (a / 2 ^ (b % 32).toNat)
 else if op=11 then some (if a=b then 1 else 0) else if op=12 then some (if a<b then 1 else 0) else if op=13 then some (if a % 4294967296<b % 4294967296 then 1 else 0)
 else if op=14 then (if b=0 then none else some (wrap32 (a.tdiv b))) else none
def doB (op:Int) (a b:W):Option W:=
 if op=2 then some (a+b) else if op=3 then some (a-b) else if op=4 then some (a*b)
 else if op=5 then some (a &&& b) else if op=6 then some (a ||| b) else if op=7 then some (a ^^^ b)
 else if op=8 then some (a <<< far b) else if op=9 then some (a >>> far b) else if op=10 then some (a.sshiftRight (far b))
 else if op=11 then some (if a=b then 1#32 else 0#32) else if op=12 then some (if a.toInt<b.toInt then 1#32 else 0#32) else if op=13 then some (if a.toNat<b.toNat then 1#32 else 0#32)
 else if op=14 then (if b=0#32 then none else some (a.sdiv b)) else none
theorem Zd2 (op:Int) (a b:W):doI op a.toInt b.toInt=(doB op a b).map BitVec.toInt:=by
 have hn:(b.toInt % 32).toNat=far b:=by rw[Ze2];rfl
 have h1:(1#32).toInt=1:=kS
 have h0:(0#32).toInt=0:=kS
 have hz:b.toInt=0↔b=0#32:=by rw[←h0,BitVec.toInt_inj]
 have ha:∀ c:Prop,∀ [Decidable c],(if c then 1#32 else 0#32).toInt=if c then 1 else 0:=by intro c _;split<;>rfl
 have hd:(a.toInt=b.toInt)=(a=b):=propext BitVec.toInt_inj;have hc:((a.toNat:Int)<(b.toNat:Int))=(a.toNat<b.toNat):=propext kT;have hb:(b.toInt=0)=(b=0#32):=propext hz;unfold doI doB;rw[Ze5,ZeX,Ze1,Ze4,Zfp,ZeW,hn,ZeZ,ZeY,Ze0,Ze3,QD,QD];simp only[apply_ite (Option.map BitVec.toInt),Option.map_some,Option.map_none,ha,hd,hc,hb]
def lowI (a b:Int):Int:=wrap32 (a*b)
def highI (a b:Int):Int:=a*b / 4294967296
theorem Qm (a b:Int) (ha : -2147483648≤a) (hd:a≤2147483647) (hb : -2147483648≤b) (hc:b≤2147483647) :
  -4611686018427387904≤a*b∧a*b≤4611686018427387904:=by
 have h:(a*b).natAbs≤2147483648*2147483648:=by
  rw[Int.natAbs_mul];exact Nat.mul_le_mul kT kT
 omega
theorem Zcy {x y x' y':Int} (h:x=x') (k:y=y'):Ending.returned (.tuple #[.int .i32 x,.int .i32 y])=.returned (.tuple #[.int .i32 x',.int .i32 y']):=by rw[h,k]
theorem Zcp (a b:Int) (w:World) (ha : -2147483648≤a) (hd:a≤2147483647) (hb : -2147483648≤b) (hc:b≤2147483647) :
  Calls Tryz.prog 174 #[.int .i32 a,.int .i32 b] w fun e w'=>e=.returned (.tuple #[.int .i32 (lowI a b),.int .i32 (highI a b)])∧w=w':=by
 have hm:=Qm a b ha hd hb hc;go_enter Tryz.func174,Tryz.ntmps174
 go_wp2
 go_ret2
 exact⟨Zcy rfl (by simp[highI]),rfl⟩
structure PlV where
 m:Mach
 av:Value
 src:Int
structure Yb where
 op:Int
 a:Int
 b:Int
 «to» : List Int
 tov:Value
 imm:Int
structure ZD where
 ins:List PlV
 insv:Value
 fin:Yb
structure Z2 where
 params:Int
 k:Int
 slots:Int
 blocks:List ZD
 bv:Value
def regsOf (m:Mach):List Int:=if m.op=30∨m.op=31 then takes7 m++makes7 m else takes m++makes m
def YC (k:Int) (l:List Int):Bool:=l.any fun r=>decide (r<0)||decide (k≤r)
def Xm:List Int→Nat→Bool
 | [],_=>true
 | r::l,n=>r==(n:Int)&&Xm l (n+1)
def shapeB (m:Mach):Bool:=
 if m.op=28 then Xm m.args 0&&decide (m.args.length≤4)&&m.d==0
 else if m.op=29 then m.d==0&&m.e==1
 else decide (1≤m.op)&&decide (m.op≤31)
def VP (m:Mach):Bool:=
 if m.op=3 then decide (-32768≤m.imm)&&decide (m.imm≤32767)
 else if m.op=18∨m.op=19 then decide (-128≤m.imm)&&decide (m.imm≤127)
 else if m.op=20∨m.op=21∨m.op=22 then decide (0≤m.imm)&&decide (m.imm≤31)
 else if m.op=24∨m.op=26 then decide (0≤m.imm)&&decide (m.imm≤255)
 else true
def Y2 (m:Mach):Bool:=m.op==30||m.op==31
def Yv (m:Mach) (k slots:Int):Int:=
 if shapeB m=false then 30 else if YC k (regsOf m)=true then 31
 else if Y2 m&&(decide (m.imm<0)||decide (slots≤m.imm)) then 43 else if VP m=false then 32 else 0
def needs (e:Yb):List Int:=
 if e.op=2∨e.op=6∨(e.op=7∧0≤e.a) then [e.a] else if 3≤e.op∧e.op≤5 then [e.a,e.b] else []
def XC (e:Yb):Bool:=
 if e.op=1 then decide (e.to.length=1)
 else if 2≤e.op∧e.op≤5 then decide (e.to.length=2)
 else if e.op=6 then decide (2≤e.to.length)&&decide (e.to.length≤65)
 else if e.op=7∨e.op=8 then decide (e.to.length=0) else false
def Y5 (e:Yb) (k:Int):Bool:=(needs e).any fun r=>decide (r<0)||decide (k≤r)||(e.op==7&&decide (0<r))
def Ws (n:Int) (l:List Int):Bool:=l.any fun t=>decide (t<1)||decide (n≤t)
def endE (e:Yb) (k n:Int):Int:=
 if XC e=false then 30 else if Y5 e k=true then 31 else if Ws n e.to=true then 14 else 0
def ptotal (l:List ZD):Nat:=l.length+(l.map fun b=>b.ins.length).sum
def YG (k slots:Int):List PlV→Nat→Option (Int × Nat)
 | [],_=>none
 | x::r,i=>if Yv x.m k slots=0 then YG k slots r (i+1) else some (Yv x.m k slots,i)
def X0 (k slots n:Int) (b:ZD):Option (Int × Nat):=
 match YG k slots b.ins 0 with
 | some x=>some x
 | none=>if endE b.fin k n=0 then none else some (endE b.fin k n,b.ins.length)
def YQ (k slots n:Int):List ZD→Nat→Option (Int × Nat × Nat)
 | [],_=>none
 | b::r,j=>match X0 k slots n b with
  | some x=>some (x.1,j,x.2)
  | none=>YQ k slots n r (j+1)
def Vk (p:Z2):Int:=
 if p.params<0∨4<p.params∨p.k<4∨16<p.k∨p.slots<0∨16384<p.slots then 1
 else if p.blocks.length=0 then 14
 else if 512<p.blocks.length∨65536<ptotal p.blocks then 2 else 0
def funcE (p:Z2):Int × Nat × Nat:=
 if Vk p=0 then (YQ p.k p.slots p.blocks.length p.blocks 0).getD (0,0,0) else (Vk p,0,0)
def rightB (p:Z2):Bool:=(funcE p).1==0
def getR (r:List Int) (i:Int):Int:=if 0≤i∧i<(r.length:Int) then r.getD i.toNat 0 else 0
def setR (r:List Int) (i v:Int):List Int:=if 0≤i∧i<(r.length:Int) then r.set i.toNat v else r
def aluOp (op:Int):Int:=if op=18 then 2 else if op=19 then 5 else if op=20 then 8 else if op=21 then 9 else 10
def doM (m:Mach) (r mem:List Int):Option Int × List Int × List Int:=
 let a:=getR r m.a
 let b:=getR r m.b
 let c:=getR r m.c
 if m.op=1 then (none,setR r m.d a,mem)
 else if m.op=2 then (none,setR (setR r m.a b) m.b a,mem)
 else if m.op=3∨m.op=4 then (none,setR r m.d m.imm,mem)
 else if 5≤m.op∧m.op≤17 then (match doI (m.op-3) a b with | none=>(some (-1),r,mem) | some v=>(none,setR r m.d v,mem))
 else if 18≤m.op∧m.op≤22 then (none,setR r m.d ((doI (aluOp m.op) a m.imm).getD 0),mem)
 else if m.op=23 then (none,setR r m.d (wrap32 (wrap32 (a*b)+c)),mem)
 else if m.op=24∨m.op=25 then
  let at':=wrap32 (a+if m.op=24 then m.imm else b)
  if 0≤at'∧at' < (mem.length:Int) then (none,setR r m.d (mem.getD at'.toNat 0),mem) else (some (-2),r,mem)
 else if m.op=26∨m.op=27 then
  let at':=wrap32 (a+if m.op=26 then m.imm else b)
  if 0≤at'∧at' < (mem.length:Int) then (none,r,mem.set at'.toNat (if m.op=26 then b else c)) else (some (-2),r,mem)
 else if m.op=29 then (none,setR (setR r m.d (lowI a b)) m.e (highI a b),mem)
 else (none,r,mem)
structure St where
 regs:List Int
 slots:List Int
 mem:List Int
 calls:List (Int × List Int)
def stepM (m:Mach) (ans:List Int) (s:St):Option Int × St:=
 if m.op=30 then (none,{ s with regs:=s.regs.set m.d.toNat (s.slots.getD m.imm.toNat 0) })
 else if m.op=31 then (none,{ s with slots:=s.slots.set m.imm.toNat (s.regs.getD m.a.toNat 0) })
 else if m.op=28 then
  (none,{ s with
   regs:=(((s.regs.set 0 (ans.getD s.calls.length 0)).set 1 24302).set 2 24303).set 3 24304
   calls:=s.calls++[(m.imm,m.args.map fun r=>s.regs.getD r.toNat 0)] })
 else ((doM m s.regs s.mem).1,{ s with regs:=(doM m s.regs s.mem).2.1,mem:=(doM m s.regs s.mem).2.2 })
def goes (e:Yb) (r:List Int):Nat:=
 let a:=getR r e.a
 let b:=getR r e.b
 if e.op=1 then 0
 else if e.op=2 then (if a=0 then 1 else 0)
 else if e.op=3 then (if a=b then 0 else 1)
 else if e.op=4 then (if a<b then 0 else 1)
 else if e.op=5 then (if a % 4294967296<b % 4294967296 then 0 else 1)
 else if a % 4294967296<(e.to.length:Int)-1 then (a % 4294967296).toNat else e.to.length-1
structure QK where
 e:Int
 v:Int
 s:St
 left:Nat
def ZA (p:Z2) (ans:List Int):Nat→St→ZD→List PlV→QK
 | 0,s,_,_=>⟨3,0,s,0⟩
 | f+1,s,b,x::r=>match stepM x.m ans s with
  | (some t,s')=>⟨2,t,s',f⟩
  | (none,s')=>ZA p ans f s' b r
 | f+1,s,b,[] =>
  if b.fin.op=8 then ⟨2,b.fin.imm,s,f⟩
  else if b.fin.op=7 then ⟨1,if 0≤b.fin.a then s.regs.getD b.fin.a.toNat 0 else 0,s,f⟩
  else match p.blocks[(b.fin.to.getD (goes b.fin s.regs) 0).toNat]? with
   | none=>⟨0,0,s,f⟩
   | some b'=>ZA p ans f s b' b'.ins
structure InV where
 args:List Int
 argsv:Value
 mem:List Int
 memv:Value
 ans:List Int
 ansv:Value
 steps:Int
def Jv (p:Z2) (i:InV):List Int:=(List.range 16).map fun (t:Nat)=>if (t:Int)<p.params then i.args.getD t 0 else 0
def st0 (p:Z2) (i:InV):St:=⟨Jv p i,List.replicate p.slots.toNat 0,i.mem.take 4096,[]⟩
structure VV where
 e:Int
 v:Int
 mem:List Int
 calls:List (Int × List Int)
 steps:Int
def ZaY (limit:Nat) (f:QK):VV:=⟨f.e,f.v,f.s.mem,f.s.calls,(limit:Int)-(f.left:Int)⟩
def YW (p:Z2) (i:InV):VV:=
 if rightB p then match p.blocks with
  | b::_=>ZaY i.steps.toNat (ZA p i.ans i.steps.toNat (st0 p i) b b.ins)
  | []=>⟨4,0,[],[],0⟩
 else ⟨4,0,[],[],0⟩
def Zfk (w:World) (e:Ending) (w':World):Prop:=∃ v,e=.returned v∧w'.ownsRow w.heap.size 3 1 v ([]:List Int).length (([]:List Int).map (Value.int .i64))∧Since w w'
theorem ZcW (n:Nat) (w:World) (hn:n≤100000):Calls Tryz.prog 86 #[.slice none 0 0,.int .i64 n] w (Zfk w):=by
 rcases Nat.eq_zero_or_pos n with rfl|hp
 ·go_enter Tryz.func86,Tryz.ntmps86
  go_wp2
  go_ret
  exact⟨_,rfl,XO _ _ _ _,.refl _⟩
 ·obtain⟨i0,hi,he,hd,hc⟩:=info_parts Tryz.info3;have ha:n*i0.bytes≤281474976710656:=by rw[hc];omega
  have hb:=Lib.run_append_nil_zeros (P:=Tryz.prog) w 22 3 22 3 i0 (.int .i64 0) .i64 .i64 Tryz.underlying22 Tryz.underlying3 hi he n hp (by rw[hd];decide) kT ha;have hk:=grownCap_ge w n 0 3;have hf:=grownCap_le_maxLen w n 0 3 ky;generalize hg:grownCap w n 0 3=cap at *;have HA:=hid hb;clear hb;have hh:cap≤9223372036854775807:=by unfold maxLen at hf;omega
  have hj:(0:Int)<(n:Int):=kT
  clear hg he hd hc hi ha;go_enter Tryz.func86,Tryz.ntmps86
  go_wp2_with (at_builtin;refine Lib.wpList_append_run _ rfl _ _ _ _ rfl _ _ rfl rfl _ _ HA.out ?_)
  go_ret
  refine⟨_,rfl,⟨rfl,.inr ⟨w.heap.size,cap,_,rfl,Nat.le_refl _,(MapKept.heap_alloc w.drew _).1,Nat.zero_le _,hf,?_,?_⟩⟩,(Since.refl w).drew.alloc _⟩
  ·simp only[Array.size_append,size_zeroCells];simp;omega
  ·rfl
def KF (w:World) (v:Value) (rows:List (Value × List Int)):Prop:=
 ∃ b off cap,v=.slice (some ⟨b,off,none⟩) rows.length cap∧b<w.heap.size∧∀ (j:Nat) (x:Value × List Int),rows[j]? = some x→w.cell? ⟨b,off+j,none⟩=some x.1∧Zt .i64 w x.1 x.2
def total (rows:List (Value × List Int)):Nat:=(rows.map fun x=>x.2.length).sum
def joined (rows:List (Value × List Int)):List Int:=(rows.map fun x=>x.2).flatten
theorem ZaI (rows:List (Value × List Int)) (k:Nat) (x:Value × List Int) (h:rows[k]? = some x):total (rows.take (k+1))=total (rows.take k)+x.2.length:=by
 unfold total;exact jO
theorem Zas (rows:List (Value × List Int)) (k:Nat) (x:Value × List Int) (h:rows[k]? = some x):joined (rows.take (k+1))=joined (rows.take k)++x.2:=by
 unfold joined;exact jO
theorem QC (rows:List (Value × List Int)):(joined rows).length=total rows:=by
 unfold joined total;rw[List.length_flatten,List.map_map];rfl
theorem VI (rows:List (Value × List Int)) (k:Nat):total (rows.take k)≤total rows:=by
 have:total rows=total (rows.take k)+total (rows.drop k):=by
  unfold total;rw[←List.sum_append,←List.map_append,List.take_append_drop]
 omega
theorem Zb {k : IntKind} {w : World} {v : Value} {l : List Int} (h:Zt k w v l):∃ a cap,v=.slice a l.length cap:=by
 rcases h with ⟨_,h1,rfl⟩|⟨b,off,cap,h1,_⟩;iterate 2
  ·exact⟨_,_,h1⟩
theorem VS (v:Value) (rows:List (Value × List Int)) (w:World) (h:KF w v rows) (hn:rows.length≤1000) (ht:total rows≤100000) :
  Calls Tryz.prog 58 #[v] w (YK w (joined rows)):=by
 obtain⟨b,off,cap,rfl,hb,hg⟩:=h;have HC:=hid hg;clear hg;go_enter Tryz.func58,Tryz.ntmps58
 go_wp2_with fail
 go_loop [3,11] (fun s i=>∃ k:Nat,k≤rows.length∧i=.int .i64 k∧s=.int .i64 (total (rows.take k):Nat)) (fun _ i=>rows.length-(intOf i).toNat)
 case atStart=>exact⟨0,kT,rfl,rfl⟩
 case round =>
  obtain⟨k,hk,rfl,rfl⟩:=hrel;have hm:=VI rows k;by_cases hh:k<rows.length
  ·obtain⟨x,hx⟩:∃ x,rows[k]? = some x:=⟨_,List.getElem?_eq_getElem hh⟩
   obtain⟨hc,hd⟩:=HC.out k x hx;obtain⟨a,c,hv⟩:=Zb hd;have hs:=ZaI rows k x hx;have hu:=VI rows (k+1);rw[hv]at hc;have HS:=hid hs;generalize total (rows.take k)=t at *;clear hs;have hw:t+x.2.length≤100000:=by have:=HS.out;omega
   go_wp2_with fail
   go_round
   case rel=>exact⟨k+1,kT,by go_num,by rw[HS.out];go_num⟩
   case measure=>simp[intOf];omega
  ·obtain rfl:k=rows.length:=kT
   rw[List.take_length];go_wp2_with fail
   refine (ZcW _ _ ht).mono ?_;rintro e w1 ⟨g,rfl,ho,hr⟩;go_wp2_with fail
   go_loopw [6,27] (fun s i wr=>∃ k:Nat,k≤rows.length∧i=.int .i64 k∧wr.ownsRow w.heap.size 3 1 s (joined (rows.take k)).length ((joined (rows.take k)).map (Value.int .i64))∧Since w wr) (fun _ i _=>rows.length-(intOf i).toNat)
   case atStart=>exact⟨0,kT,rfl,ho,hr⟩
   case round =>
    obtain⟨k,hk,rfl,ha,he⟩:=hrel;by_cases hh:k<rows.length
    ·obtain⟨x,hx⟩:∃ x,rows[k]? = some x:=⟨_,List.getElem?_eq_getElem hh⟩
     obtain⟨hc,hd⟩:=HC.out k x hx;have hi:=Zas rows k x hx;have hl:=QC (rows.take (k+1));have hu:=VI rows (k+1);rw[hi,List.length_append]at hl;have HJ:=hid hi;generalize joined (rows.take k)=jk at *;clear hi;have hp:jk.length+x.2.length≤1000000:=kT
     clear hl;have hy:wr.cell? ⟨b,off+k,none⟩=some x.1:=by rw[he.cell hb];exact hc
     have hf:=hd.keep he;have HN:=hid hf;have HO:=hid ha;clear hd hf ha hc;go_wp2_with (at_builtin;refine YA (w0:=w) .i64 rfl _ _ 22 rfl 3 (.int .i64 0) 8 Tryz.underlying22 Tryz.info3 rfl kS _ _ jk x.2 rfl rfl HO.out HN.out hp he ?_;intro v' w' hj hq)
     go_roundw
     case rel=>exact⟨k+1,kT,by go_num,by rw[HJ.out];exact hj,hq⟩
     case measure=>simp[intOf];omega
    ·obtain rfl:k=rows.length:=kT
     rw[List.take_length]at ha;go_wp2_with fail
     go_ret
     exact⟨_,rfl,ZF ha,he⟩
def changes (m:Mach):List Int:=makes m++YU m
theorem J8 (m:Mach) (h:m.args.length≤1000):(takes7 m).length≤1000:=by
 unfold takes7;repeat' split
 all_goals first | exact h | simp
theorem Kn (m:Mach):(makes7 m).length≤2:=by
 unfold makes7;repeat' split
 all_goals simp
theorem Zbt (m:Mach) (h:m.args.length≤1000):(takes m).length≤1000:=by
 unfold takes;repeat' split
 all_goals first | exact J8 m h | simp
theorem ZbX (m:Mach):(makes m).length≤2:=by
 unfold makes;repeat' split
 all_goals first | exact Kn m | simp
theorem KF.keep {w w':World} {v : Value} {rows:List (Value × List Int)} (h:KF w v rows) (s:Since w w'):KF w' v rows:=by
 obtain⟨b,off,cap,h1,h2,h3⟩:=h;exact⟨b,off,cap,h1,Nat.lt_of_lt_of_le h2 s.size,fun j x hj=>⟨by rw[s.cell h2];exact (h3 j x hj).1,(h3 j x hj).2.keep s⟩⟩
def Zz (l1 l2:List Int) (v:Value) (w:World):Prop:=∃ v1 v2,KF w v [(v1,l1),(v2,l2)]
theorem Zz.stable (l1 l2:List Int):ZM (Zz l1 l2):=fun _ _ _ ⟨v1,v2,h⟩ hs=>⟨v1,v2,h.keep hs⟩
theorem V5 {w : World} {b : Nat} (hb : b = w.heap.size) (t : TypeId) {v1 v2 : Value} {l1 l2 : List Int} (h1 : Zt .i64 w v1 l1) (h2 : Zt .i64 w v2 l2) : Zz l1 l2 (.slice (some ⟨b, 0, none⟩) 2 2) (w.alloc (.cells #[v1, v2] t)) := by
  subst hb
  refine ⟨v1, v2, w.heap.size, 0, 2, rfl, by simp, fun j x hj => ?_⟩
  have hs : Since w (w.alloc (.cells #[v1, v2] t)) := (Since.refl w).alloc _
  match j, hj with
  | 0, hj => obtain rfl : (v1, l1) = x := by simpa using hj
             exact ⟨by unfold World.cell?; rw [show (w.alloc (.cells #[v1, v2] t)).heap[w.heap.size]? = _ from ZV _ _]; rfl, h1.keep hs⟩
  | 1, hj => obtain rfl : (v2, l2) = x := by simpa using hj
             exact ⟨by unfold World.cell?; rw [show (w.alloc (.cells #[v1, v2] t)).heap[w.heap.size]? = _ from ZV _ _]; rfl, h2.keep hs⟩
  | j + 2, hj => simp at hj
theorem Zx {k : IntKind} {w : World} {a : Option Addr} {len cap:Nat} {l : List Int} (h:Zt k w (.slice a len cap) l):len=l.length∧(l≠[]→∃ b off,a=some ⟨b,off,none⟩∧b<w.heap.size∧∀ (j:Nat) (n:Int),l[j]? = some n→w.cell? ⟨b,off+j,none⟩=some (.int k n)):=by
 rcases h with ⟨_,h1,h2⟩|⟨b,off,cap',h1,_,_,hb,hc⟩
 ·cases h1;subst h2;exact⟨rfl,fun h=>absurd rfl h⟩
 ·cases h1;exact⟨rfl,fun _=>⟨b,off,rfl,hb,hc⟩⟩
def TellsS (p:Bool) (w:World) (e:Ending) (w':World):Prop:=e=.returned (.bool p)∧Since w w'
def X3 (op:Int):Bool:=op==24||op==25||op==28||op==26||op==27||op==17
def loadB (op:Int):Bool:=op==24||op==25
def Two (p q:Bool) (w:World) (e:Ending) (w':World):Prop:=e=.returned (.tuple #[.bool p,.bool q])∧w=w'
end Go.Proofs.YtimpddecdodddaaGreat
