import Derived.Test.YtmhojfpidedjeaaGreatDoorTp00
import Derived.Lib.ItoaNum
import Derived.Lib.ParseIntB
import Derived.Shelf.Strings.Builder1
import Derived.Shelf.Strings.BuilderF
import Derived.Shelf.Strconv.Itoa0
import Derived.Shelf.Strconv.Itoa1
import Derived.Shelf.LaysM
import Derived.Shelf.Strconv.Itoa2
import Derived.Shelf.Strconv.Itoa3
import Derived.Shelf.Strconv.ParseIntEmpty
import Derived.Shelf.Strconv.Clone
import Derived.Shelf.Strconv.SyntaxError
import Derived.Shelf.LaysC
import Derived.Shelf.Strconv.ToError
import Derived.Shelf.Strconv.Lower
import Derived.Shelf.Strconv.ParseUint10
import Derived.Shelf.Strconv.ParseUint10Empty
import Derived.Shelf.Strconv.ParseUint10Any
import Derived.Shelf.Strconv.ParseInt10
import Derived.Shelf.Strconv.RangeError
import Derived.Shelf.Strconv.ToErrorRange
import Derived.Shelf.Strconv.ParseUintEmpty
import Derived.Shelf.Strconv.ParseUint10b64
import Derived.Shelf.Strconv.ParseUint10b32
import Derived.Shelf.Strconv.ParseUint10b16
import Derived.Shelf.Strconv.ParseUint10b8
import Derived.Shelf.Strconv.ParseUint10At
import Derived.Shelf.Strconv.ParseInt10At64
import Derived.Shelf.Strconv.ParseInt10At32
import Derived.Shelf.Strconv.ParseInt10At16
import Derived.Shelf.Strconv.ParseInt10At8
import Derived.Shelf.Strconv.ParseInt10All
import Derived.Shelf.Strconv.ParseIntPublic10
import Derived.Shelf.Strconv.ErrVarParseInt
import Derived.Shelf.Strings.Search1
import Derived.Shelf.Strings.Search2
import Derived.Shelf.Strings.Search3
import Derived.Shelf.Strings.Cut
import Derived.Shelf.Strings.Count
import Derived.Shelf.Strings.Shaped
import Derived.Shelf.Strings.Split
import Derived.Shelf.Strings.Fields
import Derived.Shelf.Unicode.Latin
import Derived.Shelf.Unicode.DecodeSlow
import Derived.Shelf.Unicode.DecodeAny
import Derived.Shelf.Unicode.Is16White
import Derived.Shelf.Unicode.IsSpaceAny
import Derived.Shelf.Strings.FieldsFuncAny
import Derived.Shelf.Unicode.Is16Any
import Derived.Shelf.Unicode.Is32Any
import Derived.Shelf.Unicode.ExclAny
import Derived.Shelf.Slices.Turned
import Derived.Test.YtmhojfpidedjeaaGreatDoorProg
import Derived.Shelf.Unicode.PredsPay
namespace Go.Proofs.YtmhojfpidedjeaaGreatDoor
open Go.Lib
theorem Z6 {u : Nat} (h:u<10):decDigits u=[UInt8.ofNat (48+u)]:=by rw[decDigits,dif_pos h]
theorem YJ {u : Nat} (h:¬ u<10):decDigits u=decDigits (u / 10)++[UInt8.ofNat (48+u % 10)]:=by rw[decDigits,dif_neg h]
theorem Wq {d : Nat} (h:d<10):(UInt8.ofNat (48+d)).toNat=48+d:=by
 rw[UInt8.toNat_ofNat'];omega
theorem VP (u:Nat):decDigits u≠[]:=by
 by_cases h:u<10
 ·rw[Z6 h];simp
 ·rw[YJ h];simp
theorem Vl (u:Nat):∀ c∈decDigits u,48≤c.toNat∧c.toNat≤57:=by
 induction u using Nat.strongRecOn with
 | ind u ih =>
  intro c hc;by_cases h:u<10
  ·rw[Z6 h]at hc;obtain rfl:=List.mem_singleton.1 hc;rw[Wq h];omega
  ·rw[YJ h]at hc;rcases List.mem_append.1 hc with hc|hc
   ·exact ih (u / 10) (by omega) c hc
   ·obtain rfl:=List.mem_singleton.1 hc;rw[Wq (by omega)];omega
theorem Qw (M:Nat):∀ (l:List UInt8) (acc u:Nat) (c:UInt8),parseUintM M acc l=.ok u→parseUintM M acc (l++[c])=parseUintM M u [c]
 | [],acc,u,c,h=>by
  unfold parseUintM at h
  injection h with h
  rw[h];rfl
 | x::r,acc,u,c,h=>by
  rw[List.cons_append]
  unfold parseUintM at h ⊢
  by_cases h1:48≤x.toNat∧x.toNat≤57
  ·rw[if_pos h1]at h ⊢
   by_cases h2:1844674407370955162≤acc
   ·rw[if_pos h2]at h;cases h
   ·rw[if_neg h2]at h ⊢
    by_cases h3:M<acc*10+(x.toNat-48)
    ·rw[if_pos h3]at h;cases h
    ·rw[if_neg h3]at h ⊢
     exact Qw M r _ u c h
  ·rw[if_neg h1]at h;cases h
theorem JV (M:Nat) (hM:M<10000000000) (u:Nat):u≤M→parseUintM M 0 (decDigits u)=.ok u:=by
 induction u using Nat.strongRecOn with
 | ind u ih =>
  intro hu;by_cases h:u<10
  ·rw[Z6 h];unfold parseUintM;rw[Wq h,if_pos (by omega),if_neg (by omega),if_neg (by omega)];unfold parseUintM;congr 1;omega
  ·rw[YJ h,Qw M _ _ _ _ (ih (u / 10) (by omega) (by omega))];unfold parseUintM;rw[Wq (by omega),if_pos (by omega),if_neg (by omega),if_neg (by omega)];unfold parseUintM;congr 1;omega
def In32W (n:Int):Prop:=-2147483648≤n∧n≤2147483647
theorem XX {n : Int} (h:n<0):itoa n=45::decDigits n.natAbs:=by unfold itoa;rw[if_pos h]
theorem XB {n : Int} (h:¬ n<0):itoa n=decDigits n.toNat:=by unfold itoa;rw[if_neg h]
theorem Zdg {n : Int} (h:In32W n):parseIntB 32 (itoa n)=.ok n:=by
 obtain⟨h1,h2⟩:=h;by_cases hn:n<0
 ·rw[XX hn];have e:parseUintB 32 (decDigits n.natAbs)=.ok n.natAbs:=by
   unfold parseUintB;rw[if_neg (VP _)];exact JV _ (by decide) _ (by omega)
  unfold parseIntB;have hb:(45:UInt8).toNat=45:=rfl;dsimp only;rw[hb,if_pos (.inr rfl),e];dsimp only;rw[if_neg (by simp),if_neg (by omega),if_pos rfl];congr 1;omega
 ·rw[XB hn];have e:parseUintB 32 (decDigits n.toNat)=.ok n.toNat:=by
   unfold parseUintB;rw[if_neg (VP _)];exact JV _ (by decide) _ (by omega)
  have ha:=Vl n.toNat;generalize decDigits n.toNat=l at *
  cases l with
  | nil=>cases e
  | cons c r =>
   have hc:=ha c List.mem_cons_self;unfold parseIntB;dsimp only;rw[if_neg (by omega),e];dsimp only;rw[if_neg (by omega),if_neg (by omega),if_neg (by omega)];congr 1;omega
def Z0 (l:List UInt8):Option Int:=match parseIntB 32 l with
 | .ok v=>if itoa v=l then some v else none
 | _=>none
theorem Zcb {n : Int} (h:In32W n):Z0 (itoa n)=some n:=by
 unfold Z0;rw[Zdg h];dsimp only;rw[if_pos rfl]
theorem Kv {l : List UInt8} {v : Int} (h:Z0 l=some v):itoa v=l:=by
 unfold Z0 at h;split at h
 ·split at h
  ·rename_i h2;injection h with h;subst h;exact h2
  ·cases h
 ·cases h
theorem Zfd {l : List UInt8} {v : Int} (hx:parseIntB 32 l=.ok v):In32W v:=by
 unfold parseIntB at hx;split at hx
 ·cases hx
 ·dsimp only at hx;split at hx
  ·cases hx
  ·cases hx
  ·split at hx
   ·cases hx
   ·split at hx
    ·cases hx
    ·injection hx with hx
     subst hx;unfold In32W;split<;>omega
theorem JR {l : List UInt8} {v : Int} (h:Z0 l=some v):In32W v:=by
 unfold Z0 at h;split at h
 ·rename_i x hx
  split at h
  ·injection h with h
   subst h;unfold parseIntB at hx;split at hx
   ·cases hx
   ·dsimp only at hx;split at hx
    ·cases hx
    ·cases hx
    ·split at hx
     ·cases hx
     ·split at hx
      ·cases hx
      ·injection hx with hx
       subst hx;unfold In32W;split<;>omega
  ·cases h
 ·cases h
end Go.Proofs.YtmhojfpidedjeaaGreatDoor
namespace Go.Proofs
open Go.Shelf
open Go.Lib
open Go.RowKit Go.Lib
open Go.RowKit Go.Lib
open Go.RowKit Go.Sort Go.Lib
def Tryz.laysM171_ren:Go.Shelf.Ren:=⟨fun | 171=>23 | 243=>46 | 246=>84 | 283=>109 | 284=>110 | 285=>111 | 286=>112 | 129=>125 | 317=>124 | 318=>126 | 319=>127 | 320=>128 | 337=>138 | 338=>139 | n=>n,fun | 3=>3 | 9=>9 | 2=>2 | 4=>4 | 171=>172 | 0=>0 | 53=>111 | 37=>63 | 5=>5 | 173=>175 | 212=>192 | 51=>177 | 20=>20 | 213=>193 | 46=>195 | 232=>222 | 233=>223 | n=>n,fun | 17=>2 | 18=>4 | 19=>5 | n=>n⟩
theorem Tryz.laysM171:Go.Proofs.LaysM.n171 Tryz.prog Tryz.laysM171_ren:={
 mixed:=by kernel_rfl
 f129:=Tryz.func125.trans (congrArg some (by kernel_rfl))
 f171:=Tryz.func23.trans (congrArg some (by kernel_rfl))
 f243:=Tryz.func46.trans (congrArg some (by kernel_rfl))
 f246:=Tryz.func84.trans (congrArg some (by kernel_rfl))
 f283:=Tryz.func109.trans (congrArg some (by kernel_rfl))
 f284:=Tryz.func110.trans (congrArg some (by kernel_rfl))
 f285:=Tryz.func111.trans (congrArg some (by kernel_rfl))
 f286:=Tryz.func112.trans (congrArg some (by kernel_rfl))
 f317:=Tryz.func124.trans (congrArg some (by kernel_rfl))
 f318:=Tryz.func126.trans (congrArg some (by kernel_rfl))
 f319:=Tryz.func127.trans (congrArg some (by kernel_rfl))
 f320:=Tryz.func128.trans (congrArg some (by kernel_rfl))
 f337:=Tryz.func138.trans (congrArg some (by kernel_rfl))
 f338:=Tryz.func139.trans (congrArg some (by kernel_rfl))
 t0:=Tryz.underlying0
 a0:=Tryz.isAgg0
 z0:=Tryz.sizeOf0
 v0:=Tryz.zeroValue0
 t2:=Tryz.underlying2
 a2:=Tryz.isAgg2
 z2:=Tryz.sizeOf2
 v2:=Tryz.zeroValue2
 t3:=Tryz.underlying3
 a3:=Tryz.isAgg3
 z3:=Tryz.sizeOf3
 v3:=Tryz.zeroValue3
 t4:=Tryz.underlying4
 a4:=Tryz.isAgg4
 z4:=Tryz.sizeOf4
 v4:=Tryz.zeroValue4
 t5:=Tryz.underlying5
 a5:=Tryz.isAgg5
 z5:=Tryz.sizeOf5
 v5:=Tryz.zeroValue5
 t9:=Tryz.underlying9
 a9:=Tryz.isAgg9
 z9:=Tryz.sizeOf9
 v9:=Tryz.zeroValue9
 t20:=Tryz.underlying20
 a20:=Tryz.isAgg20
 z20:=Tryz.sizeOf20
 v20:=Tryz.zeroValue20
 t37:=Tryz.underlying63
 a37:=Tryz.isAgg63
 z37:=Tryz.sizeOf63
 v37:=Tryz.zeroValue63
 t46:=Tryz.underlying195
 a46:=Tryz.isAgg195
 z46:=Tryz.sizeOf195
 v46:=Tryz.zeroValue195
 t51:=Tryz.underlying177
 a51:=Tryz.isAgg177
 z51:=Tryz.sizeOf177
 v51:=Tryz.zeroValue177
 t53:=Tryz.underlying111
 a53:=Tryz.isAgg111
 z53:=Tryz.sizeOf111
 v53:=Tryz.zeroValue111
 t171:=Tryz.underlying172
 a171:=Tryz.isAgg172
 z171:=Tryz.sizeOf172
 v171:=Tryz.zeroValue172
 t173:=Tryz.underlying175
 a173:=Tryz.isAgg175
 z173:=Tryz.sizeOf175
 v173:=Tryz.zeroValue175
 t212:=Tryz.underlying192
 a212:=Tryz.isAgg192
 z212:=Tryz.sizeOf192
 v212:=Tryz.zeroValue192
 t213:=Tryz.underlying193
 a213:=Tryz.isAgg193
 z213:=Tryz.sizeOf193
 t232:=Tryz.underlying222
 a232:=Tryz.isAgg222
 z232:=Tryz.sizeOf222
 v232:=Tryz.zeroValue222
 t233:=Tryz.underlying223
 a233:=Tryz.isAgg223
 z233:=Tryz.sizeOf223
 v233:=Tryz.zeroValue223
 g17:=by kernel_rfl
 g18:=by kernel_rfl
 g19:=by kernel_rfl
 i0:=by kernel_rfl
 i2:=by kernel_rfl
 i3:=by kernel_rfl
 i4:=by kernel_rfl
 i5:=by kernel_rfl
 i9:=by kernel_rfl
 i20:=by kernel_rfl
 i37:=by kernel_rfl
 i46:=by kernel_rfl
 i51:=by kernel_rfl
 i53:=by kernel_rfl
 i171:=by kernel_rfl
 i173:=by kernel_rfl
 i212:=by kernel_rfl
 i232:=by kernel_rfl
 i233:=by kernel_rfl
 m17:=by kernel_rfl
 m18:=by kernel_rfl
 m19:=by kernel_rfl }
theorem Tryz.strconv_Itoa (n : Int) (h0 : -9223372036854775808 ≤ n) (h1 : n ≤ 9223372036854775807) (w : World) (ha : Lib.TabIs Tryz.prog w "internal/strconv.uint64pow10" .u64 Lib.pow10Tab) :
  Calls Tryz.prog 23 #[.int .i64 n] w fun e w'=>e=.returned (.string ⟨(Lib.itoa n).toArray⟩)∧∃ k os,w'=grow (w.drewN k) os:=Any.strconv_Itoa Tryz.laysM171 n h0 h1 w ha
def Tryz.laysC174_ren:Go.Shelf.Ren:=⟨fun | 174=>120 | 247=>136 | 245=>137 | 287=>143 | 279=>144 | 280=>145 | 281=>146 | 282=>147 | 321=>148 | 322=>149 | 316=>150 | 171=>23 | 205=>151 | 243=>46 | 246=>84 | 283=>109 | 284=>110 | 285=>111 | 286=>112 | 129=>125 | 317=>124 | 318=>126 | 319=>127 | 320=>128 | 337=>138 | 338=>139 | n=>n,fun | 9=>9 | 3=>3 | 2=>2 | 75=>104 | 85=>187 | 4=>4 | 167=>216 | 5=>5 | 53=>111 | 175=>217 | 46=>195 | 168=>219 | 37=>63 | 0=>0 | 210=>230 | 21=>21 | 127=>110 | 145=>234 | 143=>232 | 171=>172 | 173=>175 | 212=>192 | 51=>177 | 20=>20 | 213=>193 | 232=>222 | 233=>223 | 80=>75 | n=>n,fun | 15=>8 | 16=>9 | 17=>2 | 18=>4 | 19=>5 | n=>n⟩
theorem Tryz.laysC174:Go.Proofs.LaysC.n174 Tryz.prog Tryz.laysC174_ren:={
 mixed:=by kernel_rfl
 f129:=Tryz.func125.trans (congrArg some (by kernel_rfl))
 f171:=Tryz.func23.trans (congrArg some (by kernel_rfl))
 f174:=Tryz.func120.trans (congrArg some (by kernel_rfl))
 f205:=Tryz.func151.trans (congrArg some (by kernel_rfl))
 f243:=Tryz.func46.trans (congrArg some (by kernel_rfl))
 f245:=Tryz.func137.trans (congrArg some (by kernel_rfl))
 f246:=Tryz.func84.trans (congrArg some (by kernel_rfl))
 f247:=Tryz.func136.trans (congrArg some (by kernel_rfl))
 f279:=Tryz.func144.trans (congrArg some (by kernel_rfl))
 f280:=Tryz.func145.trans (congrArg some (by kernel_rfl))
 f281:=Tryz.func146.trans (congrArg some (by kernel_rfl))
 f282:=Tryz.func147.trans (congrArg some (by kernel_rfl))
 f283:=Tryz.func109.trans (congrArg some (by kernel_rfl))
 f284:=Tryz.func110.trans (congrArg some (by kernel_rfl))
 f285:=Tryz.func111.trans (congrArg some (by kernel_rfl))
 f286:=Tryz.func112.trans (congrArg some (by kernel_rfl))
 f287:=Tryz.func143.trans (congrArg some (by kernel_rfl))
 f316:=Tryz.func150.trans (congrArg some (by kernel_rfl))
 f317:=Tryz.func124.trans (congrArg some (by kernel_rfl))
 f318:=Tryz.func126.trans (congrArg some (by kernel_rfl))
 f319:=Tryz.func127.trans (congrArg some (by kernel_rfl))
 f320:=Tryz.func128.trans (congrArg some (by kernel_rfl))
 f321:=Tryz.func148.trans (congrArg some (by kernel_rfl))
 f322:=Tryz.func149.trans (congrArg some (by kernel_rfl))
 f337:=Tryz.func138.trans (congrArg some (by kernel_rfl))
 f338:=Tryz.func139.trans (congrArg some (by kernel_rfl))
 t0:=Tryz.underlying0
 a0:=Tryz.isAgg0
 z0:=Tryz.sizeOf0
 v0:=Tryz.zeroValue0
 t2:=Tryz.underlying2
 a2:=Tryz.isAgg2
 z2:=Tryz.sizeOf2
 v2:=Tryz.zeroValue2
 t3:=Tryz.underlying3
 a3:=Tryz.isAgg3
 z3:=Tryz.sizeOf3
 v3:=Tryz.zeroValue3
 t4:=Tryz.underlying4
 a4:=Tryz.isAgg4
 z4:=Tryz.sizeOf4
 v4:=Tryz.zeroValue4
 t5:=Tryz.underlying5
 a5:=Tryz.isAgg5
 z5:=Tryz.sizeOf5
 v5:=Tryz.zeroValue5
 t9:=Tryz.underlying9
 a9:=Tryz.isAgg9
 z9:=Tryz.sizeOf9
 v9:=Tryz.zeroValue9
 t20:=Tryz.underlying20
 a20:=Tryz.isAgg20
 z20:=Tryz.sizeOf20
 v20:=Tryz.zeroValue20
 t21:=Tryz.underlying21
 a21:=Tryz.isAgg21
 z21:=Tryz.sizeOf21
 v21:=Tryz.zeroValue21
 t37:=Tryz.underlying63
 a37:=Tryz.isAgg63
 z37:=Tryz.sizeOf63
 v37:=Tryz.zeroValue63
 t46:=Tryz.underlying195
 a46:=Tryz.isAgg195
 z46:=Tryz.sizeOf195
 v46:=Tryz.zeroValue195
 t51:=Tryz.underlying177
 a51:=Tryz.isAgg177
 z51:=Tryz.sizeOf177
 v51:=Tryz.zeroValue177
 t53:=Tryz.underlying111
 a53:=Tryz.isAgg111
 z53:=Tryz.sizeOf111
 v53:=Tryz.zeroValue111
 t75:=Tryz.underlying104
 a75:=Tryz.isAgg104
 z75:=Tryz.sizeOf104
 v75:=Tryz.zeroValue104
 t85:=Tryz.underlying187
 a85:=Tryz.isAgg187
 z85:=Tryz.sizeOf187
 v85:=Tryz.zeroValue187
 t127:=Tryz.underlying110
 a127:=Tryz.isAgg110
 z127:=Tryz.sizeOf110
 v127:=Tryz.zeroValue110
 t143:=Tryz.underlying232
 a143:=Tryz.isAgg232
 z143:=Tryz.sizeOf232
 v143:=Tryz.zeroValue232
 t145:=Tryz.underlying234
 a145:=Tryz.isAgg234
 z145:=Tryz.sizeOf234
 v145:=Tryz.zeroValue234
 t167:=Tryz.underlying216
 a167:=Tryz.isAgg216
 z167:=Tryz.sizeOf216
 v167:=Tryz.zeroValue216
 t168:=Tryz.underlying219
 a168:=Tryz.isAgg219
 z168:=Tryz.sizeOf219
 v168:=Tryz.zeroValue219
 t171:=Tryz.underlying172
 a171:=Tryz.isAgg172
 z171:=Tryz.sizeOf172
 v171:=Tryz.zeroValue172
 t173:=Tryz.underlying175
 a173:=Tryz.isAgg175
 z173:=Tryz.sizeOf175
 v173:=Tryz.zeroValue175
 t175:=Tryz.underlying217
 a175:=Tryz.isAgg217
 z175:=Tryz.sizeOf217
 v175:=Tryz.zeroValue217
 t210:=Tryz.underlying230
 a210:=Tryz.isAgg230
 z210:=Tryz.sizeOf230
 v210:=Tryz.zeroValue230
 t212:=Tryz.underlying192
 a212:=Tryz.isAgg192
 z212:=Tryz.sizeOf192
 v212:=Tryz.zeroValue192
 t213:=Tryz.underlying193
 a213:=Tryz.isAgg193
 z213:=Tryz.sizeOf193
 t232:=Tryz.underlying222
 a232:=Tryz.isAgg222
 z232:=Tryz.sizeOf222
 v232:=Tryz.zeroValue222
 t233:=Tryz.underlying223
 a233:=Tryz.isAgg223
 z233:=Tryz.sizeOf223
 v233:=Tryz.zeroValue223
 g15:=by kernel_rfl
 g16:=by kernel_rfl
 g17:=by kernel_rfl
 g18:=by kernel_rfl
 g19:=by kernel_rfl
 t80:=Tryz.underlying75
 a80:=Tryz.isAgg75
 z80:=Tryz.sizeOf75
 v80:=Tryz.zeroValue75
 i0:=by kernel_rfl
 i2:=by kernel_rfl
 i3:=by kernel_rfl
 i4:=by kernel_rfl
 i5:=by kernel_rfl
 i9:=by kernel_rfl
 i20:=by kernel_rfl
 i21:=by kernel_rfl
 i37:=by kernel_rfl
 i46:=by kernel_rfl
 i51:=by kernel_rfl
 i53:=by kernel_rfl
 i75:=by kernel_rfl
 i80:=by kernel_rfl
 i85:=by kernel_rfl
 i127:=by kernel_rfl
 i143:=by kernel_rfl
 i145:=by kernel_rfl
 i167:=by kernel_rfl
 i168:=by kernel_rfl
 i171:=by kernel_rfl
 i173:=by kernel_rfl
 i175:=by kernel_rfl
 i210:=by kernel_rfl
 i212:=by kernel_rfl
 i232:=by kernel_rfl
 i233:=by kernel_rfl
 m15:=by kernel_rfl
 m16:=by kernel_rfl
 m17:=by kernel_rfl
 m18:=by kernel_rfl
 m19:=by kernel_rfl
 c0:=by kernel_rfl
 c2:=by kernel_rfl
 c3:=by kernel_rfl
 c4:=by kernel_rfl
 c5:=by kernel_rfl
 c9:=by kernel_rfl
 c20:=by kernel_rfl
 c21:=by kernel_rfl
 c37:=by kernel_rfl
 c46:=by kernel_rfl
 c51:=by kernel_rfl
 c53:=by kernel_rfl
 c75:=by kernel_rfl
 c80:=by kernel_rfl
 c85:=by kernel_rfl
 c127:=by kernel_rfl
 c143:=by kernel_rfl
 c145:=by kernel_rfl
 c167:=by kernel_rfl
 c168:=by kernel_rfl
 c171:=by kernel_rfl
 c173:=by kernel_rfl
 c175:=by kernel_rfl
 c210:=by kernel_rfl
 c212:=by kernel_rfl
 c213:=by kernel_rfl
 c232:=by kernel_rfl
 c233:=by kernel_rfl }
theorem Tryz.strconv_ParseInt_10_at32_ok (s:ByteArray) (ha:s.size≤9223372036854775806) (v:Int) (h:Lib.parseIntB 32 s.data.toList=.ok v) (w:World) :
  Calls Tryz.prog 120 #[.string s,.int .i64 10,.int .i64 32] w fun e w'=>e=.returned (.tuple #[.int .i64 v,.nilIface])∧(w'=w∨∃ t,w'=Lib.bytesWorld w 5 t):=Any.strconv_ParseInt_10_at32_ok Tryz.laysC174 s ha v h w
def Tryz.lays145_ren:Go.Shelf.Ren:=⟨fun | 145=>68 | 220=>101 | 219=>119 | 217=>132 | 225=>133 | 224=>134 | 267=>135 | 266=>141 | 314=>142 | n=>n,fun | 9=>9 | 4=>4 | 59=>138 | 3=>3 | 5=>5 | 46=>195 | 146=>214 | 51=>177 | n=>n,fun | 1=>3 | n=>n⟩
theorem Tryz.lays145:Go.Proofs.Lays.n145 Tryz.prog Tryz.lays145_ren:={
 mixed:=by kernel_rfl
 f145:=Tryz.func68.trans (congrArg some (by kernel_rfl))
 f217:=Tryz.func132.trans (congrArg some (by kernel_rfl))
 f219:=Tryz.func119.trans (congrArg some (by kernel_rfl))
 f220:=Tryz.func101.trans (congrArg some (by kernel_rfl))
 f224:=Tryz.func134.trans (congrArg some (by kernel_rfl))
 f225:=Tryz.func133.trans (congrArg some (by kernel_rfl))
 f266:=Tryz.func141.trans (congrArg some (by kernel_rfl))
 f267:=Tryz.func135.trans (congrArg some (by kernel_rfl))
 f314:=Tryz.func142.trans (congrArg some (by kernel_rfl))
 t3:=Tryz.underlying3
 a3:=Tryz.isAgg3
 z3:=Tryz.sizeOf3
 v3:=Tryz.zeroValue3
 t4:=Tryz.underlying4
 a4:=Tryz.isAgg4
 z4:=Tryz.sizeOf4
 v4:=Tryz.zeroValue4
 t5:=Tryz.underlying5
 a5:=Tryz.isAgg5
 z5:=Tryz.sizeOf5
 v5:=Tryz.zeroValue5
 t9:=Tryz.underlying9
 a9:=Tryz.isAgg9
 z9:=Tryz.sizeOf9
 v9:=Tryz.zeroValue9
 t46:=Tryz.underlying195
 a46:=Tryz.isAgg195
 z46:=Tryz.sizeOf195
 v46:=Tryz.zeroValue195
 t51:=Tryz.underlying177
 a51:=Tryz.isAgg177
 z51:=Tryz.sizeOf177
 v51:=Tryz.zeroValue177
 t59:=Tryz.underlying138
 a59:=Tryz.isAgg138
 z59:=Tryz.sizeOf138
 v59:=Tryz.zeroValue138
 t146:=Tryz.underlying214
 a146:=Tryz.isAgg214
 z146:=Tryz.sizeOf214
 v146:=Tryz.zeroValue214
 g1:=by kernel_rfl }
theorem Tryz.strings_Cut (s sep:ByteArray) (m:Int) (w:World) (hs:s.size<4294967281) (hm:w.cell? ⟨3,0,none⟩=some (.int .i64 m)) :
  Calls Tryz.prog 68 #[.string s,.string sep] w fun e w'=>e=.returned (.tuple #[.string ⟨(Lib.cut s.data.toList sep.data.toList).1.toArray⟩,.string ⟨(Lib.cut s.data.toList sep.data.toList).2.1.toArray⟩,.bool (Lib.cut s.data.toList sep.data.toList).2.2])∧∃ n,w'=w.drewN n:=Any.strings_Cut Tryz.lays145 s sep m w hs hm
def Tryz.lays138_ren:Go.Shelf.Ren:=⟨fun | 138=>104 | 195=>121 | 218=>122 | 143=>118 | 219=>119 | 217=>132 | 225=>133 | 224=>134 | 267=>135 | 266=>141 | 314=>142 | n=>n,fun | 9=>9 | 3=>3 | 4=>4 | 5=>5 | 0=>0 | 46=>195 | 146=>214 | 51=>177 | n=>n,fun | 1=>3 | n=>n⟩
theorem Tryz.lays138:Go.Proofs.Lays.n138 Tryz.prog Tryz.lays138_ren:={
 mixed:=by kernel_rfl
 f138:=Tryz.func104.trans (congrArg some (by kernel_rfl))
 f143:=Tryz.func118.trans (congrArg some (by kernel_rfl))
 f195:=Tryz.func121.trans (congrArg some (by kernel_rfl))
 f217:=Tryz.func132.trans (congrArg some (by kernel_rfl))
 f218:=Tryz.func122.trans (congrArg some (by kernel_rfl))
 f219:=Tryz.func119.trans (congrArg some (by kernel_rfl))
 f224:=Tryz.func134.trans (congrArg some (by kernel_rfl))
 f225:=Tryz.func133.trans (congrArg some (by kernel_rfl))
 f266:=Tryz.func141.trans (congrArg some (by kernel_rfl))
 f267:=Tryz.func135.trans (congrArg some (by kernel_rfl))
 f314:=Tryz.func142.trans (congrArg some (by kernel_rfl))
 t0:=Tryz.underlying0
 a0:=Tryz.isAgg0
 z0:=Tryz.sizeOf0
 v0:=Tryz.zeroValue0
 t3:=Tryz.underlying3
 a3:=Tryz.isAgg3
 z3:=Tryz.sizeOf3
 v3:=Tryz.zeroValue3
 t4:=Tryz.underlying4
 a4:=Tryz.isAgg4
 z4:=Tryz.sizeOf4
 v4:=Tryz.zeroValue4
 t5:=Tryz.underlying5
 a5:=Tryz.isAgg5
 z5:=Tryz.sizeOf5
 v5:=Tryz.zeroValue5
 t9:=Tryz.underlying9
 a9:=Tryz.isAgg9
 z9:=Tryz.sizeOf9
 v9:=Tryz.zeroValue9
 t46:=Tryz.underlying195
 a46:=Tryz.isAgg195
 z46:=Tryz.sizeOf195
 v46:=Tryz.zeroValue195
 t51:=Tryz.underlying177
 a51:=Tryz.isAgg177
 z51:=Tryz.sizeOf177
 v51:=Tryz.zeroValue177
 t146:=Tryz.underlying214
 a146:=Tryz.isAgg214
 z146:=Tryz.sizeOf214
 v146:=Tryz.zeroValue214
 g1:=by kernel_rfl }
theorem Tryz.strings_Count_one (s:ByteArray) (c:UInt8) (w:World) :
  Calls Tryz.prog 104 #[.string s,.string ⟨#[c]⟩] w fun e w'=>e=.returned (.int .i64 (Lib.countByte s.data.toList c))∧w'=w:=Any.strings_Count_one Tryz.lays138 s c w
def Tryz.lays146_ren:Go.Shelf.Ren:=⟨fun | 146=>67 | 221=>100 | 268=>117 | 138=>104 | 143=>118 | 195=>121 | 197=>131 | 218=>122 | 219=>119 | 260=>140 | 217=>132 | 225=>133 | 224=>134 | 267=>135 | 266=>141 | 314=>142 | n=>n,fun | 9=>9 | 31=>89 | 3=>3 | 4=>4 | 0=>0 | 105=>208 | 21=>21 | 5=>5 | 46=>195 | 119=>149 | 139=>226 | 138=>225 | 146=>214 | 51=>177 | n=>n,fun | 1=>3 | 3=>6 | 4=>7 | n=>n⟩
theorem Tryz.lays146:Go.Proofs.Lays.n146 Tryz.prog Tryz.lays146_ren:={
 mixed:=by kernel_rfl
 f138:=Tryz.func104.trans (congrArg some (by kernel_rfl))
 f143:=Tryz.func118.trans (congrArg some (by kernel_rfl))
 f146:=Tryz.func67.trans (congrArg some (by kernel_rfl))
 f195:=Tryz.func121.trans (congrArg some (by kernel_rfl))
 f197:=Tryz.func131.trans (congrArg some (by kernel_rfl))
 f217:=Tryz.func132.trans (congrArg some (by kernel_rfl))
 f218:=Tryz.func122.trans (congrArg some (by kernel_rfl))
 f219:=Tryz.func119.trans (congrArg some (by kernel_rfl))
 f221:=Tryz.func100.trans (congrArg some (by kernel_rfl))
 f224:=Tryz.func134.trans (congrArg some (by kernel_rfl))
 f225:=Tryz.func133.trans (congrArg some (by kernel_rfl))
 f260:=Tryz.func140.trans (congrArg some (by kernel_rfl))
 f266:=Tryz.func141.trans (congrArg some (by kernel_rfl))
 f267:=Tryz.func135.trans (congrArg some (by kernel_rfl))
 f268:=Tryz.func117.trans (congrArg some (by kernel_rfl))
 f314:=Tryz.func142.trans (congrArg some (by kernel_rfl))
 t0:=Tryz.underlying0
 a0:=Tryz.isAgg0
 z0:=Tryz.sizeOf0
 v0:=Tryz.zeroValue0
 t3:=Tryz.underlying3
 a3:=Tryz.isAgg3
 z3:=Tryz.sizeOf3
 v3:=Tryz.zeroValue3
 t4:=Tryz.underlying4
 a4:=Tryz.isAgg4
 z4:=Tryz.sizeOf4
 v4:=Tryz.zeroValue4
 t5:=Tryz.underlying5
 a5:=Tryz.isAgg5
 z5:=Tryz.sizeOf5
 v5:=Tryz.zeroValue5
 t9:=Tryz.underlying9
 a9:=Tryz.isAgg9
 z9:=Tryz.sizeOf9
 v9:=Tryz.zeroValue9
 t21:=Tryz.underlying21
 a21:=Tryz.isAgg21
 z21:=Tryz.sizeOf21
 v21:=Tryz.zeroValue21
 t31:=Tryz.underlying89
 a31:=Tryz.isAgg89
 z31:=Tryz.sizeOf89
 v31:=Tryz.zeroValue89
 t46:=Tryz.underlying195
 a46:=Tryz.isAgg195
 z46:=Tryz.sizeOf195
 v46:=Tryz.zeroValue195
 t51:=Tryz.underlying177
 a51:=Tryz.isAgg177
 z51:=Tryz.sizeOf177
 v51:=Tryz.zeroValue177
 t105:=Tryz.underlying208
 a105:=Tryz.isAgg208
 z105:=Tryz.sizeOf208
 v105:=Tryz.zeroValue208
 t119:=Tryz.underlying149
 a119:=Tryz.isAgg149
 z119:=Tryz.sizeOf149
 t138:=Tryz.underlying225
 a138:=Tryz.isAgg225
 z138:=Tryz.sizeOf225
 v138:=Tryz.zeroValue225
 t139:=Tryz.underlying226
 a139:=Tryz.isAgg226
 z139:=Tryz.sizeOf226
 v139:=Tryz.zeroValue226
 t146:=Tryz.underlying214
 a146:=Tryz.isAgg214
 z146:=Tryz.sizeOf214
 v146:=Tryz.zeroValue214
 g1:=by kernel_rfl
 g3:=by kernel_rfl
 g4:=by kernel_rfl }
theorem Tryz.strings_Split (s sep:ByteArray) (m:Int) (w:World) (hs:s.size<4294967281) (hm:w.cell? ⟨3,0,none⟩=some (.int .i64 m)) (h1:1≤sep.size) :
  Calls Tryz.prog 67 #[.string s,.string sep] w fun e w' =>
   e=.returned (.slice (some ⟨w.heap.size,0,none⟩) (Lib.countB s sep+1) (Lib.countB s sep+1))∧w'=w.alloc (.cells ((Lib.splitB sep 0 (Lib.countB s sep) s).map Value.string).toArray 9):=Any.strings_Split Tryz.lays146 (by kernel_rfl) s sep m w hs hm h1
def Tryz.lays157_ren:Go.Shelf.Ren:=⟨fun | 157=>48 | 229=>69 | 199=>85 | 261=>113 | 311=>129 | 312=>130 | n=>n,fun | 9=>9 | 31=>89 | 3=>3 | 5=>5 | 4=>4 | 119=>149 | 0=>0 | 40=>141 | 152=>160 | 21=>21 | 154=>162 | 51=>177 | 141=>179 | 196=>200 | 193=>197 | 198=>203 | 49=>201 | 194=>198 | 201=>206 | 226=>212 | 46=>195 | 227=>213 | n=>n,fun | 0=>0 | 6=>1 | n=>n⟩
theorem Tryz.lays157:Go.Proofs.Lays.n157 Tryz.prog Tryz.lays157_ren:={
 mixed:=by kernel_rfl
 f157:=Tryz.func48.trans (congrArg some (by kernel_rfl))
 f199:=Tryz.func85.trans (congrArg some (by kernel_rfl))
 f229:=Tryz.func69.trans (congrArg some (by kernel_rfl))
 f261:=Tryz.func113.trans (congrArg some (by kernel_rfl))
 f311:=Tryz.func129.trans (congrArg some (by kernel_rfl))
 f312:=Tryz.func130.trans (congrArg some (by kernel_rfl))
 t0:=Tryz.underlying0
 a0:=Tryz.isAgg0
 z0:=Tryz.sizeOf0
 v0:=Tryz.zeroValue0
 t3:=Tryz.underlying3
 a3:=Tryz.isAgg3
 z3:=Tryz.sizeOf3
 v3:=Tryz.zeroValue3
 t4:=Tryz.underlying4
 a4:=Tryz.isAgg4
 z4:=Tryz.sizeOf4
 v4:=Tryz.zeroValue4
 t5:=Tryz.underlying5
 a5:=Tryz.isAgg5
 z5:=Tryz.sizeOf5
 v5:=Tryz.zeroValue5
 t9:=Tryz.underlying9
 a9:=Tryz.isAgg9
 z9:=Tryz.sizeOf9
 v9:=Tryz.zeroValue9
 t21:=Tryz.underlying21
 a21:=Tryz.isAgg21
 z21:=Tryz.sizeOf21
 v21:=Tryz.zeroValue21
 t31:=Tryz.underlying89
 a31:=Tryz.isAgg89
 z31:=Tryz.sizeOf89
 v31:=Tryz.zeroValue89
 t40:=Tryz.underlying141
 a40:=Tryz.isAgg141
 z40:=Tryz.sizeOf141
 v40:=Tryz.zeroValue141
 t46:=Tryz.underlying195
 a46:=Tryz.isAgg195
 z46:=Tryz.sizeOf195
 v46:=Tryz.zeroValue195
 t49:=Tryz.underlying201
 a49:=Tryz.isAgg201
 z49:=Tryz.sizeOf201
 v49:=Tryz.zeroValue201
 t51:=Tryz.underlying177
 a51:=Tryz.isAgg177
 z51:=Tryz.sizeOf177
 v51:=Tryz.zeroValue177
 t119:=Tryz.underlying149
 a119:=Tryz.isAgg149
 z119:=Tryz.sizeOf149
 t141:=Tryz.underlying179
 a141:=Tryz.isAgg179
 z141:=Tryz.sizeOf179
 v141:=Tryz.zeroValue179
 t152:=Tryz.underlying160
 a152:=Tryz.isAgg160
 z152:=Tryz.sizeOf160
 v152:=Tryz.zeroValue160
 t154:=Tryz.underlying162
 a154:=Tryz.isAgg162
 z154:=Tryz.sizeOf162
 v154:=Tryz.zeroValue162
 t193:=Tryz.underlying197
 a193:=Tryz.isAgg197
 z193:=Tryz.sizeOf197
 v193:=Tryz.zeroValue197
 t194:=Tryz.underlying198
 a194:=Tryz.isAgg198
 z194:=Tryz.sizeOf198
 v194:=Tryz.zeroValue198
 t196:=Tryz.underlying200
 a196:=Tryz.isAgg200
 z196:=Tryz.sizeOf200
 v196:=Tryz.zeroValue200
 t198:=Tryz.underlying203
 a198:=Tryz.isAgg203
 z198:=Tryz.sizeOf203
 v198:=Tryz.zeroValue203
 t201:=Tryz.underlying206
 a201:=Tryz.isAgg206
 z201:=Tryz.sizeOf206
 v201:=Tryz.zeroValue206
 t226:=Tryz.underlying212
 a226:=Tryz.isAgg212
 z226:=Tryz.sizeOf212
 v226:=Tryz.zeroValue212
 t227:=Tryz.underlying213
 a227:=Tryz.isAgg213
 z227:=Tryz.sizeOf213
 v227:=Tryz.zeroValue213
 g0:=by kernel_rfl
 g6:=by kernel_rfl }
theorem Tryz.strings_Fields (s : ByteArray) (w : World) (hs : s.size < 4294967281) (ha : ∀ (j : Nat) b, s.data.toList[j]? = some b → b.toNat < 128) (hb : Lib.TabIs Tryz.prog w "strings.asciiSpace" .u8 Lib.asciiSpaceTab) :
  Calls Tryz.prog 48 #[.string s] w fun e w' =>
   e=.returned (.slice (some ⟨w.heap.size,0,none⟩) (Lib.fields s.data.toList).length (Lib.fields s.data.toList).length)∧w'=w.alloc (.cells ((Lib.fields s.data.toList).map fun l=>Value.string ⟨l.toArray⟩).toArray 9):=Any.strings_Fields Tryz.lays157 (by kernel_rfl) (by kernel_rfl) s w hs ha hb
def Tryz.lays229_ren:Go.Shelf.Ren:=⟨fun | 229=>69 | n=>n,fun | 9=>9 | 40=>141 | 31=>89 | 152=>160 | 3=>3 | 0=>0 | 4=>4 | 21=>21 | 154=>162 | n=>n,fun | n=>n⟩
theorem Tryz.lays229:Go.Proofs.Lays.n229 Tryz.prog Tryz.lays229_ren:={
 mixed:=by kernel_rfl
 f229:=Tryz.func69.trans (congrArg some (by kernel_rfl))
 t0:=Tryz.underlying0
 a0:=Tryz.isAgg0
 z0:=Tryz.sizeOf0
 v0:=Tryz.zeroValue0
 t3:=Tryz.underlying3
 a3:=Tryz.isAgg3
 z3:=Tryz.sizeOf3
 v3:=Tryz.zeroValue3
 t4:=Tryz.underlying4
 a4:=Tryz.isAgg4
 z4:=Tryz.sizeOf4
 v4:=Tryz.zeroValue4
 t9:=Tryz.underlying9
 a9:=Tryz.isAgg9
 z9:=Tryz.sizeOf9
 v9:=Tryz.zeroValue9
 t21:=Tryz.underlying21
 a21:=Tryz.isAgg21
 z21:=Tryz.sizeOf21
 v21:=Tryz.zeroValue21
 t31:=Tryz.underlying89
 a31:=Tryz.isAgg89
 z31:=Tryz.sizeOf89
 v31:=Tryz.zeroValue89
 t40:=Tryz.underlying141
 a40:=Tryz.isAgg141
 z40:=Tryz.sizeOf141
 v40:=Tryz.zeroValue141
 t152:=Tryz.underlying160
 a152:=Tryz.isAgg160
 z152:=Tryz.sizeOf160
 v152:=Tryz.zeroValue160
 t154:=Tryz.underlying162
 a154:=Tryz.isAgg162
 z154:=Tryz.sizeOf162
 v154:=Tryz.zeroValue162 }
theorem Tryz.strings_FieldsFunc_runes (g:Nat) (lb:Array Value) (eg:∀ args w,(callFunc g args).run Tryz.prog w=.ok (.enter g args) w) (p:Nat→Bool) (s:ByteArray) (w:World) (hs:s.size≤4294967296) (hp:PredAtRunes Tryz.prog g lb p w) :
  Calls Tryz.prog 69 #[.string s,.func (.func g) #[] lb] w fun e w'=>∃ A,e=.returned (.slice (some ⟨A,0,none⟩) (Lib.goFieldsP p s).length (Lib.goFieldsP p s).length)∧w.heap.size≤A ∧
   w'.ownsRow w.heap.size 9 1 (.slice (some ⟨A,0,none⟩) (Lib.goFieldsP p s).length (Lib.goFieldsP p s).length) (Lib.goFieldsP p s).length ((Lib.goFieldsP p s).map Value.string)∧Below w.heap.size w w':=Any.strings_FieldsFunc_runes Tryz.lays229 g lb eg p s w hs hp (by kernel_rfl) (by kernel_rfl)
def Tryz.lays109_ren:Go.Shelf.Ren:=⟨fun | 109=>74 | n=>n,fun | 31=>89 | 9=>9 | 3=>3 | 0=>0 | 4=>4 | n=>n,fun | n=>n⟩
theorem Tryz.lays109:Go.Proofs.Lays.n109 Tryz.prog Tryz.lays109_ren:={
 mixed:=by kernel_rfl
 f109:=Tryz.func74.trans (congrArg some (by kernel_rfl))
 t0:=Tryz.underlying0
 a0:=Tryz.isAgg0
 z0:=Tryz.sizeOf0
 v0:=Tryz.zeroValue0
 t3:=Tryz.underlying3
 a3:=Tryz.isAgg3
 z3:=Tryz.sizeOf3
 v3:=Tryz.zeroValue3
 t4:=Tryz.underlying4
 a4:=Tryz.isAgg4
 z4:=Tryz.sizeOf4
 v4:=Tryz.zeroValue4
 t9:=Tryz.underlying9
 a9:=Tryz.isAgg9
 z9:=Tryz.sizeOf9
 v9:=Tryz.zeroValue9
 t31:=Tryz.underlying89
 a31:=Tryz.isAgg89
 z31:=Tryz.sizeOf89
 v31:=Tryz.zeroValue89 }
theorem Tryz.slices_Index_string (b off n c:Nat) (zs:List ByteArray) (x:ByteArray) (w:World) (hz:n≤zs.length) (ha:n≤9223372036854775807) (hc:∀ j,j<zs.length→w.cell? ⟨b,off+j,none⟩=some (.string (zs.getD j ByteArray.empty))) :
  Calls Tryz.prog 74 #[.slice (some ⟨b,off,none⟩) n c,.string x] w fun e w'=>e=.returned (.int .i64 (Lib.idxOfS (zs.take n) x))∧w'=w:=Any.slices_Index_string Tryz.lays109 b off n c zs x w hz ha hc
end Go.Proofs
namespace Go.Proofs.YtmhojfpidedjeaaGreatDoor
open Go.RowKit
set_option linter.unusedVariables false
set_option maxHeartbeats 1000000
set_option maxRecDepth 100000
structure LaidS (w:World):Prop where
 tab : Lib.TabIs Tryz.prog w "internal/strconv.uint64pow10" .u64 Lib.pow10Tab
 syn : ∃ tp p, w.var? Tryz.prog "strconv.ErrSyntax" = some #[.iface tp p]
 ran : ∃ tp p, w.var? Tryz.prog "strconv.ErrRange" = some #[.iface tp p]
theorem Zbi {n : String} {g : Nat} {cs:Array Value} {w w':World} (hg:Tryz.prog.globalNamed n=some g) (h:w.var? Tryz.prog n=some cs) (hb:Below w.heap.size w w'):w'.var? Tryz.prog n=some cs:=by
 unfold World.var? at h ⊢;rw[hg]at h ⊢;simp only[Option.bind_some]at h ⊢;have ha:g<w.heap.size:=by
  rcases Nat.lt_or_ge g w.heap.size with h'|h'
  ·exact h'
  ·rw[Array.getElem?_eq_none h']at h;cases h
 rw[hb.block g ha];exact h
theorem LaidS.keep {w w':World} (h:LaidS w) (hb:Below w.heap.size w w'):LaidS w':=by
 obtain⟨h1,⟨tp,p,h2⟩,⟨tq,q,h3⟩⟩:=h;exact⟨TabIs_below (g:=2) (by kernel_rfl) h1 hb,⟨tp,p,Zbi (g:=8) (by kernel_rfl) h2 hb⟩,⟨tq,q,Zbi (g:=9) (by kernel_rfl) h3 hb⟩⟩
theorem WD (w:World) (k:Nat) (os:Array Obj):Below w.heap.size w (Sort.grow (w.drewN k) os):=
 ⟨rfl,rfl,rfl,by simp[Sort.grow,World.drewN],fun i hi=>by simp[Sort.grow,World.drewN,Array.getElem?_append,hi]⟩
theorem KS (n:Int) (w:World) (h0 : -2147483648≤n) (h1:n≤2147483647) (hL:LaidS w) :
  Calls Tryz.prog 44 #[.int .i32 n] w fun e w'=>e=.returned (.string ⟨(Lib.itoa n).toArray⟩)∧Below w.heap.size w w':=by
 have HL:=hid hL.tab;clear hL;go_enter Tryz.func44,Tryz.ntmps44
 go_wp2_with fail
 refine (Tryz.strconv_Itoa n (by omega) (by omega) _ HL.out).mono ?_;rintro e w1 ⟨rfl,k,os,rfl⟩;have HB:=hid (WD w k os);generalize Sort.grow (w.drewN k) os=w1 at *;go_wp2
 go_ret
 exact⟨rfl,HB.out⟩
def Wb (l:List UInt8) (w:World) (e:Ending) (w':World):Prop:=e=.returned (.tuple #[.int .i32 ((Z0 l).getD 0),.bool (Z0 l).isSome])∧Below w.heap.size w w'
theorem Yo {l : List UInt8} (h:Z0 l=none) (w w':World) (hb:Below w.heap.size w w'):Wb l w (.returned (.tuple #[.int .i32 0,.bool false])) w':=by
 unfold Wb;rw[h];exact⟨rfl,hb⟩
theorem Wy {l : List UInt8} {v : Int} (h:Z0 l=some v) (w w':World) (hb:Below w.heap.size w w'):Wb l w (.returned (.tuple #[.int .i32 v,.bool true])) w':=by
 unfold Wb;rw[h];exact⟨rfl,hb⟩
theorem KF (s:ByteArray) (w:World) (hw:Z0 s.data.toList=none)
  (hp:Calls Tryz.prog 120 #[.string s,.int .i64 10,.int .i64 32] w fun e w'=>∃ N x,e=.returned (.tuple #[.int .i64 x,.iface 219 (.pointer (some ⟨N,0,none⟩))])∧Below w.heap.size w w') :
  Calls Tryz.prog 102 #[.string s] w (Wb s.data.toList w):=by
 have HW:=hid hw;have HP:=hid hp;clear hw hp;go_enter Tryz.func102,Tryz.ntmps102
 go_wp2_with fail
 refine HP.out.mono ?_;rintro e w1 ⟨N,x,rfl,ha⟩;have hb:=hid ha;clear ha;go_wp2
 go_ret2
 exact Yo HW.out _ _ hb.out
theorem Zc2 (s:ByteArray) (w:World) (hs:s.size≤281474976710656) (hL:LaidS w) :
  Calls Tryz.prog 102 #[.string s] w (Wb s.data.toList w):=by
 rcases h:Lib.parseIntB 32 s.data.toList with v|_|_
 ·have hm:In32W v:=Zfd h;obtain⟨hj,hi⟩:=hm;have hl:=Tryz.strconv_ParseInt_10_at32_ok s (by omega) v h w;have HL:=hid hL;have HP:=hid hl;have H:=hid h;clear hL hl h;have hq:((Lib.itoa v).toArray==s.data)=true∨((Lib.itoa v).toArray==s.data)=false:=by cases h:((Lib.itoa v).toArray==s.data)<;>simp
  rcases hq with hq|hq
  ·have ha:Lib.itoa v=s.data.toList:=by rw[←eq_of_beq hq]
   have hw:Z0 s.data.toList=some v:=by unfold Z0;rw[H.out];dsimp only;rw[if_pos ha]
   have hk:s=⟨(Lib.itoa v).toArray⟩:=by rw[ha]
   have HW:=hid hw;have hn:=hid hk;clear hw hk hq ha;go_enter Tryz.func102,Tryz.ntmps102
   go_wp2_with fail
   refine HP.out.mono ?_;rintro e w1 ⟨rfl,hd⟩;have hg:Below w.heap.size w w1:=by
    rcases hd with rfl|⟨t,rfl⟩
    ·exact Below.refl _ _
    ·exact Lib.bytesWorld_below _ _ _
   have hc:=hid hg;clear hd hg;have HT:=hid (KS v w1 hj hi (HL.out.keep hc.out));rw[←hn.out]at HT;go_wp2_with fail
   refine HT.out.mono ?_;rintro e w2 ⟨rfl,hf⟩;have hh:=hid (hc.out.trans (hf.mono hc.out.size));clear hf;go_wp2
   go_ret2
   exact Wy HW.out _ _ hh.out
  ·have ha:¬ Lib.itoa v=s.data.toList:=by
    intro e;rw[e]at hq;simp at hq
   have hw:Z0 s.data.toList=none:=by unfold Z0;rw[H.out];dsimp only;rw[if_neg ha]
   have HW:=hid hw;have ho:=hid ha;clear hw hq ha;go_enter Tryz.func102,Tryz.ntmps102
   go_wp2_with fail
   refine HP.out.mono ?_;rintro e w1 ⟨rfl,hd⟩;have hg:Below w.heap.size w w1:=by
    rcases hd with rfl|⟨t,rfl⟩
    ·exact Below.refl _ _
    ·exact Lib.bytesWorld_below _ _ _
   have hc:=hid hg;clear hd hg;have HT:=hid (KS v w1 hj hi (HL.out.keep hc.out));obtain⟨y,hy⟩:∃ y:ByteArray,(⟨(Lib.itoa v).toArray⟩:ByteArray)=y:=⟨_,rfl⟩
   have hp:(y.toList==s.toList)=false:=by
    rw[ByteArray.toList_eq,ByteArray.toList_eq,←hy];exact beq_false_of_ne ho.out
   rw[hy]at HT;clear hy;go_wp2_with fail
   refine HT.out.mono ?_;rintro e w2 ⟨rfl,hf⟩;have hh:=hid (hc.out.trans (hf.mono hc.out.size));clear hf;go_wp2
   go_ret2
   exact Yo HW.out _ _ hh.out
 ·have hw:Z0 s.data.toList=none:=by unfold Z0;rw[h]
  obtain⟨tp,p,hv⟩:=hL.syn;exact KF s w hw ((Any.strconv_ParseInt_10_at32_syntax_var Tryz.laysC174 s hs h tp p w hv).mono fun e w' ⟨N,he,_,_,hb⟩=>⟨N,_,he,hb⟩)
 ·have hw:Z0 s.data.toList=none:=by unfold Z0;rw[h]
  obtain⟨tp,p,hv⟩:=hL.ran;exact KF s w hw ((Any.strconv_ParseInt_10_at32_range_var Tryz.laysC174 s hs h tp p w hv).mono fun e w' ⟨N,he,_,_,hb⟩=>⟨N,_,he,hb⟩)
def ZQ:List ByteArray:=[⟨#[99,111,110,115,116]⟩,⟨#[97,100,100]⟩,⟨#[115,117,98]⟩,⟨#[109,117,108]⟩,⟨#[97,110,100]⟩,⟨#[111,114]⟩,⟨#[120,111,114]⟩,⟨#[115,104,108]⟩,⟨#[115,104,114]⟩,⟨#[115,97,114]⟩,⟨#[101,113]⟩,⟨#[108,116]⟩,⟨#[108,116,117]⟩,⟨#[100,105,118]⟩,⟨#[108,111,97,100]⟩,⟨#[115,116,111,114,101]⟩,⟨#[99,97,108,108]⟩,⟨#[109,117,108,119]⟩]
def XV:ByteArray:=⟨#[99,111,110,115,116,32,97,100,100,32,115,117,98,32,109,117,108,32,97,110,100,32,111,114,32,120,111,114,32,115,104,108,32,115,104,114,32,115,97,114,32,101,113,32,108,116,32,108,116,117,32,100,105,118,32,108,111,97,100,32,115,116,111,114,101,32,99,97,108,108,32,109,117,108,119]⟩
theorem Zbc:Lib.fields XV.data.toList=ZQ.map fun s=>s.data.toList:=by decide +kernel
theorem ZbR:((Lib.fields XV.data.toList).map fun l=>Value.string ⟨l.toArray⟩)=ZQ.map Value.string:=by
 rw[Zbc,List.map_map];refine List.map_congr_left fun s _=>?_
 obtain⟨⟨l⟩⟩:=s;rfl
theorem Zcp:∀ (j:Nat) b,XV.data.toList[j]? = some b→b.toNat<128:=by
 have h:XV.data.toList.all (fun b=>decide (b.toNat<128))=true:=by decide +kernel
 intro j b hb;have:=List.all_eq_true.1 h b (List.mem_of_getElem? hb);simpa using this
def Xo (op:Int):ByteArray:=if op<1∨18<op then ByteArray.empty else ZQ.getD (op-1).toNat ByteArray.empty
def Yp (s:ByteArray):Int:=1+Lib.idxOfS ZQ s
def Zc0 (w:World) (b:Nat):Prop:=b<w.heap.size∧∀ j,j<18→w.cell? ⟨b,0+j,none⟩=some (.string (ZQ.getD j ByteArray.empty))
theorem KH (w:World) (T:TypeId):Zc0 (w.alloc (.cells (ZQ.map Value.string).toArray T)) w.heap.size:=by
 refine⟨by simp,fun j hj=>?_⟩;have h:(ZQ.map Value.string)[j]? = some (.string (ZQ.getD j ByteArray.empty)):=by
  have hl:j<ZQ.length:=hj;rw[List.getElem?_map,List.getElem?_eq_getElem hl,List.getD_eq_getElem?_getD,List.getElem?_eq_getElem hl];rfl
 simp only[World.cell?,Z2,Nat.zero_add];simpa using h
def ZeD (w:World) (e:Ending) (w':World):Prop:=e=.returned (.slice (some ⟨w.heap.size,0,none⟩) 18 18)∧Zc0 w' w.heap.size∧Below w.heap.size w w'
theorem QH (w : World) (ha : Lib.TabIs Tryz.prog w "strings.asciiSpace" .u8 Lib.asciiSpaceTab) : Calls Tryz.prog 48 #[.string XV] w (ZeD w) := by
 refine (Tryz.strings_Fields XV w (by decide +kernel) Zcp ha).mono ?_
 rintro e w' ⟨rfl,rfl⟩
 have hl:(Lib.fields XV.data.toList).length=18:=by decide +kernel
 rw[hl,ZbR]
 exact⟨rfl,KH w _,(Below.refl _ _).alloc (Nat.le_refl _) _⟩
theorem Qs (w:World):Calls Tryz.prog 86 #[] w (ZeD w):=by
 go_enter Tryz.func86,Tryz.ntmps86
 go_wp2
 go_ret
 exact⟨rfl,KH w _,(Below.refl _ _).alloc (Nat.le_refl _) _⟩
def Xl (s:ByteArray) (w:World) (e:Ending) (w':World):Prop:=e=.returned (.string s)∧Below w.heap.size w w'
theorem Zfg (op : Int) (w : World) (ho : -9223372036854775808 ≤ op ∧ op ≤ 9223372036854775807) (ha : Lib.TabIs Tryz.prog w "strings.asciiSpace" .u8 Lib.asciiSpaceTab) :
  Calls Tryz.prog 47 #[.int .i64 op] w (Xl (Xo op) w):=by
 have hf:=QH w ha;obtain⟨y,hy⟩:∃ y,Xo op=y:=⟨_,rfl⟩
 have HF:=hid hf;have HY:=hid hy;rw[hy];clear hf hy ha;by_cases h1:op<1
 ·obtain rfl:ByteArray.empty=y:=by rw[←HY.out];unfold Xo;rw[if_pos (.inl h1)]
  go_enter Tryz.func47,Tryz.ntmps47
  go_wp2_with fail
  refine HF.out.mono ?_;rintro e w1 ⟨rfl,hn,hb⟩;have HB:=hid hb;clear hn hb;go_wp2
  go_ret
  exact⟨rfl,HB.out⟩
 ·by_cases h2:18<op
  ·obtain rfl:ByteArray.empty=y:=by rw[←HY.out];unfold Xo;rw[if_pos (.inr h2)]
   go_enter Tryz.func47,Tryz.ntmps47
   go_wp2_with fail
   refine HF.out.mono ?_;rintro e w1 ⟨rfl,hn,hb⟩;have HB:=hid hb;clear hn hb;go_wp2
   go_ret
   exact⟨rfl,HB.out⟩
  ·obtain⟨k,rfl⟩:∃ k:Nat,op=(k:Int)+1:=⟨(op-1).toNat,by omega⟩
   have hk:k<18:=by omega
   have he:Xo ((k:Int)+1)=ZQ.getD k ByteArray.empty:=by unfold Xo;rw[if_neg (by omega),show ((k:Int)+1-1).toNat=k from by omega]
   rw[he]at HY;clear he;go_enter Tryz.func47,Tryz.ntmps47
   go_wp2_with fail
   refine HF.out.mono ?_;rintro e w1 ⟨rfl,hn,hb⟩;have hc:w1.cell? ⟨w.heap.size,0+k,none⟩=some (.string y):=by rw[←HY.out];exact hn.2 k hk
   rw[Nat.zero_add]at hc;have hl:=hn.1;have HB:=hid hb;clear hn hb;go_wp2
   go_ret
   exact⟨rfl,HB.out⟩
end Go.Proofs.YtmhojfpidedjeaaGreatDoor
