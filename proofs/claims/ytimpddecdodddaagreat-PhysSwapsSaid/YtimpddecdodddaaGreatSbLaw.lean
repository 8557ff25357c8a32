import Derived.Test.YtimpddecdodddaaGreatSb50
namespace Go.Proofs.YtimpddecdodddaaGreat
open Go.RowKit
theorem Zfn:True:=by
 have:=@Zb0;have:=@Q7;have:=@Zbz;have:=@Zax;have:=@Zct;have:=@Zal;have:=@ZbB;have:=@Zdy;have:=@Zc9;have:=@ZaP;have:=@J0;have:=@ZaW;have:=@Zao;have:=@Wd;have:=@Wc;have:=@Yt;have:=@Zg;have:=@XR.turn;have:=@Zdz;have:=@Zda;have:=@ZaX;have:=@ZbK;have:=@Zb2;have:=@Zb3;have:=@Zs;have:=@VM;have:=@Zf;have:=@XZ;have:=@Vw;have:=@Zj;have:=@Xd;have:=@Yl;have:=@Kin.box;have:=@Kin.heap;have:=@Kin.apart;have:=@ZeJ;have:=@YF.good;have:=@YF.keep;have:=@YF.ok;have:=@YF.low;have:=@YF.turn;have:=@Yz;have:=@Zd;have:=@ZU;have:=@RowIn.each_of;have:=@Jh;have:=@J1;have:=@ZaO;have:=@XR.since;have:=@OwnRow.shape;have:=@OwnRow.cells;have:=@Xu.keep;have:=@JF.keep;have:=@J3.keep;have:=@HeapIs.set;have:=@HeapIs.turn;have:=@Turn.toSince;have:=@IsNilOf.stable;have:=@IsNilOf.new;have:=@IsNilOf.owns;have:=@Zcj;have:=@ZcD;have:=@Tryz.cellsInt;have:=@RowIn.turn;have:=@RowIn.shape;have:=@HeapIs.new;have:=@ZF;have:=@YS
 trivial
end Go.Proofs.YtimpddecdodddaaGreat
