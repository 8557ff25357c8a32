import Derived.Test.YtimpddecdodddaaGreatSt23
import Derived.Test.YtimpddecdodddaaGreatSt38
import Derived.Test.YtimpddecdodddaaGreatSt44
import Derived.Test.YtimpddecdodddaaGreatSt46
namespace Go.Proofs.YtimpddecdodddaaGreat
open Go.RowKit
theorem Zfy:True:=by
 have:=@Zb3;have:=@Zdi;have:=@ZbE;have:=@ZcZ;have:=@Zab;have:=@Zdg;have:=@ZbR;have:=@ZbN;have:=@Jg;have:=@ZbP;have:=@ZbO;have:=@KA;have:=@Zbr;have:=@ZaY;have:=@KK;have:=@JZ;have:=@Z7;have:=@YG;have:=@ZC;have:=@Zh;have:=@Zu;have:=@W7;have:=@Zck.stable;have:=@Zd4.stable;have:=@Zd7.stable;have:=@OwnRow.low0;have:=@Zbs;have:=@ZaZ;have:=@Xv;have:=@ZcM;have:=@Zc6;have:=@Zc7;have:=@Zv;have:=@ZdH;have:=@Ze;have:=@Wt;have:=@XX;have:=@Zg;have:=@Xr;have:=@Z0;have:=@Kin.box;have:=@Kin.heap;have:=@Kin.apart;have:=@Zfd;have:=@YO.good;have:=@YO.keep;have:=@YO.ok;have:=@YO.low;have:=@YO.turn;have:=@RowIn.each_of;have:=@Jt;have:=@Km;have:=@OwnRow.shape;have:=@OwnRow.cells;have:=@Xz.keep;have:=@BlkOk.keep;have:=@XA.keep;have:=@HeapIs.set;have:=@HeapIs.turn;have:=@Zb.toSince;have:=@IsNilOf.stable;have:=@IsNilOf.new;have:=@IsNilOf.owns;have:=@Q9;have:=@Zax;have:=@Tryz.cellsInt;have:=@RowIn.turn;have:=@RowIn.shape
 have:=@HeapIs.new;have:=@ZB;have:=@ZV;have:=@X7;have:=@PrgGood.right;have:=@Za8;have:=@VD;have:=@Kd;have:=@Xf;have:=@KF;have:=@Xa
 trivial
end Go.Proofs.YtimpddecdodddaaGreat
