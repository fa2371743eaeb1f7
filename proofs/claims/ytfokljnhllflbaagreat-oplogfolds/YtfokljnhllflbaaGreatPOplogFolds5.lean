/- Part 6 of the proof of OplogFolds: R5, Spec26, R6, Spec17, Spec27, EngClr, EngStW, R7, Spec29, R10. -/
import Derived.Deep.Quiet
import Derived.Ground.NamesProg
import Derived.Ground.SlgcProg
import Derived.Ground.SlsfProg
import Derived.JoinedOf
import Derived.Laws.BytesString
import Derived.Laws.MakeOwn
import Derived.Laws.Strings
import Derived.Lib.AppendZeros
import Derived.Lib.ConvBytes
import Derived.Lib.Overlaps
import Derived.Maps.AppendAt
import Derived.OrdersHeld
import Derived.ProofKit
import Derived.Recover
import Derived.ScopeJumps
import Derived.Shelf.SlSortCmp.NoneTotal
import Derived.Shelf.SlSortCmp.WholeK
import Derived.Shelf.SlicesG.Cmp
import Derived.Shelf.Small.Bits
import Derived.Sort.OwnSortedInts
import Derived.StillTail
import Derived.Test.YtfokljnhllflbaaGreatProg
import Derived.WalkKit
import Derived.WalkLawsBesides
import Derived.WalkSpells
import Derived.Test.YtfokljnhllflbaaGreatPOplogFolds4
set_option linter.unusedSimpArgs false
set_option linter.unusedVariables false
namespace Go.Proofs.YtfokljnhllflbaaGreat
open Go Go.Eng Go.RowKit Go.Proofs.Tryz
set_option maxHeartbeats 1000000 in
set_option maxRecDepth 20000 in
theorem rdTxt_ (w:World) (B:Nat) (bs:List UInt8) (A:Option Addr) (n c:Nat) (hr:Rd w B 1 A (Df bs)) (hn:n = bs.length) (hc:n ≤ c) (hm:n ≤ 140737488351232):Ret prog 185 [(.slice A n c)] w (fun v w'=>(∃ (t:List UInt8) (k:Nat),v = .tuple #[.string (tx t),.int .i64 (k:Int),.int .i64 0]∧w.grownBy w' none∧rdT bs = some (t,bs.drop k)∧k ≤ n∧t.length ≤ 65536) ∨ (∃ e:Int,v = .tuple #[.string (tx []),.int .i64 0,.int .i64 e]∧w.grownBy w' none∧rdT bs = none∧e ≠ 0)):=by
  have H0:Sp [Bd w Bl] w:=Bv w
  refine aP func185 Z Z Z ?_
  refine cT (za (.string (⟨#[]⟩)) Z (za (J 0) Z (za (J 0) Z (cS (cT (zm (.slice A n c) Z (aU call244 (rdNum_ _ _ bs A n c hr (by first | assumption | omega) (by omega)) Z Z Z ?_)))))))
  rintro _ w8 (⟨x1,rfl,g9,hrn3,hge4,hle5⟩ | ⟨e2,rfl,g10,hrn6,hne7⟩)
  ·have H11:=H0.grow g9
   have z12:=g9.size
   refine zm (.tuple #[(J (x1:Int)),(J 4),(J 0)]) Z (zx (J (x1:Int)) Z (zx (J 4) Z (zx (J 0) Z (za (J (x1:Int)) Z (za (J 4) Z (za (J 0) Z (cS (aD (cT (zm (J 0) Z (zg Z (bQ (r:=false) Z Z (by decide)) (cS (aF Z (aA (aQ (aD (cT ?_)))))))))))))))))
   refine zm (J (x1:Int)) Z ?_
   refine zc ((65536:Int) < ((x1:Int):Int)) Z (fun r hr=>bN Z Z hr) (fun h13=>?_) (fun h13=>?_)
   ·refine cS (aE Z (cT (za (.string (⟨#[]⟩)) Z (za (J 0) Z (za (J 11) Z (cS (aB (aR (aO (v:=(.tuple #[(.string (⟨#[]⟩)),(J 0),(J 11)])) (res3 Z Z Z Z) ?_)))))))))
    exact .inr ⟨_,rfl,(H11.fix (i:=0) Z),by first | exact rdT_no2 hrn3 (by omega) | exact rdT_no3 hrn3 (by omega) (by omega),by decide⟩
   ·refine cS (aF Z (aA (aQ (aD (cT (zm (.slice A n c) Z (zg Z (bR underlying97 Z) (zm (J 4) Z (zg Z (bJ (r:=(n:Nat) - 4) Z Z (Dl (by omega) (by omega))) (zm (J (x1:Int)) Z ?_))))))))))
    refine zc (((n:Nat) - 4:Int) < ((x1:Int):Int)) Z (fun r hr=>bL Z Z hr) (fun h14=>?_) (fun h14=>?_)
    ·refine cS (aE Z (cT (za (.string (⟨#[]⟩)) Z (za (J 0) Z (za (J 10) Z (cS (aB (aR (aO (v:=(.tuple #[(.string (⟨#[]⟩)),(J 0),(J 10)])) (res3 Z Z Z Z) ?_)))))))))
     exact .inr ⟨_,rfl,(H11.fix (i:=0) Z),by first | exact rdT_no2 hrn3 (by omega) | exact rdT_no3 hrn3 (by omega) (by omega),by decide⟩
    ·refine cS (aF Z (aA (aQ (cT (zm (.slice A n c) Z (zm (J 4) Z (zm (J 4) Z (zm (J (x1:Int)) Z (zg Z (bI (r:=4 + (x1:Int)) Z Z (Dl (by omega) (by omega))) ?_)))))))))
     have hl4:(bs.drop 4).length = bs.length - 4:=List.length_drop
     have hr4:=(RB.drop (k:=4) ⟨hr,hn,hc,hm⟩ (by omega)).1
     refine zg Z (Ex.slLH (i:=4) (j:=4 + x1) (v:=.slice (dropA A c 4 1) x1 (c - 4)) underlying97 sizeOf5 Z Z Z (by omega) (by omega) (by omega) (by omega) (by rw [Nat.add_sub_cancel_left]; rfl)) (zg Z (Ex.b2s (bs:=(bs.drop 4)) underlying97 underlying5 underlying9 Z (hr4.st0 (H11.fix (i:=0) Z)) (by omega)) (zm (J 4) Z (zm (J (x1:Int)) Z (zg Z (bI (r:=4 + (x1:Int)) Z Z (Dl (by omega) (by omega))) (za (.string (tx (((bs.drop 4)).take x1))) Z (za (J (4 + (x1:Int))) Z (za (J 0) Z (cS (aB (aO (v:=(.tuple #[(.string (tx (((bs.drop 4)).take x1))),(J (4 + (x1:Int))),(J 0)])) (res3 Z Z Z Z) ?_))))))))))
     exact .inl ⟨(bs.drop 4).take x1,4 + x1,rfl,(H11.fix (i:=0) Z),rdT_ok hrn3 (by omega) (by omega),by omega,by rw [List.length_take]; omega⟩
  ·have H15:=H0.grow g10
   have z16:=g10.size
   refine zm (.tuple #[(J 0),(J 0),(J e2)]) Z (zx (J 0) Z (zx (J 0) Z (zx (J e2) Z (za (J 0) Z (za (J 0) Z (za (J e2) Z (cS (aD (cT (zm (J e2) Z (zg Z (bQ (r:=true) Z Z (decide_eq_true (by omega))) (cS (aE Z (cT ?_))))))))))))))
   refine zm (J e2) Z (za (.string (⟨#[]⟩)) Z (za (J 0) Z (za (J e2) Z (cS (aB (aR (aO (v:=(.tuple #[(.string (⟨#[]⟩)),(J 0),(J e2)])) (res3 Z Z Z Z) ?_)))))))
   exact .inr ⟨_,rfl,(H15.fix (i:=0) Z),rdT_no1 hrn6,by first | assumption | decide⟩
set_option maxHeartbeats 4000000 in
set_option maxRecDepth 20000 in
theorem getHeapR_ (w:World) (B:Nat) (bs:List UInt8) (A:Option Addr) (n c:Nat) (hr:RB w B A n c bs) (hB:B ≤ w.heap.size):Ret prog 186 [(.slice A n c)] w (fun v w'=>(∃ (rh:RHeap) (ros:List RObj) (hh:Eng.Heap),v = .tuple #[.agg rh.cells.toArray,.int .i64 0]∧Sp ([HpW rh ros hh] ++ [Bd w Bl]) w'∧getHeap bs = some hh∧Dc hh = true) ∨ (v = .tuple #[.agg zHeap.toArray,.int .i64 60]∧w.grownBy w' none∧getHeap bs = none)):=by
  have H0:Sp [Bd w Bl] w:=Bv w
  refine aP func186 Z Z Z ?_
  refine cT (bG (cs:=zHeap) zeroValue47 Z Z Z ?_)
  intro w1 b2 hb3 hz4 g5 o6
  have H7:=H0.newB g5 o6 (by omega)
  have z8:=g5.size
  refine za (J 0) Z (cS (cT (zm (.slice A n c) Z (zg Z (bY (cs:=[(.slice A n c),bF]) bd213 Z) (bH (cs:=[(.slice A n c),bF]) Z Z Z ?_)))))
  intro w9 b10 hb11 hz12 g13 o14
  have H15:=H7.newB g13 o14 (by omega)
  have z16:=g13.size
  refine za (.pointer (some ⟨b10,0,none⟩)) Z (cS (cT (zg Z (bY (cs:=zHeap) bd47 Z) (bG (cs:=zHeap) zeroValue47 Z Z Z ?_))))
  intro w17 b18 hb19 hz20 g21 o22
  have H23:=H15.newB g21 o22 (by omega)
  have z24:=g21.size
  refine bE (vs:=zHeap) (cs':=zHeap) sizeOf47 (H23.ob (i:=0) Z) Z Z Z Z Z Z ?_
  intro w25 hz26 g27 o28
  have H29:Sp [Aa b18 47 zHeap,Aa b10 213 [(.slice A n c),bF],Aa b2 47 zHeap,Bd w Bl] w25:=H23.setB (i:=0) rfl g27 o28 rfl
  have z30:=g27.size
  refine cS (cT (zm (.pointer (some ⟨b10,0,none⟩)) Z ?_))
  obtain ⟨S41,hS42,hO43,K44⟩:=Sp.takeL (l1:=[Aa b10 213 [(.slice A n c),bF]]) (l2:=[Aa b18 47 zHeap,Aa b2 47 zHeap,Bd w Bl]) (w:=w25) (H29.sel [1,0,2,3] (by decide) rfl)
  refine aU call187 (rnum_ _ S41 b10 A n c bs false hS42 ⟨(Cw hO43 (j:=2) Z hr.1 (by omega)),hr.2⟩) Z Z Z ?_
  rintro _ w45 ⟨x31,A32,n33,c34,bs35,bq36,rfl,g46,hnum37,hind38,hxle39⟩
  have H47:Sp [Aa b10 213 [.slice A32 n33 c34,.bool bq36],Aa b18 47 zHeap,Aa b2 47 zHeap,Bd w Bl] w45:=K44 _ _ g46
  have z48:=(H47.fix (i:=3) rfl).size
  have hq40:=hind38.r _ _ hr
  refine zg Z (fa47_0 (b:=⟨b18,0,none⟩) Z Z) (bE (vs:=[(J (x31:Int))]) (cs':=[(J (x31:Int)),(.slice none 0 0),(J 0),(J 0),(J 0),(J 0),(J 0),(.slice none 0 0)]) sizeOf3 (H47.ob (i:=1) Z) Z Z Z Z Z Z ?_)
  intro w49 hz50 g51 o52
  have H53:Sp [Aa b10 213 [.slice A32 n33 c34,.bool bq36],Aa b18 47 [(J (x31:Int)),(.slice none 0 0),(J 0),(J 0),(J 0),(J 0),(J 0),(.slice none 0 0)],Aa b2 47 zHeap,Bd w Bl] w49:=H47.setB (i:=1) rfl g51 o52 rfl
  have z54:=g51.size
  refine cS (cT (zm (.pointer (some ⟨b10,0,none⟩)) Z ?_))
  obtain ⟨S66,hS67,hO68,K69⟩:=H53.takeN 1
  refine aU call187 (rnum_ _ S66 b10 A32 n33 c34 bs35 bq36 hS67 ⟨(Cw hO68 (j:=2) Z hq40.1 (by omega)),hq40.2⟩) Z Z Z ?_
  rintro _ w70 ⟨x55,A56,n57,c58,bs59,bq60,rfl,g71,hnum61,hind62,hxle63⟩
  have H72:Sp [Aa b10 213 [.slice A56 n57 c58,.bool bq60],Aa b18 47 [(J (x31:Int)),(.slice none 0 0),(J 0),(J 0),(J 0),(J 0),(J 0),(.slice none 0 0)],Aa b2 47 zHeap,Bd w Bl] w70:=K69 _ _ g71
  have z73:=(H72.fix (i:=3) rfl).size
  have hq65:=hind62.r _ _ hq40
  refine zg Z (fa47_2 (b:=⟨b18,2,none⟩) Z Z) (bE (vs:=[(J (x55:Int))]) (cs':=[(J (x31:Int)),(.slice none 0 0),(J (x55:Int)),(J 0),(J 0),(J 0),(J 0),(.slice none 0 0)]) sizeOf3 (H72.ob (i:=1) Z) Z Z Z Z Z Z ?_)
  intro w74 hz75 g76 o77
  have H78:Sp [Aa b10 213 [.slice A56 n57 c58,.bool bq60],Aa b18 47 [(J (x31:Int)),(.slice none 0 0),(J (x55:Int)),(J 0),(J 0),(J 0),(J 0),(.slice none 0 0)],Aa b2 47 zHeap,Bd w Bl] w74:=H72.setB (i:=1) rfl g76 o77 rfl
  have z79:=g76.size
  refine cS (aD (cT (za (J 0) Z (cS (aG (cJ (Dd (aD (cT (zm (J 0) Z (zg Z (bL (r:=true) Z Z (by decide)) (cS (aE Z (aA (aQ (aD (aG (aL (zm (J 0) Z ?_)))))))))))))))))))
  refine zm (.pointer (some ⟨b10,0,none⟩)) Z ?_
  obtain ⟨S90,hS91,hO92,K93⟩:=H78.takeN 1
  refine aU call187 (rnum_ _ S90 b10 A56 n57 c58 bs59 bq60 hS91 ⟨(Cw hO92 (j:=2) Z hq65.1 (by omega)),hq65.2⟩) Z Z Z ?_
  rintro _ w94 ⟨x80,A81,n82,c83,bs84,bq85,rfl,g95,hnum86,hind87,hxle88⟩
  have H96:Sp [Aa b10 213 [.slice A81 n82 c83,.bool bq85],Aa b18 47 [(J (x31:Int)),(.slice none 0 0),(J (x55:Int)),(J 0),(J 0),(J 0),(J 0),(.slice none 0 0)],Aa b2 47 zHeap,Bd w Bl] w94:=K93 _ _ g95
  have z97:=(H96.fix (i:=3) rfl).size
  have hq89:=hind87.r _ _ hq65
  refine zg Z (fa47_3 (b:=⟨b18,3,none⟩) Z Z) (zg Z (cI (b:=⟨b18,3,none⟩) (i:=0) underlying44 sizeOf3 Z Z Z Z Z) (bE (vs:=[(J (x80:Int))]) (cs':=[(J (x31:Int)),(.slice none 0 0),(J (x55:Int)),(J (x80:Int)),(J 0),(J 0),(J 0),(.slice none 0 0)]) sizeOf3 (H96.ob (i:=1) Z) Z Z Z Z Z Z ?_))
  intro w98 hz99 g100 o101
  have H102:Sp [Aa b10 213 [.slice A81 n82 c83,.bool bq85],Aa b18 47 [(J (x31:Int)),(.slice none 0 0),(J (x55:Int)),(J (x80:Int)),(J 0),(J 0),(J 0),(.slice none 0 0)],Aa b2 47 zHeap,Bd w Bl] w98:=H96.setB (i:=1) rfl g100 o101 rfl
  have z103:=g100.size
  refine aM (inB.n (aQ (aL (zm (J 0) Z (zg Z (bI (r:=1) Z Z Z) (za (J 1) Z (cS (Dd (aD (cT (zm (J 1) Z (zg Z (bL (r:=true) Z Z (by decide)) (cS (aE Z (aA (aQ (aD (aG (aL ?_)))))))))))))))))))
  refine zm (J 1) Z (zm (.pointer (some ⟨b10,0,none⟩)) Z ?_)
  obtain ⟨S114,hS115,hO116,K117⟩:=H102.takeN 1
  refine aU call187 (rnum_ _ S114 b10 A81 n82 c83 bs84 bq85 hS115 ⟨(Cw hO116 (j:=2) Z hq89.1 (by omega)),hq89.2⟩) Z Z Z ?_
  rintro _ w118 ⟨x104,A105,n106,c107,bs108,bq109,rfl,g119,hnum110,hind111,hxle112⟩
  have H120:Sp [Aa b10 213 [.slice A105 n106 c107,.bool bq109],Aa b18 47 [(J (x31:Int)),(.slice none 0 0),(J (x55:Int)),(J (x80:Int)),(J 0),(J 0),(J 0),(.slice none 0 0)],Aa b2 47 zHeap,Bd w Bl] w118:=K117 _ _ g119
  have z121:=(H120.fix (i:=3) rfl).size
  have hq113:=hind111.r _ _ hq89
  refine zg Z (fa47_3 (b:=⟨b18,3,none⟩) Z Z) (zg Z (cI (b:=⟨b18,4,none⟩) (i:=1) underlying44 sizeOf3 Z Z Z Z Z) (bE (vs:=[(J (x104:Int))]) (cs':=[(J (x31:Int)),(.slice none 0 0),(J (x55:Int)),(J (x80:Int)),(J (x104:Int)),(J 0),(J 0),(.slice none 0 0)]) sizeOf3 (H120.ob (i:=1) Z) Z Z Z Z Z Z ?_))
  intro w122 hz123 g124 o125
  have H126:Sp [Aa b10 213 [.slice A105 n106 c107,.bool bq109],Aa b18 47 [(J (x31:Int)),(.slice none 0 0),(J (x55:Int)),(J (x80:Int)),(J (x104:Int)),(J 0),(J 0),(.slice none 0 0)],Aa b2 47 zHeap,Bd w Bl] w122:=H120.setB (i:=1) rfl g124 o125 rfl
  have z127:=g124.size
  refine aM (inB.n (aQ (aL (zm (J 1) Z (zg Z (bI (r:=2) Z Z Z) (za (J 2) Z (cS (Dd (aD (cT (zm (J 2) Z (zg Z (bL (r:=true) Z Z (by decide)) (cS (aE Z (aA (aQ (aD (aG (aL ?_)))))))))))))))))))
  refine zm (J 2) Z (zm (.pointer (some ⟨b10,0,none⟩)) Z ?_)
  obtain ⟨S138,hS139,hO140,K141⟩:=H126.takeN 1
  refine aU call187 (rnum_ _ S138 b10 A105 n106 c107 bs108 bq109 hS139 ⟨(Cw hO140 (j:=2) Z hq113.1 (by omega)),hq113.2⟩) Z Z Z ?_
  rintro _ w142 ⟨x128,A129,n130,c131,bs132,bq133,rfl,g143,hnum134,hind135,hxle136⟩
  have H144:Sp [Aa b10 213 [.slice A129 n130 c131,.bool bq133],Aa b18 47 [(J (x31:Int)),(.slice none 0 0),(J (x55:Int)),(J (x80:Int)),(J (x104:Int)),(J 0),(J 0),(.slice none 0 0)],Aa b2 47 zHeap,Bd w Bl] w142:=K141 _ _ g143
  have z145:=(H144.fix (i:=3) rfl).size
  have hq137:=hind135.r _ _ hq113
  refine zg Z (fa47_3 (b:=⟨b18,3,none⟩) Z Z) (zg Z (cI (b:=⟨b18,5,none⟩) (i:=2) underlying44 sizeOf3 Z Z Z Z Z) (bE (vs:=[(J (x128:Int))]) (cs':=[(J (x31:Int)),(.slice none 0 0),(J (x55:Int)),(J (x80:Int)),(J (x104:Int)),(J (x128:Int)),(J 0),(.slice none 0 0)]) sizeOf3 (H144.ob (i:=1) Z) Z Z Z Z Z Z ?_))
  intro w146 hz147 g148 o149
  have H150:Sp [Aa b10 213 [.slice A129 n130 c131,.bool bq133],Aa b18 47 [(J (x31:Int)),(.slice none 0 0),(J (x55:Int)),(J (x80:Int)),(J (x104:Int)),(J (x128:Int)),(J 0),(.slice none 0 0)],Aa b2 47 zHeap,Bd w Bl] w146:=H144.setB (i:=1) rfl g148 o149 rfl
  have z151:=g148.size
  refine aM (inB.n (aQ (aL (zm (J 2) Z (zg Z (bI (r:=3) Z Z Z) (za (J 3) Z (cS (Dd (aD (cT (zm (J 3) Z (zg Z (bL (r:=true) Z Z (by decide)) (cS (aE Z (aA (aQ (aD (aG (aL ?_)))))))))))))))))))
  refine zm (J 3) Z (zm (.pointer (some ⟨b10,0,none⟩)) Z ?_)
  obtain ⟨S162,hS163,hO164,K165⟩:=H150.takeN 1
  refine aU call187 (rnum_ _ S162 b10 A129 n130 c131 bs132 bq133 hS163 ⟨(Cw hO164 (j:=2) Z hq137.1 (by omega)),hq137.2⟩) Z Z Z ?_
  rintro _ w166 ⟨x152,A153,n154,c155,bs156,bq157,rfl,g167,hnum158,hind159,hxle160⟩
  have H168:Sp [Aa b10 213 [.slice A153 n154 c155,.bool bq157],Aa b18 47 [(J (x31:Int)),(.slice none 0 0),(J (x55:Int)),(J (x80:Int)),(J (x104:Int)),(J (x128:Int)),(J 0),(.slice none 0 0)],Aa b2 47 zHeap,Bd w Bl] w166:=K165 _ _ g167
  have z169:=(H168.fix (i:=3) rfl).size
  have hq161:=hind159.r _ _ hq137
  refine zg Z (fa47_3 (b:=⟨b18,3,none⟩) Z Z) (zg Z (cI (b:=⟨b18,6,none⟩) (i:=3) underlying44 sizeOf3 Z Z Z Z Z) (bE (vs:=[(J (x152:Int))]) (cs':=[(J (x31:Int)),(.slice none 0 0),(J (x55:Int)),(J (x80:Int)),(J (x104:Int)),(J (x128:Int)),(J (x152:Int)),(.slice none 0 0)]) sizeOf3 (H168.ob (i:=1) Z) Z Z Z Z Z Z ?_))
  intro w170 hz171 g172 o173
  have H174:Sp [Aa b10 213 [.slice A153 n154 c155,.bool bq157],Aa b18 47 [(J (x31:Int)),(.slice none 0 0),(J (x55:Int)),(J (x80:Int)),(J (x104:Int)),(J (x128:Int)),(J (x152:Int)),(.slice none 0 0)],Aa b2 47 zHeap,Bd w Bl] w170:=H168.setB (i:=1) rfl g172 o173 rfl
  have z175:=g172.size
  refine aM (inB.n (aQ (aL (zm (J 3) Z (zg Z (bI (r:=4) Z Z Z) (za (J 4) Z (cS (Dd (aD (cT (zm (J 4) Z (zg Z (bL (r:=false) Z Z (by decide)) (cS (aF Z (aC (aS (aS (Bo (aQ (cT ?_))))))))))))))))))))
  refine zm (.pointer (some ⟨b10,0,none⟩)) Z ?_
  obtain ⟨S186,hS187,hO188,K189⟩:=H174.takeN 1
  refine aU call187 (rnum_ _ S186 b10 A153 n154 c155 bs156 bq157 hS187 ⟨(Cw hO188 (j:=2) Z hq161.1 (by omega)),hq161.2⟩) Z Z Z ?_
  rintro _ w190 ⟨x176,A177,n178,c179,bs180,bq181,rfl,g191,hnum182,hind183,hxle184⟩
  have H192:Sp [Aa b10 213 [.slice A177 n178 c179,.bool bq181],Aa b18 47 [(J (x31:Int)),(.slice none 0 0),(J (x55:Int)),(J (x80:Int)),(J (x104:Int)),(J (x128:Int)),(J (x152:Int)),(.slice none 0 0)],Aa b2 47 zHeap,Bd w Bl] w190:=K189 _ _ g191
  have z193:=(H192.fix (i:=3) rfl).size
  have hq185:=hind183.r _ _ hq161
  refine za (J (x176:Int)) Z (cS (aD (cT (za (J 0) Z (cS (aG ?_))))))
  have H194:=H192.nil_ 136 5
  have H195:Sp [ObjsA ([]) ([]),Ai 136 5 none 0 0 (Cp ([])),Aa b10 213 [.slice A177 n178 c179,.bool bq181],Aa b18 47 [(J (x31:Int)),(.slice none 0 0),(J (x55:Int)),(J (x80:Int)),(J (x104:Int)),(J (x128:Int)),(J (x152:Int)),(.slice none 0 0)],Aa b2 47 zHeap,Bd w Bl] w190:=H194.obNil
  refine aK (fun t=>(Nat.ble 8 t && Nat.ble t 9) || (Nat.ble 31 t && Nat.ble t 54)) (fun nL ρ wl => ∃ (k n1 c1 no co:Nat) (A1 Ao:Option Addr) (ros:List RObj) (os:List Eng.Obj) (bs1:List UInt8) (b1:Bool),ρ 8 = (J (k:Int))∧nL = 257 - k∧Sp [ObjsA ros os,Ai 136 5 Ao no co (Cp ros),Aa b10 213 [.slice A1 n1 c1,.bool b1],Aa b18 47 [(J (x31:Int)),(.slice Ao no co),(J (x55:Int)),(J (x80:Int)),(J (x104:Int)),(J (x128:Int)),(J (x152:Int)),(.slice none 0 0)],Aa b2 47 zHeap,Bd w Bl] wl∧k ≤ x176∧k ≤ 257∧manyF objF k (bs180,bq181) = (os,(bs1,b1))∧no = k∧InD A177 n178 c179 bs180 A1 n1 c1 bs1) (257) ?aa1 ?bb1
  case aa1 =>
   exact ⟨0,n178,c179,0,0,A177,none,[],[],bs180,bq181,rfl,rfl,H195,Nat.zero_le _,by omega,rfl,rfl,InD.refl _ _ _ _⟩
  case bb1 =>
   rintro n197 ρ1 w196 ho198 ⟨k,n1,c1,no,co,A1,Ao,ros,os,bs1,b1,hs1_8,hn1,H199,hk1,hk2,hmy,hno,hin1⟩
   obtain ⟨j1,rfl⟩:=ho198.shape1 hs1_8
   clear ho198 hs1_8
   subst hn1
   have z200:=(H199.fix (i:=5) rfl).size
   have hq1:=hin1.r _ _ hq185
   refine aD (cT (zm (J (k:Int)) Z (zm (J (x176:Int)) Z ?_)))
   refine zc (((k:Int):Int) < ((x176:Int):Int)) Z (fun r hr=>bL Z Z hr) (fun h201=>?_) (fun h201=>?_)
   ·refine zm bT Z (zm (J (k:Int)) Z ?_)
    refine zc (((k:Int):Int) ≤ (256:Int)) Z (fun r hr=>bM Z Z hr) (fun h202=>?_) (fun h202=>?_)
    ·refine zT bT Z (zm bT Z (zm (.pointer (some ⟨b10,0,none⟩)) Z (zg Z (bX Z) (zg Z (fa213_1 (b:=⟨b10,1,none⟩) Z Z) (zl (.bool b1) lo4 (H199.ob (i:=2) Z) Z ?_)))))
     rcases b1 with _ | _
     ·refine zg Z (bC (b:=false) Z) (zT bT Z (cS (aE Z (aA (aQ (aD (aG (cT (zm (.pointer (some ⟨b10,0,none⟩)) Z ?_)))))))))
      obtain ⟨S220,hS221,hO222,K223⟩:=Sp.takeL (l1:=[Aa b10 213 [.slice A1 n1 c1,.bool false]]) (l2:=[ObjsA ros os,Ai 136 5 Ao no co (Cp ros),Aa b18 47 [(J (x31:Int)),(.slice Ao no co),(J (x55:Int)),(J (x80:Int)),(J (x104:Int)),(J (x128:Int)),(J (x152:Int)),(.slice none 0 0)],Aa b2 47 zHeap,Bd w Bl]) (w:=w196) (H199.sel [2,0,1,3,4,5] (by decide) rfl)
      refine aU call245 (robj_ _ S220 b10 A1 n1 c1 bs1 false hS221 ⟨(Cw hO222 (j:=4) Z hq1.1 (by omega)),hq1.2⟩) Z Z Z ?_
      rintro _ w224 ⟨o203,A204,n205,c206,A207,n208,c209,A210,n211,c212,bs213,bq214,rfl,g225,hob215,hind216,hnw217,hnl218⟩
      have H226:Sp [Aa b10 213 [.slice A210 n211 c212,.bool bq214],Ai 3 1 A204 n205 c206 (ics o203.words),Ai 3 1 A207 n208 c209 (ics o203.links),ObjsA ros os,Ai 136 5 Ao no co (Cp ros),Aa b18 47 [(J (x31:Int)),(.slice Ao no co),(J (x55:Int)),(J (x80:Int)),(J (x104:Int)),(J (x128:Int)),(J (x152:Int)),(.slice none 0 0)],Aa b2 47 zHeap,Bd w Bl] w224:=K223 _ _ g225
      have z227:=(H226.fix (i:=7) rfl).size
      have hq219:=hind216.r _ _ hq1
      refine bG (cs:=[(J 0),(J 0),(J 0),(.slice none 0 0),(.slice none 0 0)]) zeroValue136 Z Z Z ?_
      intro w228 b229 hb230 hz231 g232 o233
      have H234:=H226.newB g232 o233 (by omega)
      have z235:=g232.size
      refine bE (vs:=[(J o203.handle),(J o203.blk.at_),(J o203.blk.ord),(.slice A204 n205 c206),(.slice A207 n208 c209)]) (cs':=[(J o203.handle),(J o203.blk.at_),(J o203.blk.ord),(.slice A204 n205 c206),(.slice A207 n208 c209)]) sizeOf136 (H234.ob (i:=0) Z) Z Z Z Z Z Z ?_
      intro w236 hz237 g238 o239
      have H240:Sp [Aa b229 136 [(J o203.handle),(J o203.blk.at_),(J o203.blk.ord),(.slice A204 n205 c206),(.slice A207 n208 c209)],Aa b10 213 [.slice A210 n211 c212,.bool bq214],Ai 3 1 A204 n205 c206 (ics o203.words),Ai 3 1 A207 n208 c209 (ics o203.links),ObjsA ros os,Ai 136 5 Ao no co (Cp ros),Aa b18 47 [(J (x31:Int)),(.slice Ao no co),(J (x55:Int)),(J (x80:Int)),(J (x104:Int)),(J (x128:Int)),(J (x152:Int)),(.slice none 0 0)],Aa b2 47 zHeap,Bd w Bl] w236:=H234.setB (i:=0) rfl g238 o239 rfl
      have z241:=g238.size
      refine cS (aL (zg Z (fa47_1 (b:=⟨b18,1,none⟩) Z Z) (zl (.slice Ao no co) lo43 (H240.ob (i:=6) Z) Z (zg Z (bW Z (Aj (cs:=[(J o203.handle),(J o203.blk.at_),(J o203.blk.ord),(.slice A204 n205 c206),(.slice A207 n208 c209)]) wh136 (H240.ob (i:=0) Z).cl)) (cF (cs:=[(J o203.handle),(J o203.blk.at_),(J o203.blk.ord),(.slice A204 n205 c206),(.slice A207 n208 c209)]) underlying43 sizeOf136 ze43 Z Z Z (by decide) Z Z Z ?_)))))
      intro w242 b243 hb244 hz245 g246 o247
      have H248:=H240.newB g246 o247 (by omega)
      have z249:=g246.size
      refine cL (base:=0) (xss:=(Cp ros)) (yss:=(Cp ([(⟨o203.handle,o203.blk,⟨A204,n205,c206⟩,⟨A207,n208,c209⟩⟩:RObj)]))) el43 (H248.wr (i:=6) Z) Z (Ob.rd1 (H248.ob (i:=0) Z) Z) Z (by simp only [Aq,Au,Ar,Am,Ak,Ap,List.length_append,List.length_cons,List.length_nil,List.length_take,List.length_drop,List.length_map,Cr,Dp,Bj,Bk,Do]; try omega) (robjs_one _) (by omega) (by omega) (by omega) Z Z ?_
      intro w250 A251 c252 g253 ow254 nx255
      have H256:Sp [Aa b243 136 [(J o203.handle),(J o203.blk.at_),(J o203.blk.ord),(.slice A204 n205 c206),(.slice A207 n208 c209)],Aa b229 136 [(J o203.handle),(J o203.blk.at_),(J o203.blk.ord),(.slice A204 n205 c206),(.slice A207 n208 c209)],Aa b10 213 [.slice A210 n211 c212,.bool bq214],Ai 3 1 A204 n205 c206 (ics o203.words),Ai 3 1 A207 n208 c209 (ics o203.links),ObjsA ros os,Ai 136 5 A251 (no + 1) c252 (Cp (ros ++ [(⟨o203.handle,o203.blk,⟨A204,n205,c206⟩,⟨A207,n208,c209⟩⟩:RObj)])),Aa b18 47 [(J (x31:Int)),(.slice Ao no co),(J (x55:Int)),(J (x80:Int)),(J (x104:Int)),(J (x128:Int)),(J (x152:Int)),(.slice none 0 0)],Aa b2 47 zHeap,Bd w Bl] w250:=H248.setR (i:=6) rfl g253 ((robjs_app _ _).symm ▸ ow254) nx255 rfl
      have z257:=g253.size
      refine zg Z (fa47_1 (b:=⟨b18,1,none⟩) Z Z) (bE (vs:=[(.slice A251 (no + 1) c252)]) (cs':=[(J (x31:Int)),(.slice A251 (no + 1) c252),(J (x55:Int)),(J (x80:Int)),(J (x104:Int)),(J (x128:Int)),(J (x152:Int)),(.slice none 0 0)]) sizeOf43 (H256.ob (i:=7) Z) Z Z Z Z Z Z ?_)
      intro w258 hz259 g260 o261
      have H262:Sp [Aa b243 136 [(J o203.handle),(J o203.blk.at_),(J o203.blk.ord),(.slice A204 n205 c206),(.slice A207 n208 c209)],Aa b229 136 [(J o203.handle),(J o203.blk.at_),(J o203.blk.ord),(.slice A204 n205 c206),(.slice A207 n208 c209)],Aa b10 213 [.slice A210 n211 c212,.bool bq214],Ai 3 1 A204 n205 c206 (ics o203.words),Ai 3 1 A207 n208 c209 (ics o203.links),ObjsA ros os,Ai 136 5 A251 (no + 1) c252 (Cp (ros ++ [(⟨o203.handle,o203.blk,⟨A204,n205,c206⟩,⟨A207,n208,c209⟩⟩:RObj)])),Aa b18 47 [(J (x31:Int)),(.slice A251 (no + 1) c252),(J (x55:Int)),(J (x80:Int)),(J (x104:Int)),(J (x128:Int)),(J (x152:Int)),(.slice none 0 0)],Aa b2 47 zHeap,Bd w Bl] w258:=H256.setB (i:=7) rfl g260 o261 rfl
      have z263:=g260.size
      refine aM (inB.n (aQ (aL (zm (J (k:Int)) Z (zg Z (bI (r:=(k:Int) + 1) Z Z (Dl (by omega) (by omega))) (za (J ((k:Int) + 1)) Z (cS ?_)))))))
      have H264:Sp [ObjsA (ros ++ [(⟨o203.handle,o203.blk,⟨A204,n205,c206⟩,⟨A207,n208,c209⟩⟩:RObj)]) (os ++ [o203]),Aa b243 136 [(J o203.handle),(J o203.blk.at_),(J o203.blk.ord),(.slice A204 n205 c206),(.slice A207 n208 c209)],Aa b229 136 [(J o203.handle),(J o203.blk.at_),(J o203.blk.ord),(.slice A204 n205 c206),(.slice A207 n208 c209)],Aa b10 213 [.slice A210 n211 c212,.bool bq214],Ai 136 5 A251 (no + 1) c252 (Cp (ros ++ [(⟨o203.handle,o203.blk,⟨A204,n205,c206⟩,⟨A207,n208,c209⟩⟩:RObj)])),Aa b18 47 [(J (x31:Int)),(.slice A251 (no + 1) c252),(J (x55:Int)),(J (x80:Int)),(J (x104:Int)),(J (x128:Int)),(J (x152:Int)),(.slice none 0 0)],Aa b2 47 zHeap,Bd w Bl] w258:=(Sp.obSnoc (ros:=ros) (os:=os) (o:=o203) (H262.sel [5,3,4,0,1,2,6,7,8,9] (by decide) rfl) (by omega) (by omega))
      refine ⟨(by repeat (first | exact aJ _ _ | exact aH _ _ | refine aI ?_ Z _ | refine cR ?_ (by intro t ht; simp only [Bool.or_eq_false_iff,Bool.and_eq_false_iff,ble_f,beq_f] at ht ⊢; omega))),_,?_,k + 1,n211,c212,no + 1,c252,A210,A251,ros ++ [(⟨o203.handle,o203.blk,⟨A204,n205,c206⟩,⟨A207,n208,c209⟩⟩:RObj)],os ++ [o203],bs213,bq214,rfl,rfl,(H264.sel [0,4,3,5,6,7] (by decide) Z),by omega,by omega,manyF_go hmy hob215,by omega,hin1.trans hind216⟩
      omega
     ·refine zg Z (bC (b:=true) Z) (zT bF Z (cS (aF Z (aC (aS (aS (Bo (aQ (aD (aD ?_))))))))))
      have hgh:=getHeap_ref hnum37 hnum61 hnum86 hnum110 hnum134 hnum158 hnum182 hmy (by omega) (by first | exact .inl (by omega) | exact .inr (.inl (by omega)) | exact .inr (.inr rfl))
      have hob:=H199.obR (i:=0) rfl
      have hobl:=hob.1
      have hrl:=H199.len (i:=1) rfl
      rw [Ak] at hrl
      have hmb:=map_blk hob
      have hq1l:=hq1.2.1
      refine aL (zm (.pointer (some ⟨b10,0,none⟩)) Z (zg Z (bX Z) (zg Z (fa213_1 (b:=⟨b10,1,none⟩) Z Z) (zl (bT) lo4 (H199.ob (i:=2) Z) Z (zm bT Z (zo Z (zo Z (zo Z (zo Z (zo Z ?_))))))))))
      refine zo Z (zT bT Z (zm bT Z (zo Z (zo Z (zo Z (zo Z (zT bT Z (zm bT Z (zo Z (zo Z ?_))))))))))
      refine zo Z (zo Z (zo Z (zT bT Z (cS (aE Z (cT (zg Z (bY (cs:=zHeap) bd47 Z) (bE (vs:=zHeap) (cs':=zHeap) sizeOf47 (H199.ob (i:=4) Z) Z Z Z Z Z Z ?_))))))))
      intro w265 hz266 g267 o268
      have H269:Sp [ObjsA ros os,Ai 136 5 Ao no co (Cp ros),Aa b10 213 [.slice A1 n1 c1,.bool true],Aa b18 47 [(J (x31:Int)),(.slice Ao no co),(J (x55:Int)),(J (x80:Int)),(J (x104:Int)),(J (x128:Int)),(J (x152:Int)),(.slice none 0 0)],Aa b2 47 zHeap,Bd w Bl] w265:=H199.setB (i:=4) rfl g267 o268 rfl
      have z270:=g267.size
      refine za (J 60) Z (cS (aB (aR (aO (v:=(.tuple #[(.agg (zHeap).toArray),(J 60)])) (Ch Z (cA Z (Aj (cs:=zHeap) wh47 (H269.ob (i:=4) Z).cl)) (bZ Z)) ?_))))
      exact .inr ⟨rfl,(H269.fix (i:=5) rfl),by rw [hgh,if_neg (fun ⟨q1,q2,q3,q4,q5⟩=>by first | (cases q1; done) | (rw [q2] at hq1l; simp only [List.length_nil] at hq1l; omega) | omega)]⟩
    ·refine zT bF Z (zm bF Z (zo Z (zo Z (zo Z (zo Z (zo Z (zF bF Z (cS (aF Z (aC (aS (aS (Bo (aQ (aD (aD ?_))))))))))))))))
     have hgh:=getHeap_ref hnum37 hnum61 hnum86 hnum110 hnum134 hnum158 hnum182 hmy (by omega) (by first | exact .inl (by omega) | exact .inr (.inl (by omega)) | exact .inr (.inr rfl))
     have hob:=H199.obR (i:=0) rfl
     have hobl:=hob.1
     have hrl:=H199.len (i:=1) rfl
     rw [Ak] at hrl
     have hmb:=map_blk hob
     have hq1l:=hq1.2.1
     refine aL (zm (.pointer (some ⟨b10,0,none⟩)) Z (zg Z (bX Z) (zg Z (fa213_1 (b:=⟨b10,1,none⟩) Z Z) (zl (.bool b1) lo4 (H199.ob (i:=2) Z) Z ?_))))
     rcases b1 with _ | _
     ·refine zm bF Z (zm (.pointer (some ⟨b10,0,none⟩)) Z (zg Z (bX Z) (zg Z (fa213_0 (b:=⟨b10,0,none⟩) Z Z) (zl (.slice A1 n1 c1) lo97 (H199.ob (i:=2) Z) Z (zg Z (bR underlying97 Z) ?_)))))
      refine zc ((0:Int) < ((n1:Nat):Int)) Z (fun r hr=>bN Z Z hr) (fun h271=>?_) (fun h271=>?_)
      ·refine zF bT Z (zm bT Z (zo Z (zo Z (zo Z (zo Z (zT bT Z (zm bT Z (zo Z (zo Z (zo Z ?_))))))))))
       refine zo Z (zo Z (zT bT Z (cS (aE Z (cT (zg Z (bY (cs:=zHeap) bd47 Z) (bE (vs:=zHeap) (cs':=zHeap) sizeOf47 (H199.ob (i:=4) Z) Z Z Z Z Z Z ?_)))))))
       intro w272 hz273 g274 o275
       have H276:Sp [ObjsA ros os,Ai 136 5 Ao no co (Cp ros),Aa b10 213 [.slice A1 n1 c1,.bool false],Aa b18 47 [(J (x31:Int)),(.slice Ao no co),(J (x55:Int)),(J (x80:Int)),(J (x104:Int)),(J (x128:Int)),(J (x152:Int)),(.slice none 0 0)],Aa b2 47 zHeap,Bd w Bl] w272:=H199.setB (i:=4) rfl g274 o275 rfl
       have z277:=g274.size
       refine za (J 60) Z (cS (aB (aR (aO (v:=(.tuple #[(.agg (zHeap).toArray),(J 60)])) (Ch Z (cA Z (Aj (cs:=zHeap) wh47 (H276.ob (i:=4) Z).cl)) (bZ Z)) ?_))))
       exact .inr ⟨rfl,(H276.fix (i:=5) rfl),by rw [hgh,if_neg (fun ⟨q1,q2,q3,q4,q5⟩=>by first | (cases q1; done) | (rw [q2] at hq1l; simp only [List.length_nil] at hq1l; omega) | omega)]⟩
      ·refine zF bF Z (zm bF Z (zg Z (fa47_0 (b:=⟨b18,0,none⟩) Z Z) (zl (J (x31:Int)) Bw (H199.ob (i:=3) Z) Z (aU call235 (reg_ _ (x31:Int)) Z Z Z ?_))))
       rintro _ w278 ⟨rfl,g279⟩
       have H280:=H199.grow g279
       have z281:=g279.size
       rcases hb282:(Az (x31:Int) 3 8) with _ | _
       ·have hwf:=withinB_f hb282
        refine zg Z (bC (b:=false) Z) (zF bT Z (zm bT Z (zo Z (zo Z (zo Z (zo Z (zo Z (zT bT Z (cS (aE Z (cT (zg Z (bY (cs:=zHeap) bd47 Z) ?_))))))))))))
        refine bE (vs:=zHeap) (cs':=zHeap) sizeOf47 (H280.ob (i:=4) Z) Z Z Z Z Z Z ?_
        intro w283 hz284 g285 o286
        have H287:Sp [ObjsA ros os,Ai 136 5 Ao no co (Cp ros),Aa b10 213 [.slice A1 n1 c1,.bool false],Aa b18 47 [(J (x31:Int)),(.slice Ao no co),(J (x55:Int)),(J (x80:Int)),(J (x104:Int)),(J (x128:Int)),(J (x152:Int)),(.slice none 0 0)],Aa b2 47 zHeap,Bd w Bl] w283:=H280.setB (i:=4) rfl g285 o286 rfl
        have z288:=g285.size
        refine za (J 60) Z (cS (aB (aR (aO (v:=(.tuple #[(.agg (zHeap).toArray),(J 60)])) (Ch Z (cA Z (Aj (cs:=zHeap) wh47 (H287.ob (i:=4) Z).cl)) (bZ Z)) ?_))))
        exact .inr ⟨rfl,(H287.fix (i:=5) rfl),by rw [hgh,if_neg (fun ⟨q1,q2,q3,q4,q5⟩=>by first | (cases q1; done) | (rw [q2] at hq1l; simp only [List.length_nil] at hq1l; omega) | (rw [hb282] at q3; cases q3) | (rw [hb282] at q5; cases q5) | omega)]⟩
       ·have hwt:=Bh hb282
        refine zg Z (bC (b:=true) Z) (zF bF Z (zm bF Z (zm (J (x176:Int)) Z (zg Z (fa47_1 (b:=⟨b18,1,none⟩) Z Z) (zl (.slice Ao no co) lo43 (H280.ob (i:=3) Z) Z (zg Z (bR underlying43 Z) ?_))))))
        refine zc (((x176:Int):Int) ≠ ((no:Nat):Int)) Z (fun r hr=>bQ Z Z hr) (fun h289=>?_) (fun h289=>?_)
        ·refine zF bT Z (cS (aE Z (cT (zg Z (bY (cs:=zHeap) bd47 Z) (bE (vs:=zHeap) (cs':=zHeap) sizeOf47 (H280.ob (i:=4) Z) Z Z Z Z Z Z ?_)))))
         intro w290 hz291 g292 o293
         have H294:Sp [ObjsA ros os,Ai 136 5 Ao no co (Cp ros),Aa b10 213 [.slice A1 n1 c1,.bool false],Aa b18 47 [(J (x31:Int)),(.slice Ao no co),(J (x55:Int)),(J (x80:Int)),(J (x104:Int)),(J (x128:Int)),(J (x152:Int)),(.slice none 0 0)],Aa b2 47 zHeap,Bd w Bl] w290:=H280.setB (i:=4) rfl g292 o293 rfl
         have z295:=g292.size
         refine za (J 60) Z (cS (aB (aR (aO (v:=(.tuple #[(.agg (zHeap).toArray),(J 60)])) (Ch Z (cA Z (Aj (cs:=zHeap) wh47 (H294.ob (i:=4) Z).cl)) (bZ Z)) ?_))))
         exact .inr ⟨rfl,(H294.fix (i:=5) rfl),by rw [hgh,if_neg (fun ⟨q1,q2,q3,q4,q5⟩=>by first | (cases q1; done) | (rw [q2] at hq1l; simp only [List.length_nil] at hq1l; omega) | (rw [hb282] at q3; cases q3) | (rw [hb282] at q5; cases q5) | omega)]⟩
        ·refine zF bF Z (cS (aF Z (aA (aQ (aD ?_)))))
         have hxb:=obs_bd hmb (many_ok hmy)
         refine aL (zg Z (fa47_0 (b:=⟨b18,0,none⟩) Z Z) (zl (J (x31:Int)) Bw (H280.ob (i:=3) Z) Z (zg Z (fa47_1 (b:=⟨b18,1,none⟩) Z Z) (zl (.slice Ao no co) lo43 (H280.ob (i:=3) Z) Z (aU call246 (freeR_ _ w278.heap.size (x31:Int) ros Ao no co ((H280.rowrd (i:=1) Z).more (Nat.le_refl _)) (by first | assumption | omega) (Nat.le_refl _) (by omega) (by first | assumption | omega) hxb) Z Z Z ?_)))))
         rintro _ w300 ⟨A296,n297,c298,rfl,g301,hn6299⟩
         have g302:=g301.fix (i:=1) rfl
         have H303:Sp [Ai 133 2 A296 n297 c298 (Cq ((Dq (Af (x31:Int)) (ros.map RObj.blk) [⟨0,(x31:Int)⟩]))),ObjsA ros os,Ai 136 5 Ao no co (Cp ros),Aa b10 213 [.slice A1 n1 c1,.bool false],Aa b18 47 [(J (x31:Int)),(.slice Ao no co),(J (x55:Int)),(J (x80:Int)),(J (x104:Int)),(J (x128:Int)),(J (x152:Int)),(.slice none 0 0)],Aa b2 47 zHeap,Bd w Bl] w300:=H280.join (m:=[Ai 133 2 A296 n297 c298 (Cq ((Dq (Af (x31:Int)) (ros.map RObj.blk) [⟨0,(x31:Int)⟩])))]) g301
         have z304:=g302.size
         refine zg Z (fa47_4 (b:=⟨b18,7,none⟩) Z Z) (bE (vs:=[(.slice A296 n297 c298)]) (cs':=[(J (x31:Int)),(.slice Ao no co),(J (x55:Int)),(J (x80:Int)),(J (x104:Int)),(J (x128:Int)),(J (x152:Int)),(.slice A296 n297 c298)]) sizeOf45 (H303.ob (i:=4) Z) Z Z Z Z Z Z ?_)
         intro w305 hz306 g307 o308
         have H309:Sp [Ai 133 2 A296 n297 c298 (Cq ((Dq (Af (x31:Int)) (ros.map RObj.blk) [⟨0,(x31:Int)⟩]))),ObjsA ros os,Ai 136 5 Ao no co (Cp ros),Aa b10 213 [.slice A1 n1 c1,.bool false],Aa b18 47 [(J (x31:Int)),(.slice Ao no co),(J (x55:Int)),(J (x80:Int)),(J (x104:Int)),(J (x128:Int)),(J (x152:Int)),(.slice A296 n297 c298)],Aa b2 47 zHeap,Bd w Bl] w305:=H303.setB (i:=4) rfl g307 o308 rfl
         have z310:=g307.size
         refine cS (aD (aD ?_))
         rw [hmb] at H309
         have H311:Sp [HpW (⟨(x31:Int),⟨Ao,no,co⟩,(x55:Int),(x80:Int),(x104:Int),(x128:Int),(x152:Int),⟨A296,n297,c298⟩⟩:RHeap) ros (⟨(x31:Int),os,(x55:Int),(x80:Int),(x104:Int),(x128:Int),(x152:Int),(Dq (Af (x31:Int)) (os.map Obj.blk) [⟨0,(x31:Int)⟩])⟩:Eng.Heap),Aa b10 213 [.slice A1 n1 c1,.bool false],Aa b18 47 [(J (x31:Int)),(.slice Ao no co),(J (x55:Int)),(J (x80:Int)),(J (x104:Int)),(J (x128:Int)),(J (x152:Int)),(.slice A296 n297 c298)],Aa b2 47 zHeap,Bd w Bl] w305:=(Sp.hpMk (rh:=(⟨(x31:Int),⟨Ao,no,co⟩,(x55:Int),(x80:Int),(x104:Int),(x128:Int),(x152:Int),⟨A296,n297,c298⟩⟩:RHeap)) (ros:=ros) (hh:=(⟨(x31:Int),os,(x55:Int),(x80:Int),(x104:Int),(x128:Int),(x152:Int),(Dq (Af (x31:Int)) (os.map Obj.blk) [⟨0,(x31:Int)⟩])⟩:Eng.Heap)) (H309.sel [2,1,0,3,4,5,6] (by decide) rfl) ⟨rfl,rfl,rfl,by show no ≤ _; omega,by show n297 ≤ _; omega⟩)
         refine aL (zg Z (bW Z (Aj (cs:=[(J (x31:Int)),(.slice Ao no co),(J (x55:Int)),(J (x80:Int)),(J (x104:Int)),(J (x128:Int)),(J (x152:Int)),(.slice A296 n297 c298)]) wh47 (H311.ob (i:=2) Z).cl)) (aU call167 (right05_ _ _ (⟨(x31:Int),⟨Ao,no,co⟩,(x55:Int),(x80:Int),(x104:Int),(x128:Int),(x152:Int),⟨A296,n297,c298⟩⟩:RHeap) _ _ (H311.hpWR (i:=0) Z) (Nat.le_refl _) (by first | assumption | omega | (dsimp only; omega))) Z Z Z ?_))
         rintro _ w312 ⟨rfl,g313⟩
         have H314:=H311.grow g313
         have z315:=g313.size
         rcases hb316:(Dc ((⟨(x31:Int),os,(x55:Int),(x80:Int),(x104:Int),(x128:Int),(x152:Int),(Dq (Af (x31:Int)) (os.map Obj.blk) [⟨0,(x31:Int)⟩])⟩:Eng.Heap))) with _ | _
         ·refine zg Z (bC (b:=false) Z) (cS (aE Z (cT (zg Z (bY (cs:=zHeap) bd47 Z) (bE (vs:=zHeap) (cs':=zHeap) sizeOf47 (H314.ob (i:=3) Z) Z Z Z Z Z Z ?_)))))
          intro w317 hz318 g319 o320
          have H321:Sp [HpW (⟨(x31:Int),⟨Ao,no,co⟩,(x55:Int),(x80:Int),(x104:Int),(x128:Int),(x152:Int),⟨A296,n297,c298⟩⟩:RHeap) ros (⟨(x31:Int),os,(x55:Int),(x80:Int),(x104:Int),(x128:Int),(x152:Int),(Dq (Af (x31:Int)) (os.map Obj.blk) [⟨0,(x31:Int)⟩])⟩:Eng.Heap),Aa b10 213 [.slice A1 n1 c1,.bool false],Aa b18 47 [(J (x31:Int)),(.slice Ao no co),(J (x55:Int)),(J (x80:Int)),(J (x104:Int)),(J (x128:Int)),(J (x152:Int)),(.slice A296 n297 c298)],Aa b2 47 zHeap,Bd w Bl] w317:=H314.setB (i:=3) rfl g319 o320 rfl
          have z322:=g319.size
          refine za (J 60) Z (cS (aB (aR (aO (v:=(.tuple #[(.agg (zHeap).toArray),(J 60)])) (Ch Z (cA Z (Aj (cs:=zHeap) wh47 (H321.ob (i:=3) Z).cl)) (bZ Z)) ?_))))
          exact .inr ⟨rfl,(H321.fix (i:=4) rfl),by rw [hgh,if_neg (fun ⟨q1,q2,q3,q4,q5⟩=>by first | (cases q1; done) | (rw [q2] at hq1l; simp only [List.length_nil] at hq1l; omega) | (rw [hb316] at q3; cases q3) | (rw [hb316] at q5; cases q5) | omega)]⟩
         ·refine zg Z (bC (b:=true) Z) (cS (aF Z (aA (aQ (cT (zg Z (bW Z (Aj (cs:=[(J (x31:Int)),(.slice Ao no co),(J (x55:Int)),(J (x80:Int)),(J (x104:Int)),(J (x128:Int)),(J (x152:Int)),(.slice A296 n297 c298)]) wh47 (H314.ob (i:=2) Z).cl)) (bE (vs:=[(J (x31:Int)),(.slice Ao no co),(J (x55:Int)),(J (x80:Int)),(J (x104:Int)),(J (x128:Int)),(J (x152:Int)),(.slice A296 n297 c298)]) (cs':=[(J (x31:Int)),(.slice Ao no co),(J (x55:Int)),(J (x80:Int)),(J (x104:Int)),(J (x128:Int)),(J (x152:Int)),(.slice A296 n297 c298)]) sizeOf47 (H314.ob (i:=3) Z) Z Z Z Z Z Z ?_)))))))
          intro w323 hz324 g325 o326
          have H327:Sp [HpW (⟨(x31:Int),⟨Ao,no,co⟩,(x55:Int),(x80:Int),(x104:Int),(x128:Int),(x152:Int),⟨A296,n297,c298⟩⟩:RHeap) ros (⟨(x31:Int),os,(x55:Int),(x80:Int),(x104:Int),(x128:Int),(x152:Int),(Dq (Af (x31:Int)) (os.map Obj.blk) [⟨0,(x31:Int)⟩])⟩:Eng.Heap),Aa b10 213 [.slice A1 n1 c1,.bool false],Aa b18 47 [(J (x31:Int)),(.slice Ao no co),(J (x55:Int)),(J (x80:Int)),(J (x104:Int)),(J (x128:Int)),(J (x152:Int)),(.slice A296 n297 c298)],Aa b2 47 [(J (x31:Int)),(.slice Ao no co),(J (x55:Int)),(J (x80:Int)),(J (x104:Int)),(J (x128:Int)),(J (x152:Int)),(.slice A296 n297 c298)],Bd w Bl] w323:=H314.setB (i:=3) rfl g325 o326 rfl
          have z328:=g325.size
          refine za (J 0) Z (cS (aB (aO (v:=(.tuple #[(.agg ([(J (x31:Int)),(.slice Ao no co),(J (x55:Int)),(J (x80:Int)),(J (x104:Int)),(J (x128:Int)),(J (x152:Int)),(.slice A296 n297 c298)]).toArray),(J 0)])) (Ch Z (cA Z (Aj (cs:=[(J (x31:Int)),(.slice Ao no co),(J (x55:Int)),(J (x80:Int)),(J (x104:Int)),(J (x128:Int)),(J (x152:Int)),(.slice A296 n297 c298)]) wh47 (H327.ob (i:=3) Z).cl)) (bZ Z)) ?_)))
          exact .inl ⟨(⟨(x31:Int),⟨Ao,no,co⟩,(x55:Int),(x80:Int),(x104:Int),(x128:Int),(x152:Int),⟨A296,n297,c298⟩⟩:RHeap),ros,_,rfl,(H327.sel [0,4] (by decide) Z),by rw [hgh,if_pos ⟨Z,List.eq_nil_of_length_eq_zero (by omega),hb282,by omega,hb316⟩],hb316⟩
     ·refine zm bT Z (zo Z (zo Z (zo Z (zo Z (zo Z (zo Z (zT bT Z (zm bT Z (zo Z (zo Z ?_))))))))))
      refine zo Z (zo Z (zT bT Z (zm bT Z (zo Z (zo Z (zo Z (zo Z (zo Z (zT bT Z (cS (aE Z (cT ?_))))))))))))
      refine zg Z (bY (cs:=zHeap) bd47 Z) (bE (vs:=zHeap) (cs':=zHeap) sizeOf47 (H199.ob (i:=4) Z) Z Z Z Z Z Z ?_)
      intro w329 hz330 g331 o332
      have H333:Sp [ObjsA ros os,Ai 136 5 Ao no co (Cp ros),Aa b10 213 [.slice A1 n1 c1,.bool true],Aa b18 47 [(J (x31:Int)),(.slice Ao no co),(J (x55:Int)),(J (x80:Int)),(J (x104:Int)),(J (x128:Int)),(J (x152:Int)),(.slice none 0 0)],Aa b2 47 zHeap,Bd w Bl] w329:=H199.setB (i:=4) rfl g331 o332 rfl
      have z334:=g331.size
      refine za (J 60) Z (cS (aB (aR (aO (v:=(.tuple #[(.agg (zHeap).toArray),(J 60)])) (Ch Z (cA Z (Aj (cs:=zHeap) wh47 (H333.ob (i:=4) Z).cl)) (bZ Z)) ?_))))
      exact .inr ⟨rfl,(H333.fix (i:=5) rfl),by rw [hgh,if_neg (fun ⟨q1,q2,q3,q4,q5⟩=>by first | (cases q1; done) | (rw [q2] at hq1l; simp only [List.length_nil] at hq1l; omega) | omega)]⟩
   ·refine zm bF Z (zo Z (zo Z (zF bF Z (zm bF Z (zo Z (zo Z (zo Z (zo Z (zo Z (zF bF Z ?_))))))))))
    refine cS (aF Z (aC (aS (aS (Bo (aQ (aD (aD ?_))))))))
    have hgh:=getHeap_ref hnum37 hnum61 hnum86 hnum110 hnum134 hnum158 hnum182 hmy (by omega) (by first | exact .inl (by omega) | exact .inr (.inl (by omega)) | exact .inr (.inr rfl))
    have hob:=H199.obR (i:=0) rfl
    have hobl:=hob.1
    have hrl:=H199.len (i:=1) rfl
    rw [Ak] at hrl
    have hmb:=map_blk hob
    have hq1l:=hq1.2.1
    refine aL (zm (.pointer (some ⟨b10,0,none⟩)) Z (zg Z (bX Z) (zg Z (fa213_1 (b:=⟨b10,1,none⟩) Z Z) (zl (.bool b1) lo4 (H199.ob (i:=2) Z) Z ?_))))
    rcases b1 with _ | _
    ·refine zm bF Z (zm (.pointer (some ⟨b10,0,none⟩)) Z (zg Z (bX Z) (zg Z (fa213_0 (b:=⟨b10,0,none⟩) Z Z) (zl (.slice A1 n1 c1) lo97 (H199.ob (i:=2) Z) Z (zg Z (bR underlying97 Z) ?_)))))
     refine zc ((0:Int) < ((n1:Nat):Int)) Z (fun r hr=>bN Z Z hr) (fun h335=>?_) (fun h335=>?_)
     ·refine zF bT Z (zm bT Z (zo Z (zo Z (zo Z (zo Z (zT bT Z (zm bT Z (zo Z (zo Z (zo Z ?_))))))))))
      refine zo Z (zo Z (zT bT Z (cS (aE Z (cT (zg Z (bY (cs:=zHeap) bd47 Z) (bE (vs:=zHeap) (cs':=zHeap) sizeOf47 (H199.ob (i:=4) Z) Z Z Z Z Z Z ?_)))))))
      intro w336 hz337 g338 o339
      have H340:Sp [ObjsA ros os,Ai 136 5 Ao no co (Cp ros),Aa b10 213 [.slice A1 n1 c1,.bool false],Aa b18 47 [(J (x31:Int)),(.slice Ao no co),(J (x55:Int)),(J (x80:Int)),(J (x104:Int)),(J (x128:Int)),(J (x152:Int)),(.slice none 0 0)],Aa b2 47 zHeap,Bd w Bl] w336:=H199.setB (i:=4) rfl g338 o339 rfl
      have z341:=g338.size
      refine za (J 60) Z (cS (aB (aR (aO (v:=(.tuple #[(.agg (zHeap).toArray),(J 60)])) (Ch Z (cA Z (Aj (cs:=zHeap) wh47 (H340.ob (i:=4) Z).cl)) (bZ Z)) ?_))))
      exact .inr ⟨rfl,(H340.fix (i:=5) rfl),by rw [hgh,if_neg (fun ⟨q1,q2,q3,q4,q5⟩=>by first | (cases q1; done) | (rw [q2] at hq1l; simp only [List.length_nil] at hq1l; omega) | omega)]⟩
     ·refine zF bF Z (zm bF Z (zg Z (fa47_0 (b:=⟨b18,0,none⟩) Z Z) (zl (J (x31:Int)) Bw (H199.ob (i:=3) Z) Z (aU call235 (reg_ _ (x31:Int)) Z Z Z ?_))))
      rintro _ w342 ⟨rfl,g343⟩
      have H344:=H199.grow g343
      have z345:=g343.size
      rcases hb346:(Az (x31:Int) 3 8) with _ | _
      ·have hwf:=withinB_f hb346
       refine zg Z (bC (b:=false) Z) (zF bT Z (zm bT Z (zo Z (zo Z (zo Z (zo Z (zo Z (zT bT Z (cS (aE Z (cT (zg Z (bY (cs:=zHeap) bd47 Z) ?_))))))))))))
       refine bE (vs:=zHeap) (cs':=zHeap) sizeOf47 (H344.ob (i:=4) Z) Z Z Z Z Z Z ?_
       intro w347 hz348 g349 o350
       have H351:Sp [ObjsA ros os,Ai 136 5 Ao no co (Cp ros),Aa b10 213 [.slice A1 n1 c1,.bool false],Aa b18 47 [(J (x31:Int)),(.slice Ao no co),(J (x55:Int)),(J (x80:Int)),(J (x104:Int)),(J (x128:Int)),(J (x152:Int)),(.slice none 0 0)],Aa b2 47 zHeap,Bd w Bl] w347:=H344.setB (i:=4) rfl g349 o350 rfl
       have z352:=g349.size
       refine za (J 60) Z (cS (aB (aR (aO (v:=(.tuple #[(.agg (zHeap).toArray),(J 60)])) (Ch Z (cA Z (Aj (cs:=zHeap) wh47 (H351.ob (i:=4) Z).cl)) (bZ Z)) ?_))))
       exact .inr ⟨rfl,(H351.fix (i:=5) rfl),by rw [hgh,if_neg (fun ⟨q1,q2,q3,q4,q5⟩=>by first | (cases q1; done) | (rw [q2] at hq1l; simp only [List.length_nil] at hq1l; omega) | (rw [hb346] at q3; cases q3) | (rw [hb346] at q5; cases q5) | omega)]⟩
      ·have hwt:=Bh hb346
       refine zg Z (bC (b:=true) Z) (zF bF Z (zm bF Z (zm (J (x176:Int)) Z (zg Z (fa47_1 (b:=⟨b18,1,none⟩) Z Z) (zl (.slice Ao no co) lo43 (H344.ob (i:=3) Z) Z (zg Z (bR underlying43 Z) ?_))))))
       refine zc (((x176:Int):Int) ≠ ((no:Nat):Int)) Z (fun r hr=>bQ Z Z hr) (fun h353=>?_) (fun h353=>?_)
       ·refine zF bT Z (cS (aE Z (cT (zg Z (bY (cs:=zHeap) bd47 Z) (bE (vs:=zHeap) (cs':=zHeap) sizeOf47 (H344.ob (i:=4) Z) Z Z Z Z Z Z ?_)))))
        intro w354 hz355 g356 o357
        have H358:Sp [ObjsA ros os,Ai 136 5 Ao no co (Cp ros),Aa b10 213 [.slice A1 n1 c1,.bool false],Aa b18 47 [(J (x31:Int)),(.slice Ao no co),(J (x55:Int)),(J (x80:Int)),(J (x104:Int)),(J (x128:Int)),(J (x152:Int)),(.slice none 0 0)],Aa b2 47 zHeap,Bd w Bl] w354:=H344.setB (i:=4) rfl g356 o357 rfl
        have z359:=g356.size
        refine za (J 60) Z (cS (aB (aR (aO (v:=(.tuple #[(.agg (zHeap).toArray),(J 60)])) (Ch Z (cA Z (Aj (cs:=zHeap) wh47 (H358.ob (i:=4) Z).cl)) (bZ Z)) ?_))))
        exact .inr ⟨rfl,(H358.fix (i:=5) rfl),by rw [hgh,if_neg (fun ⟨q1,q2,q3,q4,q5⟩=>by first | (cases q1; done) | (rw [q2] at hq1l; simp only [List.length_nil] at hq1l; omega) | (rw [hb346] at q3; cases q3) | (rw [hb346] at q5; cases q5) | omega)]⟩
       ·refine zF bF Z (cS (aF Z (aA (aQ (aD ?_)))))
        have hxb:=obs_bd hmb (many_ok hmy)
        refine aL (zg Z (fa47_0 (b:=⟨b18,0,none⟩) Z Z) (zl (J (x31:Int)) Bw (H344.ob (i:=3) Z) Z (zg Z (fa47_1 (b:=⟨b18,1,none⟩) Z Z) (zl (.slice Ao no co) lo43 (H344.ob (i:=3) Z) Z (aU call246 (freeR_ _ w342.heap.size (x31:Int) ros Ao no co ((H344.rowrd (i:=1) Z).more (Nat.le_refl _)) (by first | assumption | omega) (Nat.le_refl _) (by omega) (by first | assumption | omega) hxb) Z Z Z ?_)))))
        rintro _ w364 ⟨A360,n361,c362,rfl,g365,hn6363⟩
        have g366:=g365.fix (i:=1) rfl
        have H367:Sp [Ai 133 2 A360 n361 c362 (Cq ((Dq (Af (x31:Int)) (ros.map RObj.blk) [⟨0,(x31:Int)⟩]))),ObjsA ros os,Ai 136 5 Ao no co (Cp ros),Aa b10 213 [.slice A1 n1 c1,.bool false],Aa b18 47 [(J (x31:Int)),(.slice Ao no co),(J (x55:Int)),(J (x80:Int)),(J (x104:Int)),(J (x128:Int)),(J (x152:Int)),(.slice none 0 0)],Aa b2 47 zHeap,Bd w Bl] w364:=H344.join (m:=[Ai 133 2 A360 n361 c362 (Cq ((Dq (Af (x31:Int)) (ros.map RObj.blk) [⟨0,(x31:Int)⟩])))]) g365
        have z368:=g366.size
        refine zg Z (fa47_4 (b:=⟨b18,7,none⟩) Z Z) (bE (vs:=[(.slice A360 n361 c362)]) (cs':=[(J (x31:Int)),(.slice Ao no co),(J (x55:Int)),(J (x80:Int)),(J (x104:Int)),(J (x128:Int)),(J (x152:Int)),(.slice A360 n361 c362)]) sizeOf45 (H367.ob (i:=4) Z) Z Z Z Z Z Z ?_)
        intro w369 hz370 g371 o372
        have H373:Sp [Ai 133 2 A360 n361 c362 (Cq ((Dq (Af (x31:Int)) (ros.map RObj.blk) [⟨0,(x31:Int)⟩]))),ObjsA ros os,Ai 136 5 Ao no co (Cp ros),Aa b10 213 [.slice A1 n1 c1,.bool false],Aa b18 47 [(J (x31:Int)),(.slice Ao no co),(J (x55:Int)),(J (x80:Int)),(J (x104:Int)),(J (x128:Int)),(J (x152:Int)),(.slice A360 n361 c362)],Aa b2 47 zHeap,Bd w Bl] w369:=H367.setB (i:=4) rfl g371 o372 rfl
        have z374:=g371.size
        refine cS (aD (aD ?_))
        rw [hmb] at H373
        have H375:Sp [HpW (⟨(x31:Int),⟨Ao,no,co⟩,(x55:Int),(x80:Int),(x104:Int),(x128:Int),(x152:Int),⟨A360,n361,c362⟩⟩:RHeap) ros (⟨(x31:Int),os,(x55:Int),(x80:Int),(x104:Int),(x128:Int),(x152:Int),(Dq (Af (x31:Int)) (os.map Obj.blk) [⟨0,(x31:Int)⟩])⟩:Eng.Heap),Aa b10 213 [.slice A1 n1 c1,.bool false],Aa b18 47 [(J (x31:Int)),(.slice Ao no co),(J (x55:Int)),(J (x80:Int)),(J (x104:Int)),(J (x128:Int)),(J (x152:Int)),(.slice A360 n361 c362)],Aa b2 47 zHeap,Bd w Bl] w369:=(Sp.hpMk (rh:=(⟨(x31:Int),⟨Ao,no,co⟩,(x55:Int),(x80:Int),(x104:Int),(x128:Int),(x152:Int),⟨A360,n361,c362⟩⟩:RHeap)) (ros:=ros) (hh:=(⟨(x31:Int),os,(x55:Int),(x80:Int),(x104:Int),(x128:Int),(x152:Int),(Dq (Af (x31:Int)) (os.map Obj.blk) [⟨0,(x31:Int)⟩])⟩:Eng.Heap)) (H373.sel [2,1,0,3,4,5,6] (by decide) rfl) ⟨rfl,rfl,rfl,by show no ≤ _; omega,by show n361 ≤ _; omega⟩)
        refine aL (zg Z (bW Z (Aj (cs:=[(J (x31:Int)),(.slice Ao no co),(J (x55:Int)),(J (x80:Int)),(J (x104:Int)),(J (x128:Int)),(J (x152:Int)),(.slice A360 n361 c362)]) wh47 (H375.ob (i:=2) Z).cl)) (aU call167 (right05_ _ _ (⟨(x31:Int),⟨Ao,no,co⟩,(x55:Int),(x80:Int),(x104:Int),(x128:Int),(x152:Int),⟨A360,n361,c362⟩⟩:RHeap) _ _ (H375.hpWR (i:=0) Z) (Nat.le_refl _) (by first | assumption | omega | (dsimp only; omega))) Z Z Z ?_))
        rintro _ w376 ⟨rfl,g377⟩
        have H378:=H375.grow g377
        have z379:=g377.size
        rcases hb380:(Dc ((⟨(x31:Int),os,(x55:Int),(x80:Int),(x104:Int),(x128:Int),(x152:Int),(Dq (Af (x31:Int)) (os.map Obj.blk) [⟨0,(x31:Int)⟩])⟩:Eng.Heap))) with _ | _
        ·refine zg Z (bC (b:=false) Z) (cS (aE Z (cT (zg Z (bY (cs:=zHeap) bd47 Z) (bE (vs:=zHeap) (cs':=zHeap) sizeOf47 (H378.ob (i:=3) Z) Z Z Z Z Z Z ?_)))))
         intro w381 hz382 g383 o384
         have H385:Sp [HpW (⟨(x31:Int),⟨Ao,no,co⟩,(x55:Int),(x80:Int),(x104:Int),(x128:Int),(x152:Int),⟨A360,n361,c362⟩⟩:RHeap) ros (⟨(x31:Int),os,(x55:Int),(x80:Int),(x104:Int),(x128:Int),(x152:Int),(Dq (Af (x31:Int)) (os.map Obj.blk) [⟨0,(x31:Int)⟩])⟩:Eng.Heap),Aa b10 213 [.slice A1 n1 c1,.bool false],Aa b18 47 [(J (x31:Int)),(.slice Ao no co),(J (x55:Int)),(J (x80:Int)),(J (x104:Int)),(J (x128:Int)),(J (x152:Int)),(.slice A360 n361 c362)],Aa b2 47 zHeap,Bd w Bl] w381:=H378.setB (i:=3) rfl g383 o384 rfl
         have z386:=g383.size
         refine za (J 60) Z (cS (aB (aR (aO (v:=(.tuple #[(.agg (zHeap).toArray),(J 60)])) (Ch Z (cA Z (Aj (cs:=zHeap) wh47 (H385.ob (i:=3) Z).cl)) (bZ Z)) ?_))))
         exact .inr ⟨rfl,(H385.fix (i:=4) rfl),by rw [hgh,if_neg (fun ⟨q1,q2,q3,q4,q5⟩=>by first | (cases q1; done) | (rw [q2] at hq1l; simp only [List.length_nil] at hq1l; omega) | (rw [hb380] at q3; cases q3) | (rw [hb380] at q5; cases q5) | omega)]⟩
        ·refine zg Z (bC (b:=true) Z) (cS (aF Z (aA (aQ (cT (zg Z (bW Z (Aj (cs:=[(J (x31:Int)),(.slice Ao no co),(J (x55:Int)),(J (x80:Int)),(J (x104:Int)),(J (x128:Int)),(J (x152:Int)),(.slice A360 n361 c362)]) wh47 (H378.ob (i:=2) Z).cl)) (bE (vs:=[(J (x31:Int)),(.slice Ao no co),(J (x55:Int)),(J (x80:Int)),(J (x104:Int)),(J (x128:Int)),(J (x152:Int)),(.slice A360 n361 c362)]) (cs':=[(J (x31:Int)),(.slice Ao no co),(J (x55:Int)),(J (x80:Int)),(J (x104:Int)),(J (x128:Int)),(J (x152:Int)),(.slice A360 n361 c362)]) sizeOf47 (H378.ob (i:=3) Z) Z Z Z Z Z Z ?_)))))))
         intro w387 hz388 g389 o390
         have H391:Sp [HpW (⟨(x31:Int),⟨Ao,no,co⟩,(x55:Int),(x80:Int),(x104:Int),(x128:Int),(x152:Int),⟨A360,n361,c362⟩⟩:RHeap) ros (⟨(x31:Int),os,(x55:Int),(x80:Int),(x104:Int),(x128:Int),(x152:Int),(Dq (Af (x31:Int)) (os.map Obj.blk) [⟨0,(x31:Int)⟩])⟩:Eng.Heap),Aa b10 213 [.slice A1 n1 c1,.bool false],Aa b18 47 [(J (x31:Int)),(.slice Ao no co),(J (x55:Int)),(J (x80:Int)),(J (x104:Int)),(J (x128:Int)),(J (x152:Int)),(.slice A360 n361 c362)],Aa b2 47 [(J (x31:Int)),(.slice Ao no co),(J (x55:Int)),(J (x80:Int)),(J (x104:Int)),(J (x128:Int)),(J (x152:Int)),(.slice A360 n361 c362)],Bd w Bl] w387:=H378.setB (i:=3) rfl g389 o390 rfl
         have z392:=g389.size
         refine za (J 0) Z (cS (aB (aO (v:=(.tuple #[(.agg ([(J (x31:Int)),(.slice Ao no co),(J (x55:Int)),(J (x80:Int)),(J (x104:Int)),(J (x128:Int)),(J (x152:Int)),(.slice A360 n361 c362)]).toArray),(J 0)])) (Ch Z (cA Z (Aj (cs:=[(J (x31:Int)),(.slice Ao no co),(J (x55:Int)),(J (x80:Int)),(J (x104:Int)),(J (x128:Int)),(J (x152:Int)),(.slice A360 n361 c362)]) wh47 (H391.ob (i:=3) Z).cl)) (bZ Z)) ?_)))
         exact .inl ⟨(⟨(x31:Int),⟨Ao,no,co⟩,(x55:Int),(x80:Int),(x104:Int),(x128:Int),(x152:Int),⟨A360,n361,c362⟩⟩:RHeap),ros,_,rfl,(H391.sel [0,4] (by decide) Z),by rw [hgh,if_pos ⟨Z,List.eq_nil_of_length_eq_zero (by omega),hb346,by omega,hb380⟩],hb380⟩
    ·refine zm bT Z (zo Z (zo Z (zo Z (zo Z (zo Z (zo Z (zT bT Z (zm bT Z (zo Z (zo Z ?_))))))))))
     refine zo Z (zo Z (zT bT Z (zm bT Z (zo Z (zo Z (zo Z (zo Z (zo Z (zT bT Z (cS (aE Z (cT ?_))))))))))))
     refine zg Z (bY (cs:=zHeap) bd47 Z) (bE (vs:=zHeap) (cs':=zHeap) sizeOf47 (H199.ob (i:=4) Z) Z Z Z Z Z Z ?_)
     intro w393 hz394 g395 o396
     have H397:Sp [ObjsA ros os,Ai 136 5 Ao no co (Cp ros),Aa b10 213 [.slice A1 n1 c1,.bool true],Aa b18 47 [(J (x31:Int)),(.slice Ao no co),(J (x55:Int)),(J (x80:Int)),(J (x104:Int)),(J (x128:Int)),(J (x152:Int)),(.slice none 0 0)],Aa b2 47 zHeap,Bd w Bl] w393:=H199.setB (i:=4) rfl g395 o396 rfl
     have z398:=g395.size
     refine za (J 60) Z (cS (aB (aR (aO (v:=(.tuple #[(.agg (zHeap).toArray),(J 60)])) (Ch Z (cA Z (Aj (cs:=zHeap) wh47 (H397.ob (i:=4) Z).cl)) (bZ Z)) ?_))))
     exact .inr ⟨rfl,(H397.fix (i:=5) rfl),by rw [hgh,if_neg (fun ⟨q1,q2,q3,q4,q5⟩=>by first | (cases q1; done) | (rw [q2] at hq1l; simp only [List.length_nil] at hq1l; omega) | omega)]⟩
end Go.Proofs.YtfokljnhllflbaaGreat
namespace Go.Eng
open Go Go.RowKit
theorem rows_app (l m:List Row):rows (l ++ m) = rows l ++ rows m:=by simp [rows]
def mayRow (x:Row):Bool:=Az x.client 1 4 && Az x.seq 1 1000000 && Az x.code 0 65535
theorem mayRow_t {x:Row} (h:mayRow x = true):(1 ≤ x.client∧x.client ≤ 4)∧(1 ≤ x.seq∧x.seq ≤ 1000000)∧(0 ≤ x.code∧x.code ≤ 65535):=by
  unfold mayRow at h
  simp only [Bool.and_eq_true] at h
  exact ⟨Bh h.1.1,Bh h.1.2,Bh h.2⟩
def rowOK (l:List Row) (i:Nat) (x:Row):Prop:=mayRow x = true ∧ ∀ y:Row,0 < i → l[i - 1]? = some y → y.client < x.client
theorem rowsB_of {l:List Row} {n:Nat} (hn:l.length ≤ n) (h : ∀ (j:Nat) (x:Row),j < n → l[j]? = some x → rowOK l j x):rowsB 0 l = true :=
  rows_right.2 fun i x hx=>by
    obtain ⟨h1,h2⟩:=h i x (by have:=lt_len hx; omega) hx
    have h3:=mayRow_t h1
    exact ⟨by omega,by omega,h3.2.1,h3.2.2,h2⟩
theorem rowsB_no {l:List Row} {i:Nat} {x:Row} (hx:l[i]? = some x) (h : ¬ rowOK l i x):rowsB 0 l = false:=by
  cases e:rowsB 0 l with
  | false=>rfl
  | true =>
    exfalso
    obtain ⟨h1,h2,h3,h4,h5⟩:=rows_right.1 e i x hx
    refine h ⟨?_,h5⟩
    unfold mayRow Az
    simp only [Bool.and_eq_true,decide_eq_true_eq]
    exact ⟨⟨⟨by omega,h2⟩,h3⟩,h4⟩
theorem stateB_no1 {s:State} (h:rowsB 0 s.rows = false):Cy s = false:=by unfold Cy; rw [h,Bool.and_false]
theorem stateB_rows {s:State} (h:rowsB 0 s.rows = true):Cy s = Dc s.heap:=by unfold Cy; rw [h,Bool.and_true]
def entOK (nm:Int) (l:List Entry) (i:Nat) (e:Entry):Prop:=mayE e = true∧e.view ≤ nm ∧ ∀ y:Entry,0 < i → l[i - 1]? = some y → y.view ≤ e.view
theorem mayE_view {e:Entry} (h:mayE e = true):0 ≤ e.view:=by
  unfold mayE at h
  simp only [Bool.and_eq_true] at h
  exact (Bh h.1.2).1
theorem entsB_iff {nm:Int} : ∀ {l:List Entry} {v:Int},entsB nm v l = true ↔ ∀ (i:Nat) (e:Entry),l[i]? = some e → mayE e = true∧v ≤ e.view∧e.view ≤ nm ∧ ∀ y:Entry,0 < i → l[i - 1]? = some y → y.view ≤ e.view
  | [],v=>by simp [entsB]
  | r :: l,v=>by
    unfold entsB
    simp only [Bool.and_eq_true]
    rw [entsB_iff (l:=l)]
    constructor
    · rintro ⟨⟨h1,h2⟩,h7⟩ i x hx
      have h2:=Bh h2
      cases i with
      | zero=>simp at hx; subst hx; exact ⟨h1,h2.1,h2.2,fun y hy=>by omega⟩
      | succ i =>
        simp at hx
        obtain ⟨a1,a2,a3,a4⟩:=h7 i x hx
        refine ⟨a1,by omega,a3,fun y _ hy=>?_⟩
        cases i with
        | zero=>simp at hy; subst hy; exact a2
        | succ i=>simp at hy; exact a4 y (by omega) (by simpa using hy)
    · intro h
      obtain ⟨a1,a2,a3,_⟩:=h 0 r rfl
      refine ⟨⟨a1,by simp [Az]; omega⟩,fun i x hx=>?_⟩
      obtain ⟨b1,b2,b3,b4⟩:=h (i + 1) x (by simpa using hx)
      have key : ∀ (i:Nat) (x:Entry),l[i]? = some x → r.view ≤ x.view:=by
        intro i
        induction i with
        | zero=>intro x hx; exact (h 1 x (by simpa using hx)).2.2.2 r (by omega) rfl
        | succ i ih =>
          intro x hx
          have hlt:i < l.length:=by have:=lt_len hx; omega
          have h1:=ih _ (List.getElem?_eq_getElem hlt)
          have h2:=(h (i + 2) x (by simpa using hx)).2.2.2 l[i] (by omega) (by show l[i]? = some _; exact List.getElem?_eq_getElem hlt)
          omega
      refine ⟨b1,key i x hx,b3,fun y hi hy=>b4 y (by omega) ?_⟩
      cases i with
      | zero=>omega
      | succ i=>simpa using hy
theorem entsB_of {nm:Int} {l:List Entry} {n:Nat} (hn:l.length ≤ n) (h : ∀ (j:Nat) (x:Entry),j < n → l[j]? = some x → entOK nm l j x):entsB nm 0 l = true :=
  entsB_iff.2 fun i x hx=>by
    obtain ⟨h1,h2,h3⟩:=h i x (by have:=lt_len hx; omega) hx
    exact ⟨h1,mayE_view h1,h2,h3⟩
theorem entsB_bad {nm:Int} {l:List Entry} {i:Nat} {x:Entry} (hx:l[i]? = some x) (h : ¬ entOK nm l i x):entsB nm 0 l = false:=by
  cases e:entsB nm 0 l with
  | false=>rfl
  | true =>
    obtain ⟨h1,h2,h3,h4⟩:=entsB_iff.1 e i x hx
    exact absurd ⟨h1,h3,h4⟩ h
theorem keptB_no {k:Kept} (h : ¬ (0 ≤ k.view∧k.view ≤ 900000000∧0 ≤ k.normal∧k.normal ≤ k.view∧0 ≤ k.base∧k.base ≤ 900000000∧k.ents.length ≤ 4000∧follB k.ents k.base = true∧entsB k.normal 0 k.ents = true∧(Dn k.image).isSome = true)):Cn k = false:=by
  cases e:Cn k with
  | false=>rfl
  | true=>exact absurd (keptB_t e) h
theorem keptB_yes {k:Kept} (h:0 ≤ k.view∧k.view ≤ 900000000∧0 ≤ k.normal∧k.normal ≤ k.view∧0 ≤ k.base∧k.base ≤ 900000000∧k.ents.length ≤ 4000∧follB k.ents k.base = true∧entsB k.normal 0 k.ents = true∧(Dn k.image).isSome = true):Cn k = true:=by
  obtain ⟨h1,h2,h3,h4,h5,h6,h7,h8,h9,h10⟩:=h
  unfold Cn
  rw [h8,h9,h10]
  simp only [Az,Bool.and_true,Bool.and_eq_true,decide_eq_true_eq]
  exact ⟨⟨⟨⟨h1,h2⟩,⟨h3,h4⟩⟩,⟨h5,h6⟩⟩,h7⟩
end Go.Eng
namespace Go.Proofs.YtfokljnhllflbaaGreat
open Go Go.Eng Go.RowKit Go.Proofs.Tryz
set_option maxHeartbeats 400000 in
set_option maxRecDepth 20000 in
theorem mayRow_ (w:World) (x:Row):Ret prog 166 [(.agg (x.cells).toArray)] w (fun v w'=>v = .bool (mayRow x)∧w.grownBy w' none):=by
  have H0:Sp [Bd w Bl] w:=Bv w
  refine aP func166 Z Z Z ?_
  refine cT (bH (cs:=x.cells) Z Z Z ?_)
  intro w1 b2 hb3 hz4 g5 o6
  have H7:=H0.newB g5 o6 (by omega)
  have z8:=g5.size
  refine za bF Z (cS (cT (zg Z (Dj (b:=⟨b2,0,none⟩) Z Z) (zl (J x.client) Bw (H7.ob (i:=0) Z) Z (aU call221 (within_tumulusref06 _ x.client 1 4) Z Z Z ?_)))))
  rintro _ _ ⟨rfl,rfl⟩
  rcases hb12:(Az x.client 1 4) with _ | _
  ·refine zm bF Z (zo Z (zo Z (zo Z (zF bF Z (zm bF Z (zo Z (zo Z (zo Z (zo Z (zF bF Z ?_))))))))))
   refine za bF Z (cS (aB (aO (v:=bF) (Ba Z Z) ?_)))
   exact ⟨At (by unfold mayRow; simp [hb12]),(H7.fix (i:=1) Z)⟩
  ·have hw9:=Bh hb12
   refine zm bT Z (zg Z (fa123_1 (b:=⟨b2,1,none⟩) Z Z) (zl (J x.seq) Bw (H7.ob (i:=0) Z) Z (aU call221 (within_tumulusref06 _ x.seq 1 1000000) Z Z Z ?_)))
   rintro _ _ ⟨rfl,rfl⟩
   rcases hb16:(Az x.seq 1 1000000) with _ | _
   ·refine zT bF Z (zm bF Z (zo Z (zo Z (zo Z (zo Z (zF bF Z (za bF Z (cS (aB (aO (v:=bF) (Ba Z Z) ?_))))))))))
    exact ⟨At (by unfold mayRow; simp [hb12,hb16]),(H7.fix (i:=1) Z)⟩
   ·have hw13:=Bh hb16
    refine zT bT Z (zm bT Z (zg Z (fa123_2 (b:=⟨b2,2,none⟩) Z Z) (zg Z (fa55_0 (b:=⟨b2,2,none⟩) Z Z) (zl (J x.code) lo53 (H7.ob (i:=0) Z) Z (aU call221 (within_tumulusref06 _ x.code 0 65535) Z Z Z ?_)))))
    rintro _ _ ⟨rfl,rfl⟩
    rcases hb20:(Az x.code 0 65535) with _ | _
    ·refine zT bF Z (za bF Z (cS (aB (aO (v:=bF) (Ba Z Z) ?_))))
     exact ⟨At (by unfold mayRow; simp [hb12,hb16,hb20]),(H7.fix (i:=1) Z)⟩
    ·have hw17:=Bh hb20
     refine zT bT Z (za bT Z (cS (aB (aO (v:=bT) (Ba Z Z) ?_))))
     exact ⟨At (by unfold mayRow; simp [hb12,hb16,hb20]),(H7.fix (i:=1) Z)⟩
set_option maxHeartbeats 1000000 in
set_option maxRecDepth 20000 in
theorem rightS_ (w:World) (B:Nat) (rs:RState) (ros:List RObj) (s:State) (H:StateR w B rs ros s) (hB:B ≤ w.heap.size) (hxr:s.heap.next ≤ 9223372036854775807):Ret prog 104 [(.agg (rs.cells).toArray)] w (fun v w'=>v = .bool (Cy s)∧w.grownBy w' none):=by
  have hrn:=H.rn
  have hrm:=H.rm
  have H0:Sp [Bd w Bl] w:=Bv w
  refine aP func104 Z Z Z ?_
  refine cT (bH (cs:=rs.cells) Z Z Z ?_)
  intro w1 b2 hb3 hz4 g5 o6
  have H7:=H0.newB g5 o6 (by omega)
  have z8:=g5.size
  refine za bF Z (cS (aD (cT (za (J 0) Z (cS (aG ?_))))))
  refine aK (fun t=>(Nat.ble 2 t && Nat.ble t 37)) (fun nL ρ wl => ∃ (i:Nat),ρ 3 = (J (i:Int))∧nL = rs.rows.n - i∧Sp [Aa b2 50 rs.cells,Bd w Bl] wl∧i ≤ rs.rows.n ∧ ∀ (j:Nat) (x:Row),j < i → s.rows[j]? = some x → rowOK s.rows j x) (rs.rows.n) ?aa0 ?bb0
  case aa0 =>
   exact ⟨0,rfl,rfl,H7,Nat.zero_le _,fun j x hj=>by omega⟩
  case bb0 =>
   rintro n10 ρ0 w9 ho11 ⟨i,hs0_3,hn0,H12,hi,hO⟩
   obtain ⟨j0,rfl⟩:=ho11.shape1 hs0_3
   clear ho11 hs0_3
   subst hn0
   have z13:=(H12.fix (i:=1) rfl).size
   refine aD (cT (zm (J (i:Int)) Z (zg Z (fa50_1 (b:=⟨b2,8,none⟩) Z Z) (zl (.slice rs.rows.a rs.rows.n rs.rows.c) lo48 (H12.ob (i:=0) Z) Z (zg Z (bR underlying48 Z) ?_)))))
   refine zc (((i:Int):Int) < ((rs.rows.n:Nat):Int)) Z (fun r hr=>bL Z Z hr) (fun h14=>?_) (fun h14=>?_)
   ·refine cS (aE Z (aA (aQ (aD (aG (aD (cN (fun wq=>Sp [Aa b2 50 rs.cells,Bd w Bl] wq) Tryz.mixed Z ?_)))))))
    intro w15 g16
    have H17:=H12.grow g16
    have z18:=g16.size
    refine zr 0 1 Z (by kernel_rfl) H17 (fun wq hq=>fa50_1 (b:=⟨b2,8,none⟩) Z Z) (zr 2 5 Z (by kernel_rfl) H17 (fun wq hq=>aX (v:=(J (i:Int))) Z) (zr 1 7 Z (by kernel_rfl) H17 (fun wq hq=>bW Z (Ax lo48 (Ob.cell (v:=(.slice rs.rows.a rs.rows.n rs.rows.c)) (hq.ob (i:=0) Z) Z))) ?_))
    obtain ⟨e19,he20⟩ : ∃ e,(s.rows)[i]? = some e:=⟨_,List.getElem?_eq_getElem (by omega)⟩
    obtain ⟨ad21,hA22⟩:=Rd.sm (H.rr.st0 (H17.fix (i:=1) rfl)) (rows_get he20)
    have hl23:=Eng.lt_len (rows_get he20)
    refine zr 3 15 Z (by kernel_rfl) H17 (fun wq hq=>bS (b:=(ad21.add (i * 4))) (i:=i) underlying48 sizeOf123 (by rw [← hA22]; rfl) Z (by omega) (by omega) Z) (zr 4 31 Z (by kernel_rfl) H17 (fun wq hq=>bW Z (Aj (cs:=e19.cells) wh123 (Rd.cl (H.rr.st0 (hq.fix (i:=1) Z)) hA22 (rows_get he20)))) (cO (i:=5) (by kernel_rfl) ?_))
    refine ⟨_,63,rfl,by kernel_rfl,?_⟩
    refine aU call166 (mayRow_ _ e19) Z Z Z ?_
    rintro _ w24 ⟨rfl,g25⟩
    have H26:=H17.grow g25
    have z27:=g25.size
    rcases hb28:(mayRow e19) with _ | _
    ·refine aM ?_
     refine ⟨H26,?_⟩
     refine zr 6 127 Z (by kernel_rfl) H26 (fun wq hq=>bC (b:=false) Z) (zr 7 255 Z (by kernel_rfl) H26 (fun wq hq=>aX (v:=bT) Z) (zq 8 511 Z (by kernel_rfl) H26 (zq 9 1023 Z (by kernel_rfl) H26 (zq 10 2047 Z (by kernel_rfl) H26 (zq 11 4095 Z (by kernel_rfl) H26 (zq 13 12287 Z (by kernel_rfl) H26 (zq 14 28671 Z (by kernel_rfl) H26 (zq 18 290815 Z (by kernel_rfl) H26 (zq 20 1339391 Z (by kernel_rfl) H26 (zq 12 1343487 Z (by kernel_rfl) H26 ?_))))))))))
     refine zq 15 1376255 Z (by kernel_rfl) H26 (zq 16 1441791 Z (by kernel_rfl) H26 (zq 17 1572863 Z (by kernel_rfl) H26 (zq 19 2097151 Z (by kernel_rfl) H26 (zq 21 4194303 Z (by kernel_rfl) H26 (zq 22 8388607 Z (by kernel_rfl) H26 (zq 23 16777215 Z (by kernel_rfl) H26 (zq 24 33554431 Z (by kernel_rfl) H26 (zq 25 67108863 Z (by kernel_rfl) H26 (zr 26 134217727 Z (by kernel_rfl) H26 (fun wq hq=>aZ (v:=bT) Z Z) (cQ (by kernel_rfl) ?_))))))))))
     refine aQ (aE Z (cT (za bF Z (cS (aB (inB.r (aR (aR (inB.r (aR (aO (v:=bF) (Ba Z Z) ?_)))))))))))
     exact ⟨At (stateB_no1 (rowsB_no he20 (fun ⟨q1,q2⟩=>by first | (rw [hb28] at q1; cases q1; done)))).symm,(H26.fix (i:=1) rfl)⟩
    ·refine aM ?_
     refine ⟨H26,?_⟩
     refine zr 6 127 Z (by kernel_rfl) H26 (fun wq hq=>bC (b:=true) Z) (zr 7 255 Z (by kernel_rfl) H26 (fun wq hq=>aX (v:=bF) Z) (zr 8 511 Z (by kernel_rfl) H26 (fun wq hq=>aX (v:=(J (i:Int))) Z) ?_))
     refine zb 9 1023 ((0:Int) < ((i:Int):Int)) Z (by kernel_rfl) H26 (fun r hr wq hq=>bN Z Z hr) (fun h29=>?_) (fun h29=>?_)
     ·refine zr 10 2047 Z (by kernel_rfl) H26 (fun wq hq=>aX (v:=bT) Z) (zr 11 4095 Z (by kernel_rfl) H26 (fun wq hq=>fa50_1 (b:=⟨b2,8,none⟩) Z Z) (zr 13 12287 Z (by kernel_rfl) H26 (fun wq hq=>aX (v:=(J (i:Int))) Z) (zr 14 28671 Z (by kernel_rfl) H26 (fun wq hq=>bJ (r:=((i - 1:Nat):Int)) Z Z (by rw [Dl (by omega) (by omega)]; omega)) (zr 18 290815 Z (by kernel_rfl) H26 (fun wq hq=>fa50_1 (b:=⟨b2,8,none⟩) Z Z) (zr 20 1339391 Z (by kernel_rfl) H26 (fun wq hq=>aX (v:=(J (i:Int))) Z) (zr 12 1343487 Z (by kernel_rfl) H26 (fun wq hq=>bW Z (Ax lo48 (Ob.cell (v:=(.slice rs.rows.a rs.rows.n rs.rows.c)) (hq.ob (i:=0) Z) Z))) ?_))))))
      obtain ⟨e30,he31⟩ : ∃ e,(s.rows)[(i - 1)]? = some e:=⟨_,List.getElem?_eq_getElem (by omega)⟩
      obtain ⟨ad32,hA33⟩:=Rd.sm (H.rr.st0 (H26.fix (i:=1) rfl)) (rows_get he31)
      have hl34:=Eng.lt_len (rows_get he31)
      refine zr 15 1376255 Z (by kernel_rfl) H26 (fun wq hq=>bS (b:=(ad32.add ((i - 1) * 4))) (i:=(i - 1)) underlying48 sizeOf123 (by rw [← hA33]; rfl) Z (by omega) (by omega) Z) (zr 16 1441791 Z (by kernel_rfl) H26 (fun wq hq=>Dj (b:=((ad32.add ((i - 1) * 4)))) Z Z) (zr 17 1572863 Z (by kernel_rfl) H26 (fun wq hq=>bW Z (Ax Bw (Cl.at_ (v:=(J e30.client)) (Rd.cl (H.rr.st0 (hq.fix (i:=1) Z)) hA33 (rows_get he31)) (i:=0) Z))) (zr 19 2097151 Z (by kernel_rfl) H26 (fun wq hq=>bW Z (Ax lo48 (Ob.cell (v:=(.slice rs.rows.a rs.rows.n rs.rows.c)) (hq.ob (i:=0) Z) Z))) ?_)))
      obtain ⟨ad35,hA36⟩:=Rd.sm (H.rr.st0 (H26.fix (i:=1) rfl)) (rows_get he20)
      have hl37:=Eng.lt_len (rows_get he20)
      refine zr 21 4194303 Z (by kernel_rfl) H26 (fun wq hq=>bS (b:=(ad35.add (i * 4))) (i:=i) underlying48 sizeOf123 (by rw [← hA36]; rfl) Z (by omega) (by omega) Z) (zr 22 8388607 Z (by kernel_rfl) H26 (fun wq hq=>Dj (b:=((ad35.add (i * 4)))) Z Z) (zr 23 16777215 Z (by kernel_rfl) H26 (fun wq hq=>bW Z (Ax Bw (Cl.at_ (v:=(J e19.client)) (Rd.cl (H.rr.st0 (hq.fix (i:=1) Z)) hA36 (rows_get he20)) (i:=0) Z))) ?_))
      refine zb 24 33554431 ((e19.client:Int) ≤ (e30.client:Int)) Z (by kernel_rfl) H26 (fun r hr wq hq=>bO Z Z hr) (fun h38=>?_) (fun h38=>?_)
      ·refine zr 25 67108863 Z (by kernel_rfl) H26 (fun wq hq=>aZ (v:=bT) Z Z) (zr 26 134217727 Z (by kernel_rfl) H26 (fun wq hq=>bA (v:=bT) Z Z) (cQ (by kernel_rfl) (aQ (aE Z (cT (za bF Z (cS (aB (inB.r (aR (aR (inB.r (aR (aO (v:=bF) (Ba Z Z) ?_))))))))))))))
       exact ⟨At (stateB_no1 (rowsB_no he20 (fun ⟨q1,q2⟩=>by first | (rw [hb28] at q1; cases q1; done) | (have q3:=q2 e30 (by omega) he31; omega)))).symm,(H26.fix (i:=1) rfl)⟩
      ·refine zr 25 67108863 Z (by kernel_rfl) H26 (fun wq hq=>aZ (v:=bF) Z Z) (zr 26 134217727 Z (by kernel_rfl) H26 (fun wq hq=>bA (v:=bF) Z Z) (cQ (by kernel_rfl) (aQ (aF Z (aA (inB.n (aQ (aL (zm (J (i:Int)) Z (zg Z (bI (r:=(i:Int) + 1) Z Z (Dl (by omega) (by omega))) (za (J ((i:Int) + 1)) Z (cS ?_))))))))))))
       refine ⟨(by repeat (first | exact aJ _ _ | exact aH _ _ | refine aI ?_ rfl _ | refine cR ?_ (by intro t ht; simp only [Bool.or_eq_false_iff,Bool.and_eq_false_iff,ble_f,beq_f] at ht ⊢; omega))),_,?_,i + 1,rfl,rfl,H26,by omega,upto_go hO he20 ⟨hb28,(fun y _ hy=>by rw [he31] at hy; injection hy with hy; subst hy; omega)⟩⟩
       omega
     ·refine zr 10 2047 Z (by kernel_rfl) H26 (fun wq hq=>aX (v:=bF) Z) (zq 11 4095 Z (by kernel_rfl) H26 (zq 13 12287 Z (by kernel_rfl) H26 (zq 14 28671 Z (by kernel_rfl) H26 (zq 18 290815 Z (by kernel_rfl) H26 (zq 20 1339391 Z (by kernel_rfl) H26 (zq 12 1343487 Z (by kernel_rfl) H26 (zq 15 1376255 Z (by kernel_rfl) H26 (zq 16 1441791 Z (by kernel_rfl) H26 (zq 17 1572863 Z (by kernel_rfl) H26 (zq 19 2097151 Z (by kernel_rfl) H26 ?_))))))))))
      refine zq 21 4194303 Z (by kernel_rfl) H26 (zq 22 8388607 Z (by kernel_rfl) H26 (zq 23 16777215 Z (by kernel_rfl) H26 (zq 24 33554431 Z (by kernel_rfl) H26 (zr 25 67108863 Z (by kernel_rfl) H26 (fun wq hq=>bA (v:=bF) Z Z) (zr 26 134217727 Z (by kernel_rfl) H26 (fun wq hq=>bA (v:=bF) Z Z) (cQ (by kernel_rfl) (aQ (aF Z (aA (inB.n (aQ (aL (zm (J (i:Int)) Z (zg Z (bI (r:=(i:Int) + 1) Z Z (Dl (by omega) (by omega))) ?_))))))))))))))
      refine za (J ((i:Int) + 1)) Z (cS ?_)
      refine ⟨(by repeat (first | exact aJ _ _ | exact aH _ _ | refine aI ?_ Z _ | refine cR ?_ (by intro t ht; simp only [Bool.or_eq_false_iff,Bool.and_eq_false_iff,ble_f,beq_f] at ht ⊢; omega))),_,?_,i + 1,rfl,rfl,H26,by omega,upto_go hO he20 ⟨hb28,(fun y hi0 hy=>by omega)⟩⟩
      omega
   ·refine cS (aF Z (aC (aS (aS (Bo (aQ (cT (zg Z (fa50_0 (b:=⟨b2,0,none⟩) Z Z) (zg Z (bW Z (Aj (cs:=[(J rs.heap.order),(.slice rs.heap.objs.a rs.heap.objs.n rs.heap.objs.c),(J rs.heap.next),(J rs.heap.t0),(J rs.heap.t1),(J rs.heap.t2),(J rs.heap.t3),(.slice rs.heap.free.a rs.heap.free.n rs.heap.free.c)]) wh47 ((H12.ob (i:=0) Z).sub 0 8))) (aU call167 (right05_ _ _ rs.heap _ _ (H.heap.st0 (H12.fix (i:=1) Z)) (by omega) (by first | assumption | omega | (dsimp only; omega))) Z Z Z ?_))))))))))
    rintro _ w39 ⟨rfl,g40⟩
    have H41:=H12.grow g40
    have z42:=g40.size
    rcases hb43:(Dc s.heap) with _ | _
    ·refine za bF Z (cS (aB (aO (v:=bF) (Ba Z Z) ?_)))
     have hrw:=rowsB_of (n:=i) (by omega) hO
     exact ⟨At (by rw [stateB_rows hrw,hb43]),(H41.fix (i:=1) Z)⟩
    ·refine za bT Z (cS (aB (aO (v:=bT) (Ba Z Z) ?_)))
     have hrw:=rowsB_of (n:=i) (by omega) hO
     exact ⟨At (by rw [stateB_rows hrw,hb43]),(H41.fix (i:=1) Z)⟩
set_option maxHeartbeats 4000000 in
set_option maxRecDepth 20000 in
theorem getStateR_ (w:World) (B:Nat) (bs:List UInt8) (A:Option Addr) (n c:Nat) (hr:RB w B A n c bs) (hB:B ≤ w.heap.size):Ret prog 127 [(.slice A n c)] w (fun v w'=>(∃ (rs:RState) (ros:List RObj) (ss:Eng.State),v = .tuple #[.agg rs.cells.toArray,.int .i64 0]∧Sp ([StW rs ros ss] ++ [Bd w Bl]) w'∧Dn bs = some ss∧Cy ss = true) ∨ (v = .tuple #[.agg zState.toArray,.int .i64 60]∧w.grownBy w' none∧Dn bs = none)):=by
  obtain ⟨hrd,hrn,hrc,hrm⟩:=hr
  have hr:RB w B A n c bs:=⟨hrd,hrn,hrc,hrm⟩
  have H0:Sp [Bd w Bl] w:=Bv w
  refine aP func127 Z Z Z ?_
  refine cT (bG (cs:=zState) zeroValue50 Z Z Z ?_)
  intro w1 b2 hb3 hz4 g5 o6
  have H7:=H0.newB g5 o6 (by omega)
  have z8:=g5.size
  refine za (J 0) Z (cS (cT (zm (.slice A n c) Z (aU call185 (rdTxt_ _ _ bs A n c (hr.1.st0 (H7.fix (i:=1) Z)) hr.2.1 hr.2.2.1 hr.2.2.2) Z Z Z ?_))))
  rintro _ w17 (⟨t9,k10,rfl,g18,hrt12,hkl13,htl14⟩ | ⟨e11,rfl,g19,hrt15,hne16⟩)
  ·have H20:=H7.grow g18
   have z21:=g18.size
   refine zm (.tuple #[(.string (tx t9)),(J (k10:Int)),(J 0)]) Z (zx (.string (tx t9)) Z (zx (J (k10:Int)) Z (zx (J 0) Z (za (.string (tx t9)) Z (za (J (k10:Int)) Z (za (J 0) Z (cS (cT (zm (.string (tx t9)) Z (RL.s2bT (l:=t9) underlying9 underlying97 underlying5 Z Z Z ?_))))))))))
   intro w22 b23 c24 hb25 hz26 g27 rd28 hc29
   have H30:=H20.grow g27
   have z31:=g27.size
   refine aU call186 (getHeapR_ _ _ t9 (some ⟨b23,0,none⟩) t9.length c24 ⟨rd28,by first | rfl | omega,by omega,by first | omega | (simp only [List.length_nil]; omega)⟩ (by omega)) Z Z Z ?_
   rintro _ w38 (⟨rh32,ros33,hh34,rfl,g39,hgh35,hhb37⟩ | ⟨rfl,g40,hgh36⟩)
   ·have g41:=g39.fix (i:=1) rfl
    have H42:Sp [HpW rh32 ros33 hh34,Aa b2 50 zState,Bd w Bl] w38:=H30.join (m:=[HpW rh32 ros33 hh34]) g39
    have z43:=g41.size
    refine zm (.tuple #[(.agg (rh32.cells).toArray),(J 0)]) Z (zx (.agg (rh32.cells).toArray) Z (zx (J 0) Z (bG (cs:=zHeap) zeroValue47 Z Z Z ?_)))
    intro w44 b45 hb46 hz47 g48 o49
    have H50:=H42.newB g48 o49 (by omega)
    have z51:=g48.size
    refine bE (vs:=rh32.cells) (cs':=rh32.cells) sizeOf47 (H50.ob (i:=0) Z) Z Z Z Z Z Z ?_
    intro w52 hz53 g54 o55
    have H56:Sp [Aa b45 47 rh32.cells,HpW rh32 ros33 hh34,Aa b2 50 zState,Bd w Bl] w52:=H50.setB (i:=0) rfl g54 o55 rfl
    have z57:=g54.size
    refine za (J 0) Z (cS (aD (cT (zm (J 0) Z (zg Z (bQ (r:=false) Z Z (by decide)) (zm bF Z (zm (J 0) Z (zg Z (bQ (r:=false) Z Z (by decide)) (zF bF Z (cS (aF Z (aA (aQ (cT (zm (.slice A n c) Z (zm (J (k10:Int)) Z ?_))))))))))))))))
    have hqk:=hr.drop (k:=k10) (by omega)
    refine zg Z (bV (i:=k10) underlying97 sizeOf5 Z Z (by omega) (by omega) Z) (zg Z (bY (cs:=[(.slice (dropA A c k10 1) (n - k10) (c - k10)),bF]) bd213 Z) (bH (cs:=[(.slice (dropA A c k10 1) (n - k10) (c - k10)),bF]) Z Z Z ?_))
    intro w58 b59 hb60 hz61 g62 o63
    have H65:=H56.newB g62 o63 (by omega)
    have z66:=g62.size
    refine za (.pointer (some ⟨b59,0,none⟩)) Z (cS (cT (zg Z (bW Z (Aj (cs:=rh32.cells) wh47 (H65.ob (i:=1) Z).cl)) (zg Z (bY (cs:=[(J rh32.order),(.slice rh32.objs.a rh32.objs.n rh32.objs.c),(J rh32.next),(J rh32.t0),(J rh32.t1),(J rh32.t2),(J rh32.t3),(.slice rh32.free.a rh32.free.n rh32.free.c),(.slice none 0 0)]) bd50 Z) (bG (cs:=zState) zeroValue50 Z Z Z ?_)))))
    intro w67 b68 hb69 hz70 g71 o72
    have H73:=H65.newB g71 o72 (by omega)
    have z74:=g71.size
    refine bE (vs:=[(J rh32.order),(.slice rh32.objs.a rh32.objs.n rh32.objs.c),(J rh32.next),(J rh32.t0),(J rh32.t1),(J rh32.t2),(J rh32.t3),(.slice rh32.free.a rh32.free.n rh32.free.c),(.slice none 0 0)]) (cs':=[(J rh32.order),(.slice rh32.objs.a rh32.objs.n rh32.objs.c),(J rh32.next),(J rh32.t0),(J rh32.t1),(J rh32.t2),(J rh32.t3),(.slice rh32.free.a rh32.free.n rh32.free.c),(.slice none 0 0)]) sizeOf50 (H73.ob (i:=0) Z) Z Z Z Z Z Z ?_
    intro w75 hz76 g77 o78
    have H79:Sp [Aa b68 50 [(J rh32.order),(.slice rh32.objs.a rh32.objs.n rh32.objs.c),(J rh32.next),(J rh32.t0),(J rh32.t1),(J rh32.t2),(J rh32.t3),(.slice rh32.free.a rh32.free.n rh32.free.c),(.slice none 0 0)],Aa b59 213 [(.slice (dropA A c k10 1) (n - k10) (c - k10)),bF],Aa b45 47 rh32.cells,HpW rh32 ros33 hh34,Aa b2 50 zState,Bd w Bl] w75:=H73.setB (i:=0) rfl g77 o78 rfl
    have z80:=g77.size
    refine cS (cT (zm (.pointer (some ⟨b59,0,none⟩)) Z ?_))
    obtain ⟨S91,hS92,hO93,K94⟩:=Sp.takeL (l1:=[Aa b59 213 [(.slice (dropA A c k10 1) (n - k10) (c - k10)),bF]]) (l2:=[Aa b68 50 [(J rh32.order),(.slice rh32.objs.a rh32.objs.n rh32.objs.c),(J rh32.next),(J rh32.t0),(J rh32.t1),(J rh32.t2),(J rh32.t3),(.slice rh32.free.a rh32.free.n rh32.free.c),(.slice none 0 0)],Aa b45 47 rh32.cells,HpW rh32 ros33 hh34,Aa b2 50 zState,Bd w Bl]) (w:=w75) (H79.sel [1,0,2,3,4,5] (by decide) rfl)
    refine aU call187 (rnum_ _ S91 b59 (dropA A c k10 1) (n - k10) (c - k10) (bs.drop k10) false hS92 ⟨(Cw hO93 (j:=4) Z hqk.1 (by omega)),hqk.2⟩) Z Z Z ?_
    rintro _ w95 ⟨x81,A82,n83,c84,bs85,bq86,rfl,g96,hnum87,hind88,hxle89⟩
    have H97:Sp [Aa b59 213 [.slice A82 n83 c84,.bool bq86],Aa b68 50 [(J rh32.order),(.slice rh32.objs.a rh32.objs.n rh32.objs.c),(J rh32.next),(J rh32.t0),(J rh32.t1),(J rh32.t2),(J rh32.t3),(.slice rh32.free.a rh32.free.n rh32.free.c),(.slice none 0 0)],Aa b45 47 rh32.cells,HpW rh32 ros33 hh34,Aa b2 50 zState,Bd w Bl] w95:=K94 _ _ g96
    have z98:=(H97.fix (i:=5) rfl).size
    have hq90:=hind88.r _ _ hqk
    refine za (J (x81:Int)) Z (cS (aD (cT (za (J 0) Z (cS (aG ?_))))))
    have H99:=H97.nil_ 123 4
    obtain ⟨_,⟨_,hnxb⟩,_⟩:=heapB_rng hhb37
    refine aK (fun t=>(Nat.ble 12 t && Nat.ble t 14) || (Nat.ble 43 t && Nat.ble t 80)) (fun nL ρ wl => ∃ (k n1 c1 no co:Nat) (A1 Ao:Option Addr) (l:List Row) (bs1:List UInt8) (b1:Bool),ρ 12 = (J (k:Int))∧nL = 5 - k∧Sp [Ai 123 4 Ao no co (rows l),Aa b59 213 [.slice A1 n1 c1,.bool b1],Aa b68 50 [(J rh32.order),(.slice rh32.objs.a rh32.objs.n rh32.objs.c),(J rh32.next),(J rh32.t0),(J rh32.t1),(J rh32.t2),(J rh32.t3),(.slice rh32.free.a rh32.free.n rh32.free.c),(.slice Ao no co)],HpW rh32 ros33 hh34,Aa b2 50 zState,Bd w Bl] wl∧k ≤ x81∧k ≤ 5∧manyF rowF k (bs85,bq86) = (l,(bs1,b1))∧no = k∧InD A82 n83 c84 bs85 A1 n1 c1 bs1) (5) ?aa0 ?bb0
    case aa0 =>
     exact ⟨0,n83,c84,0,0,A82,none,[],bs85,bq86,rfl,rfl,(H99.sel [0,1,2,4,5,6] (by decide) Z),Nat.zero_le _,by omega,rfl,rfl,InD.refl _ _ _ _⟩
    case bb0 =>
     rintro n101 ρ0 w100 ho102 ⟨k,n1,c1,no,co,A1,Ao,l,bs1,b1,hs0_12,hn0,H103,hk1,hk2,hmy,hno,hin1⟩
     obtain ⟨j0,rfl⟩:=ho102.shape1 hs0_12
     clear ho102 hs0_12
     subst hn0
     have z104:=(H103.fix (i:=5) rfl).size
     have hq1:=hin1.r _ _ hq90
     refine aD (cT (zm (J (k:Int)) Z (zm (J (x81:Int)) Z ?_)))
     refine zc (((k:Int):Int) < ((x81:Int):Int)) Z (fun r hr=>bL Z Z hr) (fun h105=>?_) (fun h105=>?_)
     ·refine zm bT Z (zm (J (k:Int)) Z ?_)
      refine zc (((k:Int):Int) ≤ (4:Int)) Z (fun r hr=>bM Z Z hr) (fun h106=>?_) (fun h106=>?_)
      ·refine zT bT Z (zm bT Z (zm (.pointer (some ⟨b59,0,none⟩)) Z (zg Z (bX Z) (zg Z (fa213_1 (b:=⟨b59,1,none⟩) Z Z) (zl (.bool b1) lo4 (H103.ob (i:=1) Z) Z ?_)))))
       rcases b1 with _ | _
       ·refine zg Z (bC (b:=false) Z) (zT bT Z (cS (aE Z (aA (aQ (aD (aG (cT (zg Z (bY (cs:=[(J 0),(J 0),(J 0),(J 0)]) bd123 Z) (bG (cs:=[(J 0),(J 0),(J 0),(J 0)]) zeroValue123 Z Z Z ?_))))))))))
        intro w107 b108 hb109 hz110 g111 o112
        have H113:=H103.newB g111 o112 (by omega)
        have z114:=g111.size
        refine bE (vs:=[(J 0),(J 0),(J 0),(J 0)]) (cs':=[(J 0),(J 0),(J 0),(J 0)]) sizeOf123 (H113.ob (i:=0) Z) Z Z Z Z Z Z ?_
        intro w115 hz116 g117 o118
        have H119:Sp [Aa b108 123 [(J 0),(J 0),(J 0),(J 0)],Ai 123 4 Ao no co (rows l),Aa b59 213 [.slice A1 n1 c1,.bool false],Aa b68 50 [(J rh32.order),(.slice rh32.objs.a rh32.objs.n rh32.objs.c),(J rh32.next),(J rh32.t0),(J rh32.t1),(J rh32.t2),(J rh32.t3),(.slice rh32.free.a rh32.free.n rh32.free.c),(.slice Ao no co)],HpW rh32 ros33 hh34,Aa b2 50 zState,Bd w Bl] w115:=H113.setB (i:=0) rfl g117 o118 rfl
        have z120:=g117.size
        refine cS (cT (zm (.pointer (some ⟨b59,0,none⟩)) Z ?_))
        obtain ⟨S131,hS132,hO133,K134⟩:=Sp.takeL (l1:=[Aa b59 213 [.slice A1 n1 c1,.bool false]]) (l2:=[Aa b108 123 [(J 0),(J 0),(J 0),(J 0)],Ai 123 4 Ao no co (rows l),Aa b68 50 [(J rh32.order),(.slice rh32.objs.a rh32.objs.n rh32.objs.c),(J rh32.next),(J rh32.t0),(J rh32.t1),(J rh32.t2),(J rh32.t3),(.slice rh32.free.a rh32.free.n rh32.free.c),(.slice Ao no co)],HpW rh32 ros33 hh34,Aa b2 50 zState,Bd w Bl]) (w:=w115) (H119.sel [2,0,1,3,4,5,6] (by decide) rfl)
        refine aU call187 (rnum_ _ S131 b59 A1 n1 c1 bs1 false hS132 ⟨(Cw hO133 (j:=5) Z hq1.1 (by omega)),hq1.2⟩) Z Z Z ?_
        rintro _ w135 ⟨x121,A122,n123,c124,bs125,bq126,rfl,g136,hnum127,hind128,hxle129⟩
        have H137:Sp [Aa b59 213 [.slice A122 n123 c124,.bool bq126],Aa b108 123 [(J 0),(J 0),(J 0),(J 0)],Ai 123 4 Ao no co (rows l),Aa b68 50 [(J rh32.order),(.slice rh32.objs.a rh32.objs.n rh32.objs.c),(J rh32.next),(J rh32.t0),(J rh32.t1),(J rh32.t2),(J rh32.t3),(.slice rh32.free.a rh32.free.n rh32.free.c),(.slice Ao no co)],HpW rh32 ros33 hh34,Aa b2 50 zState,Bd w Bl] w135:=K134 _ _ g136
        have z138:=(H137.fix (i:=6) rfl).size
        have hq130:=hind128.r _ _ hq1
        refine zg Z (Dj (b:=⟨b108,0,none⟩) Z Z) (bE (vs:=[(J (x121:Int))]) (cs':=[(J (x121:Int)),(J 0),(J 0),(J 0)]) sizeOf3 (H137.ob (i:=1) Z) Z Z Z Z Z Z ?_)
        intro w139 hz140 g141 o142
        have H143:Sp [Aa b59 213 [.slice A122 n123 c124,.bool bq126],Aa b108 123 [(J (x121:Int)),(J 0),(J 0),(J 0)],Ai 123 4 Ao no co (rows l),Aa b68 50 [(J rh32.order),(.slice rh32.objs.a rh32.objs.n rh32.objs.c),(J rh32.next),(J rh32.t0),(J rh32.t1),(J rh32.t2),(J rh32.t3),(.slice rh32.free.a rh32.free.n rh32.free.c),(.slice Ao no co)],HpW rh32 ros33 hh34,Aa b2 50 zState,Bd w Bl] w139:=H137.setB (i:=1) rfl g141 o142 rfl
        have z144:=g141.size
        refine cS (cT (zm (.pointer (some ⟨b59,0,none⟩)) Z ?_))
        obtain ⟨S155,hS156,hO157,K158⟩:=H143.takeN 1
        refine aU call187 (rnum_ _ S155 b59 A122 n123 c124 bs125 bq126 hS156 ⟨(Cw hO157 (j:=5) Z hq130.1 (by omega)),hq130.2⟩) Z Z Z ?_
        rintro _ w159 ⟨x145,A146,n147,c148,bs149,bq150,rfl,g160,hnum151,hind152,hxle153⟩
        have H161:Sp [Aa b59 213 [.slice A146 n147 c148,.bool bq150],Aa b108 123 [(J (x121:Int)),(J 0),(J 0),(J 0)],Ai 123 4 Ao no co (rows l),Aa b68 50 [(J rh32.order),(.slice rh32.objs.a rh32.objs.n rh32.objs.c),(J rh32.next),(J rh32.t0),(J rh32.t1),(J rh32.t2),(J rh32.t3),(.slice rh32.free.a rh32.free.n rh32.free.c),(.slice Ao no co)],HpW rh32 ros33 hh34,Aa b2 50 zState,Bd w Bl] w159:=K158 _ _ g160
        have z162:=(H161.fix (i:=6) rfl).size
        have hq154:=hind152.r _ _ hq130
        refine zg Z (fa123_1 (b:=⟨b108,1,none⟩) Z Z) (bE (vs:=[(J (x145:Int))]) (cs':=[(J (x121:Int)),(J (x145:Int)),(J 0),(J 0)]) sizeOf3 (H161.ob (i:=1) Z) Z Z Z Z Z Z ?_)
        intro w163 hz164 g165 o166
        have H167:Sp [Aa b59 213 [.slice A146 n147 c148,.bool bq150],Aa b108 123 [(J (x121:Int)),(J (x145:Int)),(J 0),(J 0)],Ai 123 4 Ao no co (rows l),Aa b68 50 [(J rh32.order),(.slice rh32.objs.a rh32.objs.n rh32.objs.c),(J rh32.next),(J rh32.t0),(J rh32.t1),(J rh32.t2),(J rh32.t3),(.slice rh32.free.a rh32.free.n rh32.free.c),(.slice Ao no co)],HpW rh32 ros33 hh34,Aa b2 50 zState,Bd w Bl] w163:=H161.setB (i:=1) rfl g165 o166 rfl
        have z168:=g165.size
        refine cS (cT (zm (.pointer (some ⟨b59,0,none⟩)) Z ?_))
        obtain ⟨S179,hS180,hO181,K182⟩:=H167.takeN 1
        refine aU call187 (rnum_ _ S179 b59 A146 n147 c148 bs149 bq150 hS180 ⟨(Cw hO181 (j:=5) Z hq154.1 (by omega)),hq154.2⟩) Z Z Z ?_
        rintro _ w183 ⟨x169,A170,n171,c172,bs173,bq174,rfl,g184,hnum175,hind176,hxle177⟩
        have H185:Sp [Aa b59 213 [.slice A170 n171 c172,.bool bq174],Aa b108 123 [(J (x121:Int)),(J (x145:Int)),(J 0),(J 0)],Ai 123 4 Ao no co (rows l),Aa b68 50 [(J rh32.order),(.slice rh32.objs.a rh32.objs.n rh32.objs.c),(J rh32.next),(J rh32.t0),(J rh32.t1),(J rh32.t2),(J rh32.t3),(.slice rh32.free.a rh32.free.n rh32.free.c),(.slice Ao no co)],HpW rh32 ros33 hh34,Aa b2 50 zState,Bd w Bl] w183:=K182 _ _ g184
        have z186:=(H185.fix (i:=6) rfl).size
        have hq178:=hind176.r _ _ hq154
        refine za (J (x169:Int)) Z (cS (cT (zm (J (x169:Int)) Z (zg Z (fa123_2 (b:=⟨b108,2,none⟩) Z Z) (zg Z (fa55_0 (b:=⟨b108,2,none⟩) Z Z) (bE (vs:=[(J (x169:Int))]) (cs':=[(J (x121:Int)),(J (x145:Int)),(J (x169:Int)),(J 0)]) sizeOf53 (H185.ob (i:=1) Z) Z Z Z Z Z Z ?_))))))
        intro w187 hz188 g189 o190
        have H191:Sp [Aa b59 213 [.slice A170 n171 c172,.bool bq174],Aa b108 123 [(J (x121:Int)),(J (x145:Int)),(J (x169:Int)),(J 0)],Ai 123 4 Ao no co (rows l),Aa b68 50 [(J rh32.order),(.slice rh32.objs.a rh32.objs.n rh32.objs.c),(J rh32.next),(J rh32.t0),(J rh32.t1),(J rh32.t2),(J rh32.t3),(.slice rh32.free.a rh32.free.n rh32.free.c),(.slice Ao no co)],HpW rh32 ros33 hh34,Aa b2 50 zState,Bd w Bl] w187:=H185.setB (i:=1) rfl g189 o190 rfl
        have z192:=g189.size
        refine cS (cT (zm (.pointer (some ⟨b59,0,none⟩)) Z ?_))
        obtain ⟨S203,hS204,hO205,K206⟩:=H191.takeN 1
        refine aU call188 (rint_ _ S203 b59 A170 n171 c172 bs173 bq174 hS204 ⟨(Cw hO205 (j:=5) Z hq178.1 (by omega)),hq178.2⟩) Z Z Z ?_
        rintro _ w207 ⟨x193,A194,n195,c196,bs197,bq198,rfl,g208,hnum199,hind200⟩
        have H209:Sp [Aa b59 213 [.slice A194 n195 c196,.bool bq198],Aa b108 123 [(J (x121:Int)),(J (x145:Int)),(J (x169:Int)),(J 0)],Ai 123 4 Ao no co (rows l),Aa b68 50 [(J rh32.order),(.slice rh32.objs.a rh32.objs.n rh32.objs.c),(J rh32.next),(J rh32.t0),(J rh32.t1),(J rh32.t2),(J rh32.t3),(.slice rh32.free.a rh32.free.n rh32.free.c),(.slice Ao no co)],HpW rh32 ros33 hh34,Aa b2 50 zState,Bd w Bl] w207:=K206 _ _ g208
        have z210:=(H209.fix (i:=6) rfl).size
        have hq202:=hind200.r _ _ hq178
        refine zg Z (fa123_2 (b:=⟨b108,2,none⟩) Z Z) (zg Z (fa55_1 (b:=⟨b108,3,none⟩) Z Z) (bE (vs:=[(J x193)]) (cs':=[(J (x121:Int)),(J (x145:Int)),(J (x169:Int)),(J x193)]) sizeOf3 (H209.ob (i:=1) Z) Z Z Z Z Z Z ?_))
        intro w211 hz212 g213 o214
        have H215:Sp [Aa b59 213 [.slice A194 n195 c196,.bool bq198],Aa b108 123 [(J (x121:Int)),(J (x145:Int)),(J (x169:Int)),(J x193)],Ai 123 4 Ao no co (rows l),Aa b68 50 [(J rh32.order),(.slice rh32.objs.a rh32.objs.n rh32.objs.c),(J rh32.next),(J rh32.t0),(J rh32.t1),(J rh32.t2),(J rh32.t3),(.slice rh32.free.a rh32.free.n rh32.free.c),(.slice Ao no co)],HpW rh32 ros33 hh34,Aa b2 50 zState,Bd w Bl] w211:=H209.setB (i:=1) rfl g213 o214 rfl
        have z216:=g213.size
        refine cS (aL (zg Z (fa50_1 (b:=⟨b68,8,none⟩) Z Z) (zl (.slice Ao no co) lo48 (H215.ob (i:=3) Z) Z (zg Z (bW Z (Aj (cs:=[(J (x121:Int)),(J (x145:Int)),(J (x169:Int)),(J x193)]) wh123 (H215.ob (i:=1) Z).cl)) (cF (cs:=[(J (x121:Int)),(J (x145:Int)),(J (x169:Int)),(J x193)]) underlying48 sizeOf123 ze48 Z Z Z (by decide) Z Z Z ?_)))))
        intro w217 b218 hb219 hz220 g221 o222
        have H223:=H215.newB g221 o222 (by omega)
        have z224:=g221.size
        refine cL (base:=0) (xss:=(rows l)) (yss:=(rows ([(⟨(x121:Int),(x145:Int),(x169:Int),x193⟩:Row)]))) el48 (H223.wr (i:=3) Z) Z (Ob.rd1 (H223.ob (i:=0) Z) Z) Z (by simp only [Aq,Au,Ar,Am,Ak,Ap,List.length_append,List.length_cons,List.length_nil,List.length_take,List.length_drop,List.length_map,Cr,Dp,Bj,Bk,Do]; try omega) (rows_one _) (by omega) (by omega) (by omega) Z Z ?_
        intro w225 A226 c227 g228 ow229 nx230
        have H231:Sp [Aa b218 123 [(J (x121:Int)),(J (x145:Int)),(J (x169:Int)),(J x193)],Aa b59 213 [.slice A194 n195 c196,.bool bq198],Aa b108 123 [(J (x121:Int)),(J (x145:Int)),(J (x169:Int)),(J x193)],Ai 123 4 A226 (no + 1) c227 (rows (l ++ [(⟨(x121:Int),(x145:Int),(x169:Int),x193⟩:Row)])),Aa b68 50 [(J rh32.order),(.slice rh32.objs.a rh32.objs.n rh32.objs.c),(J rh32.next),(J rh32.t0),(J rh32.t1),(J rh32.t2),(J rh32.t3),(.slice rh32.free.a rh32.free.n rh32.free.c),(.slice Ao no co)],HpW rh32 ros33 hh34,Aa b2 50 zState,Bd w Bl] w225:=H223.setR (i:=3) rfl g228 ((rows_app _ _).symm ▸ ow229) nx230 rfl
        have z232:=g228.size
        refine zg Z (fa50_1 (b:=⟨b68,8,none⟩) Z Z) (bE (vs:=[(.slice A226 (no + 1) c227)]) (cs':=[(J rh32.order),(.slice rh32.objs.a rh32.objs.n rh32.objs.c),(J rh32.next),(J rh32.t0),(J rh32.t1),(J rh32.t2),(J rh32.t3),(.slice rh32.free.a rh32.free.n rh32.free.c),(.slice A226 (no + 1) c227)]) sizeOf48 (H231.ob (i:=4) Z) Z Z Z Z Z Z ?_)
        intro w233 hz234 g235 o236
        have H237:Sp [Aa b218 123 [(J (x121:Int)),(J (x145:Int)),(J (x169:Int)),(J x193)],Aa b59 213 [.slice A194 n195 c196,.bool bq198],Aa b108 123 [(J (x121:Int)),(J (x145:Int)),(J (x169:Int)),(J x193)],Ai 123 4 A226 (no + 1) c227 (rows (l ++ [(⟨(x121:Int),(x145:Int),(x169:Int),x193⟩:Row)])),Aa b68 50 [(J rh32.order),(.slice rh32.objs.a rh32.objs.n rh32.objs.c),(J rh32.next),(J rh32.t0),(J rh32.t1),(J rh32.t2),(J rh32.t3),(.slice rh32.free.a rh32.free.n rh32.free.c),(.slice A226 (no + 1) c227)],HpW rh32 ros33 hh34,Aa b2 50 zState,Bd w Bl] w233:=H231.setB (i:=4) rfl g235 o236 rfl
        have z238:=g235.size
        refine aM (inB.n (aQ (aL (zm (J (k:Int)) Z (zg Z (bI (r:=(k:Int) + 1) Z Z (Dl (by omega) (by omega))) (za (J ((k:Int) + 1)) Z (cS ?_)))))))
        refine ⟨(by repeat (first | exact aJ _ _ | exact aH _ _ | refine aI ?_ Z _ | refine cR ?_ (by intro t ht; simp only [Bool.or_eq_false_iff,Bool.and_eq_false_iff,ble_f,beq_f] at ht ⊢; omega))),_,?_,k + 1,n195,c196,no + 1,c227,A194,A226,l ++ [(⟨(x121:Int),(x145:Int),(x169:Int),x193⟩:Row)],bs197,bq198,rfl,rfl,(H237.sel [3,1,4,5,6,7] (by decide) Z),by omega,by omega,manyF_go hmy (rowF_mk hnum127 hnum151 hnum175 hnum199),by omega,hin1.trans ((hind128.trans hind152).trans (hind176.trans hind200))⟩
        omega
       ·refine zg Z (bC (b:=true) Z) (zT bF Z (cS (aF Z (aC (aS (aS (Bo (aQ (aD (aD ?_))))))))))
        have hgs:=getState_ref hrt12 hgh35 hnum87 hmy (by omega) (by first | exact .inl (by omega) | exact .inr (.inl (by omega)) | exact .inr (.inr rfl))
        have hrl:=H103.len (i:=0) rfl
        rw [Ar] at hrl
        have hq1l:=hq1.2.1
        refine aL (zm (.pointer (some ⟨b59,0,none⟩)) Z (zg Z (bX Z) (zg Z (fa213_1 (b:=⟨b59,1,none⟩) Z Z) (zl (bT) lo4 (H103.ob (i:=1) Z) Z (zm bT Z (zo Z (zo Z (zo Z (zo Z (zo Z ?_))))))))))
        refine zo Z (zT bT Z (zm bT Z (zo Z (zo Z (zo Z (zo Z (zo Z (zT bT Z (zm bT Z (zo Z ?_))))))))))
        refine zo Z (zo Z (zT bT Z (cS (aE Z (cT (zg Z (bY (cs:=zState) bd50 Z) (bE (vs:=zState) (cs':=zState) sizeOf50 (H103.ob (i:=4) Z) Z Z Z Z Z Z ?_)))))))
        intro w239 hz240 g241 o242
        have H243:Sp [Ai 123 4 Ao no co (rows l),Aa b59 213 [.slice A1 n1 c1,.bool true],Aa b68 50 [(J rh32.order),(.slice rh32.objs.a rh32.objs.n rh32.objs.c),(J rh32.next),(J rh32.t0),(J rh32.t1),(J rh32.t2),(J rh32.t3),(.slice rh32.free.a rh32.free.n rh32.free.c),(.slice Ao no co)],HpW rh32 ros33 hh34,Aa b2 50 zState,Bd w Bl] w239:=H103.setB (i:=4) rfl g241 o242 rfl
        have z244:=g241.size
        refine za (J 60) Z (cS (aB (aR (aO (v:=(.tuple #[(.agg (zState).toArray),(J 60)])) (Ch Z (cA Z (Aj (cs:=zState) wh50 (H243.ob (i:=4) Z).cl)) (bZ Z)) ?_))))
        exact .inr ⟨rfl,(H243.fix (i:=5) rfl),by rw [hgs,if_neg (fun ⟨q1,q2,q3,q4⟩=>by first | (cases q1; done) | (rw [q2] at hq1l; simp only [List.length_nil] at hq1l; omega) | omega)]⟩
      ·refine zT bF Z (zm bF Z (zo Z (zo Z (zo Z (zo Z (zo Z (zF bF Z (cS (aF Z (aC (aS (aS (Bo (aQ (aD (aD ?_))))))))))))))))
       have hgs:=getState_ref hrt12 hgh35 hnum87 hmy (by omega) (by first | exact .inl (by omega) | exact .inr (.inl (by omega)) | exact .inr (.inr rfl))
       have hrl:=H103.len (i:=0) rfl
       rw [Ar] at hrl
       have hq1l:=hq1.2.1
       refine aL (zm (.pointer (some ⟨b59,0,none⟩)) Z (zg Z (bX Z) (zg Z (fa213_1 (b:=⟨b59,1,none⟩) Z Z) (zl (.bool b1) lo4 (H103.ob (i:=1) Z) Z ?_))))
       rcases b1 with _ | _
       ·refine zm bF Z (zm (.pointer (some ⟨b59,0,none⟩)) Z (zg Z (bX Z) (zg Z (fa213_0 (b:=⟨b59,0,none⟩) Z Z) (zl (.slice A1 n1 c1) lo97 (H103.ob (i:=1) Z) Z (zg Z (bR underlying97 Z) ?_)))))
        refine zc ((0:Int) < ((n1:Nat):Int)) Z (fun r hr=>bN Z Z hr) (fun h245=>?_) (fun h245=>?_)
        ·refine zF bT Z (zm bT Z (zo Z (zo Z (zo Z (zo Z (zo Z (zT bT Z (zm bT Z (zo Z (zo Z ?_))))))))))
         refine zo Z (zT bT Z (cS (aE Z (cT (zg Z (bY (cs:=zState) bd50 Z) (bE (vs:=zState) (cs':=zState) sizeOf50 (H103.ob (i:=4) Z) Z Z Z Z Z Z ?_))))))
         intro w246 hz247 g248 o249
         have H250:Sp [Ai 123 4 Ao no co (rows l),Aa b59 213 [.slice A1 n1 c1,.bool false],Aa b68 50 [(J rh32.order),(.slice rh32.objs.a rh32.objs.n rh32.objs.c),(J rh32.next),(J rh32.t0),(J rh32.t1),(J rh32.t2),(J rh32.t3),(.slice rh32.free.a rh32.free.n rh32.free.c),(.slice Ao no co)],HpW rh32 ros33 hh34,Aa b2 50 zState,Bd w Bl] w246:=H103.setB (i:=4) rfl g248 o249 rfl
         have z251:=g248.size
         refine za (J 60) Z (cS (aB (aR (aO (v:=(.tuple #[(.agg (zState).toArray),(J 60)])) (Ch Z (cA Z (Aj (cs:=zState) wh50 (H250.ob (i:=4) Z).cl)) (bZ Z)) ?_))))
         exact .inr ⟨rfl,(H250.fix (i:=5) rfl),by rw [hgs,if_neg (fun ⟨q1,q2,q3,q4⟩=>by first | (cases q1; done) | (rw [q2] at hq1l; simp only [List.length_nil] at hq1l; omega) | omega)]⟩
        ·refine zF bF Z (zm bF Z (zm (J (x81:Int)) Z (zg Z (fa50_1 (b:=⟨b68,8,none⟩) Z Z) (zl (.slice Ao no co) lo48 (H103.ob (i:=2) Z) Z (zg Z (bR underlying48 Z) ?_)))))
         refine zc (((x81:Int):Int) ≠ ((no:Nat):Int)) Z (fun r hr=>bQ Z Z hr) (fun h252=>?_) (fun h252=>?_)
         ·refine zF bT Z (zm bT Z (zo Z (zo Z (zo Z (zT bT Z (cS (aE Z (cT (zg Z (bY (cs:=zState) bd50 Z) (bE (vs:=zState) (cs':=zState) sizeOf50 (H103.ob (i:=4) Z) Z Z Z Z Z Z ?_))))))))))
          intro w253 hz254 g255 o256
          have H257:Sp [Ai 123 4 Ao no co (rows l),Aa b59 213 [.slice A1 n1 c1,.bool false],Aa b68 50 [(J rh32.order),(.slice rh32.objs.a rh32.objs.n rh32.objs.c),(J rh32.next),(J rh32.t0),(J rh32.t1),(J rh32.t2),(J rh32.t3),(.slice rh32.free.a rh32.free.n rh32.free.c),(.slice Ao no co)],HpW rh32 ros33 hh34,Aa b2 50 zState,Bd w Bl] w253:=H103.setB (i:=4) rfl g255 o256 rfl
          have z258:=g255.size
          refine za (J 60) Z (cS (aB (aR (aO (v:=(.tuple #[(.agg (zState).toArray),(J 60)])) (Ch Z (cA Z (Aj (cs:=zState) wh50 (H257.ob (i:=4) Z).cl)) (bZ Z)) ?_))))
          exact .inr ⟨rfl,(H257.fix (i:=5) rfl),by rw [hgs,if_neg (fun ⟨q1,q2,q3,q4⟩=>by first | (cases q1; done) | (rw [q2] at hq1l; simp only [List.length_nil] at hq1l; omega) | omega)]⟩
         ·refine zF bF Z (zm bF Z ?_)
          have H259:Sp [StW (⟨rh32,⟨Ao,no,co⟩⟩:RState) ros33 (⟨hh34,l⟩:Eng.State),Aa b59 213 [.slice A1 n1 c1,.bool false],Aa b68 50 [(J rh32.order),(.slice rh32.objs.a rh32.objs.n rh32.objs.c),(J rh32.next),(J rh32.t0),(J rh32.t1),(J rh32.t2),(J rh32.t3),(.slice rh32.free.a rh32.free.n rh32.free.c),(.slice Ao no co)],Aa b2 50 zState,Bd w Bl] w100:=(Sp.stMk (rs:=(⟨rh32,⟨Ao,no,co⟩⟩:RState)) (ros:=ros33) (s:=(⟨hh34,l⟩:Eng.State)) (H103.sel [3,0,1,2,4,5] (by decide) rfl) (by show no ≤ _; omega))
          refine zg Z (bW Z (Aj (cs:=[(J rh32.order),(.slice rh32.objs.a rh32.objs.n rh32.objs.c),(J rh32.next),(J rh32.t0),(J rh32.t1),(J rh32.t2),(J rh32.t3),(.slice rh32.free.a rh32.free.n rh32.free.c),(.slice Ao no co)]) wh50 (H259.ob (i:=2) Z).cl)) (aU call104 (rightS_ _ _ (⟨rh32,⟨Ao,no,co⟩⟩:RState) _ _ (H259.stWR (i:=0) Z) (Nat.le_refl _) (by first | assumption | omega | (dsimp only; omega))) Z Z Z ?_)
          rintro _ w260 ⟨rfl,g261⟩
          have H262:=H259.grow g261
          have z263:=g261.size
          rcases hb264:(Cy (⟨hh34,l⟩:Eng.State)) with _ | _
          ·refine zg Z (bC (b:=false) Z) (zF bT Z (cS (aE Z (cT (zg Z (bY (cs:=zState) bd50 Z) (bE (vs:=zState) (cs':=zState) sizeOf50 (H262.ob (i:=3) Z) Z Z Z Z Z Z ?_))))))
           intro w265 hz266 g267 o268
           have H269:Sp [StW (⟨rh32,⟨Ao,no,co⟩⟩:RState) ros33 (⟨hh34,l⟩:Eng.State),Aa b59 213 [.slice A1 n1 c1,.bool false],Aa b68 50 [(J rh32.order),(.slice rh32.objs.a rh32.objs.n rh32.objs.c),(J rh32.next),(J rh32.t0),(J rh32.t1),(J rh32.t2),(J rh32.t3),(.slice rh32.free.a rh32.free.n rh32.free.c),(.slice Ao no co)],Aa b2 50 zState,Bd w Bl] w265:=H262.setB (i:=3) rfl g267 o268 rfl
           have z270:=g267.size
           refine za (J 60) Z (cS (aB (aR (aO (v:=(.tuple #[(.agg (zState).toArray),(J 60)])) (Ch Z (cA Z (Aj (cs:=zState) wh50 (H269.ob (i:=3) Z).cl)) (bZ Z)) ?_))))
           exact .inr ⟨rfl,(H269.fix (i:=4) rfl),by rw [hgs,if_neg (fun ⟨q1,q2,q3,q4⟩=>by first | (cases q1; done) | (rw [q2] at hq1l; simp only [List.length_nil] at hq1l; omega) | (rw [hb264] at q4; cases q4) | omega)]⟩
          ·refine zg Z (bC (b:=true) Z) (zF bF Z (cS (aF Z (aA (aQ (cT (zg Z (bW Z (Aj (cs:=[(J rh32.order),(.slice rh32.objs.a rh32.objs.n rh32.objs.c),(J rh32.next),(J rh32.t0),(J rh32.t1),(J rh32.t2),(J rh32.t3),(.slice rh32.free.a rh32.free.n rh32.free.c),(.slice Ao no co)]) wh50 (H262.ob (i:=2) Z).cl)) (bE (vs:=[(J rh32.order),(.slice rh32.objs.a rh32.objs.n rh32.objs.c),(J rh32.next),(J rh32.t0),(J rh32.t1),(J rh32.t2),(J rh32.t3),(.slice rh32.free.a rh32.free.n rh32.free.c),(.slice Ao no co)]) (cs':=[(J rh32.order),(.slice rh32.objs.a rh32.objs.n rh32.objs.c),(J rh32.next),(J rh32.t0),(J rh32.t1),(J rh32.t2),(J rh32.t3),(.slice rh32.free.a rh32.free.n rh32.free.c),(.slice Ao no co)]) sizeOf50 (H262.ob (i:=3) Z) Z Z Z Z Z Z ?_))))))))
           intro w271 hz272 g273 o274
           have H275:Sp [StW (⟨rh32,⟨Ao,no,co⟩⟩:RState) ros33 (⟨hh34,l⟩:Eng.State),Aa b59 213 [.slice A1 n1 c1,.bool false],Aa b68 50 [(J rh32.order),(.slice rh32.objs.a rh32.objs.n rh32.objs.c),(J rh32.next),(J rh32.t0),(J rh32.t1),(J rh32.t2),(J rh32.t3),(.slice rh32.free.a rh32.free.n rh32.free.c),(.slice Ao no co)],Aa b2 50 [(J rh32.order),(.slice rh32.objs.a rh32.objs.n rh32.objs.c),(J rh32.next),(J rh32.t0),(J rh32.t1),(J rh32.t2),(J rh32.t3),(.slice rh32.free.a rh32.free.n rh32.free.c),(.slice Ao no co)],Bd w Bl] w271:=H262.setB (i:=3) rfl g273 o274 rfl
           have z276:=g273.size
           refine za (J 0) Z (cS (aB (aO (v:=(.tuple #[(.agg ([(J rh32.order),(.slice rh32.objs.a rh32.objs.n rh32.objs.c),(J rh32.next),(J rh32.t0),(J rh32.t1),(J rh32.t2),(J rh32.t3),(.slice rh32.free.a rh32.free.n rh32.free.c),(.slice Ao no co)]).toArray),(J 0)])) (Ch Z (cA Z (Aj (cs:=[(J rh32.order),(.slice rh32.objs.a rh32.objs.n rh32.objs.c),(J rh32.next),(J rh32.t0),(J rh32.t1),(J rh32.t2),(J rh32.t3),(.slice rh32.free.a rh32.free.n rh32.free.c),(.slice Ao no co)]) wh50 (H275.ob (i:=3) Z).cl)) (bZ Z)) ?_)))
           exact .inl ⟨(⟨rh32,⟨Ao,no,co⟩⟩:RState),ros33,_,rfl,(H275.sel [0,4] (by decide) Z),by rw [hgs,if_pos ⟨Z,List.eq_nil_of_length_eq_zero (by omega),by omega,hb264⟩],hb264⟩
       ·refine zm bT Z (zo Z (zo Z (zo Z (zo Z (zo Z (zo Z (zT bT Z (zm bT Z (zo Z (zo Z ?_))))))))))
        refine zo Z (zo Z (zo Z (zT bT Z (zm bT Z (zo Z (zo Z (zo Z (zT bT Z (cS (aE Z (cT (zg Z (bY (cs:=zState) bd50 Z) ?_))))))))))))
        refine bE (vs:=zState) (cs':=zState) sizeOf50 (H103.ob (i:=4) Z) Z Z Z Z Z Z ?_
        intro w277 hz278 g279 o280
        have H281:Sp [Ai 123 4 Ao no co (rows l),Aa b59 213 [.slice A1 n1 c1,.bool true],Aa b68 50 [(J rh32.order),(.slice rh32.objs.a rh32.objs.n rh32.objs.c),(J rh32.next),(J rh32.t0),(J rh32.t1),(J rh32.t2),(J rh32.t3),(.slice rh32.free.a rh32.free.n rh32.free.c),(.slice Ao no co)],HpW rh32 ros33 hh34,Aa b2 50 zState,Bd w Bl] w277:=H103.setB (i:=4) rfl g279 o280 rfl
        have z282:=g279.size
        refine za (J 60) Z (cS (aB (aR (aO (v:=(.tuple #[(.agg (zState).toArray),(J 60)])) (Ch Z (cA Z (Aj (cs:=zState) wh50 (H281.ob (i:=4) Z).cl)) (bZ Z)) ?_))))
        exact .inr ⟨rfl,(H281.fix (i:=5) rfl),by rw [hgs,if_neg (fun ⟨q1,q2,q3,q4⟩=>by first | (cases q1; done) | (rw [q2] at hq1l; simp only [List.length_nil] at hq1l; omega) | omega)]⟩
     ·refine zm bF Z (zo Z (zo Z (zF bF Z (zm bF Z (zo Z (zo Z (zo Z (zo Z (zo Z (zF bF Z ?_))))))))))
      refine cS (aF Z (aC (aS (aS (Bo (aQ (aD (aD ?_))))))))
      have hgs:=getState_ref hrt12 hgh35 hnum87 hmy (by omega) (by first | exact .inl (by omega) | exact .inr (.inl (by omega)) | exact .inr (.inr rfl))
      have hrl:=H103.len (i:=0) rfl
      rw [Ar] at hrl
      have hq1l:=hq1.2.1
      refine aL (zm (.pointer (some ⟨b59,0,none⟩)) Z (zg Z (bX Z) (zg Z (fa213_1 (b:=⟨b59,1,none⟩) Z Z) (zl (.bool b1) lo4 (H103.ob (i:=1) Z) Z ?_))))
      rcases b1 with _ | _
      ·refine zm bF Z (zm (.pointer (some ⟨b59,0,none⟩)) Z (zg Z (bX Z) (zg Z (fa213_0 (b:=⟨b59,0,none⟩) Z Z) (zl (.slice A1 n1 c1) lo97 (H103.ob (i:=1) Z) Z (zg Z (bR underlying97 Z) ?_)))))
       refine zc ((0:Int) < ((n1:Nat):Int)) Z (fun r hr=>bN Z Z hr) (fun h283=>?_) (fun h283=>?_)
       ·refine zF bT Z (zm bT Z (zo Z (zo Z (zo Z (zo Z (zo Z (zT bT Z (zm bT Z (zo Z (zo Z ?_))))))))))
        refine zo Z (zT bT Z (cS (aE Z (cT (zg Z (bY (cs:=zState) bd50 Z) (bE (vs:=zState) (cs':=zState) sizeOf50 (H103.ob (i:=4) Z) Z Z Z Z Z Z ?_))))))
        intro w284 hz285 g286 o287
        have H288:Sp [Ai 123 4 Ao no co (rows l),Aa b59 213 [.slice A1 n1 c1,.bool false],Aa b68 50 [(J rh32.order),(.slice rh32.objs.a rh32.objs.n rh32.objs.c),(J rh32.next),(J rh32.t0),(J rh32.t1),(J rh32.t2),(J rh32.t3),(.slice rh32.free.a rh32.free.n rh32.free.c),(.slice Ao no co)],HpW rh32 ros33 hh34,Aa b2 50 zState,Bd w Bl] w284:=H103.setB (i:=4) rfl g286 o287 rfl
        have z289:=g286.size
        refine za (J 60) Z (cS (aB (aR (aO (v:=(.tuple #[(.agg (zState).toArray),(J 60)])) (Ch Z (cA Z (Aj (cs:=zState) wh50 (H288.ob (i:=4) Z).cl)) (bZ Z)) ?_))))
        exact .inr ⟨rfl,(H288.fix (i:=5) rfl),by rw [hgs,if_neg (fun ⟨q1,q2,q3,q4⟩=>by first | (cases q1; done) | (rw [q2] at hq1l; simp only [List.length_nil] at hq1l; omega) | omega)]⟩
       ·refine zF bF Z (zm bF Z (zm (J (x81:Int)) Z (zg Z (fa50_1 (b:=⟨b68,8,none⟩) Z Z) (zl (.slice Ao no co) lo48 (H103.ob (i:=2) Z) Z (zg Z (bR underlying48 Z) ?_)))))
        refine zc (((x81:Int):Int) ≠ ((no:Nat):Int)) Z (fun r hr=>bQ Z Z hr) (fun h290=>?_) (fun h290=>?_)
        ·refine zF bT Z (zm bT Z (zo Z (zo Z (zo Z (zT bT Z (cS (aE Z (cT (zg Z (bY (cs:=zState) bd50 Z) (bE (vs:=zState) (cs':=zState) sizeOf50 (H103.ob (i:=4) Z) Z Z Z Z Z Z ?_))))))))))
         intro w291 hz292 g293 o294
         have H295:Sp [Ai 123 4 Ao no co (rows l),Aa b59 213 [.slice A1 n1 c1,.bool false],Aa b68 50 [(J rh32.order),(.slice rh32.objs.a rh32.objs.n rh32.objs.c),(J rh32.next),(J rh32.t0),(J rh32.t1),(J rh32.t2),(J rh32.t3),(.slice rh32.free.a rh32.free.n rh32.free.c),(.slice Ao no co)],HpW rh32 ros33 hh34,Aa b2 50 zState,Bd w Bl] w291:=H103.setB (i:=4) rfl g293 o294 rfl
         have z296:=g293.size
         refine za (J 60) Z (cS (aB (aR (aO (v:=(.tuple #[(.agg (zState).toArray),(J 60)])) (Ch Z (cA Z (Aj (cs:=zState) wh50 (H295.ob (i:=4) Z).cl)) (bZ Z)) ?_))))
         exact .inr ⟨rfl,(H295.fix (i:=5) rfl),by rw [hgs,if_neg (fun ⟨q1,q2,q3,q4⟩=>by first | (cases q1; done) | (rw [q2] at hq1l; simp only [List.length_nil] at hq1l; omega) | omega)]⟩
        ·refine zF bF Z (zm bF Z ?_)
         have H297:Sp [StW (⟨rh32,⟨Ao,no,co⟩⟩:RState) ros33 (⟨hh34,l⟩:Eng.State),Aa b59 213 [.slice A1 n1 c1,.bool false],Aa b68 50 [(J rh32.order),(.slice rh32.objs.a rh32.objs.n rh32.objs.c),(J rh32.next),(J rh32.t0),(J rh32.t1),(J rh32.t2),(J rh32.t3),(.slice rh32.free.a rh32.free.n rh32.free.c),(.slice Ao no co)],Aa b2 50 zState,Bd w Bl] w100:=(Sp.stMk (rs:=(⟨rh32,⟨Ao,no,co⟩⟩:RState)) (ros:=ros33) (s:=(⟨hh34,l⟩:Eng.State)) (H103.sel [3,0,1,2,4,5] (by decide) rfl) (by show no ≤ _; omega))
         refine zg Z (bW Z (Aj (cs:=[(J rh32.order),(.slice rh32.objs.a rh32.objs.n rh32.objs.c),(J rh32.next),(J rh32.t0),(J rh32.t1),(J rh32.t2),(J rh32.t3),(.slice rh32.free.a rh32.free.n rh32.free.c),(.slice Ao no co)]) wh50 (H297.ob (i:=2) Z).cl)) (aU call104 (rightS_ _ _ (⟨rh32,⟨Ao,no,co⟩⟩:RState) _ _ (H297.stWR (i:=0) Z) (Nat.le_refl _) (by first | assumption | omega | (dsimp only; omega))) Z Z Z ?_)
         rintro _ w298 ⟨rfl,g299⟩
         have H300:=H297.grow g299
         have z301:=g299.size
         rcases hb302:(Cy (⟨hh34,l⟩:Eng.State)) with _ | _
         ·refine zg Z (bC (b:=false) Z) (zF bT Z (cS (aE Z (cT (zg Z (bY (cs:=zState) bd50 Z) (bE (vs:=zState) (cs':=zState) sizeOf50 (H300.ob (i:=3) Z) Z Z Z Z Z Z ?_))))))
          intro w303 hz304 g305 o306
          have H307:Sp [StW (⟨rh32,⟨Ao,no,co⟩⟩:RState) ros33 (⟨hh34,l⟩:Eng.State),Aa b59 213 [.slice A1 n1 c1,.bool false],Aa b68 50 [(J rh32.order),(.slice rh32.objs.a rh32.objs.n rh32.objs.c),(J rh32.next),(J rh32.t0),(J rh32.t1),(J rh32.t2),(J rh32.t3),(.slice rh32.free.a rh32.free.n rh32.free.c),(.slice Ao no co)],Aa b2 50 zState,Bd w Bl] w303:=H300.setB (i:=3) rfl g305 o306 rfl
          have z308:=g305.size
          refine za (J 60) Z (cS (aB (aR (aO (v:=(.tuple #[(.agg (zState).toArray),(J 60)])) (Ch Z (cA Z (Aj (cs:=zState) wh50 (H307.ob (i:=3) Z).cl)) (bZ Z)) ?_))))
          exact .inr ⟨rfl,(H307.fix (i:=4) rfl),by rw [hgs,if_neg (fun ⟨q1,q2,q3,q4⟩=>by first | (cases q1; done) | (rw [q2] at hq1l; simp only [List.length_nil] at hq1l; omega) | (rw [hb302] at q4; cases q4) | omega)]⟩
         ·refine zg Z (bC (b:=true) Z) (zF bF Z (cS (aF Z (aA (aQ (cT (zg Z (bW Z (Aj (cs:=[(J rh32.order),(.slice rh32.objs.a rh32.objs.n rh32.objs.c),(J rh32.next),(J rh32.t0),(J rh32.t1),(J rh32.t2),(J rh32.t3),(.slice rh32.free.a rh32.free.n rh32.free.c),(.slice Ao no co)]) wh50 (H300.ob (i:=2) Z).cl)) (bE (vs:=[(J rh32.order),(.slice rh32.objs.a rh32.objs.n rh32.objs.c),(J rh32.next),(J rh32.t0),(J rh32.t1),(J rh32.t2),(J rh32.t3),(.slice rh32.free.a rh32.free.n rh32.free.c),(.slice Ao no co)]) (cs':=[(J rh32.order),(.slice rh32.objs.a rh32.objs.n rh32.objs.c),(J rh32.next),(J rh32.t0),(J rh32.t1),(J rh32.t2),(J rh32.t3),(.slice rh32.free.a rh32.free.n rh32.free.c),(.slice Ao no co)]) sizeOf50 (H300.ob (i:=3) Z) Z Z Z Z Z Z ?_))))))))
          intro w309 hz310 g311 o312
          have H313:Sp [StW (⟨rh32,⟨Ao,no,co⟩⟩:RState) ros33 (⟨hh34,l⟩:Eng.State),Aa b59 213 [.slice A1 n1 c1,.bool false],Aa b68 50 [(J rh32.order),(.slice rh32.objs.a rh32.objs.n rh32.objs.c),(J rh32.next),(J rh32.t0),(J rh32.t1),(J rh32.t2),(J rh32.t3),(.slice rh32.free.a rh32.free.n rh32.free.c),(.slice Ao no co)],Aa b2 50 [(J rh32.order),(.slice rh32.objs.a rh32.objs.n rh32.objs.c),(J rh32.next),(J rh32.t0),(J rh32.t1),(J rh32.t2),(J rh32.t3),(.slice rh32.free.a rh32.free.n rh32.free.c),(.slice Ao no co)],Bd w Bl] w309:=H300.setB (i:=3) rfl g311 o312 rfl
          have z314:=g311.size
          refine za (J 0) Z (cS (aB (aO (v:=(.tuple #[(.agg ([(J rh32.order),(.slice rh32.objs.a rh32.objs.n rh32.objs.c),(J rh32.next),(J rh32.t0),(J rh32.t1),(J rh32.t2),(J rh32.t3),(.slice rh32.free.a rh32.free.n rh32.free.c),(.slice Ao no co)]).toArray),(J 0)])) (Ch Z (cA Z (Aj (cs:=[(J rh32.order),(.slice rh32.objs.a rh32.objs.n rh32.objs.c),(J rh32.next),(J rh32.t0),(J rh32.t1),(J rh32.t2),(J rh32.t3),(.slice rh32.free.a rh32.free.n rh32.free.c),(.slice Ao no co)]) wh50 (H313.ob (i:=3) Z).cl)) (bZ Z)) ?_)))
          exact .inl ⟨(⟨rh32,⟨Ao,no,co⟩⟩:RState),ros33,_,rfl,(H313.sel [0,4] (by decide) Z),by rw [hgs,if_pos ⟨Z,List.eq_nil_of_length_eq_zero (by omega),by omega,hb302⟩],hb302⟩
      ·refine zm bT Z (zo Z (zo Z (zo Z (zo Z (zo Z (zo Z (zT bT Z (zm bT Z (zo Z (zo Z ?_))))))))))
       refine zo Z (zo Z (zo Z (zT bT Z (zm bT Z (zo Z (zo Z (zo Z (zT bT Z (cS (aE Z (cT (zg Z (bY (cs:=zState) bd50 Z) ?_))))))))))))
       refine bE (vs:=zState) (cs':=zState) sizeOf50 (H103.ob (i:=4) Z) Z Z Z Z Z Z ?_
       intro w315 hz316 g317 o318
       have H319:Sp [Ai 123 4 Ao no co (rows l),Aa b59 213 [.slice A1 n1 c1,.bool true],Aa b68 50 [(J rh32.order),(.slice rh32.objs.a rh32.objs.n rh32.objs.c),(J rh32.next),(J rh32.t0),(J rh32.t1),(J rh32.t2),(J rh32.t3),(.slice rh32.free.a rh32.free.n rh32.free.c),(.slice Ao no co)],HpW rh32 ros33 hh34,Aa b2 50 zState,Bd w Bl] w315:=H103.setB (i:=4) rfl g317 o318 rfl
       have z320:=g317.size
       refine za (J 60) Z (cS (aB (aR (aO (v:=(.tuple #[(.agg (zState).toArray),(J 60)])) (Ch Z (cA Z (Aj (cs:=zState) wh50 (H319.ob (i:=4) Z).cl)) (bZ Z)) ?_))))
       exact .inr ⟨rfl,(H319.fix (i:=5) rfl),by rw [hgs,if_neg (fun ⟨q1,q2,q3,q4⟩=>by first | (cases q1; done) | (rw [q2] at hq1l; simp only [List.length_nil] at hq1l; omega) | omega)]⟩
   ·have H321:=H30.grow g40
    have z322:=g40.size
    refine zm (.tuple #[(.agg (zHeap).toArray),(J 60)]) Z (zx (.agg (zHeap).toArray) Z (zx (J 60) Z (bG (cs:=zHeap) zeroValue47 Z Z Z ?_)))
    intro w323 b324 hb325 hz326 g327 o328
    have H329:=H321.newB g327 o328 (by omega)
    have z330:=g327.size
    refine bE (vs:=zHeap) (cs':=zHeap) sizeOf47 (H329.ob (i:=0) Z) Z Z Z Z Z Z ?_
    intro w331 hz332 g333 o334
    have H335:Sp [Aa b324 47 zHeap,Aa b2 50 zState,Bd w Bl] w331:=H329.setB (i:=0) rfl g333 o334 rfl
    have z336:=g333.size
    refine za (J 60) Z (cS (aD (cT (zm (J 0) Z (zg Z (bQ (r:=false) Z Z (by decide)) (zm bF Z (zm (J 60) Z (zg Z (bQ (r:=true) Z Z (by decide)) (zF bT Z (cS (aE Z (cT (zg Z (bY (cs:=zState) bd50 Z) (bE (vs:=zState) (cs':=zState) sizeOf50 (H335.ob (i:=1) Z) Z Z Z Z Z Z ?_))))))))))))))
    intro w337 hz338 g339 o340
    have H341:Sp [Aa b324 47 zHeap,Aa b2 50 zState,Bd w Bl] w337:=H335.setB (i:=1) rfl g339 o340 rfl
    have z342:=g339.size
    refine za (J 60) Z (cS (aB (aR (aO (v:=(.tuple #[(.agg (zState).toArray),(J 60)])) (Ch Z (cA Z (Aj (cs:=zState) wh50 (H341.ob (i:=1) Z).cl)) (bZ Z)) ?_))))
    exact .inr ⟨Z,(H341.fix (i:=2) Z),getState_no2 hrt12 hgh36⟩
  ·have H343:=H7.grow g19
   have z344:=g19.size
   refine zm (.tuple #[(.string (tx [])),(J 0),(J e11)]) Z (zx (.string (tx [])) Z (zx (J 0) Z (zx (J e11) Z (za (.string (tx [])) Z (za (J 0) Z (za (J e11) Z (cS (cT (zm (.string (tx [])) Z (RL.s2bT (l:=[]) underlying9 underlying97 underlying5 Z Z Z ?_))))))))))
   intro w345 b346 c347 hb348 hz349 g350 rd351 hc352
   have H353:=H343.grow g350
   have z354:=g350.size
   refine aU call186 (getHeapR_ _ _ ([]) (some ⟨b346,0,none⟩) (([]).length) c347 ⟨rd351,by first | rfl | omega,by omega,by first | omega | (simp only [List.length_nil]; omega)⟩ (by omega)) Z Z Z ?_
   rintro _ w361 (⟨rh355,ros356,hh357,rfl,g362,hgh358,hhb360⟩ | ⟨rfl,g363,hgh359⟩)
   ·have g364:=g362.fix (i:=1) rfl
    have H365:Sp [HpW rh355 ros356 hh357,Aa b2 50 zState,Bd w Bl] w361:=H353.join (m:=[HpW rh355 ros356 hh357]) g362
    have z366:=g364.size
    refine zm (.tuple #[(.agg (rh355.cells).toArray),(J 0)]) Z (zx (.agg (rh355.cells).toArray) Z (zx (J 0) Z (bG (cs:=zHeap) zeroValue47 Z Z Z ?_)))
    intro w367 b368 hb369 hz370 g371 o372
    have H373:=H365.newB g371 o372 (by omega)
    have z374:=g371.size
    refine bE (vs:=rh355.cells) (cs':=rh355.cells) sizeOf47 (H373.ob (i:=0) Z) Z Z Z Z Z Z ?_
    intro w375 hz376 g377 o378
    have H379:Sp [Aa b368 47 rh355.cells,HpW rh355 ros356 hh357,Aa b2 50 zState,Bd w Bl] w375:=H373.setB (i:=0) rfl g377 o378 rfl
    have z380:=g377.size
    refine za (J 0) Z (cS (aD (cT (zm (J e11) Z (zg Z (bQ (r:=true) Z Z (decide_eq_true (by omega))) (zm bT Z (zo Z (zo Z (zT bT Z (cS (aE Z (cT (zg Z (bY (cs:=zState) bd50 Z) (bE (vs:=zState) (cs':=zState) sizeOf50 (H379.ob (i:=2) Z) Z Z Z Z Z Z ?_))))))))))))))
    intro w381 hz382 g383 o384
    have H385:Sp [Aa b368 47 rh355.cells,HpW rh355 ros356 hh357,Aa b2 50 zState,Bd w Bl] w381:=H379.setB (i:=2) rfl g383 o384 rfl
    have z386:=g383.size
    refine za (J 60) Z (cS (aB (aR (aO (v:=(.tuple #[(.agg (zState).toArray),(J 60)])) (Ch Z (cA Z (Aj (cs:=zState) wh50 (H385.ob (i:=2) Z).cl)) (bZ Z)) ?_))))
    exact .inr ⟨Z,(H385.fix (i:=3) Z),getState_no1 hrt15⟩
   ·have H387:=H353.grow g363
    have z388:=g363.size
    refine zm (.tuple #[(.agg (zHeap).toArray),(J 60)]) Z (zx (.agg (zHeap).toArray) Z (zx (J 60) Z (bG (cs:=zHeap) zeroValue47 Z Z Z ?_)))
    intro w389 b390 hb391 hz392 g393 o394
    have H395:=H387.newB g393 o394 (by omega)
    have z396:=g393.size
    refine bE (vs:=zHeap) (cs':=zHeap) sizeOf47 (H395.ob (i:=0) Z) Z Z Z Z Z Z ?_
    intro w397 hz398 g399 o400
    have H401:Sp [Aa b390 47 zHeap,Aa b2 50 zState,Bd w Bl] w397:=H395.setB (i:=0) rfl g399 o400 rfl
    have z402:=g399.size
    refine za (J 60) Z (cS (aD (cT (zm (J e11) Z (zg Z (bQ (r:=true) Z Z (decide_eq_true (by omega))) (zm bT Z (zo Z (zo Z (zT bT Z (cS (aE Z (cT (zg Z (bY (cs:=zState) bd50 Z) (bE (vs:=zState) (cs':=zState) sizeOf50 (H401.ob (i:=1) Z) Z Z Z Z Z Z ?_))))))))))))))
    intro w403 hz404 g405 o406
    have H407:Sp [Aa b390 47 zHeap,Aa b2 50 zState,Bd w Bl] w403:=H401.setB (i:=1) rfl g405 o406 rfl
    have z408:=g405.size
    refine za (J 60) Z (cS (aB (aR (aO (v:=(.tuple #[(.agg (zState).toArray),(J 60)])) (Ch Z (cA Z (Aj (cs:=zState) wh50 (H407.ob (i:=1) Z).cl)) (bZ Z)) ?_))))
    exact .inr ⟨Z,(H407.fix (i:=2) Z),getState_no1 hrt15⟩
set_option maxHeartbeats 1000000 in
set_option maxRecDepth 20000 in
theorem mayR14_ (w:World) (e:Entry):Ret prog 105 [(.agg (e.cells).toArray)] w (fun v w'=>v = .bool (mayE e)∧w.grownBy w' none):=by
  have H0:Sp [Bd w Bl] w:=Bv w
  refine aP func105 Z Z Z ?_
  refine cT (bH (cs:=e.cells) Z Z Z ?_)
  intro w1 b2 hb3 hz4 g5 o6
  have H7:=H0.newB g5 o6 (by omega)
  have z8:=g5.size
  refine za bF Z (cS (aD (cT (zg Z (fa31_0 (b:=⟨b2,0,none⟩) Z Z) (zl (J e.num) Bw (H7.ob (i:=0) Z) Z (aU call168 (within_tumulusref14 _ e.num 1 900000000) Z Z Z ?_))))))
  rintro _ _ ⟨rfl,rfl⟩
  rcases hb12:(Az e.num 1 900000000) with _ | _
  ·refine zg Z (bC (b:=false) Z) (zm bT Z (zo Z (zo Z (zo Z (zo Z (zT bT Z (cS (aE Z (cT (za bF Z (cS (aB (aR (aO (v:=bF) (Ba Z Z) ?_))))))))))))))
   exact ⟨At (by unfold mayE; first | (simp [hb12]; done) | (simp [op_eq,zOp,hb12]; done) | (simp [op_eq,zOp,hb12]; omega)),(H7.fix (i:=1) Z)⟩
  ·have hw9:=Bh hb12
   refine zg Z (bC (b:=true) Z) (zm bF Z (zg Z (fa31_1 (b:=⟨b2,1,none⟩) Z Z) (zl (J e.view) Bw (H7.ob (i:=0) Z) Z (aU call168 (within_tumulusref14 _ e.view 0 900000000) Z Z Z ?_))))
   rintro _ _ ⟨rfl,rfl⟩
   rcases hb16:(Az e.view 0 900000000) with _ | _
   ·refine zg Z (bC (b:=false) Z) (zF bT Z (cS (aE Z (cT (za bF Z (cS (aB (aR (aO (v:=bF) (Ba Z Z) ?_)))))))))
    exact ⟨At (by unfold mayE; first | (simp [hb12,hb16]; done) | (simp [op_eq,zOp,hb12,hb16]; done) | (simp [op_eq,zOp,hb12,hb16]; omega)),(H7.fix (i:=1) Z)⟩
   ·have hw13:=Bh hb16
    refine zg Z (bC (b:=true) Z) (zF bF Z (cS (aF Z (aA (aQ (aD (cT (zg Z (fa31_2 (b:=⟨b2,2,none⟩) Z Z) (zl (J e.client) Bw (H7.ob (i:=0) Z) Z ?_)))))))))
    refine zc ((e.client:Int) = (0:Int)) Z (fun r hr=>bP Z Z hr) (fun h17=>?_) (fun h17=>?_)
    ·refine cS (aE Z (cT (zg Z (fa31_3 (b:=⟨b2,3,none⟩) Z Z) (zl (J e.seq) Bw (H7.ob (i:=0) Z) Z ?_))))
     refine zc ((e.seq:Int) = (0:Int)) Z (fun r hr=>bP Z Z hr) (fun h18=>?_) (fun h18=>?_)
     ·refine zm bT Z (zg Z (fa31_4 (b:=⟨b2,4,none⟩) Z Z) (zg Z (bW Z (Aj (cs:=[(J e.op.kind),(J e.op.h),(J e.op.i),(J e.op.n),(J e.op.k),(J e.op.v),(J e.op.t)]) wh29 ((H7.ob (i:=0) Z).sub 4 7))) (zg Z (bY (cs:=[(J 0),(J 0),(J 0),(J 0),(J 0),(J 0),(J 0)]) bd29 Z) ?_)))
      refine zc ((e.op.kind:Int) = (0:Int)∧(e.op.h:Int) = (0:Int)∧(e.op.i:Int) = (0:Int)∧(e.op.n:Int) = (0:Int)∧(e.op.k:Int) = (0:Int)∧(e.op.v:Int) = (0:Int)∧(e.op.t:Int) = (0:Int)) Z (fun r hr=>Ex.eqS (xs:=[(J e.op.kind),(J e.op.h),(J e.op.i),(J e.op.n),(J e.op.k),(J e.op.v),(J e.op.t)]) (ys:=[(J 0),(J 0),(J 0),(J 0),(J 0),(J 0),(J 0)]) eqGuardType29 (eqT29 hr) Z Z) (fun h19=>?_) (fun h19=>?_)
      ·refine zT bT Z (za bT Z (cS (aB (aR (aO (v:=bT) (Ba Z Z) ?_)))))
       exact ⟨At (by unfold mayE; first | (simp [hb12,hb16,h17,h18,h19]; done) | (simp [op_eq,zOp,hb12,hb16,h17,h18,h19]; done) | (simp [op_eq,zOp,hb12,hb16,h17,h18,h19]; omega)),(H7.fix (i:=1) Z)⟩
      ·refine zT bF Z (za bF Z (cS (aB (aR (aO (v:=bF) (Ba Z Z) ?_)))))
       exact ⟨At (by unfold mayE; first | (simp [hb12,hb16,h17,h18,h19]; done) | (simp [op_eq,zOp,hb12,hb16,h17,h18,h19]; done) | (simp [op_eq,zOp,hb12,hb16,h17,h18,h19]; omega)),(H7.fix (i:=1) Z)⟩
     ·refine zm bF Z (zo Z (zo Z (zo Z (zo Z (zF bF Z (za bF Z (cS (aB (aR (aO (v:=bF) (Ba Z Z) ?_))))))))))
      exact ⟨At (by unfold mayE; first | (simp [hb12,hb16,h17,h18]; done) | (simp [op_eq,zOp,hb12,hb16,h17,h18]; done) | (simp [op_eq,zOp,hb12,hb16,h17,h18]; omega)),(H7.fix (i:=1) Z)⟩
    ·refine cS (aF Z (aA (aQ (cT (zg Z (fa31_2 (b:=⟨b2,2,none⟩) Z Z) (zl (J e.client) Bw (H7.ob (i:=0) Z) Z (aU call168 (within_tumulusref14 _ e.client 1 4) Z Z Z ?_)))))))
     rintro _ _ ⟨rfl,rfl⟩
     rcases hb23:(Az e.client 1 4) with _ | _
     ·refine zm bF Z (zo Z (zo Z (zo Z (zF bF Z (za bF Z (cS (aB (aO (v:=bF) (Ba Z Z) ?_))))))))
      exact ⟨At (by unfold mayE; first | (simp [hb12,hb16,h17,hb23]; done) | (simp [op_eq,zOp,hb12,hb16,h17,hb23]; done) | (simp [op_eq,zOp,hb12,hb16,h17,hb23]; omega)),(H7.fix (i:=1) Z)⟩
     ·have hw20:=Bh hb23
      refine zm bT Z (zg Z (fa31_3 (b:=⟨b2,3,none⟩) Z Z) (zl (J e.seq) Bw (H7.ob (i:=0) Z) Z (aU call168 (within_tumulusref14 _ e.seq 1 1000000) Z Z Z ?_)))
      rintro _ _ ⟨rfl,rfl⟩
      rcases hb27:(Az e.seq 1 1000000) with _ | _
      ·refine zT bF Z (za bF Z (cS (aB (aO (v:=bF) (Ba Z Z) ?_))))
       exact ⟨At (by unfold mayE; first | (simp [hb12,hb16,h17,hb23,hb27]; done) | (simp [op_eq,zOp,hb12,hb16,h17,hb23,hb27]; done) | (simp [op_eq,zOp,hb12,hb16,h17,hb23,hb27]; omega)),(H7.fix (i:=1) Z)⟩
      ·have hw24:=Bh hb27
       refine zT bT Z (za bT Z (cS (aB (aO (v:=bT) (Ba Z Z) ?_))))
       exact ⟨At (by unfold mayE; first | (simp [hb12,hb16,h17,hb23,hb27]; done) | (simp [op_eq,zOp,hb12,hb16,h17,hb23,hb27]; done) | (simp [op_eq,zOp,hb12,hb16,h17,hb23,hb27]; omega)),(H7.fix (i:=1) Z)⟩
set_option maxHeartbeats 400000 in
set_option maxRecDepth 20000 in
theorem follR_ (w:World) (B:Nat) (l:List Entry) (A:Option Addr) (n c:Nat) (fr:Int) (hr:Rd w B 11 A (ents l)) (hB:B ≤ w.heap.size) (hn:n = l.length) (hm:n ≤ 1099511627776):Ret prog 126 [(.slice A n c),(J fr)] w (fun v w'=>v = .bool (follB l fr)∧w.grownBy w' none):=by
  have H0:Sp [Bd w Bl] w:=Bv w
  refine aP func126 Z Z Z ?_
  refine cT (za bF Z (cS (aD (cT (za (J 0) Z (cS (aG ?_)))))))
  refine aK (fun t=>(Nat.ble 4 t && Nat.ble t 21)) (fun nL ρ wl => ∃ (k:Nat),ρ 5 = (J (k:Int))∧nL = n - k∧Sp [Bd w Bl] wl∧k ≤ n∧follB (l.take k) fr = true) (n) ?aa0 ?bb0
  case aa0 =>
   exact ⟨0,rfl,rfl,H0,Nat.zero_le _,rfl⟩
  case bb0 =>
   rintro n2 ρ0 w1 ho3 ⟨k,hs0_5,hn0,H4,hk,hf⟩
   obtain ⟨j0,rfl⟩:=ho3.shape1 hs0_5
   clear ho3 hs0_5
   subst hn0
   have z5:=(H4.fix (i:=0) rfl).size
   refine aD (cT (zm (J (k:Int)) Z (zm (.slice A n c) Z (zg Z (bR underlying22 Z) ?_))))
   refine zc (((k:Int):Int) < ((n:Nat):Int)) Z (fun r hr=>bL Z Z hr) (fun h6=>?_) (fun h6=>?_)
   ·refine cS (aE Z (aA (aQ (aD (aG (cT (zm (.slice A n c) Z (zm (J (k:Int)) Z ?_))))))))
    obtain ⟨e7,he8⟩ : ∃ e,(l)[k]? = some e:=⟨_,List.getElem?_eq_getElem (by omega)⟩
    obtain ⟨ad9,hA10⟩:=Rd.sm (hr.st0 (H4.fix (i:=0) rfl)) (Di he8)
    have hl11:=Eng.lt_len (Di he8)
    refine zg Z (bS (b:=(ad9.add (k * 11))) (i:=k) underlying22 sizeOf31 (by rw [← hA10]; rfl) Z (by omega) (by omega) Z) (zg Z (fa31_0 (b:=((ad9.add (k * 11)))) Z Z) (zg Z (bW Z (Ax Bw (Cl.at_ (v:=(J e7.num)) (Rd.cl (hr.st0 (H4.fix (i:=0) Z)) hA10 (Di he8)) (i:=0) Z))) (zg Z (bJ (r:=IntKind.i64.wrap (e7.num - 1)) Z Z Z) (zm (J (k:Int)) Z (zg Z (bJ (r:=IntKind.i64.wrap ((IntKind.i64.wrap (e7.num - 1)) - (k:Int))) Z Z Z) (zm (J fr) Z ?_))))))
    refine zc ((IntKind.i64.wrap ((IntKind.i64.wrap (e7.num - 1)) - (k:Int)):Int) ≠ (fr:Int)) Z (fun r hr=>bQ Z Z hr) (fun h12=>?_) (fun h12=>?_)
    ·refine cS (aE Z (cT (za bF Z (cS (aB (inB.r (aR (aR (inB.r (aR (aO (v:=bF) (Ba Z Z) ?_)))))))))))
     exact ⟨At (by unfold follB; rw [allI_stop he8 0]; rw [decide_eq_false_iff_not,Nat.zero_add]; exact h12),(H4.fix (i:=0) Z)⟩
    ·refine cS (aF Z (aA (inB.n (aQ (aL (zm (J (k:Int)) Z (zg Z (bI (r:=(k:Int) + 1) Z Z (Dl (by omega) (by omega))) (za (J ((k:Int) + 1)) Z (cS ?_)))))))))
     refine ⟨(by repeat (first | exact aJ _ _ | exact aH _ _ | refine aI ?_ Z _)),_,?_,k + 1,rfl,rfl,H4,by omega,by unfold follB at *; rw [allI_take he8 0,hf]; simp only [Nat.zero_add,Bool.true_and,decide_eq_true_eq]; exact Decidable.not_not.1 h12⟩
     omega
   ·refine cS (aF Z (aC (aS (aS (Bo (aQ (cT (za bT Z (cS (aB (aO (v:=bT) (Ba Z Z) ?_)))))))))))
    exact ⟨At (by rw [← hf,List.take_of_length_le (by omega)]),(H4.fix (i:=0) Z)⟩
end Go.Proofs.YtfokljnhllflbaaGreat
namespace Go.Eng
open Go
theorem ent_eq {a b:Entry} (h:(a.num:Int) = b.num∧(a.view:Int) = b.view∧(a.client:Int) = b.client∧(a.seq:Int) = b.seq∧(a.op.kind:Int) = b.op.kind∧(a.op.h:Int) = b.op.h∧(a.op.i:Int) = b.op.i∧(a.op.n:Int) = b.op.n∧(a.op.k:Int) = b.op.k∧(a.op.v:Int) = b.op.v∧(a.op.t:Int) = b.op.t):a = b:=by
  obtain ⟨a1,a2,a3,a4,⟨a5,a6,a7,a8,a9,a10,a11⟩⟩:=a
  obtain ⟨b1,b2,b3,b4,⟨b5,b6,b7,b8,b9,b10,b11⟩⟩:=b
  obtain ⟨h1,h2,h3,h4,h5,h6,h7,h8,h9,h10,h11⟩:=h
  simp only at h1 h2 h3 h4 h5 h6 h7 h8 h9 h10 h11
  subst h1 h2 h3 h4 h5 h6 h7 h8 h9 h10 h11
  rfl
theorem take_same {α:Type} {l m:List α} {i:Nat} {a b:α} (h:l.take i = m.take i) (ha:l[i]? = some a) (hb:m[i]? = some b) (e:a = b):l.take (i + 1) = m.take (i + 1):=by
  rw [List.take_add_one,List.take_add_one,h,ha,hb,e]
theorem ne_at {α:Type} {l m:List α} {i:Nat} {a b:α} (ha:l[i]? = some a) (hb:m[i]? = some b) (e : ¬ a = b) : ¬ l = m:=fun h=>by
  subst h
  rw [ha] at hb
  injection hb with hb
  exact e hb
end Go.Eng
namespace Go.Eng
open Go
theorem rec_eq {a b:Rec} (h1:a.kind = b.kind) (h2:a.view = b.view) (h3:a.from_ = b.from_) (h4:a.number = b.number) (h5:a.image = b.image) (h6:a.entry = b.entry) (h7:a.ents = b.ents):a = b:=by
  obtain ⟨a1,a2,a3,a4,a5,a6,a7⟩:=a
  obtain ⟨b1,b2,b3,b4,b5,b6,b7⟩:=b
  simp only at h1 h2 h3 h4 h5 h6 h7
  subst h1 h2 h3 h4 h5 h6 h7
  rfl
theorem kept_eq {a b:Kept} (h1:a.view = b.view) (h2:a.normal = b.normal) (h3:a.base = b.base) (h5:a.image = b.image) (h7:a.ents = b.ents):a = b:=by
  obtain ⟨a1,a2,a3,a5,a7⟩:=a
  obtain ⟨b1,b2,b3,b5,b7⟩:=b
  simp only at h1 h2 h3 h5 h7
  subst h1 h2 h3 h5 h7
  rfl
theorem ents_set (l:List Entry) (i:Nat) (x:Entry):(ents l).set i x.cells = ents (l.set i x):=by simp [ents,List.map_set]
end Go.Eng
namespace Go.Eng
open Go Go.RowKit
section
variable {P:Program} {N:Nat} {Q Q':Exit → Da → World → Prop} {ρ:Da} {w:World} {ops rest:List Oper} {o:Oper} {ty:TypeId} {ps:String} {af:Array Edge} {gu:Option (Nat × Bool)}
variable {x:Operand} {t:TypeId}
theorem Wr.head {w w' : World} {base e k n c i g off : Nat} {xss : List (List Value)} {cs cs' : List Value} (hr : Wr w base e k (some ⟨g, off, none⟩) n c xss) (ho : Ob w g e cs) (hi : i ≤ n) (ho' : Ob w' g e cs') (hl : cs'.length = cs.length) (hc : (cs'.drop off).take (i * k) = (cs.drop off).take (i * k)) : Wr w' base e k (some ⟨g, off, none⟩) i c (xss.take i) := by
  obtain ⟨h1,h2,h3⟩:=hr
  refine ⟨by rw [List.length_take]; omega,fun x hx=>h2 x (List.mem_of_mem_take hx),?_⟩
  rcases h3 with ⟨q,_⟩ | ⟨g1,off1,cs1,q1,q2,q3,q4,q5,q6,q7⟩
  · cases q
  · injection q1 with q1
    injection q1 with q8 q9
    subst q8; subst q9
    have e1:cs1 = cs:=by
      unfold Ob at q3 ho
      rw [q3] at ho
      simp at ho
      exact ho
    subst e1
    refine .inr ⟨g,off,cs',rfl,q2,ho',by omega,by omega,q6,?_⟩
    rw [hc,flat_take i h2,← q7,List.take_take,Nat.min_eq_left (Nat.mul_le_mul_right k hi)]
end
end Go.Eng
namespace Go.Eng
open Go Go.RowKit
section
variable {P:Program} {N:Nat} {Q Q':Exit → Da → World → Prop} {ρ:Da} {w:World} {ops rest:List Oper} {ty:TypeId} {ps:String} {af:Array Edge} {gu:Option (Nat × Bool)}
variable {x y:Operand} {t:TypeId}
theorem flat_set {k:Nat} {vs:List Value} (hv:vs.length = k) : ∀ {xss:List (List Value)} (_ : ∀ x ∈ xss,x.length = k) (i:Nat),i < xss.length → (xss.set i vs).flatten = pt xss.flatten (i * k) vs
  | [],_,i,hi=>by simp at hi
  | x :: xss,h,0,_=>by
    have hx:=h x (by simp)
    rw [List.set_cons_zero,List.flatten_cons,List.flatten_cons]
    unfold pt
    rw [Nat.zero_mul,List.take_zero,List.nil_append,Nat.zero_add,List.drop_append_of_le_length (by omega),List.drop_of_length_le (by omega),List.nil_append]
  | x :: xss,h,i + 1,hi=>by
    have hx:=h x (by simp)
    have ih:=flat_set hv (xss:=xss) (fun y hy=>h y (List.mem_cons_of_mem _ hy)) i (by simpa using hi)
    rw [List.set_cons_succ,List.flatten_cons,List.flatten_cons,ih]
    unfold pt
    have e1:(i + 1) * k = x.length + i * k:=by rw [hx,Nat.add_mul]; omega
    rw [e1,List.take_length_add_append,Nat.add_assoc,List.drop_length_add_append]
    simp only [List.append_assoc]
theorem pt_in {cs vs:List Value} {off m M:Nat} (h1:off + M ≤ cs.length) (h2:m + vs.length ≤ M):((pt cs (off + m) vs).drop off).take M = pt ((cs.drop off).take M) m vs:=by
  have hl:((cs.drop off).take M).length = M:=by rw [List.length_take,List.length_drop]; omega
  apply List.ext_getElem?
  intro j
  rw [pt_get (by omega)]
  by_cases hj:j < M
  · rw [List.getElem?_take_of_lt hj,List.getElem?_drop,pt_get (by omega)]
    by_cases c1:j < m
    · rw [if_pos (by omega),if_pos c1,List.getElem?_take_of_lt hj,List.getElem?_drop]
    · rw [if_neg (by omega),if_neg c1]
      by_cases c2:j < m + vs.length
      · rw [if_pos (by omega),if_pos c2]; congr 1; omega
      · rw [if_neg (by omega),if_neg c2,List.getElem?_take_of_lt hj,List.getElem?_drop]
  · rw [List.getElem?_eq_none (by rw [List.length_take]; omega),if_neg (by omega),if_neg (by omega),List.getElem?_eq_none (by omega)]
theorem pt_pt {L x1 vs:List Value} {m o k:Nat} (hx : ∀ j,j < k → L[m + j]? = x1[j]?) (hk:x1.length = k) (hle:o + vs.length ≤ k) (hL:m + k ≤ L.length):pt L m (pt x1 o vs) = pt L (m + o) vs:=by
  have hl:(pt x1 o vs).length = k:=by rw [pt_length (by omega),hk]
  apply List.ext_getElem?
  intro j
  rw [pt_get (cs:=L) (o:=m) (by omega),pt_get (cs:=L) (o:=m + o) (by omega),hl]
  by_cases c1:j < m
  · rw [if_pos c1,if_pos (by omega)]
  · rw [if_neg c1]
    by_cases c2:j < m + k
    · rw [if_pos c2,pt_get (by omega)]
      have hj:=hx (j - m) (by omega)
      rw [show m + (j - m) = j by omega] at hj
      by_cases c3:j < m + o
      · rw [if_pos (by omega),if_pos c3,hj]
      · rw [if_neg (by omega),if_neg c3]
        by_cases c4:j < m + o + vs.length
        · rw [if_pos (by omega),if_pos c4]; congr 1; omega
        · rw [if_neg (by omega),if_neg c4,hj]
    · rw [if_neg c2,if_neg (by omega),if_neg (by omega)]
theorem RL.stE {e k n c i base off:Nat} {A:Option Addr} {ad:Addr} {xss:List (List Value)} {x1 x2 vs:List Value} (hs : ∀ w:World,(sizeOf t).run P w = .ok vs.length w) (hr:Wr w base e k A n c xss) (hA:A = some ad) (hx1:xss[i]? = some x1)
    (hp:ev ρ x = .pointer (some ((ad.add (i * k)).add off))) (hy:(ev ρ y).cells = vs.toArray) (hx2:pt x1 off vs = x2) (hle:Nat.ble (off + vs.length) k = true) (h1:vs.all Value.oneCell' = true) (hg:gd ops ρ ⟨none,.store t x y,ty,ps,af,gu⟩ = true)
    (h : ∀ w', w.grownBy w' (bk A) → Wr w' base e k A n c (xss.set i x2) → RL P N ops Q rest ρ w') : RL P N ops Q (⟨none, .store t x y, ty, ps, af, gu⟩ :: rest) ρ w := by
  have hi:=lt_len hx1
  subst hx2
  rw [Nat.ble_eq] at hle
  obtain ⟨hlen,hall,hrow⟩:=hr
  have hk1:=hall x1 (List.mem_of_getElem? hx1)
  have hv2:(pt x1 off vs).length = k:=by rw [pt_length (by omega),hk1]
  rcases hrow with ⟨rfl,rfl,rfl⟩ | ⟨g,o,cs,rfl,hb,ho,hl,hnc,hcm,htk⟩
  · cases hA
  · injection hA with hA
    subst hA
    rw [add_lit,add_lit] at hp
    have m1:i * k + k ≤ n * k:=by have:=Nat.mul_le_mul_right k (show i + 1 ≤ n by omega); rw [Nat.add_mul] at this; omega
    have m2:n * k ≤ c * k:=Nat.mul_le_mul_right k hnc
    have hfl:xss.flatten.length = n * k:=by rw [← htk,List.length_take,List.length_drop]; omega
    refine bE (b:=g) (T:=e) (off:=o + i * k + off) (cs:=cs) (vs:=vs) (cs':=pt cs (o + i * k + off) vs) hs ho hp hy h1 (by rw [Nat.ble_eq]; omega) Z hg fun w' hz gr ob=>h w' gr ?_
    refine ⟨by rw [List.length_set]; exact hlen,fun z hz=>?_,.inr ⟨g,o,pt cs (o + i * k + off) vs,rfl,hb,ob,by rw [pt_length (by omega)]; exact hl,hnc,hcm,?_⟩⟩
    · rcases List.mem_or_eq_of_mem_set hz with hz | hz
      · exact hall z hz
      · rw [hz]; exact hv2
    · rw [flat_set hv2 hall i hi,pt_pt (k:=k) (fun j hj=>?_) hk1 hle (by omega),← htk,Nat.add_assoc,pt_in (by omega) (by omega)]
      rw [flat_get hall hx1 (List.getElem?_eq_getElem (show j < x1.length by omega)),List.getElem?_eq_getElem]
end
end Go.Eng
namespace Go.Proofs.YtfokljnhllflbaaGreat
open Go Go.Eng Go.RowKit Go.Proofs.Tryz
set_option maxHeartbeats 2000000 in
set_option maxRecDepth 20000 in
theorem rightK_ (w:World) (B:Nat) (k:Kept) (A:Option Addr) (n c:Nat) (hr:Rd w B 11 A (ents k.ents)) (hB:B ≤ w.heap.size) (hn:n = k.ents.length) (hm:n ≤ 1099511627776) (hc:n ≤ c) (hi:k.image.length ≤ 140737488351232):Ret prog 59 [(.agg ((kC k A n c)).toArray)] w (fun v w'=>v = .bool (Cn k)∧w.grownBy w' none):=by
  have H0:Sp [Bd w Bl] w:=Bv w
  refine aP func59 Z Z Z ?_
  refine cT (bH (cs:=(kC k A n c)) Z Z Z ?_)
  intro w1 b2 hb3 hz4 g5 o6
  have H7:=H0.newB g5 o6 (by omega)
  have z8:=g5.size
  refine za bF Z (cS (aD (cT (zg Z (fa24_0 (b:=⟨b2,0,none⟩) Z Z) (zl (J k.view) Bw (H7.ob (i:=0) Z) Z ?_)))))
  refine zc ((k.view:Int) < (0:Int)) Z (fun r hr=>bL Z Z hr) (fun h9=>?_) (fun h9=>?_)
  ·refine zm bT Z (zo Z (zo Z (zo Z (zT bT Z (zm bT Z (zo Z (zo Z (zo Z (zT bT Z (zm bT Z ?_))))))))))
   refine zo Z (zo Z (zo Z (zo Z (zo Z (zT bT Z (zm bT Z (zo Z (zo Z (zo Z (zT bT Z ?_))))))))))
   refine zm bT Z (zo Z (zo Z (zo Z (zT bT Z (zm bT Z (zo Z (zo Z (zo Z (zo Z (zT bT Z ?_))))))))))
   refine zm bT Z (zo Z (zo Z (zo Z (zo Z (zo Z (zo Z (zT bT Z (cS (aE Z (cT (za bF Z (cS (aB (aR ?_))))))))))))))
   refine aO (v:=bF) (Ba Z Z) ?_
   exact ⟨At (keptB_no (fun ⟨q1,q2,q3,q4,q5,q6,q7,q8,_,_⟩=>by first | omega)).symm,(H7.fix (i:=1) Z)⟩
  ·refine zm bF Z (zg Z (fa24_0 (b:=⟨b2,0,none⟩) Z Z) (zl (J k.view) Bw (H7.ob (i:=0) Z) Z ?_))
   refine zc ((900000000:Int) < (k.view:Int)) Z (fun r hr=>bN Z Z hr) (fun h10=>?_) (fun h10=>?_)
   ·refine zF bT Z (zm bT Z (zo Z (zo Z (zo Z (zT bT Z (zm bT Z (zo Z (zo Z (zo Z (zo Z ?_))))))))))
    refine zo Z (zT bT Z (zm bT Z (zo Z (zo Z (zo Z (zT bT Z (zm bT Z (zo Z (zo Z (zo Z ?_))))))))))
    refine zT bT Z (zm bT Z (zo Z (zo Z (zo Z (zo Z (zT bT Z (zm bT Z (zo Z (zo Z (zo Z ?_))))))))))
    refine zo Z (zo Z (zo Z (zT bT Z (cS (aE Z (cT (za bF Z (cS (aB (aR (aO (v:=bF) (Ba Z Z) ?_)))))))))))
    exact ⟨At (keptB_no (fun ⟨q1,q2,q3,q4,q5,q6,q7,q8,_,_⟩=>by first | omega)).symm,(H7.fix (i:=1) Z)⟩
   ·refine zF bF Z (zm bF Z (zg Z (fa24_1 (b:=⟨b2,1,none⟩) Z Z) (zl (J k.normal) Bw (H7.ob (i:=0) Z) Z ?_)))
    refine zc ((k.normal:Int) < (0:Int)) Z (fun r hr=>bL Z Z hr) (fun h11=>?_) (fun h11=>?_)
    ·refine zF bT Z (zm bT Z (zo Z (zo Z (zo Z (zo Z (zo Z (zT bT Z (zm bT Z (zo Z (zo Z ?_))))))))))
     refine zo Z (zT bT Z (zm bT Z (zo Z (zo Z (zo Z (zT bT Z (zm bT Z (zo Z (zo Z (zo Z ?_))))))))))
     refine zo Z (zT bT Z (zm bT Z (zo Z (zo Z (zo Z (zo Z (zo Z (zo Z (zT bT Z (cS (aE Z (cT ?_))))))))))))
     refine za bF Z (cS (aB (aR (aO (v:=bF) (Ba Z Z) ?_))))
     exact ⟨At (keptB_no (fun ⟨q1,q2,q3,q4,q5,q6,q7,q8,_,_⟩=>by first | omega)).symm,(H7.fix (i:=1) Z)⟩
    ·refine zF bF Z (zm bF Z (zg Z (fa24_1 (b:=⟨b2,1,none⟩) Z Z) (zl (J k.normal) Bw (H7.ob (i:=0) Z) Z (zg Z (fa24_0 (b:=⟨b2,0,none⟩) Z Z) (zl (J k.view) Bw (H7.ob (i:=0) Z) Z ?_)))))
     refine zc ((k.view:Int) < (k.normal:Int)) Z (fun r hr=>bN Z Z hr) (fun h12=>?_) (fun h12=>?_)
     ·refine zF bT Z (zm bT Z (zo Z (zo Z (zo Z (zT bT Z (zm bT Z (zo Z (zo Z (zo Z (zT bT Z ?_))))))))))
      refine zm bT Z (zo Z (zo Z (zo Z (zo Z (zT bT Z (zm bT Z (zo Z (zo Z (zo Z (zo Z ?_))))))))))
      refine zo Z (zo Z (zT bT Z (cS (aE Z (cT (za bF Z (cS (aB (aR (aO (v:=bF) (Ba Z Z) ?_))))))))))
      exact ⟨At (keptB_no (fun ⟨q1,q2,q3,q4,q5,q6,q7,q8,_,_⟩=>by first | omega)).symm,(H7.fix (i:=1) Z)⟩
     ·refine zF bF Z (zm bF Z (zg Z (fa24_2 (b:=⟨b2,2,none⟩) Z Z) (zl (J k.base) Bw (H7.ob (i:=0) Z) Z ?_)))
      refine zc ((k.base:Int) < (0:Int)) Z (fun r hr=>bL Z Z hr) (fun h13=>?_) (fun h13=>?_)
      ·refine zF bT Z (zm bT Z (zo Z (zo Z (zo Z (zT bT Z (zm bT Z (zo Z (zo Z (zo Z (zo Z ?_))))))))))
       refine zT bT Z (zm bT Z (zo Z (zo Z (zo Z (zo Z (zo Z (zo Z (zT bT Z (cS (aE Z (cT (za bF Z ?_))))))))))))
       refine cS (aB (aR (aO (v:=bF) (Ba Z Z) ?_)))
       exact ⟨At (keptB_no (fun ⟨q1,q2,q3,q4,q5,q6,q7,q8,_,_⟩=>by first | omega)).symm,(H7.fix (i:=1) Z)⟩
      ·refine zF bF Z (zm bF Z (zg Z (fa24_2 (b:=⟨b2,2,none⟩) Z Z) (zl (J k.base) Bw (H7.ob (i:=0) Z) Z ?_)))
       refine zc ((900000000:Int) < (k.base:Int)) Z (fun r hr=>bN Z Z hr) (fun h14=>?_) (fun h14=>?_)
       ·refine zF bT Z (zm bT Z (zo Z (zo Z (zo Z (zo Z (zT bT Z (zm bT Z (zo Z (zo Z (zo Z ?_))))))))))
        refine zo Z (zo Z (zo Z (zT bT Z (cS (aE Z (cT (za bF Z (cS (aB (aR (aO (v:=bF) (Ba Z Z) ?_)))))))))))
        exact ⟨At (keptB_no (fun ⟨q1,q2,q3,q4,q5,q6,q7,q8,_,_⟩=>by first | omega)).symm,(H7.fix (i:=1) Z)⟩
       ·refine zF bF Z (zm bF Z (zg Z (Cv (b:=⟨b2,4,none⟩) Z Z) (zl (.slice A n c) lo22 (H7.ob (i:=0) Z) Z (zg Z (bR underlying22 Z) ?_))))
        refine zc ((4000:Int) < ((n:Nat):Int)) Z (fun r hr=>bN Z Z hr) (fun h15=>?_) (fun h15=>?_)
        ·refine zF bT Z (zm bT Z (zo Z (zo Z (zo Z (zo Z (zo Z (zo Z (zT bT Z (cS (aE Z (cT (za bF Z ?_))))))))))))
         refine cS (aB (aR (aO (v:=bF) (Ba Z Z) ?_)))
         exact ⟨At (keptB_no (fun ⟨q1,q2,q3,q4,q5,q6,q7,q8,_,_⟩=>by first | omega)).symm,(H7.fix (i:=1) Z)⟩
        ·refine zF bF Z (zm bF Z (zg Z (Cv (b:=⟨b2,4,none⟩) Z Z) (zl (.slice A n c) lo22 (H7.ob (i:=0) Z) Z (zg Z (fa24_2 (b:=⟨b2,2,none⟩) Z Z) (zl (J k.base) Bw (H7.ob (i:=0) Z) Z (aU call126 (follR_ _ _ k.ents A n c k.base (hr.st0 (H7.fix (i:=1) Z)) (by omega) (by first | rfl | assumption | omega) (by omega)) Z Z Z ?_))))))
         rintro _ w16 ⟨rfl,g17⟩
         have H18:=H7.grow g17
         have z19:=g17.size
         rcases hb20:(follB k.ents k.base) with _ | _
         ·refine zg Z (bC (b:=false) Z) (zF bT Z (cS (aE Z (cT (za bF Z (cS (aB (aR (aO (v:=bF) (Ba Z Z) ?_)))))))))
          exact ⟨At (keptB_no (fun ⟨q1,q2,q3,q4,q5,q6,q7,q8,_,_⟩=>by first | omega | (rw [hb20] at q8; cases q8))).symm,(H18.fix (i:=1) rfl)⟩
         ·refine zg Z (bC (b:=true) Z) (zF bF Z (cS (aF Z (aA (aQ (aD (cT (za (J 0) Z (cS (aG ?_))))))))))
          refine aK (fun t=>(Nat.ble 2 t && Nat.ble t 4) || (Nat.ble 51 t && Nat.ble t 88)) (fun nL ρ wl => ∃ (i:Nat),ρ 3 = (J (i:Int))∧nL = n - i∧Sp [Aa b2 24 (kC k A n c),Bd w Bl] wl∧i ≤ n ∧ ∀ (j:Nat) (x:Entry),j < i → k.ents[j]? = some x → entOK k.normal k.ents j x) (n) ?aa0 ?bb0
          case aa0 =>
           exact ⟨0,rfl,rfl,H18,Nat.zero_le _,fun j x hj=>by omega⟩
          case bb0 =>
           rintro n22 ρ0 w21 ho23 ⟨i,hs0_3,hn0,H24,hi_,hO⟩
           obtain ⟨j0,rfl⟩:=ho23.shape1 hs0_3
           clear ho23 hs0_3
           subst hn0
           have z25:=(H24.fix (i:=1) rfl).size
           refine aD (cT (zm (J (i:Int)) Z (zg Z (Cv (b:=⟨b2,4,none⟩) Z Z) (zl (.slice A n c) lo22 (H24.ob (i:=0) Z) Z (zg Z (bR underlying22 Z) ?_)))))
           refine zc (((i:Int):Int) < ((n:Nat):Int)) Z (fun r hr=>bL Z Z hr) (fun h26=>?_) (fun h26=>?_)
           ·refine cS (aE Z (aA (aQ (aD (aG (cT (zg Z (Cv (b:=⟨b2,4,none⟩) Z Z) (zl (.slice A n c) lo22 (H24.ob (i:=0) Z) Z (zm (J (i:Int)) Z ?_)))))))))
            obtain ⟨e27,he28⟩ : ∃ e,(k.ents)[i]? = some e:=⟨_,List.getElem?_eq_getElem (by omega)⟩
            obtain ⟨ad29,hA30⟩:=Rd.sm (hr.st0 (H24.fix (i:=1) rfl)) (Di he28)
            have hl31:=Eng.lt_len (Di he28)
            refine zg Z (bS (b:=(ad29.add (i * 11))) (i:=i) underlying22 sizeOf31 (by rw [← hA30]; rfl) Z (by omega) (by omega) Z) (zg Z (bW Z (Aj (cs:=e27.cells) wh31 (Rd.cl (hr.st0 (H24.fix (i:=1) Z)) hA30 (Di he28)))) (bG (cs:=[(J 0),(J 0),(J 0),(J 0),(J 0),(J 0),(J 0),(J 0),(J 0),(J 0),(J 0)]) zeroValue31 Z Z Z ?_))
            intro w32 b33 hb34 hz35 g36 o37
            have H38:=H24.newB g36 o37 (by omega)
            have z39:=g36.size
            refine bE (vs:=e27.cells) (cs':=e27.cells) sizeOf31 (H38.ob (i:=0) Z) Z Z Z Z Z Z ?_
            intro w40 hz41 g42 o43
            have H44:Sp [Aa b33 31 e27.cells,Aa b2 24 (kC k A n c),Bd w Bl] w40:=H38.setB (i:=0) rfl g42 o43 rfl
            have z45:=g42.size
            refine cS (aD (cN (fun wq=>Sp [Aa b33 31 e27.cells,Aa b2 24 (kC k A n c),Bd w Bl] wq) Tryz.mixed Z ?_))
            intro w46 g47
            have H48:=H44.grow g47
            have z49:=g47.size
            refine zr 0 1 Z (by kernel_rfl) H48 (fun wq hq=>bW Z (Aj (cs:=e27.cells) wh31 (hq.ob (i:=0) Z).cl)) (cO (i:=1) (by kernel_rfl) ?_)
            refine ⟨_,3,rfl,by kernel_rfl,?_⟩
            refine aU call105 (mayR14_ _ e27) Z Z Z ?_
            rintro _ w50 ⟨rfl,g51⟩
            have H52:=H48.grow g51
            have z53:=g51.size
            rcases hb54:(mayE e27) with _ | _
            ·refine aM ?_
             refine ⟨H52,?_⟩
             refine zr 2 7 Z (by kernel_rfl) H52 (fun wq hq=>bC (b:=false) Z) (zr 3 15 Z (by kernel_rfl) H52 (fun wq hq=>aX (v:=bT) Z) (zq 4 31 Z (by kernel_rfl) H52 (zq 6 95 Z (by kernel_rfl) H52 (zq 5 127 Z (by kernel_rfl) H52 (zq 7 255 Z (by kernel_rfl) H52 (zq 8 511 Z (by kernel_rfl) H52 (zr 9 1023 Z (by kernel_rfl) H52 (fun wq hq=>aZ (v:=bT) Z Z) (zr 10 2047 Z (by kernel_rfl) H52 (fun wq hq=>aX (v:=bT) Z) (zq 11 4095 Z (by kernel_rfl) H52 (zq 12 8191 Z (by kernel_rfl) H52 ?_))))))))))
             refine zq 13 16383 Z (by kernel_rfl) H52 (zq 14 32767 Z (by kernel_rfl) H52 (zq 16 98303 Z (by kernel_rfl) H52 (zq 17 229375 Z (by kernel_rfl) H52 (zq 21 2326527 Z (by kernel_rfl) H52 (zq 15 2359295 Z (by kernel_rfl) H52 (zq 18 2621439 Z (by kernel_rfl) H52 (zq 19 3145727 Z (by kernel_rfl) H52 (zq 20 4194303 Z (by kernel_rfl) H52 (zq 22 8388607 Z (by kernel_rfl) H52 (zq 23 16777215 Z (by kernel_rfl) H52 ?_))))))))))
             refine zq 24 33554431 Z (by kernel_rfl) H52 (zr 25 67108863 Z (by kernel_rfl) H52 (fun wq hq=>aZ (v:=bT) Z Z) (cQ (by kernel_rfl) (aQ (aE Z (cT (za bF Z (cS (aB (inB.r (aR (aR (inB.r (aR (aO (v:=bF) (Ba Z Z) ?_))))))))))))))
             have hbd:=entsB_bad (nm:=k.normal) he28 (fun ⟨q1,q2,q3⟩=>by first | (rw [hb54] at q1; cases q1; done) | omega)
             exact ⟨At (keptB_no (fun ⟨_,_,_,_,_,_,_,_,q9,_⟩=>by rw [hbd] at q9; cases q9)).symm,(H52.fix (i:=2) rfl)⟩
            ·refine aM ?_
             refine ⟨H52,?_⟩
             refine zr 2 7 Z (by kernel_rfl) H52 (fun wq hq=>bC (b:=true) Z) (zr 3 15 Z (by kernel_rfl) H52 (fun wq hq=>aX (v:=bF) Z) (zr 4 31 Z (by kernel_rfl) H52 (fun wq hq=>fa31_1 (b:=⟨b33,1,none⟩) Z Z) (zr 6 95 Z (by kernel_rfl) H52 (fun wq hq=>fa24_1 (b:=⟨b2,1,none⟩) Z Z) (zr 5 127 Z (by kernel_rfl) H52 (fun wq hq=>bW Z (Ax Bw (Ob.cell (v:=(J e27.view)) (hq.ob (i:=0) Z) Z))) (zr 7 255 Z (by kernel_rfl) H52 (fun wq hq=>bW Z (Ax Bw (Ob.cell (v:=(J k.normal)) (hq.ob (i:=1) Z) Z))) ?_)))))
             refine zb 8 511 ((k.normal:Int) < (e27.view:Int)) Z (by kernel_rfl) H52 (fun r hr wq hq=>bN Z Z hr) (fun h55=>?_) (fun h55=>?_)
             ·refine zr 9 1023 Z (by kernel_rfl) H52 (fun wq hq=>bA (v:=bT) Z Z) (zr 10 2047 Z (by kernel_rfl) H52 (fun wq hq=>aX (v:=bT) Z) (zq 11 4095 Z (by kernel_rfl) H52 (zq 12 8191 Z (by kernel_rfl) H52 (zq 13 16383 Z (by kernel_rfl) H52 (zq 14 32767 Z (by kernel_rfl) H52 (zq 16 98303 Z (by kernel_rfl) H52 (zq 17 229375 Z (by kernel_rfl) H52 (zq 21 2326527 Z (by kernel_rfl) H52 (zq 15 2359295 Z (by kernel_rfl) H52 (zq 18 2621439 Z (by kernel_rfl) H52 ?_))))))))))
              refine zq 19 3145727 Z (by kernel_rfl) H52 (zq 20 4194303 Z (by kernel_rfl) H52 (zq 22 8388607 Z (by kernel_rfl) H52 (zq 23 16777215 Z (by kernel_rfl) H52 (zq 24 33554431 Z (by kernel_rfl) H52 (zr 25 67108863 Z (by kernel_rfl) H52 (fun wq hq=>aZ (v:=bT) Z Z) (cQ (by kernel_rfl) (aQ (aE Z (cT (za bF Z (cS (aB (inB.r (aR (aR (inB.r (aR ?_)))))))))))))))))
              refine aO (v:=bF) (Ba Z Z) ?_
              have hbd:=entsB_bad (nm:=k.normal) he28 (fun ⟨q1,q2,q3⟩=>by first | (rw [hb54] at q1; cases q1; done) | omega)
              exact ⟨At (keptB_no (fun ⟨_,_,_,_,_,_,_,_,q9,_⟩=>by rw [hbd] at q9; cases q9)).symm,(H52.fix (i:=2) rfl)⟩
             ·refine zr 9 1023 Z (by kernel_rfl) H52 (fun wq hq=>bA (v:=bF) Z Z) (zr 10 2047 Z (by kernel_rfl) H52 (fun wq hq=>aX (v:=bF) Z) (zr 11 4095 Z (by kernel_rfl) H52 (fun wq hq=>aX (v:=(J (i:Int))) Z) ?_))
              refine zb 12 8191 ((0:Int) < ((i:Int):Int)) Z (by kernel_rfl) H52 (fun r hr wq hq=>bN Z Z hr) (fun h56=>?_) (fun h56=>?_)
              ·refine zr 13 16383 Z (by kernel_rfl) H52 (fun wq hq=>aX (v:=bT) Z) (zr 14 32767 Z (by kernel_rfl) H52 (fun wq hq=>Cv (b:=⟨b2,4,none⟩) Z Z) (zr 16 98303 Z (by kernel_rfl) H52 (fun wq hq=>aX (v:=(J (i:Int))) Z) (zr 17 229375 Z (by kernel_rfl) H52 (fun wq hq=>bJ (r:=((i - 1:Nat):Int)) Z Z (by rw [Dl (by omega) (by omega)]; omega)) (zr 21 2326527 Z (by kernel_rfl) H52 (fun wq hq=>fa31_1 (b:=⟨b33,1,none⟩) Z Z) (zr 15 2359295 Z (by kernel_rfl) H52 (fun wq hq=>bW Z (Ax lo22 (Ob.cell (v:=(.slice A n c)) (hq.ob (i:=1) Z) Z))) ?_)))))
               obtain ⟨e57,he58⟩ : ∃ e,(k.ents)[(i - 1)]? = some e:=⟨_,List.getElem?_eq_getElem (by omega)⟩
               obtain ⟨ad59,hA60⟩:=Rd.sm (hr.st0 (H52.fix (i:=2) rfl)) (Di he58)
               have hl61:=Eng.lt_len (Di he58)
               refine zr 18 2621439 Z (by kernel_rfl) H52 (fun wq hq=>bS (b:=(ad59.add ((i - 1) * 11))) (i:=(i - 1)) underlying22 sizeOf31 (by rw [← hA60]; rfl) Z (by omega) (by omega) Z) (zr 19 3145727 Z (by kernel_rfl) H52 (fun wq hq=>fa31_1 (b:=(((ad59.add ((i - 1) * 11))).add 1)) Z Z) (zr 20 4194303 Z (by kernel_rfl) H52 (fun wq hq=>bW Z (Ax Bw (Cl.at_ (v:=(J e57.view)) (Rd.cl (hr.st0 (hq.fix (i:=2) Z)) hA60 (Di he58)) (i:=1) Z))) (zr 22 8388607 Z (by kernel_rfl) H52 (fun wq hq=>bW Z (Ax Bw (Ob.cell (v:=(J e27.view)) (hq.ob (i:=0) Z) Z))) ?_)))
               refine zb 23 16777215 ((e27.view:Int) < (e57.view:Int)) Z (by kernel_rfl) H52 (fun r hr wq hq=>bN Z Z hr) (fun h62=>?_) (fun h62=>?_)
               ·refine zr 24 33554431 Z (by kernel_rfl) H52 (fun wq hq=>aZ (v:=bT) Z Z) (zr 25 67108863 Z (by kernel_rfl) H52 (fun wq hq=>bA (v:=bT) Z Z) (cQ (by kernel_rfl) (aQ (aE Z (cT (za bF Z (cS (aB (inB.r (aR (aR (inB.r (aR (aO (v:=bF) (Ba Z Z) ?_))))))))))))))
                have hbd:=entsB_bad (nm:=k.normal) he28 (fun ⟨q1,q2,q3⟩=>by first | (rw [hb54] at q1; cases q1; done) | omega | (have q4:=q3 e57 (by omega) he58; omega))
                exact ⟨At (keptB_no (fun ⟨_,_,_,_,_,_,_,_,q9,_⟩=>by rw [hbd] at q9; cases q9)).symm,(H52.fix (i:=2) rfl)⟩
               ·refine zr 24 33554431 Z (by kernel_rfl) H52 (fun wq hq=>aZ (v:=bF) Z Z) (zr 25 67108863 Z (by kernel_rfl) H52 (fun wq hq=>bA (v:=bF) Z Z) (cQ (by kernel_rfl) (aQ (aF Z (aA (inB.n (aQ (aL (zm (J (i:Int)) Z (zg Z (bI (r:=(i:Int) + 1) Z Z (Dl (by omega) (by omega))) (za (J ((i:Int) + 1)) Z (cS ?_))))))))))))
                refine ⟨(by repeat (first | exact aJ _ _ | exact aH _ _ | refine aI ?_ rfl _ | refine cR ?_ (by intro t ht; simp only [Bool.or_eq_false_iff,Bool.and_eq_false_iff,ble_f,beq_f] at ht ⊢; omega))),_,?_,i + 1,rfl,rfl,(H52.sel [1,2] (by decide) rfl),by omega,upto_go hO he28 ⟨hb54,by omega,(fun y _ hy=>by rw [he58] at hy; injection hy with hy; subst hy; omega)⟩⟩
                omega
              ·refine zr 13 16383 Z (by kernel_rfl) H52 (fun wq hq=>aX (v:=bF) Z) (zq 14 32767 Z (by kernel_rfl) H52 (zq 16 98303 Z (by kernel_rfl) H52 (zq 17 229375 Z (by kernel_rfl) H52 (zq 21 2326527 Z (by kernel_rfl) H52 (zq 15 2359295 Z (by kernel_rfl) H52 (zq 18 2621439 Z (by kernel_rfl) H52 (zq 19 3145727 Z (by kernel_rfl) H52 (zq 20 4194303 Z (by kernel_rfl) H52 (zq 22 8388607 Z (by kernel_rfl) H52 (zq 23 16777215 Z (by kernel_rfl) H52 ?_))))))))))
               refine zr 24 33554431 Z (by kernel_rfl) H52 (fun wq hq=>bA (v:=bF) Z Z) (zr 25 67108863 Z (by kernel_rfl) H52 (fun wq hq=>bA (v:=bF) Z Z) (cQ (by kernel_rfl) (aQ (aF Z (aA (inB.n (aQ (aL (zm (J (i:Int)) Z (zg Z (bI (r:=(i:Int) + 1) Z Z (Dl (by omega) (by omega))) (za (J ((i:Int) + 1)) Z (cS ?_))))))))))))
               refine ⟨(by repeat (first | exact aJ _ _ | exact aH _ _ | refine aI ?_ Z _ | refine cR ?_ (by intro t ht; simp only [Bool.or_eq_false_iff,Bool.and_eq_false_iff,ble_f,beq_f] at ht ⊢; omega))),_,?_,i + 1,rfl,rfl,(H52.sel [1,2] (by decide) Z),by omega,upto_go hO he28 ⟨hb54,by omega,(fun y hi0 hy=>by omega)⟩⟩
               omega
           ·refine cS (aF Z (aC (aS (aS (Bo (aQ (cT (zg Z (fa24_3 (b:=⟨b2,3,none⟩) Z Z) (zl (.string (tx k.image)) lo9 (H24.ob (i:=0) Z) Z (RL.s2bT (l:=k.image) underlying9 underlying97 underlying5 Z Z Z ?_))))))))))
            intro w63 b65 c66 hb67 hz68 g69 rd70 hc71
            have H72:=H24.grow g69
            have z73:=g69.size
            refine aU call127 (getStateR_ _ _ k.image (some ⟨b65,0,none⟩) k.image.length c66 ⟨rd70,by first | rfl | omega,by omega,by omega⟩ (by omega)) Z Z Z ?_
            rintro _ w80 (⟨rs74,ros75,ss76,rfl,g81,hgs77,hsb79⟩ | ⟨rfl,g82,hgs78⟩)
            ·have g83:=g81.fix (i:=1) rfl
             have H84:Sp [StW rs74 ros75 ss76,Aa b2 24 (kC k A n c),Bd w Bl] w80:=H72.join (m:=[StW rs74 ros75 ss76]) g81
             have z85:=g83.size
             refine zm (.tuple #[(.agg (rs74.cells).toArray),(J 0)]) Z (zx (.agg (rs74.cells).toArray) Z (zx (J 0) Z (bG (cs:=zState) zeroValue50 Z Z Z ?_)))
             intro w86 b87 hb88 hz89 g90 o91
             have H92:=H84.newB g90 o91 (by omega)
             have z93:=g90.size
             refine bE (vs:=rs74.cells) (cs':=rs74.cells) sizeOf50 (H92.ob (i:=0) Z) Z Z Z Z Z Z ?_
             intro w94 hz95 g96 o97
             have H98:Sp [Aa b87 50 rs74.cells,StW rs74 ros75 ss76,Aa b2 24 (kC k A n c),Bd w Bl] w94:=H92.setB (i:=0) rfl g96 o97 rfl
             have z99:=g96.size
             refine za (J 0) Z (cS (cT (zm (J 0) Z (zg Z (bP (r:=true) Z Z (by decide)) (za bT Z (cS (aB (aO (v:=bT) (Ba Z Z) ?_))))))))
             exact ⟨At (keptB_yes ⟨by omega,by omega,by omega,by omega,by omega,by omega,by omega,hb20,entsB_of (n:=i) (by omega) hO,by rw [hgs77]; rfl⟩).symm,(H98.fix (i:=3) Z)⟩
            ·have H100:=H72.grow g82
             have z101:=g82.size
             refine zm (.tuple #[(.agg (zState).toArray),(J 60)]) Z (zx (.agg (zState).toArray) Z (zx (J 60) Z (bG (cs:=zState) zeroValue50 Z Z Z ?_)))
             intro w102 b103 hb104 hz105 g106 o107
             have H108:=H100.newB g106 o107 (by omega)
             have z109:=g106.size
             refine bE (vs:=zState) (cs':=zState) sizeOf50 (H108.ob (i:=0) Z) Z Z Z Z Z Z ?_
             intro w110 hz111 g112 o113
             have H114:Sp [Aa b103 50 zState,Aa b2 24 (kC k A n c),Bd w Bl] w110:=H108.setB (i:=0) rfl g112 o113 rfl
             have z115:=g112.size
             refine za (J 60) Z (cS (cT (zm (J 60) Z (zg Z (bP (r:=false) Z Z (by decide)) (za bF Z (cS (aB (aO (v:=bF) (Ba Z Z) ?_))))))))
             exact ⟨At (keptB_no (fun ⟨_,_,_,_,_,_,_,_,_,q10⟩=>by rw [hgs78] at q10; cases q10)).symm,(H114.fix (i:=2) rfl)⟩
set_option maxHeartbeats 400000 in
set_option maxRecDepth 20000 in
theorem lastR_ (w:World) (k:Kept) (A:Option Addr) (n c:Nat) (hn:n = k.ents.length) (hk:Cn k = true):Ret prog 60 [(.agg ((kC k A n c)).toArray)] w (fun v w'=>v = .int .i64 (Dm k)∧w.grownBy w' none):=by
  have hkt:=keptB_t hk
  have H0:Sp [Bd w Bl] w:=Bv w
  refine aP func60 Z Z Z ?_
  refine cT (bH (cs:=(kC k A n c)) Z Z Z ?_)
  intro w1 b2 hb3 hz4 g5 o6
  have H7:=H0.newB g5 o6 (by omega)
  have z8:=g5.size
  refine za (J 0) Z (cS (cT (zg Z (fa24_2 (b:=⟨b2,2,none⟩) Z Z) (zl (J k.base) Bw (H7.ob (i:=0) Z) Z (zg Z (Cv (b:=⟨b2,4,none⟩) Z Z) (zl (.slice A n c) lo22 (H7.ob (i:=0) Z) Z (zg Z (bR underlying22 Z) (zg Z (bI (r:=k.base + (n:Nat)) Z Z (Dl (by omega) (by omega))) (za (J (k.base + (n:Nat))) Z (cS (aB (aO (v:=(J (k.base + (n:Nat)))) (Ba Z Z) ?_))))))))))))
  exact ⟨Bi (by unfold Dm; rw [hn]),(H7.fix (i:=1) Z)⟩
set_option maxHeartbeats 400000 in
set_option maxRecDepth 20000 in
theorem entSameR_ (w:World) (B:Nat) (l m:List Entry) (A A2:Option Addr) (n c n2 c2:Nat) (hr:Rd w B 11 A (ents l)) (hn:n = l.length) (hr2:Rd w B 11 A2 (ents m)) (hn2:n2 = m.length) (hm:n ≤ 1099511627776):Ret prog 31 [(.slice A n c),(.slice A2 n2 c2)] w (fun v w'=>v = .bool (decide (l = m))∧w.grownBy w' none):=by
  have H0:Sp [Bd w Bl] w:=Bv w
  refine aP func31 Z Z Z ?_
  refine cT (za bF Z (cS (aD (cT (zm (.slice A n c) Z (zg Z (bR underlying22 Z) (zm (.slice A2 n2 c2) Z (zg Z (bR underlying22 Z) ?_))))))))
  refine zc (((n:Nat):Int) ≠ ((n2:Nat):Int)) Z (fun r hr=>bQ Z Z hr) (fun h1=>?_) (fun h1=>?_)
  ·refine cS (aE Z (cT (za bF Z (cS (aB (aR (aO (v:=bF) (Ba Z Z) ?_)))))))
   exact ⟨At (by symm; rw [decide_eq_false_iff_not]; intro h; rw [h] at hn; omega),(H0.fix (i:=0) Z)⟩
  ·refine cS (aF Z (aA (aQ (aD (cT (za (J 0) Z (cS (aG ?_))))))))
   refine aK (fun t=>(Nat.ble 4 t && Nat.ble t 5) || (Nat.ble 11 t && Nat.ble t 25)) (fun nL ρ wl => ∃ (i:Nat),ρ 5 = (J (i:Int))∧nL = n - i∧Sp [Bd w Bl] wl∧i ≤ n∧l.take i = m.take i) (n) ?aa0 ?bb0
   case aa0 =>
    exact ⟨0,rfl,rfl,H0,Nat.zero_le _,rfl⟩
   case bb0 =>
    rintro n3 ρ0 w2 ho4 ⟨i,hs0_5,hn0,H5,hi,htk⟩
    obtain ⟨j0,rfl⟩:=ho4.shape1 hs0_5
    clear ho4 hs0_5
    subst hn0
    have z6:=(H5.fix (i:=0) rfl).size
    refine aD (cT (zm (J (i:Int)) Z (zm (.slice A n c) Z (zg Z (bR underlying22 Z) ?_))))
    refine zc (((i:Int):Int) < ((n:Nat):Int)) Z (fun r hr=>bL Z Z hr) (fun h7=>?_) (fun h7=>?_)
    ·refine cS (aE Z (aA (aQ (aD (aG (aD (aW (fun wq=>World.grownBy w2 wq none) Tryz.mixed (by kernel_rfl) ⟨Z,rfl,rfl,Nat.le_refl _,fun _ _ _=>rfl⟩ (QL.go Z Z Z (fun wq gq=>aX (v:=(.slice A n c)) Z) (QL.go Z Z Z (fun wq gq=>aX (v:=(J (i:Int))) Z) ?_)))))))))
     obtain ⟨e8,he9⟩ : ∃ e,(l)[i]? = some e:=⟨_,List.getElem?_eq_getElem (by omega)⟩
     obtain ⟨ad10,hA11⟩:=Rd.sm (hr.st0 (H5.fix (i:=0) rfl)) (Di he9)
     have hl12:=Eng.lt_len (Di he9)
     refine QL.go Z Z Z (fun wq gq=>bS (b:=(ad10.add (i * 11))) (i:=i) underlying22 sizeOf31 (by rw [← hA11]; rfl) Z (by omega) (by omega) Z) (QL.go Z Z Z (fun wq gq=>bW Z (Aj (cs:=e8.cells) wh31 (Rd.cl (hr.st0 ((H5.grow gq).fix (i:=0) Z)) hA11 (Di he9)))) (QL.go Z Z Z (fun wq gq=>aX (v:=(.slice A2 n2 c2)) Z) (QL.go Z Z Z (fun wq gq=>aX (v:=(J (i:Int))) Z) ?_)))
     obtain ⟨e13,he14⟩ : ∃ e,(m)[i]? = some e:=⟨_,List.getElem?_eq_getElem (by omega)⟩
     obtain ⟨ad15,hA16⟩:=Rd.sm (hr2.st0 (H5.fix (i:=0) rfl)) (Di he14)
     have hl17:=Eng.lt_len (Di he14)
     refine QL.go Z Z Z (fun wq gq=>bS (b:=(ad15.add (i * 11))) (i:=i) underlying22 sizeOf31 (by rw [← hA16]; rfl) Z (by omega) (by omega) Z) (QL.go Z Z Z (fun wq gq=>bW Z (Aj (cs:=e13.cells) wh31 (Rd.cl (hr2.st0 ((H5.grow gq).fix (i:=0) Z)) hA16 (Di he14)))) ?_)
     refine QL.br (p := ¬ ((e8.num:Int) = (e13.num:Int)∧(e8.view:Int) = (e13.view:Int)∧(e8.client:Int) = (e13.client:Int)∧(e8.seq:Int) = (e13.seq:Int)∧(e8.op.kind:Int) = (e13.op.kind:Int)∧(e8.op.h:Int) = (e13.op.h:Int)∧(e8.op.i:Int) = (e13.op.i:Int)∧(e8.op.n:Int) = (e13.op.n:Int)∧(e8.op.k:Int) = (e13.op.k:Int)∧(e8.op.v:Int) = (e13.op.v:Int)∧(e8.op.t:Int) = (e13.op.t:Int))) Z Z Z (fun r hr wq gq=>Ex.neS (xs:=e8.cells) (ys:=e13.cells) eqGuardType31 (eqT31 (by rw [← hr]; simp)) Z Z) (fun h18=>?_) (fun h18=>?_)
     ·refine QL.nil ?_
      intro w19 g20
      have H21:=H5.grow g20
      have z22:=g20.size
      refine aQ (aE Z (cT (za bF Z (cS (aB (inB.r (aR (aR (inB.r (aR (aO (v:=bF) (Ba Z Z) ?_)))))))))))
      exact ⟨At (by symm; rw [decide_eq_false_iff_not]; exact ne_at he9 he14 (fun h=>h18 (by rw [h]; exact ⟨Z,rfl,rfl,rfl,rfl,rfl,rfl,rfl,rfl,rfl,rfl⟩))),(H21.fix (i:=0) Z)⟩
     ·refine QL.nil ?_
      intro w23 g24
      have H25:=H5.grow g24
      have z26:=g24.size
      refine aQ (aF Z (aA (inB.n (aQ (aL (zm (J (i:Int)) Z (zg Z (bI (r:=(i:Int) + 1) Z Z (Dl (by omega) (by omega))) (za (J ((i:Int) + 1)) Z (cS ?_)))))))))
      refine ⟨(by repeat (first | exact aJ _ _ | exact aH _ _ | refine aI ?_ Z _)),_,?_,i + 1,rfl,rfl,H25,by omega,take_same htk he9 he14 (ent_eq (Decidable.not_not.1 h18))⟩
      omega
    ·refine cS (aF Z (aC (aS (aS (Bo (aQ (cT (za bT Z (cS (aB (aO (v:=bT) (Ba Z Z) ?_)))))))))))
     exact ⟨At (by symm; rw [decide_eq_true_eq]; rw [← List.take_of_length_le (i:=i) (l:=l) (by omega),htk,List.take_of_length_le (by omega)]),(H5.fix (i:=0) Z)⟩
set_option maxHeartbeats 400000 in
set_option maxRecDepth 20000 in
theorem own15_ (w : World) (B : Nat) (k : Kept) (A : Option Addr) (n c : Nat) (hr : Rd w B 11 A (ents k.ents)) (hB : B ≤ w.heap.size) (hn : n = k.ents.length) (hm : n ≤ 1099511627776) : Ret prog 24 [(.agg ((kC k A n c)).toArray)] w (fun v w' => ∃ (A' : Option Addr) (n' c' : Nat), v = .agg [.int .i64 k.view, .int .i64 k.normal, .int .i64 k.base, .string (tx k.image), .slice A' n' c'].toArray ∧ Sp ([Ai 31 11 A' n' c' (ents k.ents)] ++ [Bd w Bl]) w') := by
  have H0:Sp [Bd w Bl] w:=Bv w
  refine aP func24 Z Z Z ?_
  refine cT (bH (cs:=(kC k A n c)) Z Z Z ?_)
  intro w1 b2 hb3 hz4 g5 o6
  have H7:=H0.newB g5 o6 (by omega)
  have z8:=g5.size
  refine bG (cs:=[(J 0),(J 0),(J 0),(.string (⟨#[]⟩)),(.slice none 0 0)]) zeroValue24 Z Z Z ?_
  intro w9 b10 hb11 hz12 g13 o14
  have H15:=H7.newB g13 o14 (by omega)
  have z16:=g13.size
  refine cS (cT (za (.slice none 0 0) Z (cS (cT (zm (.slice none 0 0) Z (zg Z (Cv (b:=⟨b2,4,none⟩) Z Z) (zl (.slice A n c) lo22 (H15.ob (i:=1) Z) Z ?_)))))))
  have H17:=H15.nil_ 31 11
  refine cL (base:=0) (xss:=(ents [])) (yss:=(ents k.ents)) el22 (H17.wr (i:=0) Z) Z (hr.st0 (H17.fix (i:=3) Z)) Z (by simp only [Aq,Au,Ar,Am,Ak,Ap,List.length_append,List.length_cons,List.length_nil,List.length_take,List.length_drop,List.length_map,Cr,Dp,Bj,Bk,Do]; try omega) (ents_one _) (by omega) (by omega) (by omega) Z Z ?_
  intro w18 A19 c20 g21 ow22 nx23
  have H24:Sp [Ai 31 11 A19 (0 + n) c20 (ents k.ents),Aa b10 24 [(J 0),(J 0),(J 0),(.string (⟨#[]⟩)),(.slice none 0 0)],Aa b2 24 (kC k A n c),Bd w Bl] w18:=H17.setR (i:=0) rfl g21 ((List.nil_append _) ▸ ow22) nx23 rfl
  have z25:=g21.size
  refine za (.slice A19 (0 + n) c20) Z (cS (cT (zm (.slice A19 (0 + n) c20) Z (zg Z (Cv (b:=⟨b2,4,none⟩) Z Z) (bE (vs:=[(.slice A19 (0 + n) c20)]) (cs':=[(J k.view),(J k.normal),(J k.base),(.string (tx k.image)),(.slice A19 (0 + n) c20)]) sizeOf22 (H24.ob (i:=2) Z) Z Z Z Z Z Z ?_)))))
  intro w26 hz27 g28 o29
  have H30:Sp [Ai 31 11 A19 (0 + n) c20 (ents k.ents),Aa b10 24 [(J 0),(J 0),(J 0),(.string (⟨#[]⟩)),(.slice none 0 0)],Aa b2 24 [(J k.view),(J k.normal),(J k.base),(.string (tx k.image)),(.slice A19 (0 + n) c20)],Bd w Bl] w26:=H24.setB (i:=2) rfl g28 o29 rfl
  have z31:=g28.size
  refine cS (cT (zg Z (bW Z (Aj (cs:=[(J k.view),(J k.normal),(J k.base),(.string (tx k.image)),(.slice A19 (0 + n) c20)]) Ct (H30.ob (i:=2) Z).cl)) (bE (vs:=[(J k.view),(J k.normal),(J k.base),(.string (tx k.image)),(.slice A19 (0 + n) c20)]) (cs':=[(J k.view),(J k.normal),(J k.base),(.string (tx k.image)),(.slice A19 (0 + n) c20)]) sizeOf24 (H30.ob (i:=1) Z) Z Z Z Z Z Z ?_)))
  intro w32 hz33 g34 o35
  have H36:Sp [Ai 31 11 A19 (0 + n) c20 (ents k.ents),Aa b10 24 [(J k.view),(J k.normal),(J k.base),(.string (tx k.image)),(.slice A19 (0 + n) c20)],Aa b2 24 [(J k.view),(J k.normal),(J k.base),(.string (tx k.image)),(.slice A19 (0 + n) c20)],Bd w Bl] w32:=H30.setB (i:=1) rfl g34 o35 rfl
  have z37:=g34.size
  refine cS (aB (aO (v:=(.agg ([(J k.view),(J k.normal),(J k.base),(.string (tx k.image)),(.slice A19 (0 + n) c20)]).toArray)) (resv1 Z (cA Z (Aj (cs:=[(J k.view),(J k.normal),(J k.base),(.string (tx k.image)),(.slice A19 (0 + n) c20)]) Ct (H36.ob (i:=1) Z).cl))) ?_))
  exact ⟨_,_,_,rfl,(H36.sel [0,3] (by decide) Z)⟩
set_option maxHeartbeats 1000000 in
set_option maxRecDepth 20000 in
theorem same15_ (w:World) (B:Nat) (k q:Kept) (A A2:Option Addr) (n c n2 c2:Nat) (hr:Rd w B 11 A (ents k.ents)) (hr2:Rd w B 11 A2 (ents q.ents)) (hB:B ≤ w.heap.size) (hn:n = k.ents.length) (hn2:n2 = q.ents.length) (hm:n ≤ 1099511627776):Ret prog 30 [(.agg ((kC k A n c)).toArray),(.agg ((kC q A2 n2 c2)).toArray)] w (fun v w'=>v = .bool (decide (k = q))∧w.grownBy w' none):=by
  have H0:Sp [Bd w Bl] w:=Bv w
  refine aP func30 Z Z Z ?_
  refine cT (bH (cs:=(kC k A n c)) Z Z Z ?_)
  intro w1 b2 hb3 hz4 g5 o6
  have H7:=H0.newB g5 o6 (by omega)
  have z8:=g5.size
  refine bH (cs:=(kC q A2 n2 c2)) Z Z Z ?_
  intro w9 b10 hb11 hz12 g13 o14
  have H15:=H7.newB g13 o14 (by omega)
  have z16:=g13.size
  refine za bF Z (cS (cT (zg Z (fa24_0 (b:=⟨b2,0,none⟩) Z Z) (zl (J k.view) Bw (H15.ob (i:=1) Z) Z (zg Z (fa24_0 (b:=⟨b10,0,none⟩) Z Z) (zl (J q.view) Bw (H15.ob (i:=0) Z) Z ?_))))))
  refine zc ((k.view:Int) = (q.view:Int)) Z (fun r hr=>bP Z Z hr) (fun h17=>?_) (fun h17=>?_)
  ·refine zm bT Z (zg Z (fa24_1 (b:=⟨b2,1,none⟩) Z Z) (zl (J k.normal) Bw (H15.ob (i:=1) Z) Z (zg Z (fa24_1 (b:=⟨b10,1,none⟩) Z Z) (zl (J q.normal) Bw (H15.ob (i:=0) Z) Z ?_))))
   refine zc ((k.normal:Int) = (q.normal:Int)) Z (fun r hr=>bP Z Z hr) (fun h18=>?_) (fun h18=>?_)
   ·refine zT bT Z (zm bT Z (zg Z (fa24_2 (b:=⟨b2,2,none⟩) Z Z) (zl (J k.base) Bw (H15.ob (i:=1) Z) Z (zg Z (fa24_2 (b:=⟨b10,2,none⟩) Z Z) (zl (J q.base) Bw (H15.ob (i:=0) Z) Z ?_)))))
    refine zc ((k.base:Int) = (q.base:Int)) Z (fun r hr=>bP Z Z hr) (fun h19=>?_) (fun h19=>?_)
    ·refine zT bT Z (zm bT Z (zg Z (fa24_3 (b:=⟨b2,3,none⟩) Z Z) (zl (.string (tx k.image)) lo9 (H15.ob (i:=1) Z) Z (zg Z (fa24_3 (b:=⟨b10,3,none⟩) Z Z) (zl (.string (tx q.image)) lo9 (H15.ob (i:=0) Z) Z ?_)))))
     refine zc (k.image = q.image) Z (fun r hr=>Ex.eqTx (l:=k.image) (m:=q.image) Z Z hr) (fun h20=>?_) (fun h20=>?_)
     ·refine zT bT Z (zm bT Z (zg Z (Cv (b:=⟨b2,4,none⟩) Z Z) (zl (.slice A n c) lo22 (H15.ob (i:=1) Z) Z (zg Z (Cv (b:=⟨b10,4,none⟩) Z Z) (zl (.slice A2 n2 c2) lo22 (H15.ob (i:=0) Z) Z (aU call31 (entSameR_ _ _ k.ents q.ents A A2 n c n2 c2 ((hr.st0 (H15.fix (i:=2) Z)).more (by omega)) (by first | assumption | rfl | omega) ((hr2.st0 (H15.fix (i:=2) Z)).more (by omega)) (by first | assumption | rfl | omega) (by omega)) Z Z Z ?_))))))
      rintro _ w21 ⟨rfl,g22⟩
      have H23:=H15.grow g22
      have z24:=g22.size
      rcases hb25:(decide (k.ents = q.ents)) with _ | _
      ·refine zT bF Z (za bF Z (cS (aB (aO (v:=bF) (Ba Z Z) ?_))))
       exact ⟨At (by symm; rw [decide_eq_false_iff_not]; intro h; first | exact absurd (of_decide_eq_false hb25) (by rw [h]; simp) | exact hb25 (by rw [h]; exact ⟨Z,rfl,rfl,rfl,rfl,rfl,rfl,rfl,rfl,rfl,rfl⟩) | exact hb25 (by rw [h])),(H23.fix (i:=2) Z)⟩
      ·refine zT bT Z (za bT Z (cS (aB (aO (v:=bT) (Ba Z Z) ?_))))
       exact ⟨At (by symm; rw [decide_eq_true_eq]; exact kept_eq h17 h18 h19 h20 (of_decide_eq_true hb25)),(H23.fix (i:=2) Z)⟩
     ·refine zT bF Z (zm bF Z (zo Z (zo Z (zo Z (zo Z (zo Z (zF bF Z (za bF Z (cS (aB (aO (v:=bF) (Ba Z Z) ?_)))))))))))
      exact ⟨At (by symm; rw [decide_eq_false_iff_not]; intro h; first | exact absurd (of_decide_eq_false h20) (by rw [h]; simp) | exact h20 (by rw [h]; exact ⟨Z,rfl,rfl,rfl,rfl,rfl,rfl,rfl,rfl,rfl,rfl⟩) | exact h20 (by rw [h])),(H15.fix (i:=2) Z)⟩
    ·refine zT bF Z (zm bF Z (zo Z (zo Z (zo Z (zo Z (zo Z (zF bF Z (zm bF Z (zo Z (zo Z ?_))))))))))
     refine zo Z (zo Z (zo Z (zF bF Z (za bF Z (cS (aB (aO (v:=bF) (Ba Z Z) ?_)))))))
     exact ⟨At (by symm; rw [decide_eq_false_iff_not]; intro h; first | exact absurd (of_decide_eq_false h19) (by rw [h]; simp) | exact h19 (by rw [h]; exact ⟨Z,rfl,rfl,rfl,rfl,rfl,rfl,rfl,rfl,rfl,rfl⟩) | exact h19 (by rw [h])),(H15.fix (i:=2) Z)⟩
   ·refine zT bF Z (zm bF Z (zo Z (zo Z (zo Z (zo Z (zo Z (zF bF Z (zm bF Z (zo Z (zo Z ?_))))))))))
    refine zo Z (zo Z (zo Z (zF bF Z (zm bF Z (zo Z (zo Z (zo Z (zo Z (zo Z (zF bF Z ?_))))))))))
    refine za bF Z (cS (aB (aO (v:=bF) (Ba Z Z) ?_)))
    exact ⟨At (by symm; rw [decide_eq_false_iff_not]; intro h; first | exact absurd (of_decide_eq_false h18) (by rw [h]; simp) | exact h18 (by rw [h]; exact ⟨Z,rfl,rfl,rfl,rfl,rfl,rfl,rfl,rfl,rfl,rfl⟩) | exact h18 (by rw [h])),(H15.fix (i:=2) Z)⟩
  ·refine zm bF Z (zo Z (zo Z (zo Z (zo Z (zo Z (zF bF Z (zm bF Z (zo Z (zo Z (zo Z ?_))))))))))
   refine zo Z (zo Z (zF bF Z (zm bF Z (zo Z (zo Z (zo Z (zo Z (zo Z (zF bF Z (zm bF Z ?_))))))))))
   refine zo Z (zo Z (zo Z (zo Z (zo Z (zF bF Z (za bF Z (cS (aB (aO (v:=bF) (Ba Z Z) ?_)))))))))
   exact ⟨At (by symm; rw [decide_eq_false_iff_not]; intro h; first | exact absurd (of_decide_eq_false h17) (by rw [h]; simp) | exact h17 (by rw [h]; exact ⟨Z,rfl,rfl,rfl,rfl,rfl,rfl,rfl,rfl,rfl,rfl⟩) | exact h17 (by rw [h])),(H15.fix (i:=2) Z)⟩
set_option maxHeartbeats 1000000 in
set_option maxRecDepth 20000 in
theorem sameRec_ (w:World) (B:Nat) (ra qa:Rec) (A A2:Option Addr) (n c n2 c2:Nat) (hr:Rd w B 11 A (ents ra.ents)) (hr2:Rd w B 11 A2 (ents qa.ents)) (hB:B ≤ w.heap.size) (hn:n = ra.ents.length) (hn2:n2 = qa.ents.length) (hm:n ≤ 1099511627776):Ret prog 27 [(.agg ((rC ra A n c)).toArray),(.agg ((rC qa A2 n2 c2)).toArray)] w (fun v w'=>v = .bool (decide (ra = qa))∧w.grownBy w' none):=by
  have H0:Sp [Bd w Bl] w:=Bv w
  refine aP func27 Z Z Z ?_
  refine cT (bH (cs:=(rC ra A n c)) Z Z Z ?_)
  intro w1 b2 hb3 hz4 g5 o6
  have H7:=H0.newB g5 o6 (by omega)
  have z8:=g5.size
  refine bH (cs:=(rC qa A2 n2 c2)) Z Z Z ?_
  intro w9 b10 hb11 hz12 g13 o14
  have H15:=H7.newB g13 o14 (by omega)
  have z16:=g13.size
  refine za bF Z (cS (cT (zg Z (fa33_0 (b:=⟨b2,0,none⟩) Z Z) (zl (J ra.kind) lo26 (H15.ob (i:=1) Z) Z (zg Z (fa33_0 (b:=⟨b10,0,none⟩) Z Z) (zl (J qa.kind) lo26 (H15.ob (i:=0) Z) Z ?_))))))
  refine zc ((ra.kind:Int) = (qa.kind:Int)) Z (fun r hr=>bP Z Z hr) (fun h17=>?_) (fun h17=>?_)
  ·refine zm bT Z (zg Z (fa33_1 (b:=⟨b2,1,none⟩) Z Z) (zl (J ra.view) Bw (H15.ob (i:=1) Z) Z (zg Z (fa33_1 (b:=⟨b10,1,none⟩) Z Z) (zl (J qa.view) Bw (H15.ob (i:=0) Z) Z ?_))))
   refine zc ((ra.view:Int) = (qa.view:Int)) Z (fun r hr=>bP Z Z hr) (fun h18=>?_) (fun h18=>?_)
   ·refine zT bT Z (zm bT Z (zg Z (fa33_2 (b:=⟨b2,2,none⟩) Z Z) (zl (J ra.from_) Bw (H15.ob (i:=1) Z) Z (zg Z (fa33_2 (b:=⟨b10,2,none⟩) Z Z) (zl (J qa.from_) Bw (H15.ob (i:=0) Z) Z ?_)))))
    refine zc ((ra.from_:Int) = (qa.from_:Int)) Z (fun r hr=>bP Z Z hr) (fun h19=>?_) (fun h19=>?_)
    ·refine zT bT Z (zm bT Z (zg Z (fa33_3 (b:=⟨b2,3,none⟩) Z Z) (zl (J ra.number) Bw (H15.ob (i:=1) Z) Z (zg Z (fa33_3 (b:=⟨b10,3,none⟩) Z Z) (zl (J qa.number) Bw (H15.ob (i:=0) Z) Z ?_)))))
     refine zc ((ra.number:Int) = (qa.number:Int)) Z (fun r hr=>bP Z Z hr) (fun h20=>?_) (fun h20=>?_)
     ·refine zT bT Z (zm bT Z (zg Z (fa33_4 (b:=⟨b2,4,none⟩) Z Z) (zl (.string (tx ra.image)) lo9 (H15.ob (i:=1) Z) Z (zg Z (fa33_4 (b:=⟨b10,4,none⟩) Z Z) (zl (.string (tx qa.image)) lo9 (H15.ob (i:=0) Z) Z ?_)))))
      refine zc (ra.image = qa.image) Z (fun r hr=>Ex.eqTx (l:=ra.image) (m:=qa.image) Z Z hr) (fun h21=>?_) (fun h21=>?_)
      ·refine zT bT Z (zm bT Z (zg Z (fa33_5 (b:=⟨b2,5,none⟩) Z Z) (zg Z (bW Z (Aj (cs:=[(J ra.entry.num),(J ra.entry.view),(J ra.entry.client),(J ra.entry.seq),(J ra.entry.op.kind),(J ra.entry.op.h),(J ra.entry.op.i),(J ra.entry.op.n),(J ra.entry.op.k),(J ra.entry.op.v),(J ra.entry.op.t)]) wh31 ((H15.ob (i:=1) Z).sub 5 11))) (zg Z (fa33_5 (b:=⟨b10,5,none⟩) Z Z) (zg Z (bW Z (Aj (cs:=[(J qa.entry.num),(J qa.entry.view),(J qa.entry.client),(J qa.entry.seq),(J qa.entry.op.kind),(J qa.entry.op.h),(J qa.entry.op.i),(J qa.entry.op.n),(J qa.entry.op.k),(J qa.entry.op.v),(J qa.entry.op.t)]) wh31 ((H15.ob (i:=0) Z).sub 5 11))) ?_)))))
       refine zc ((ra.entry.num:Int) = (qa.entry.num:Int)∧(ra.entry.view:Int) = (qa.entry.view:Int)∧(ra.entry.client:Int) = (qa.entry.client:Int)∧(ra.entry.seq:Int) = (qa.entry.seq:Int)∧(ra.entry.op.kind:Int) = (qa.entry.op.kind:Int)∧(ra.entry.op.h:Int) = (qa.entry.op.h:Int)∧(ra.entry.op.i:Int) = (qa.entry.op.i:Int)∧(ra.entry.op.n:Int) = (qa.entry.op.n:Int)∧(ra.entry.op.k:Int) = (qa.entry.op.k:Int)∧(ra.entry.op.v:Int) = (qa.entry.op.v:Int)∧(ra.entry.op.t:Int) = (qa.entry.op.t:Int)) Z (fun r hr=>Ex.eqS (xs:=[(J ra.entry.num),(J ra.entry.view),(J ra.entry.client),(J ra.entry.seq),(J ra.entry.op.kind),(J ra.entry.op.h),(J ra.entry.op.i),(J ra.entry.op.n),(J ra.entry.op.k),(J ra.entry.op.v),(J ra.entry.op.t)]) (ys:=[(J qa.entry.num),(J qa.entry.view),(J qa.entry.client),(J qa.entry.seq),(J qa.entry.op.kind),(J qa.entry.op.h),(J qa.entry.op.i),(J qa.entry.op.n),(J qa.entry.op.k),(J qa.entry.op.v),(J qa.entry.op.t)]) eqGuardType31 (eqT31 hr) Z Z) (fun h22=>?_) (fun h22=>?_)
       ·refine zT bT Z (zm bT Z (zg Z (fa33_6 (b:=⟨b2,16,none⟩) Z Z) (zl (.slice A n c) lo22 (H15.ob (i:=1) Z) Z (zg Z (fa33_6 (b:=⟨b10,16,none⟩) Z Z) (zl (.slice A2 n2 c2) lo22 (H15.ob (i:=0) Z) Z (aU call31 (entSameR_ _ _ ra.ents qa.ents A A2 n c n2 c2 ((hr.st0 (H15.fix (i:=2) Z)).more (by omega)) (by first | assumption | rfl | omega) ((hr2.st0 (H15.fix (i:=2) Z)).more (by omega)) (by first | assumption | rfl | omega) (by omega)) Z Z Z ?_))))))
        rintro _ w23 ⟨rfl,g24⟩
        have H25:=H15.grow g24
        have z26:=g24.size
        rcases hb27:(decide (ra.ents = qa.ents)) with _ | _
        ·refine zT bF Z (za bF Z (cS (aB (aO (v:=bF) (Ba Z Z) ?_))))
         exact ⟨At (by symm; rw [decide_eq_false_iff_not]; intro h; first | exact absurd (of_decide_eq_false hb27) (by rw [h]; simp) | exact hb27 (by rw [h]; exact ⟨Z,rfl,rfl,rfl,rfl,rfl,rfl,rfl,rfl,rfl,rfl⟩) | exact hb27 (by rw [h])),(H25.fix (i:=2) Z)⟩
        ·refine zT bT Z (za bT Z (cS (aB (aO (v:=bT) (Ba Z Z) ?_))))
         exact ⟨At (by symm; rw [decide_eq_true_eq]; exact rec_eq h17 h18 h19 h20 h21 (ent_eq h22) (of_decide_eq_true hb27)),(H25.fix (i:=2) Z)⟩
       ·refine zT bF Z (zm bF Z (zo Z (zo Z (zo Z (zo Z (zo Z (zF bF Z (za bF Z (cS (aB (aO (v:=bF) (Ba Z Z) ?_)))))))))))
        exact ⟨At (by symm; rw [decide_eq_false_iff_not]; intro h; first | exact absurd (of_decide_eq_false h22) (by rw [h]; simp) | exact h22 (by rw [h]; exact ⟨Z,rfl,rfl,rfl,rfl,rfl,rfl,rfl,rfl,rfl,rfl⟩) | exact h22 (by rw [h])),(H15.fix (i:=2) Z)⟩
      ·refine zT bF Z (zm bF Z (zo Z (zo Z (zo Z (zo Z (zo Z (zF bF Z (zm bF Z (zo Z (zo Z ?_))))))))))
       refine zo Z (zo Z (zo Z (zF bF Z (za bF Z (cS (aB (aO (v:=bF) (Ba Z Z) ?_)))))))
       exact ⟨At (by symm; rw [decide_eq_false_iff_not]; intro h; first | exact absurd (of_decide_eq_false h21) (by rw [h]; simp) | exact h21 (by rw [h]; exact ⟨Z,rfl,rfl,rfl,rfl,rfl,rfl,rfl,rfl,rfl,rfl⟩) | exact h21 (by rw [h])),(H15.fix (i:=2) Z)⟩
     ·refine zT bF Z (zm bF Z (zo Z (zo Z (zo Z (zo Z (zo Z (zF bF Z (zm bF Z (zo Z (zo Z ?_))))))))))
      refine zo Z (zo Z (zo Z (zF bF Z (zm bF Z (zo Z (zo Z (zo Z (zo Z (zo Z (zF bF Z ?_))))))))))
      refine za bF Z (cS (aB (aO (v:=bF) (Ba Z Z) ?_)))
      exact ⟨At (by symm; rw [decide_eq_false_iff_not]; intro h; first | exact absurd (of_decide_eq_false h20) (by rw [h]; simp) | exact h20 (by rw [h]; exact ⟨Z,rfl,rfl,rfl,rfl,rfl,rfl,rfl,rfl,rfl,rfl⟩) | exact h20 (by rw [h])),(H15.fix (i:=2) Z)⟩
    ·refine zT bF Z (zm bF Z (zo Z (zo Z (zo Z (zo Z (zo Z (zF bF Z (zm bF Z (zo Z (zo Z ?_))))))))))
     refine zo Z (zo Z (zo Z (zF bF Z (zm bF Z (zo Z (zo Z (zo Z (zo Z (zo Z (zF bF Z ?_))))))))))
     refine zm bF Z (zo Z (zo Z (zo Z (zo Z (zo Z (zF bF Z (za bF Z (cS (aB (aO (v:=bF) (Ba Z Z) ?_))))))))))
     exact ⟨At (by symm; rw [decide_eq_false_iff_not]; intro h; first | exact absurd (of_decide_eq_false h19) (by rw [h]; simp) | exact h19 (by rw [h]; exact ⟨Z,rfl,rfl,rfl,rfl,rfl,rfl,rfl,rfl,rfl,rfl⟩) | exact h19 (by rw [h])),(H15.fix (i:=2) Z)⟩
   ·refine zT bF Z (zm bF Z (zo Z (zo Z (zo Z (zo Z (zo Z (zF bF Z (zm bF Z (zo Z (zo Z ?_))))))))))
    refine zo Z (zo Z (zo Z (zF bF Z (zm bF Z (zo Z (zo Z (zo Z (zo Z (zo Z (zF bF Z ?_))))))))))
    refine zm bF Z (zo Z (zo Z (zo Z (zo Z (zo Z (zF bF Z (zm bF Z (zo Z (zo Z (zo Z ?_))))))))))
    refine zo Z (zo Z (zF bF Z (za bF Z (cS (aB (aO (v:=bF) (Ba Z Z) ?_))))))
    exact ⟨At (by symm; rw [decide_eq_false_iff_not]; intro h; first | exact absurd (of_decide_eq_false h18) (by rw [h]; simp) | exact h18 (by rw [h]; exact ⟨Z,rfl,rfl,rfl,rfl,rfl,rfl,rfl,rfl,rfl,rfl⟩) | exact h18 (by rw [h])),(H15.fix (i:=2) Z)⟩
  ·refine zm bF Z (zo Z (zo Z (zo Z (zo Z (zo Z (zF bF Z (zm bF Z (zo Z (zo Z (zo Z ?_))))))))))
   refine zo Z (zo Z (zF bF Z (zm bF Z (zo Z (zo Z (zo Z (zo Z (zo Z (zF bF Z (zm bF Z ?_))))))))))
   refine zo Z (zo Z (zo Z (zo Z (zo Z (zF bF Z (zm bF Z (zo Z (zo Z (zo Z (zo Z ?_))))))))))
   refine zo Z (zF bF Z (zm bF Z (zo Z (zo Z (zo Z (zo Z (zo Z (zF bF Z (za bF Z (cS (aB ?_)))))))))))
   refine aO (v:=bF) (Ba Z Z) ?_
   exact ⟨At (by symm; rw [decide_eq_false_iff_not]; intro h; first | exact absurd (of_decide_eq_false h17) (by rw [h]; simp) | exact h17 (by rw [h]; exact ⟨Z,rfl,rfl,rfl,rfl,rfl,rfl,rfl,rfl,rfl,rfl⟩) | exact h17 (by rw [h])),(H15.fix (i:=2) Z)⟩
end Go.Proofs.YtfokljnhllflbaaGreat
namespace Go.Eng
open Go Go.RowKit
def OptA (p:Prop) (A:Atom):Atom where
  ok S w:=p → A.ok S w
  mono h h2:=fun hp=>A.mono h (h2 hp)
  st ch hT h:=fun hp=>A.st ch hT (h hp)
section
variable {w:World} {l m:List Atom} {p:Prop} {A:Atom} {i:Nat}
theorem Sp.optI (h:Sp l w) (hi:l[i]? = some A) (hm:l.set i (OptA p A) = m):Sp m w:=h.weak (A':=OptA p A) hi (fun _ hS _=>hS) hm
theorem Sp.optN (h:Sp l w) (hn : ¬ p):Sp (OptA p A :: l) w:=h.new1 (S:=fun _=>False) (Bs _ _) (fun hp=>absurd hp hn) (fun _ hk=>hk.elim)
theorem Sp.optE (h:Sp l w) (hi:l[i]? = some (OptA p A)) (hp:p) (hm:l.set i A = m):Sp m w:=h.weak (A':=A) hi (fun _ hS=>hS hp) hm
end
section
variable {k:Kept} {r:Rec}
theorem made1n (h:r.kind = 1 ∨ r.kind = 3 ∨ r.kind = 5) (hv:r.view < k.view):(As k r).1 = 141:=by unfold As; rw [if_pos ⟨h,hv⟩]
theorem made0 (h1 : ¬ r.kind = 1) (h2 : ¬ r.kind = 2) (h3 : ¬ r.kind = 3) (h4 : ¬ r.kind = 4) (h5 : ¬ r.kind = 5):(As k r).1 = 141:=by
  unfold As; rw [if_neg (fun q=>by rcases q.1 with q | q | q; exact h1 q; exact h3 q; exact h5 q),if_neg h1,if_neg h2,if_neg h3,if_neg h4,if_neg h5]
theorem made1 (h:r.kind = 1) (hv : ¬ r.view < k.view):As k r = (0, { k with view:=r.view }):=by unfold As; rw [if_neg (fun q=>hv q.2),if_pos h]
theorem foll1 {e:Entry} {L:Int} : follB [e] L = true ↔ IntKind.i64.wrap (e.num - 1) = L:=by
  unfold follB allI allI
  rw [Bool.and_true,decide_eq_true_eq]
  have h:=(show IntKind.i64.wrap (IntKind.i64.wrap (e.num - 1) - ((0:Nat):Int)) = IntKind.i64.wrap (e.num - 1) by
    rw [show IntKind.i64.wrap (e.num - 1) - ((0:Nat):Int) = IntKind.i64.wrap (e.num - 1) by omega]
    have b:=IntKind.wrap_i64 (e.num - 1)
    rw [Dl (by rw [b]; omega) (by rw [b]; omega)])
  rw [h]
theorem made2 (h:r.kind = 2) (hf:IntKind.i64.wrap (r.entry.num - 1) = Dm k):As k r = (0, { k with ents:=k.ents ++ [r.entry] }):=by
  unfold As; rw [if_neg (fun q=>by omega),if_neg (by omega),if_pos h,if_pos (foll1.2 hf)]
theorem made2n (h:r.kind = 2) (hf : ¬ IntKind.i64.wrap (r.entry.num - 1) = Dm k):(As k r).1 = 140:=by
  unfold As; rw [if_neg (fun q=>by omega),if_neg (by omega),if_pos h,if_neg (fun q=>hf (foll1.1 q))]
theorem made3 (h:r.kind = 3) (hv : ¬ r.view < k.view) (h1:k.base ≤ r.from_) (h2:r.from_ ≤ Dm k) (hf:follB r.ents r.from_ = true):As k r = (0, { k with view:=r.view,normal:=r.view,ents:=k.ents.take (r.from_ - k.base).toNat ++ r.ents }):=by
  unfold As; rw [if_neg (fun q=>hv q.2),if_neg (by omega),if_neg (by omega),if_pos h,if_pos ⟨by simp [Az]; omega,hf⟩]
theorem made3n (h:r.kind = 3) (hv : ¬ r.view < k.view) (hf:r.from_ < k.base ∨ Dm k < r.from_ ∨ follB r.ents r.from_ = false):(As k r).1 = 140:=by
  unfold As
  rw [if_neg (fun q=>hv q.2),if_neg (by omega),if_neg (by omega),if_pos h,if_neg]
  rintro ⟨q1,q2⟩
  have q1:=Bh q1
  rcases hf with h | h | h
  · omega
  · omega
  · rw [h] at q2; cases q2
theorem made4 (h:r.kind = 4) (h1 : ¬ r.number ≤ k.base) (h2 : ¬ Dm k < r.number):As k r = (0, { k with ents:=k.ents.drop (r.number - k.base).toNat,base:=r.number,image:=r.image }):=by
  unfold As; rw [if_neg (fun q=>by omega),if_neg (by omega),if_neg (by omega),if_neg (by omega),if_pos h,if_neg (by omega)]
theorem made4n (h:r.kind = 4) (h1:r.number ≤ k.base ∨ Dm k < r.number):(As k r).1 = 140:=by
  unfold As; rw [if_neg (fun q=>by omega),if_neg (by omega),if_neg (by omega),if_neg (by omega),if_pos h,if_pos h1]
theorem made5 (h:r.kind = 5) (hv : ¬ r.view < k.view) (h1:0 ≤ r.number) (h2:r.number ≤ 900000000) (hf:follB r.ents r.number = true):As k r = (0,⟨r.view,r.view,r.number,r.image,r.ents⟩):=by
  unfold As; rw [if_neg (fun q=>hv q.2),if_neg (by omega),if_neg (by omega),if_neg (by omega),if_neg (by omega),if_pos h,if_pos ⟨by simp [Az]; omega,hf⟩]
theorem made5n (h:r.kind = 5) (hv : ¬ r.view < k.view) (hf:r.number < 0 ∨ 900000000 < r.number ∨ follB r.ents r.number = false):(As k r).1 = 140:=by
  unfold As
  rw [if_neg (fun q=>hv q.2),if_neg (by omega),if_neg (by omega),if_neg (by omega),if_neg (by omega),if_pos h,if_neg]
  rintro ⟨q1,q2⟩
  have q1:=Bh q1
  rcases hf with h | h | h
  · omega
  · omega
  · rw [h] at q2; cases q2
theorem made_img (k:Kept) (r:Rec) (h:(As k r).1 = 0):(As k r).2.image.length ≤ k.image.length + r.image.length:=by
  unfold As at h ⊢
  repeat' split
  all_goals first | (simp only [zKept,List.length_nil]; omega) | (dsimp only; omega)
theorem fold_e1 (h:Cn k = false):Ay k r = (1,zKept):=by unfold Ay; rw [h]; rfl
theorem fold_e2 (h:Cn k = true) (h0 : ¬ (As k r).1 = 0):Ay k r = ((As k r).1,zKept):=by unfold Ay Cb; rw [if_pos h,if_neg h0]
theorem fold_e3 (h:Cn k = true) (h0:(As k r).1 = 0) (h1:4000 < (As k r).2.ents.length):Ay k r = (2,zKept):=by unfold Ay Cb; rw [if_pos h,if_pos h0,if_pos h1]
theorem fold_e4 (h:Cn k = true) (h0:(As k r).1 = 0) (h1 : ¬ 4000 < (As k r).2.ents.length) (h2:Cn (As k r).2 = false):Ay k r = (141,zKept):=by unfold Ay Cb; rw [if_pos h,if_pos h0,if_neg h1,if_neg (by rw [h2]; decide)]
theorem fold_e5 (h:Cn k = true) (h0:(As k r).1 = 0) (h1 : ¬ 4000 < (As k r).2.ents.length) (h2:Cn (As k r).2 = true):Ay k r = (0,(As k r).2):=by unfold Ay Cb; rw [if_pos h,if_pos h0,if_neg h1,if_pos h2]; exact Prod.ext h0 rfl
end
end Go.Eng
namespace Go.Proofs.YtfokljnhllflbaaGreat
open Go Go.Eng Go.RowKit Go.Proofs.Tryz
set_option maxHeartbeats 400000 in
set_option maxRecDepth 20000 in
theorem ownRec_ (w : World) (B : Nat) (r : Rec) (A : Option Addr) (n c : Nat) (hr : Rd w B 11 A (ents r.ents)) (hB : B ≤ w.heap.size) (hn : n = r.ents.length) (hm : n ≤ 1099511627776) : Ret prog 39 [(.agg ((rC r A n c)).toArray)] w (fun v w' => ∃ (A' : Option Addr) (n' c' : Nat), v = .agg [(J r.kind), (J r.view), (J r.from_), (J r.number), (.string (tx r.image)), (J r.entry.num), (J r.entry.view), (J r.entry.client), (J r.entry.seq), (J r.entry.op.kind), (J r.entry.op.h), (J r.entry.op.i), (J r.entry.op.n), (J r.entry.op.k), (J r.entry.op.v), (J r.entry.op.t), (.slice A' n' c')].toArray ∧ Sp ([Ai 31 11 A' n' c' (ents r.ents)] ++ [Bd w Bl]) w') := by
  have H0:Sp [Bd w Bl] w:=Bv w
  refine aP func39 Z Z Z ?_
  refine cT (bH (cs:=(rC r A n c)) Z Z Z ?_)
  intro w1 b2 hb3 hz4 g5 o6
  have H7:=H0.newB g5 o6 (by omega)
  have z8:=g5.size
  refine bG (cs:=[(J 0),(J 0),(J 0),(J 0),(.string (⟨#[]⟩)),(J 0),(J 0),(J 0),(J 0),(J 0),(J 0),(J 0),(J 0),(J 0),(J 0),(J 0),(.slice none 0 0)]) zeroValue33 Z Z Z ?_
  intro w9 b10 hb11 hz12 g13 o14
  have H15:=H7.newB g13 o14 (by omega)
  have z16:=g13.size
  refine cS (cT (za (.slice none 0 0) Z (cS (cT (zm (.slice none 0 0) Z (zg Z (fa33_6 (b:=⟨b2,16,none⟩) Z Z) (zl (.slice A n c) lo22 (H15.ob (i:=1) Z) Z ?_)))))))
  have H17:=H15.nil_ 31 11
  refine cL (base:=0) (xss:=(ents [])) (yss:=(ents r.ents)) el22 (H17.wr (i:=0) Z) Z (hr.st0 (H17.fix (i:=3) Z)) Z (by simp only [Aq,Au,Ar,Am,Ak,Ap,List.length_append,List.length_cons,List.length_nil,List.length_take,List.length_drop,List.length_map,Cr,Dp,Bj,Bk,Do]; try omega) (ents_one _) (by omega) (by omega) (by omega) Z Z ?_
  intro w18 A19 c20 g21 ow22 nx23
  have H24:Sp [Ai 31 11 A19 (0 + n) c20 (ents r.ents),Aa b10 33 [(J 0),(J 0),(J 0),(J 0),(.string (⟨#[]⟩)),(J 0),(J 0),(J 0),(J 0),(J 0),(J 0),(J 0),(J 0),(J 0),(J 0),(J 0),(.slice none 0 0)],Aa b2 33 (rC r A n c),Bd w Bl] w18:=H17.setR (i:=0) rfl g21 ((List.nil_append _) ▸ ow22) nx23 rfl
  have z25:=g21.size
  refine za (.slice A19 (0 + n) c20) Z (cS (cT (zm (.slice A19 (0 + n) c20) Z (zg Z (fa33_6 (b:=⟨b2,16,none⟩) Z Z) (bE (vs:=[(.slice A19 (0 + n) c20)]) (cs':=[(J r.kind),(J r.view),(J r.from_),(J r.number),(.string (tx r.image)),(J r.entry.num),(J r.entry.view),(J r.entry.client),(J r.entry.seq),(J r.entry.op.kind),(J r.entry.op.h),(J r.entry.op.i),(J r.entry.op.n),(J r.entry.op.k),(J r.entry.op.v),(J r.entry.op.t),(.slice A19 (0 + n) c20)]) sizeOf22 (H24.ob (i:=2) Z) Z Z Z Z Z Z ?_)))))
  intro w26 hz27 g28 o29
  have H30:Sp [Ai 31 11 A19 (0 + n) c20 (ents r.ents),Aa b10 33 [(J 0),(J 0),(J 0),(J 0),(.string (⟨#[]⟩)),(J 0),(J 0),(J 0),(J 0),(J 0),(J 0),(J 0),(J 0),(J 0),(J 0),(J 0),(.slice none 0 0)],Aa b2 33 [(J r.kind),(J r.view),(J r.from_),(J r.number),(.string (tx r.image)),(J r.entry.num),(J r.entry.view),(J r.entry.client),(J r.entry.seq),(J r.entry.op.kind),(J r.entry.op.h),(J r.entry.op.i),(J r.entry.op.n),(J r.entry.op.k),(J r.entry.op.v),(J r.entry.op.t),(.slice A19 (0 + n) c20)],Bd w Bl] w26:=H24.setB (i:=2) rfl g28 o29 rfl
  have z31:=g28.size
  refine cS (cT (zg Z (bW Z (Aj (cs:=[(J r.kind),(J r.view),(J r.from_),(J r.number),(.string (tx r.image)),(J r.entry.num),(J r.entry.view),(J r.entry.client),(J r.entry.seq),(J r.entry.op.kind),(J r.entry.op.h),(J r.entry.op.i),(J r.entry.op.n),(J r.entry.op.k),(J r.entry.op.v),(J r.entry.op.t),(.slice A19 (0 + n) c20)]) wh33 (H30.ob (i:=2) Z).cl)) (bE (vs:=[(J r.kind),(J r.view),(J r.from_),(J r.number),(.string (tx r.image)),(J r.entry.num),(J r.entry.view),(J r.entry.client),(J r.entry.seq),(J r.entry.op.kind),(J r.entry.op.h),(J r.entry.op.i),(J r.entry.op.n),(J r.entry.op.k),(J r.entry.op.v),(J r.entry.op.t),(.slice A19 (0 + n) c20)]) (cs':=[(J r.kind),(J r.view),(J r.from_),(J r.number),(.string (tx r.image)),(J r.entry.num),(J r.entry.view),(J r.entry.client),(J r.entry.seq),(J r.entry.op.kind),(J r.entry.op.h),(J r.entry.op.i),(J r.entry.op.n),(J r.entry.op.k),(J r.entry.op.v),(J r.entry.op.t),(.slice A19 (0 + n) c20)]) sizeOf33 (H30.ob (i:=1) Z) Z Z Z Z Z Z ?_)))
  intro w32 hz33 g34 o35
  have H36:Sp [Ai 31 11 A19 (0 + n) c20 (ents r.ents),Aa b10 33 [(J r.kind),(J r.view),(J r.from_),(J r.number),(.string (tx r.image)),(J r.entry.num),(J r.entry.view),(J r.entry.client),(J r.entry.seq),(J r.entry.op.kind),(J r.entry.op.h),(J r.entry.op.i),(J r.entry.op.n),(J r.entry.op.k),(J r.entry.op.v),(J r.entry.op.t),(.slice A19 (0 + n) c20)],Aa b2 33 [(J r.kind),(J r.view),(J r.from_),(J r.number),(.string (tx r.image)),(J r.entry.num),(J r.entry.view),(J r.entry.client),(J r.entry.seq),(J r.entry.op.kind),(J r.entry.op.h),(J r.entry.op.i),(J r.entry.op.n),(J r.entry.op.k),(J r.entry.op.v),(J r.entry.op.t),(.slice A19 (0 + n) c20)],Bd w Bl] w32:=H30.setB (i:=1) rfl g34 o35 rfl
  have z37:=g34.size
  refine cS (aB (aO (v:=(.agg ([(J r.kind),(J r.view),(J r.from_),(J r.number),(.string (tx r.image)),(J r.entry.num),(J r.entry.view),(J r.entry.client),(J r.entry.seq),(J r.entry.op.kind),(J r.entry.op.h),(J r.entry.op.i),(J r.entry.op.n),(J r.entry.op.k),(J r.entry.op.v),(J r.entry.op.t),(.slice A19 (0 + n) c20)]).toArray)) (resv1 Z (cA Z (Aj (cs:=[(J r.kind),(J r.view),(J r.from_),(J r.number),(.string (tx r.image)),(J r.entry.num),(J r.entry.view),(J r.entry.client),(J r.entry.seq),(J r.entry.op.kind),(J r.entry.op.h),(J r.entry.op.i),(J r.entry.op.n),(J r.entry.op.k),(J r.entry.op.v),(J r.entry.op.t),(.slice A19 (0 + n) c20)]) wh33 (H36.ob (i:=1) Z).cl))) ?_))
  exact ⟨_,_,_,rfl,(H36.sel [0,3] (by decide) Z)⟩
set_option maxHeartbeats 400000 in
set_option maxRecDepth 20000 in
theorem joined_ (w : World) (B : Nat) (l m : List Entry) (A A2 : Option Addr) (n c n2 c2 : Nat) (hr : Rd w B 11 A (ents l)) (hn : n = l.length) (hr2 : Rd w B 11 A2 (ents m)) (hn2 : n2 = m.length) (hB : B ≤ w.heap.size) (hm : n ≤ 1000000) (hm2 : n2 ≤ 1000000) : Ret prog 172 [(.slice A n c), (.slice A2 n2 c2)] w (fun v w' => ∃ (A' : Option Addr) (n' c' : Nat), v = .slice A' n' c' ∧ Sp ([Ai 31 11 A' n' c' (ents (l ++ m))] ++ [Bd w Bl]) w') := by
  have H0:Sp [Bd w Bl] w:=Bv w
  refine aP func172 Z Z Z ?_
  refine cT (za (.slice none 0 0) Z (cS (cT (za (.slice none 0 0) Z (cS (cT (zm (.slice none 0 0) Z (zm (.slice A n c) Z ?_))))))))
  have H1:=H0.nil_ 31 11
  refine cL (base:=0) (xss:=(ents [])) (yss:=(ents l)) el22 (H1.wr (i:=0) Z) Z hr Z (by simp only [Aq,Au,Ar,Am,Ak,Ap,List.length_append,List.length_cons,List.length_nil,List.length_take,List.length_drop,List.length_map,Cr,Dp,Bj,Bk,Do]; try omega) (ents_one _) (by omega) (by omega) (by omega) Z Z ?_
  intro w2 A3 c4 g5 ow6 nx7
  have H8:Sp [Ai 31 11 A3 (0 + n) c4 (ents l),Bd w Bl] w2:=H1.setR (i:=0) rfl g5 ((List.nil_append _) ▸ ow6) nx7 rfl
  have z9:=g5.size
  refine za (.slice A3 (0 + n) c4) Z (cS (cT (zm (.slice A3 (0 + n) c4) Z (zm (.slice A2 n2 c2) Z (cL (base:=0) (xss:=(ents l)) (yss:=(ents m)) el22 (H8.wr (i:=0) Z) Z (hr2.st0 (H8.fix (i:=1) Z)) Z (by simp only [Aq,Au,Ar,Am,Ak,Ap,List.length_append,List.length_cons,List.length_nil,List.length_take,List.length_drop,List.length_map,Cr,Dp,Bj,Bk,Do]; try omega) (ents_one _) (by omega) (by omega) (by omega) Z Z ?_)))))
  intro w10 A11 c12 g13 ow14 nx15
  have H16:Sp [Ai 31 11 A11 ((0 + n) + n2) c12 (ents (l ++ m)),Bd w Bl] w10:=H8.setR (i:=0) rfl g13 ((ents_app _ _).symm ▸ ow14) nx15 rfl
  have z17:=g13.size
  refine za (.slice A11 ((0 + n) + n2) c12) Z (cS (cT (zm (.slice A11 ((0 + n) + n2) c12) Z (za (.slice A11 ((0 + n) + n2) c12) Z (cS (aB (aO (v:=(.slice A11 ((0 + n) + n2) c12)) (Ba Z Z) ?_)))))))
  exact ⟨_,_,_,rfl,(H16.sel [0,1] (by decide) Z)⟩
set_option maxHeartbeats 2000000 in
set_option maxRecDepth 20000 in
theorem made_ (w:World) (S:Nat → Prop) (k:Kept) (A:Option Addr) (n c:Nat) (hS:(AllA [Ai 31 11 A n c (ents k.ents)]).ok S w) (r:Rec) (A2:Option Addr) (n2 c2:Nat) (hr2:RdN w S 11 A2 (ents r.ents)) (hn2:n2 = r.ents.length) (hm2:n2 ≤ 1000000) (hk:Cn k = true):Ret prog 110 [(.agg ((kC k A n c)).toArray),(.agg ((rC r A2 n2 c2)).toArray)] w (fun v w' => ∃ (x:Kept) (A':Option Addr) (n' c':Nat),v = .tuple #[.agg [.int .i64 x.view,.int .i64 x.normal,.int .i64 x.base,.string (tx x.image),.slice A' n' c'].toArray,.int .i64 (As k r).1]∧Sp ([OptA ((As k r).1 = 0) (Ai 31 11 A' n' c' (ents (As k r).2.ents))] ++ [Bd w S]) w'∧((As k r).1 = 0 → x = (As k r).2)):=by
  have hkt:=keptB_t hk
  have hlk:Dm k = k.base + k.ents.length:=rfl
  have H0:=Sp.startL hS
  have hn:=H0.len (i:=0) rfl
  rw [Ap] at hn
  have hc:=H0.cap (i:=0) rfl
  have H0:Sp [Ai 31 11 A n c (ents k.ents),Bd w S] w:=H0
  refine aP func110 Z Z Z ?_
  refine cT (bH (cs:=(kC k A n c)) Z Z Z ?_)
  intro w1 b2 hb3 hz4 g5 o6
  have H7:=H0.newB g5 o6 (by omega)
  have z8:=g5.size
  refine bH (cs:=(rC r A2 n2 c2)) Z Z Z ?_
  intro w9 b10 hb11 hz12 g13 o14
  have H15:=H7.newB g13 o14 (by omega)
  have z16:=g13.size
  refine bG (cs:=[(J 0),(J 0),(J 0),(.string (⟨#[]⟩)),(.slice none 0 0)]) zeroValue24 Z Z Z ?_
  intro w17 b18 hb19 hz20 g21 o22
  have H23:=H15.newB g21 o22 (by omega)
  have z24:=g21.size
  refine za (J 0) Z (cS (cT (zg Z (bW Z (Aj (cs:=(kC k A n c)) Ct (H23.ob (i:=2) Z).cl)) (aU call60 (lastR_ _ k A n c (by first | assumption | rfl | omega) hk) Z Z Z ?_))))
  rintro _ w25 ⟨rfl,g26⟩
  have H27:=H23.grow g26
  have z28:=g26.size
  refine za (J (Dm k)) Z (cS (cT (zg Z (fa33_0 (b:=⟨b10,0,none⟩) Z Z) (zl (J r.kind) lo26 (H27.ob (i:=1) Z) Z ?_))))
  refine zc ((r.kind:Int) = (1:Int)) Z (fun r hr=>bP Z Z hr) (fun h29=>?_) (fun h29=>?_)
  ·refine zm bT Z (zo Z (zo Z (zo Z (zT bT Z (zm bT Z (zo Z (zo Z (zo Z (zT bT Z (za bT Z ?_))))))))))
   refine cS (aD (cT (zm bT Z (zm bT Z (zg Z (fa33_1 (b:=⟨b10,1,none⟩) Z Z) (zl (J r.view) Bw (H27.ob (i:=1) Z) Z (zg Z (fa24_0 (b:=⟨b2,0,none⟩) Z Z) (zl (J k.view) Bw (H27.ob (i:=2) Z) Z ?_))))))))
   refine zc ((r.view:Int) < (k.view:Int)) Z (fun r hr=>bL Z Z hr) (fun h30=>?_) (fun h30=>?_)
   ·refine zT bT Z (cS (aE Z (cT (zg Z (bW Z (Aj (cs:=(kC k A n c)) Ct (H27.ob (i:=2) Z).cl)) (bE (vs:=(kC k A n c)) (cs':=(kC k A n c)) sizeOf24 (H27.ob (i:=0) Z) Z Z Z Z Z Z ?_)))))
    intro w31 hz32 g33 o34
    have H35:Sp [Aa b18 24 (kC k A n c),Aa b10 33 (rC r A2 n2 c2),Aa b2 24 (kC k A n c),Ai 31 11 A n c (ents k.ents),Bd w S] w31:=H27.setB (i:=0) rfl g33 o34 rfl
    have z36:=g33.size
    refine za (J 141) Z (cS (aB (aR (aO (v:=(.tuple #[(.agg ((kC k A n c)).toArray),(J 141)])) (Ch Z (cA Z (Aj (cs:=(kC k A n c)) Ct (H35.ob (i:=0) Z).cl)) (bZ Z)) ?_))))
    have hmd:(As k r).1 = 141:=made1n (by omega) (by omega)
    exact ⟨k,_,_,_,by rw [hmd] <;> rfl,(H35.optN (p:=(As k r).1 = 0) (A:=Ai 31 11 A n c (ents (As k r).2.ents)) (by omega)).sel [0,5] (by decide) Z,fun h0=>absurd h0 (by omega)⟩
   ·refine zT bF Z (cS (aF Z (aA (aQ (aD (cT (zg Z (fa33_0 (b:=⟨b10,0,none⟩) Z Z) (zl (J r.kind) lo26 (H27.ob (i:=1) Z) Z (cS (aG (cT (zg Z (bP (r:=true) Z Z (decide_eq_true (by omega))) (za bT Z (cS (aE Z (aL (zg Z (fa33_1 (b:=⟨b10,1,none⟩) Z Z) (zl (J r.view) Bw (H27.ob (i:=1) Z) Z (zg Z (fa24_0 (b:=⟨b2,0,none⟩) Z Z) ?_)))))))))))))))))))
    refine bE (vs:=[(J r.view)]) (cs':=[(J r.view),(J k.normal),(J k.base),(.string (tx k.image)),(.slice A n c)]) sizeOf3 (H27.ob (i:=2) Z) Z Z Z Z Z Z ?_
    intro w37 hz38 g39 o40
    have H41:Sp [Aa b18 24 [(J 0),(J 0),(J 0),(.string (⟨#[]⟩)),(.slice none 0 0)],Aa b10 33 (rC r A2 n2 c2),Aa b2 24 [(J r.view),(J k.normal),(J k.base),(.string (tx k.image)),(.slice A n c)],Ai 31 11 A n c (ents k.ents),Bd w S] w37:=H27.setB (i:=2) rfl g39 o40 rfl
    have z42:=g39.size
    refine aM (inB.n (aQ (cT (zg Z (bW Z (Aj (cs:=[(J r.view),(J k.normal),(J k.base),(.string (tx k.image)),(.slice A n c)]) Ct (H41.ob (i:=2) Z).cl)) (bE (vs:=[(J r.view),(J k.normal),(J k.base),(.string (tx k.image)),(.slice A n c)]) (cs':=[(J r.view),(J k.normal),(J k.base),(.string (tx k.image)),(.slice A n c)]) sizeOf24 (H41.ob (i:=0) Z) Z Z Z Z Z Z ?_)))))
    intro w43 hz44 g45 o46
    have H47:Sp [Aa b18 24 [(J r.view),(J k.normal),(J k.base),(.string (tx k.image)),(.slice A n c)],Aa b10 33 (rC r A2 n2 c2),Aa b2 24 [(J r.view),(J k.normal),(J k.base),(.string (tx k.image)),(.slice A n c)],Ai 31 11 A n c (ents k.ents),Bd w S] w43:=H41.setB (i:=0) rfl g45 o46 rfl
    have z48:=g45.size
    refine za (J 0) Z (cS (aB (aO (v:=(.tuple #[(.agg ([(J r.view),(J k.normal),(J k.base),(.string (tx k.image)),(.slice A n c)]).toArray),(J 0)])) (Ch Z (cA Z (Aj (cs:=[(J r.view),(J k.normal),(J k.base),(.string (tx k.image)),(.slice A n c)]) Ct (H47.ob (i:=0) Z).cl)) (bZ Z)) ?_)))
    have H49:Sp [Aa b18 24 [(J r.view),(J k.normal),(J k.base),(.string (tx k.image)),(.slice A n c)],Aa b10 33 (rC r A2 n2 c2),Aa b2 24 [(J r.view),(J k.normal),(J k.base),(.string (tx k.image)),(.slice A n c)],OptA ((As k r).1 = 0) (Ai 31 11 A n c (ents k.ents)),Bd w S] w43:=H47.optI (i:=3) (p:=(As k r).1 = 0) rfl rfl
    have hmd:As k r = (0,({ k with view:=r.view } : Kept)):=made1 (by omega) (by omega)
    have hml:(As k r).2.ents = k.ents:=by first | (rw [hmd]; done) | (rw [hmd]; dsimp only; rw [hj]; done) | (rw [hmd]; dsimp only; rw [hj,Int.toNat_natCast]; done) | (rw [hmd]; dsimp only; rw [hj,Int.toNat_natCast,List.append_nil]) | (rw [hmd,List.append_nil])
    exact ⟨(As k r).2,_,_,_,by rw [hmd] <;> rfl,by rw [hml]; exact (H49.sel [3,4] (by decide) Z),fun _=>rfl⟩
  ·refine zm bF Z (zg Z (fa33_0 (b:=⟨b10,0,none⟩) Z Z) (zl (J r.kind) lo26 (H27.ob (i:=1) Z) Z ?_))
   refine zc ((r.kind:Int) = (3:Int)) Z (fun r hr=>bP Z Z hr) (fun h50=>?_) (fun h50=>?_)
   ·refine zF bT Z (zm bT Z (zo Z (zo Z (zo Z (zT bT Z (za bT Z (cS (aD (cT (zm bT Z (zm bT Z (zg Z (fa33_1 (b:=⟨b10,1,none⟩) Z Z) ?_))))))))))))
    refine zl (J r.view) Bw (H27.ob (i:=1) Z) Z (zg Z (fa24_0 (b:=⟨b2,0,none⟩) Z Z) (zl (J k.view) Bw (H27.ob (i:=2) Z) Z ?_))
    refine zc ((r.view:Int) < (k.view:Int)) Z (fun r hr=>bL Z Z hr) (fun h51=>?_) (fun h51=>?_)
    ·refine zT bT Z (cS (aE Z (cT (zg Z (bW Z (Aj (cs:=(kC k A n c)) Ct (H27.ob (i:=2) Z).cl)) (bE (vs:=(kC k A n c)) (cs':=(kC k A n c)) sizeOf24 (H27.ob (i:=0) Z) Z Z Z Z Z Z ?_)))))
     intro w52 hz53 g54 o55
     have H56:Sp [Aa b18 24 (kC k A n c),Aa b10 33 (rC r A2 n2 c2),Aa b2 24 (kC k A n c),Ai 31 11 A n c (ents k.ents),Bd w S] w52:=H27.setB (i:=0) rfl g54 o55 rfl
     have z57:=g54.size
     refine za (J 141) Z (cS (aB (aR (aO (v:=(.tuple #[(.agg ((kC k A n c)).toArray),(J 141)])) (Ch Z (cA Z (Aj (cs:=(kC k A n c)) Ct (H56.ob (i:=0) Z).cl)) (bZ Z)) ?_))))
     have hmd:(As k r).1 = 141:=made1n (by omega) (by omega)
     exact ⟨k,_,_,_,by rw [hmd] <;> rfl,(H56.optN (p:=(As k r).1 = 0) (A:=Ai 31 11 A n c (ents (As k r).2.ents)) (by omega)).sel [0,5] (by decide) Z,fun h0=>absurd h0 (by omega)⟩
    ·refine zT bF Z (cS (aF Z (aA (aQ (aD (cT (zg Z (fa33_0 (b:=⟨b10,0,none⟩) Z Z) (zl (J r.kind) lo26 (H27.ob (i:=1) Z) Z (cS (aG (cT (zg Z (bP (r:=false) Z Z (decide_eq_false (by omega))) (za bF Z (cS (aF Z (cT (zg Z (bP (r:=false) Z Z (decide_eq_false (by omega))) (za bF Z (cS (aF Z (cT ?_)))))))))))))))))))))
     refine zg Z (bP (r:=true) Z Z (decide_eq_true (by omega))) (za bT Z (cS (aE Z (aD (cT (zg Z (fa33_2 (b:=⟨b10,2,none⟩) Z Z) (zl (J r.from_) Bw (H27.ob (i:=1) Z) Z (zg Z (fa24_2 (b:=⟨b2,2,none⟩) Z Z) (zl (J k.base) Bw (H27.ob (i:=2) Z) Z ?_)))))))))
     refine zc ((r.from_:Int) < (k.base:Int)) Z (fun r hr=>bL Z Z hr) (fun h58=>?_) (fun h58=>?_)
     ·refine zm bT Z (zo Z (zo Z (zo Z (zo Z (zT bT Z (zm bT Z (zo Z (zo Z (zo Z (zo Z ?_))))))))))
      refine zo Z (zo Z (zT bT Z (cS (aE Z (cT (zg Z (bW Z (Aj (cs:=(kC k A n c)) Ct (H27.ob (i:=2) Z).cl)) (bE (vs:=(kC k A n c)) (cs':=(kC k A n c)) sizeOf24 (H27.ob (i:=0) Z) Z Z Z Z Z Z ?_)))))))
      intro w59 hz60 g61 o62
      have H63:Sp [Aa b18 24 (kC k A n c),Aa b10 33 (rC r A2 n2 c2),Aa b2 24 (kC k A n c),Ai 31 11 A n c (ents k.ents),Bd w S] w59:=H27.setB (i:=0) rfl g61 o62 rfl
      have z65:=g61.size
      refine za (J 140) Z (cS (aB (aR (inB.r (aR (aO (v:=(.tuple #[(.agg ((kC k A n c)).toArray),(J 140)])) (Ch Z (cA Z (Aj (cs:=(kC k A n c)) Ct (H63.ob (i:=0) Z).cl)) (bZ Z)) ?_))))))
      have hmd:(As k r).1 = 140:=made3n (by omega) (by omega) (by first | exact .inl (by omega) | exact .inr (.inl (by omega)) | exact .inr (.inr (by assumption)))
      exact ⟨k,_,_,_,by rw [hmd] <;> rfl,(H63.optN (p:=(As k r).1 = 0) (A:=Ai 31 11 A n c (ents (As k r).2.ents)) (by omega)).sel [0,5] (by decide) Z,fun h0=>absurd h0 (by omega)⟩
     ·refine zm bF Z (zg Z (fa33_2 (b:=⟨b10,2,none⟩) Z Z) (zl (J r.from_) Bw (H27.ob (i:=1) Z) Z (zm (J (Dm k)) Z ?_)))
      refine zc (((Dm k):Int) < (r.from_:Int)) Z (fun r hr=>bN Z Z hr) (fun h66=>?_) (fun h66=>?_)
      ·refine zF bT Z (zm bT Z (zo Z (zo Z (zo Z (zo Z (zo Z (zo Z (zT bT Z (cS (aE Z (cT (zg Z (bW Z (Aj (cs:=(kC k A n c)) Ct (H27.ob (i:=2) Z).cl)) ?_))))))))))))
       refine bE (vs:=(kC k A n c)) (cs':=(kC k A n c)) sizeOf24 (H27.ob (i:=0) Z) Z Z Z Z Z Z ?_
       intro w67 hz68 g69 o70
       have H71:Sp [Aa b18 24 (kC k A n c),Aa b10 33 (rC r A2 n2 c2),Aa b2 24 (kC k A n c),Ai 31 11 A n c (ents k.ents),Bd w S] w67:=H27.setB (i:=0) rfl g69 o70 rfl
       have z72:=g69.size
       refine za (J 140) Z (cS (aB (aR (inB.r (aR (aO (v:=(.tuple #[(.agg ((kC k A n c)).toArray),(J 140)])) (Ch Z (cA Z (Aj (cs:=(kC k A n c)) Ct (H71.ob (i:=0) Z).cl)) (bZ Z)) ?_))))))
       have hmd:(As k r).1 = 140:=made3n (by omega) (by omega) (by first | exact .inl (by omega) | exact .inr (.inl (by omega)) | exact .inr (.inr (by assumption)))
       exact ⟨k,_,_,_,by rw [hmd] <;> rfl,(H71.optN (p:=(As k r).1 = 0) (A:=Ai 31 11 A n c (ents (As k r).2.ents)) (by omega)).sel [0,5] (by decide) Z,fun h0=>absurd h0 (by omega)⟩
      ·refine zF bF Z (zm bF Z (zg Z (fa33_6 (b:=⟨b10,16,none⟩) Z Z) (zl (.slice A2 n2 c2) lo22 (H27.ob (i:=1) Z) Z (zg Z (fa33_2 (b:=⟨b10,2,none⟩) Z Z) (zl (J r.from_) Bw (H27.ob (i:=1) Z) Z (aU call126 (follR_ _ _ r.ents A2 n2 c2 r.from_ ((hr2.st (H27.chg (i:=4) Z)).rd) (by omega) (by first | rfl | assumption | omega) (by omega)) Z Z Z ?_))))))
       rintro _ w73 ⟨rfl,g74⟩
       have H75:=H27.grow g74
       have z76:=g74.size
       rcases hb77:(follB r.ents r.from_) with _ | _
       ·refine zg Z (bC (b:=false) Z) (zF bT Z (cS (aE Z (cT (zg Z (bW Z (Aj (cs:=(kC k A n c)) Ct (H75.ob (i:=2) Z).cl)) (bE (vs:=(kC k A n c)) (cs':=(kC k A n c)) sizeOf24 (H75.ob (i:=0) Z) Z Z Z Z Z Z ?_))))))
        intro w78 hz79 g80 o81
        have H82:Sp [Aa b18 24 (kC k A n c),Aa b10 33 (rC r A2 n2 c2),Aa b2 24 (kC k A n c),Ai 31 11 A n c (ents k.ents),Bd w S] w78:=H75.setB (i:=0) rfl g80 o81 rfl
        have z83:=g80.size
        refine za (J 140) Z (cS (aB (aR (inB.r (aR (aO (v:=(.tuple #[(.agg ((kC k A n c)).toArray),(J 140)])) (Ch Z (cA Z (Aj (cs:=(kC k A n c)) Ct (H82.ob (i:=0) Z).cl)) (bZ Z)) ?_))))))
        have hmd:(As k r).1 = 140:=made3n (by omega) (by omega) (by first | exact .inl (by omega) | exact .inr (.inl (by omega)) | exact .inr (.inr (by assumption)))
        exact ⟨k,_,_,_,by rw [hmd] <;> rfl,(H82.optN (p:=(As k r).1 = 0) (A:=Ai 31 11 A n c (ents (As k r).2.ents)) (by omega)).sel [0,5] (by decide) Z,fun h0=>absurd h0 (by omega)⟩
       ·refine zg Z (bC (b:=true) Z) (zF bF Z (cS (aF Z (aA (aQ (cT (zg Z (fa33_1 (b:=⟨b10,1,none⟩) Z Z) (zl (J r.view) Bw (H75.ob (i:=1) Z) Z (zg Z (fa24_0 (b:=⟨b2,0,none⟩) Z Z) (bE (vs:=[(J r.view)]) (cs':=[(J r.view),(J k.normal),(J k.base),(.string (tx k.image)),(.slice A n c)]) sizeOf3 (H75.ob (i:=2) Z) Z Z Z Z Z Z ?_))))))))))
        intro w84 hz85 g86 o87
        have H88:Sp [Aa b18 24 [(J 0),(J 0),(J 0),(.string (⟨#[]⟩)),(.slice none 0 0)],Aa b10 33 (rC r A2 n2 c2),Aa b2 24 [(J r.view),(J k.normal),(J k.base),(.string (tx k.image)),(.slice A n c)],Ai 31 11 A n c (ents k.ents),Bd w S] w84:=H75.setB (i:=2) rfl g86 o87 rfl
        have z89:=g86.size
        refine cS (cT (zg Z (fa33_1 (b:=⟨b10,1,none⟩) Z Z) (zl (J r.view) Bw (H88.ob (i:=1) Z) Z (zg Z (fa24_1 (b:=⟨b2,1,none⟩) Z Z) (bE (vs:=[(J r.view)]) (cs':=[(J r.view),(J r.view),(J k.base),(.string (tx k.image)),(.slice A n c)]) sizeOf3 (H88.ob (i:=2) Z) Z Z Z Z Z Z ?_)))))
        intro w90 hz91 g92 o93
        have H94:Sp [Aa b18 24 [(J 0),(J 0),(J 0),(.string (⟨#[]⟩)),(.slice none 0 0)],Aa b10 33 (rC r A2 n2 c2),Aa b2 24 [(J r.view),(J r.view),(J k.base),(.string (tx k.image)),(.slice A n c)],Ai 31 11 A n c (ents k.ents),Bd w S] w90:=H88.setB (i:=2) rfl g92 o93 rfl
        have z95:=g92.size
        refine cS ?_
        obtain ⟨j,hj⟩ : ∃ j:Nat,r.from_ - k.base = j:=⟨_,(Int.toNat_of_nonneg (by omega)).symm⟩
        refine CW.mid (fun t=>(Nat.ble 84 t && Nat.ble t 95)) (fun ρ wl => ∃ (A120:Option Addr) (n121:Nat) (c122:Nat),Sp [Ai 31 11 A120 n121 c122 (ents (k.ents.take j ++ r.ents)),Aa b18 24 [(J 0),(J 0),(J 0),(.string (⟨#[]⟩)),(.slice none 0 0)],Aa b10 33 (rC r A2 n2 c2),Aa b2 24 [(J r.view),(J r.view),(J k.base),(.string (tx k.image)),(.slice A120 n121 c122)],Ai 31 11 A n c (ents k.ents),Bd w S] wl) ?_ ?_
        ·refine cN (fun wq=>Sp [Aa b18 24 [(J 0),(J 0),(J 0),(.string (⟨#[]⟩)),(.slice none 0 0)],Aa b10 33 (rC r A2 n2 c2),Ai 31 11 A n c (ents k.ents),Bd w S] wq) Tryz.mixed Z ?_
         intro w135 g136
         have H137:=H94.grow g136
         have z138:=g136.size
         refine zr 0 1 Z (by kernel_rfl) (H137.sel [0,1,3,4] (by decide) Z) (fun wq hq=>Cv (b:=⟨b2,4,none⟩) Z Z) (zr 2 5 Z (by kernel_rfl) (H137.sel [0,1,3,4] (by decide) Z) (fun wq hq=>fa33_2 (b:=⟨b10,2,none⟩) Z Z) (zr 4 21 Z (by kernel_rfl) (H137.sel [0,1,3,4] (by decide) Z) (fun wq hq=>fa24_2 (b:=⟨b2,2,none⟩) Z Z) (zr 8 277 Z (by kernel_rfl) (H137.sel [0,1,3,4] (by decide) Z) (fun wq hq=>fa33_6 (b:=⟨b10,16,none⟩) Z Z) (zr 3 285 Z (by kernel_rfl) (H137.sel [0,1,3,4] (by decide) Z) (fun wq hq=>bW Z (Ax Bw (Ob.cell (v:=(J r.from_)) (hq.ob (i:=1) Z) Z))) (zr 9 797 Z (by kernel_rfl) (H137.sel [0,1,3,4] (by decide) Z) (fun wq hq=>bW Z (Ax lo22 (Ob.cell (v:=(.slice A2 n2 c2)) (hq.ob (i:=1) Z) Z))) ?_)))))
         refine cP (i:=1) (j:=5) (by kernel_rfl) ?_ ?_
         ·refine ⟨_,799,rfl,by kernel_rfl,?_⟩
          refine zl (.slice A n c) lo22 (H137.ob (i:=2) Z) Z (aM ?_)
          refine ⟨(H137.sel [0,1,3,4] (by decide) Z),?_⟩
          refine cO (i:=5) (by kernel_rfl) ?_
          refine ⟨_,831,rfl,by kernel_rfl,?_⟩
          refine zl (J k.base) Bw (H137.ob (i:=2) Z) Z (aM ?_)
          refine ⟨(H137.sel [0,1,3,4] (by decide) Z),?_⟩
          refine zr 6 895 Z (by kernel_rfl) (H137.sel [0,1,3,4] (by decide) Z) (fun wq hq=>bJ (r:=((j:Nat):Int)) Z Z (by rw [Dl (by omega) (by omega)]; exact hj)) (zr 7 1023 Z (by kernel_rfl) (H137.sel [0,1,3,4] (by decide) Z) (fun wq hq=>bU (i:=j) underlying22 sizeOf31 Z Z (by omega) (by omega)) (cO (i:=10) (by kernel_rfl) ?_))
          refine ⟨_,2047,rfl,by kernel_rfl,?_⟩
          have hrt139:Rd w135 w135.heap.size 11 A (ents (k.ents.take j)):=ents_take k.ents j ▸ ((H137.rowrd (i:=3) rfl)).take j
          have hlt:(k.ents.take j).length = j:=by rw [List.length_take]; omega
          refine aU call172 (joined_ _ w135.heap.size (k.ents.take j) r.ents A A2 j c n2 c2 hrt139 hlt.symm (((hr2.st (H137.chg (i:=4) Z)).rd).more (by omega)) (by first | assumption | rfl | omega) (Nat.le_refl _) (by omega) (by omega)) Z Z Z ?_
          rintro _ w143 ⟨A140,n141,c142,rfl,g144⟩
          have g145:=g144.fix (i:=1) rfl
          have H146:Sp [Ai 31 11 A140 n141 c142 (ents (k.ents.take j ++ r.ents)),Aa b18 24 [(J 0),(J 0),(J 0),(.string (⟨#[]⟩)),(.slice none 0 0)],Aa b10 33 (rC r A2 n2 c2),Aa b2 24 [(J r.view),(J r.view),(J k.base),(.string (tx k.image)),(.slice A n c)],Ai 31 11 A n c (ents k.ents),Bd w S] w143:=H137.join (m:=[Ai 31 11 A140 n141 c142 (ents (k.ents.take j ++ r.ents))]) g144
          have z147:=g145.size
          refine aM ?_
          refine ⟨(H146.sel [1,2,4,5] (by decide) Z),?_⟩
          refine zr 11 4095 Z (by kernel_rfl) (H146.sel [1,2,4,5] (by decide) Z) (fun wq hq=>Cv (b:=⟨b2,4,none⟩) Z Z) (cO (i:=12) (by kernel_rfl) ?_)
          refine ⟨_,8191,rfl,by kernel_rfl,?_⟩
          refine bE (vs:=[(.slice A140 n141 c142)]) (cs':=[(J r.view),(J r.view),(J k.base),(.string (tx k.image)),(.slice A140 n141 c142)]) sizeOf22 (H146.ob (i:=3) Z) Z Z Z Z Z Z ?_
          intro w148 hz149 g150 o151
          have H152:Sp [Ai 31 11 A140 n141 c142 (ents (k.ents.take j ++ r.ents)),Aa b18 24 [(J 0),(J 0),(J 0),(.string (⟨#[]⟩)),(.slice none 0 0)],Aa b10 33 (rC r A2 n2 c2),Aa b2 24 [(J r.view),(J r.view),(J k.base),(.string (tx k.image)),(.slice A140 n141 c142)],Ai 31 11 A n c (ents k.ents),Bd w S] w148:=H146.setB (i:=3) rfl g150 o151 rfl
          have z153:=g150.size
          refine aM ?_
          refine ⟨(H152.sel [1,2,4,5] (by decide) Z),?_⟩
          refine cQ (by kernel_rfl) (aQ ?_)
          exact ⟨(by repeat (first | exact aJ _ _ | exact aH _ _ | refine aI ?_ Z _ | refine cR ?_ (by intro t ht; simp only [Bool.or_eq_false_iff,Bool.and_eq_false_iff,ble_f,beq_f] at ht ⊢; omega))),A140,n141,c142,(H152.sel [0,1,2,3,4,5] (by decide) Z)⟩
         ·refine ⟨_,829,rfl,by kernel_rfl,?_⟩
          refine zl (J k.base) Bw (H137.ob (i:=2) Z) Z (aM ?_)
          refine ⟨(H137.sel [0,1,3,4] (by decide) Z),?_⟩
          refine zr 6 893 Z (by kernel_rfl) (H137.sel [0,1,3,4] (by decide) Z) (fun wq hq=>bJ (r:=((j:Nat):Int)) Z Z (by rw [Dl (by omega) (by omega)]; exact hj)) (cO (i:=1) (by kernel_rfl) ?_)
          refine ⟨_,895,rfl,by kernel_rfl,?_⟩
          refine zl (.slice A n c) lo22 (H137.ob (i:=2) Z) Z (aM ?_)
          refine ⟨(H137.sel [0,1,3,4] (by decide) Z),?_⟩
          refine zr 7 1023 Z (by kernel_rfl) (H137.sel [0,1,3,4] (by decide) Z) (fun wq hq=>bU (i:=j) underlying22 sizeOf31 Z Z (by omega) (by omega)) (cO (i:=10) (by kernel_rfl) ?_)
          refine ⟨_,2047,rfl,by kernel_rfl,?_⟩
          have hrt154:Rd w135 w135.heap.size 11 A (ents (k.ents.take j)):=ents_take k.ents j ▸ ((H137.rowrd (i:=3) rfl)).take j
          have hlt:(k.ents.take j).length = j:=by rw [List.length_take]; omega
          refine aU call172 (joined_ _ w135.heap.size (k.ents.take j) r.ents A A2 j c n2 c2 hrt154 hlt.symm (((hr2.st (H137.chg (i:=4) Z)).rd).more (by omega)) (by first | assumption | rfl | omega) (Nat.le_refl _) (by omega) (by omega)) Z Z Z ?_
          rintro _ w158 ⟨A155,n156,c157,rfl,g159⟩
          have g160:=g159.fix (i:=1) rfl
          have H161:Sp [Ai 31 11 A155 n156 c157 (ents (k.ents.take j ++ r.ents)),Aa b18 24 [(J 0),(J 0),(J 0),(.string (⟨#[]⟩)),(.slice none 0 0)],Aa b10 33 (rC r A2 n2 c2),Aa b2 24 [(J r.view),(J r.view),(J k.base),(.string (tx k.image)),(.slice A n c)],Ai 31 11 A n c (ents k.ents),Bd w S] w158:=H137.join (m:=[Ai 31 11 A155 n156 c157 (ents (k.ents.take j ++ r.ents))]) g159
          have z162:=g160.size
          refine aM ?_
          refine ⟨(H161.sel [1,2,4,5] (by decide) Z),?_⟩
          refine zr 11 4095 Z (by kernel_rfl) (H161.sel [1,2,4,5] (by decide) Z) (fun wq hq=>Cv (b:=⟨b2,4,none⟩) Z Z) (cO (i:=12) (by kernel_rfl) ?_)
          refine ⟨_,8191,rfl,by kernel_rfl,?_⟩
          refine bE (vs:=[(.slice A155 n156 c157)]) (cs':=[(J r.view),(J r.view),(J k.base),(.string (tx k.image)),(.slice A155 n156 c157)]) sizeOf22 (H161.ob (i:=3) Z) Z Z Z Z Z Z ?_
          intro w163 hz164 g165 o166
          have H167:Sp [Ai 31 11 A155 n156 c157 (ents (k.ents.take j ++ r.ents)),Aa b18 24 [(J 0),(J 0),(J 0),(.string (⟨#[]⟩)),(.slice none 0 0)],Aa b10 33 (rC r A2 n2 c2),Aa b2 24 [(J r.view),(J r.view),(J k.base),(.string (tx k.image)),(.slice A155 n156 c157)],Ai 31 11 A n c (ents k.ents),Bd w S] w163:=H161.setB (i:=3) rfl g165 o166 rfl
          have z168:=g165.size
          refine aM ?_
          refine ⟨(H167.sel [1,2,4,5] (by decide) Z),?_⟩
          refine cQ (by kernel_rfl) (aQ ?_)
          exact ⟨(by repeat (first | exact aJ _ _ | exact aH _ _ | refine aI ?_ Z _ | refine cR ?_ (by intro t ht; simp only [Bool.or_eq_false_iff,Bool.and_eq_false_iff,ble_f,beq_f] at ht ⊢; omega))),A155,n156,c157,(H167.sel [0,1,2,3,4,5] (by decide) Z)⟩
        ·rintro ρc134 w169 ho170 ⟨A120,n121,c122,H171⟩
         obtain ⟨jc134,rfl⟩:=ho170.shape0
         clear ho170
         have z172:=(H171.chg (i:=5) rfl).size
         refine inB.n (aQ (cT (zg Z (bW Z (Aj (cs:=[(J r.view),(J r.view),(J k.base),(.string (tx k.image)),(.slice A120 n121 c122)]) Ct (H171.ob (i:=3) Z).cl)) (bE (vs:=[(J r.view),(J r.view),(J k.base),(.string (tx k.image)),(.slice A120 n121 c122)]) (cs':=[(J r.view),(J r.view),(J k.base),(.string (tx k.image)),(.slice A120 n121 c122)]) sizeOf24 (H171.ob (i:=1) Z) Z Z Z Z Z Z ?_))))
         intro w173 hz174 g175 o176
         have H177:Sp [Ai 31 11 A120 n121 c122 (ents (k.ents.take j ++ r.ents)),Aa b18 24 [(J r.view),(J r.view),(J k.base),(.string (tx k.image)),(.slice A120 n121 c122)],Aa b10 33 (rC r A2 n2 c2),Aa b2 24 [(J r.view),(J r.view),(J k.base),(.string (tx k.image)),(.slice A120 n121 c122)],Ai 31 11 A n c (ents k.ents),Bd w S] w173:=H171.setB (i:=1) rfl g175 o176 rfl
         have z178:=g175.size
         refine za (J 0) Z (cS (aB (aO (v:=(.tuple #[(.agg ([(J r.view),(J r.view),(J k.base),(.string (tx k.image)),(.slice A120 n121 c122)]).toArray),(J 0)])) (Ch Z (cA Z (Aj (cs:=[(J r.view),(J r.view),(J k.base),(.string (tx k.image)),(.slice A120 n121 c122)]) Ct (H177.ob (i:=1) Z).cl)) (bZ Z)) ?_)))
         have H179:Sp [OptA ((As k r).1 = 0) (Ai 31 11 A120 n121 c122 (ents (k.ents.take j ++ r.ents))),Aa b18 24 [(J r.view),(J r.view),(J k.base),(.string (tx k.image)),(.slice A120 n121 c122)],Aa b10 33 (rC r A2 n2 c2),Aa b2 24 [(J r.view),(J r.view),(J k.base),(.string (tx k.image)),(.slice A120 n121 c122)],Ai 31 11 A n c (ents k.ents),Bd w S] w173:=H177.optI (i:=0) (p:=(As k r).1 = 0) rfl rfl
         have hmd:As k r = (0,({ k with view:=r.view,normal:=r.view,ents:=k.ents.take (r.from_ - k.base).toNat ++ r.ents } : Kept)):=made3 (by omega) (by omega) (by omega) (by omega) (by assumption)
         have hml:(As k r).2.ents = (k.ents.take j ++ r.ents):=by first | (rw [hmd]; done) | (rw [hmd]; dsimp only; rw [hj]; done) | (rw [hmd]; dsimp only; rw [hj,Int.toNat_natCast]; done) | (rw [hmd]; dsimp only; rw [hj,Int.toNat_natCast,List.append_nil]) | (rw [hmd,List.append_nil])
         exact ⟨(As k r).2,_,_,_,by rw [hmd] <;> rfl,by rw [hml]; exact (H179.sel [0,5] (by decide) Z),fun _=>rfl⟩
   ·refine zF bF Z (zm bF Z (zg Z (fa33_0 (b:=⟨b10,0,none⟩) Z Z) (zl (J r.kind) lo26 (H27.ob (i:=1) Z) Z ?_)))
    refine zc ((r.kind:Int) = (5:Int)) Z (fun r hr=>bP Z Z hr) (fun h180=>?_) (fun h180=>?_)
    ·refine zF bT Z (za bT Z (cS (aD (cT (zm bT Z (zm bT Z (zg Z (fa33_1 (b:=⟨b10,1,none⟩) Z Z) (zl (J r.view) Bw (H27.ob (i:=1) Z) Z (zg Z (fa24_0 (b:=⟨b2,0,none⟩) Z Z) (zl (J k.view) Bw (H27.ob (i:=2) Z) Z ?_))))))))))
     refine zc ((r.view:Int) < (k.view:Int)) Z (fun r hr=>bL Z Z hr) (fun h181=>?_) (fun h181=>?_)
     ·refine zT bT Z (cS (aE Z (cT (zg Z (bW Z (Aj (cs:=(kC k A n c)) Ct (H27.ob (i:=2) Z).cl)) (bE (vs:=(kC k A n c)) (cs':=(kC k A n c)) sizeOf24 (H27.ob (i:=0) Z) Z Z Z Z Z Z ?_)))))
      intro w182 hz183 g184 o185
      have H186:Sp [Aa b18 24 (kC k A n c),Aa b10 33 (rC r A2 n2 c2),Aa b2 24 (kC k A n c),Ai 31 11 A n c (ents k.ents),Bd w S] w182:=H27.setB (i:=0) rfl g184 o185 rfl
      have z187:=g184.size
      refine za (J 141) Z (cS (aB (aR (aO (v:=(.tuple #[(.agg ((kC k A n c)).toArray),(J 141)])) (Ch Z (cA Z (Aj (cs:=(kC k A n c)) Ct (H186.ob (i:=0) Z).cl)) (bZ Z)) ?_))))
      have hmd:(As k r).1 = 141:=made1n (by omega) (by omega)
      exact ⟨k,_,_,_,by rw [hmd] <;> rfl,(H186.optN (p:=(As k r).1 = 0) (A:=Ai 31 11 A n c (ents (As k r).2.ents)) (by omega)).sel [0,5] (by decide) Z,fun h0=>absurd h0 (by omega)⟩
     ·refine zT bF Z (cS (aF Z (aA (aQ (aD (cT (zg Z (fa33_0 (b:=⟨b10,0,none⟩) Z Z) (zl (J r.kind) lo26 (H27.ob (i:=1) Z) Z (cS (aG (cT (zg Z (bP (r:=false) Z Z (decide_eq_false (by omega))) (za bF Z (cS (aF Z (cT (zg Z (bP (r:=false) Z Z (decide_eq_false (by omega))) (za bF Z (cS (aF Z (cT ?_)))))))))))))))))))))
      refine zg Z (bP (r:=false) Z Z (decide_eq_false (by omega))) (za bF Z (cS (aF Z (cT (zg Z (bP (r:=false) Z Z (decide_eq_false (by omega))) (za bF Z (cS (aF Z (cT (zg Z (bP (r:=true) Z Z (decide_eq_true (by omega))) (za bT Z (cS (aE Z (aD (cT (zg Z (fa33_3 (b:=⟨b10,3,none⟩) Z Z) (zl (J r.number) Bw (H27.ob (i:=1) Z) Z ?_)))))))))))))))))
      refine zc ((r.number:Int) < (0:Int)) Z (fun r hr=>bL Z Z hr) (fun h188=>?_) (fun h188=>?_)
      ·refine zm bT Z (zo Z (zo Z (zo Z (zT bT Z (zm bT Z (zo Z (zo Z (zo Z (zo Z (zo Z ?_))))))))))
       refine zo Z (zT bT Z (cS (aE Z (cT (zg Z (bW Z (Aj (cs:=(kC k A n c)) Ct (H27.ob (i:=2) Z).cl)) (bE (vs:=(kC k A n c)) (cs':=(kC k A n c)) sizeOf24 (H27.ob (i:=0) Z) Z Z Z Z Z Z ?_))))))
       intro w189 hz190 g191 o192
       have H193:Sp [Aa b18 24 (kC k A n c),Aa b10 33 (rC r A2 n2 c2),Aa b2 24 (kC k A n c),Ai 31 11 A n c (ents k.ents),Bd w S] w189:=H27.setB (i:=0) rfl g191 o192 rfl
       have z194:=g191.size
       refine za (J 140) Z (cS (aB (aR (inB.r (aR (aO (v:=(.tuple #[(.agg ((kC k A n c)).toArray),(J 140)])) (Ch Z (cA Z (Aj (cs:=(kC k A n c)) Ct (H193.ob (i:=0) Z).cl)) (bZ Z)) ?_))))))
       have hmd:(As k r).1 = 140:=made5n (by omega) (by omega) (by first | exact .inl (by omega) | exact .inr (.inl (by omega)) | exact .inr (.inr (by assumption)))
       exact ⟨k,_,_,_,by rw [hmd] <;> rfl,(H193.optN (p:=(As k r).1 = 0) (A:=Ai 31 11 A n c (ents (As k r).2.ents)) (by omega)).sel [0,5] (by decide) Z,fun h0=>absurd h0 (by omega)⟩
      ·refine zm bF Z (zg Z (fa33_3 (b:=⟨b10,3,none⟩) Z Z) (zl (J r.number) Bw (H27.ob (i:=1) Z) Z ?_))
       refine zc ((900000000:Int) < (r.number:Int)) Z (fun r hr=>bN Z Z hr) (fun h195=>?_) (fun h195=>?_)
       ·refine zF bT Z (zm bT Z (zo Z (zo Z (zo Z (zo Z (zo Z (zo Z (zT bT Z (cS (aE Z (cT (zg Z (bW Z (Aj (cs:=(kC k A n c)) Ct (H27.ob (i:=2) Z).cl)) ?_))))))))))))
        refine bE (vs:=(kC k A n c)) (cs':=(kC k A n c)) sizeOf24 (H27.ob (i:=0) Z) Z Z Z Z Z Z ?_
        intro w196 hz197 g198 o199
        have H200:Sp [Aa b18 24 (kC k A n c),Aa b10 33 (rC r A2 n2 c2),Aa b2 24 (kC k A n c),Ai 31 11 A n c (ents k.ents),Bd w S] w196:=H27.setB (i:=0) rfl g198 o199 rfl
        have z201:=g198.size
        refine za (J 140) Z (cS (aB (aR (inB.r (aR (aO (v:=(.tuple #[(.agg ((kC k A n c)).toArray),(J 140)])) (Ch Z (cA Z (Aj (cs:=(kC k A n c)) Ct (H200.ob (i:=0) Z).cl)) (bZ Z)) ?_))))))
        have hmd:(As k r).1 = 140:=made5n (by omega) (by omega) (by first | exact .inl (by omega) | exact .inr (.inl (by omega)) | exact .inr (.inr (by assumption)))
        exact ⟨k,_,_,_,by rw [hmd] <;> rfl,(H200.optN (p:=(As k r).1 = 0) (A:=Ai 31 11 A n c (ents (As k r).2.ents)) (by omega)).sel [0,5] (by decide) Z,fun h0=>absurd h0 (by omega)⟩
       ·refine zF bF Z (zm bF Z (zg Z (fa33_6 (b:=⟨b10,16,none⟩) Z Z) (zl (.slice A2 n2 c2) lo22 (H27.ob (i:=1) Z) Z (zg Z (fa33_3 (b:=⟨b10,3,none⟩) Z Z) (zl (J r.number) Bw (H27.ob (i:=1) Z) Z (aU call126 (follR_ _ _ r.ents A2 n2 c2 r.number ((hr2.st (H27.chg (i:=4) Z)).rd) (by omega) (by first | rfl | assumption | omega) (by omega)) Z Z Z ?_))))))
        rintro _ w202 ⟨rfl,g203⟩
        have H204:=H27.grow g203
        have z205:=g203.size
        rcases hb206:(follB r.ents r.number) with _ | _
        ·refine zg Z (bC (b:=false) Z) (zF bT Z (cS (aE Z (cT (zg Z (bW Z (Aj (cs:=(kC k A n c)) Ct (H204.ob (i:=2) Z).cl)) (bE (vs:=(kC k A n c)) (cs':=(kC k A n c)) sizeOf24 (H204.ob (i:=0) Z) Z Z Z Z Z Z ?_))))))
         intro w207 hz208 g209 o210
         have H211:Sp [Aa b18 24 (kC k A n c),Aa b10 33 (rC r A2 n2 c2),Aa b2 24 (kC k A n c),Ai 31 11 A n c (ents k.ents),Bd w S] w207:=H204.setB (i:=0) rfl g209 o210 rfl
         have z212:=g209.size
         refine za (J 140) Z (cS (aB (aR (inB.r (aR (aO (v:=(.tuple #[(.agg ((kC k A n c)).toArray),(J 140)])) (Ch Z (cA Z (Aj (cs:=(kC k A n c)) Ct (H211.ob (i:=0) Z).cl)) (bZ Z)) ?_))))))
         have hmd:(As k r).1 = 140:=made5n (by omega) (by omega) (by first | exact .inl (by omega) | exact .inr (.inl (by omega)) | exact .inr (.inr (by assumption)))
         exact ⟨k,_,_,_,by rw [hmd] <;> rfl,(H211.optN (p:=(As k r).1 = 0) (A:=Ai 31 11 A n c (ents (As k r).2.ents)) (by omega)).sel [0,5] (by decide) Z,fun h0=>absurd h0 (by omega)⟩
        ·refine zg Z (bC (b:=true) Z) (zF bF Z (cS (aF Z (aA (aQ (aD (cN (fun wq=>Sp [Aa b10 33 (rC r A2 n2 c2),Aa b2 24 (kC k A n c),Ai 31 11 A n c (ents k.ents),Bd w S] wq) Tryz.mixed Z ?_)))))))
         intro w213 g214
         have H215:=H204.grow g214
         have z216:=g214.size
         refine zr 0 1 Z (by kernel_rfl) (H215.sel [1,2,3,4] (by decide) Z) (fun wq hq=>fa33_1 (b:=⟨b10,1,none⟩) Z Z) (zr 2 5 Z (by kernel_rfl) (H215.sel [1,2,3,4] (by decide) Z) (fun wq hq=>fa33_1 (b:=⟨b10,1,none⟩) Z Z) (zr 4 21 Z (by kernel_rfl) (H215.sel [1,2,3,4] (by decide) Z) (fun wq hq=>fa33_3 (b:=⟨b10,3,none⟩) Z Z) (zr 6 85 Z (by kernel_rfl) (H215.sel [1,2,3,4] (by decide) Z) (fun wq hq=>fa33_4 (b:=⟨b10,4,none⟩) Z Z) (zr 8 341 Z (by kernel_rfl) (H215.sel [1,2,3,4] (by decide) Z) (fun wq hq=>fa33_6 (b:=⟨b10,16,none⟩) Z Z) (zr 1 343 Z (by kernel_rfl) (H215.sel [1,2,3,4] (by decide) Z) (fun wq hq=>bW Z (Ax Bw (Ob.cell (v:=(J r.view)) (hq.ob (i:=0) Z) Z))) (zr 3 351 Z (by kernel_rfl) (H215.sel [1,2,3,4] (by decide) Z) (fun wq hq=>bW Z (Ax Bw (Ob.cell (v:=(J r.view)) (hq.ob (i:=0) Z) Z))) ?_))))))
         refine zr 5 383 Z (by kernel_rfl) (H215.sel [1,2,3,4] (by decide) Z) (fun wq hq=>bW Z (Ax Bw (Ob.cell (v:=(J r.number)) (hq.ob (i:=0) Z) Z))) (zr 7 511 Z (by kernel_rfl) (H215.sel [1,2,3,4] (by decide) Z) (fun wq hq=>bW Z (Ax lo9 (Ob.cell (v:=(.string (tx r.image))) (hq.ob (i:=0) Z) Z))) (zr 9 1023 Z (by kernel_rfl) (H215.sel [1,2,3,4] (by decide) Z) (fun wq hq=>bW Z (Ax lo22 (Ob.cell (v:=(.slice A2 n2 c2)) (hq.ob (i:=0) Z) Z))) (cO (i:=10) (by kernel_rfl) ?_)))
         refine ⟨_,2047,rfl,by kernel_rfl,?_⟩
         refine aU call172 (joined_ _ w213.heap.size r.ents ([]) A2 none n2 c2 0 0 (((hr2.st (H215.chg (i:=4) Z)).rd).more (by omega)) (by first | assumption | rfl | omega | (simp only [List.length_take,List.length_drop]; omega)) (Rd.nil_ _ _ 11 none) (by first | assumption | rfl | omega | (simp only [List.length_take,List.length_drop]; omega)) (Nat.le_refl _) (by omega) (by omega)) Z Z Z ?_
         rintro _ w220 ⟨A217,n218,c219,rfl,g221⟩
         have g222:=g221.fix (i:=1) rfl
         have H223:Sp [Ai 31 11 A217 n218 c219 (ents (r.ents ++ [])),Aa b18 24 [(J 0),(J 0),(J 0),(.string (⟨#[]⟩)),(.slice none 0 0)],Aa b10 33 (rC r A2 n2 c2),Aa b2 24 (kC k A n c),Ai 31 11 A n c (ents k.ents),Bd w S] w220:=H215.join (m:=[Ai 31 11 A217 n218 c219 (ents (r.ents ++ []))]) g221
         have z224:=g222.size
         refine aM ?_
         refine ⟨(H223.sel [2,3,4,5] (by decide) Z),?_⟩
         refine zr 11 4095 Z (by kernel_rfl) (H223.sel [2,3,4,5] (by decide) Z) (fun wq hq=>bY (cs:=[(J r.view),(J r.view),(J r.number),(.string (tx r.image)),(.slice A217 n218 c219)]) bd24 Z) (cO (i:=12) (by kernel_rfl) ?_)
         refine ⟨_,8191,rfl,by kernel_rfl,?_⟩
         refine bE (vs:=[(J r.view),(J r.view),(J r.number),(.string (tx r.image)),(.slice A217 n218 c219)]) (cs':=[(J r.view),(J r.view),(J r.number),(.string (tx r.image)),(.slice A217 n218 c219)]) sizeOf24 (H223.ob (i:=1) Z) Z Z Z Z Z Z ?_
         intro w225 hz226 g227 o228
         have H229:Sp [Ai 31 11 A217 n218 c219 (ents (r.ents ++ [])),Aa b18 24 [(J r.view),(J r.view),(J r.number),(.string (tx r.image)),(.slice A217 n218 c219)],Aa b10 33 (rC r A2 n2 c2),Aa b2 24 (kC k A n c),Ai 31 11 A n c (ents k.ents),Bd w S] w225:=H223.setB (i:=1) rfl g227 o228 rfl
         have z230:=g227.size
         refine aM ?_
         refine ⟨(H229.sel [2,3,4,5] (by decide) Z),?_⟩
         refine zr 13 16383 Z (by kernel_rfl) (H229.sel [2,3,4,5] (by decide) Z) (fun wq hq=>aY (v:=(J 0)) Z) (cQ (by kernel_rfl) (aQ (aB (inB.r (aR (aO (v:=(.tuple #[(.agg ([(J r.view),(J r.view),(J r.number),(.string (tx r.image)),(.slice A217 n218 c219)]).toArray),(J 0)])) (Ch Z (cA Z (Aj (cs:=[(J r.view),(J r.view),(J r.number),(.string (tx r.image)),(.slice A217 n218 c219)]) Ct (H229.ob (i:=1) Z).cl)) (bZ Z)) ?_))))))
         have H231:Sp [OptA ((As k r).1 = 0) (Ai 31 11 A217 n218 c219 (ents (r.ents ++ []))),Aa b18 24 [(J r.view),(J r.view),(J r.number),(.string (tx r.image)),(.slice A217 n218 c219)],Aa b10 33 (rC r A2 n2 c2),Aa b2 24 (kC k A n c),Ai 31 11 A n c (ents k.ents),Bd w S] w225:=H229.optI (i:=0) (p:=(As k r).1 = 0) rfl rfl
         have hmd:As k r = (0,(⟨r.view,r.view,r.number,r.image,r.ents⟩:Kept)):=made5 (by omega) (by omega) (by omega) (by omega) (by assumption)
         have hml:(As k r).2.ents = (r.ents ++ []):=by first | (rw [hmd]; done) | (rw [hmd]; dsimp only; rw [hj]; done) | (rw [hmd]; dsimp only; rw [hj,Int.toNat_natCast]; done) | (rw [hmd]; dsimp only; rw [hj,Int.toNat_natCast,List.append_nil]) | (rw [hmd,List.append_nil])
         exact ⟨(As k r).2,_,_,_,by rw [hmd] <;> rfl,by rw [hml]; exact (H231.sel [0,5] (by decide) Z),fun _=>rfl⟩
    ·refine zF bF Z (za bF Z (cS (aD (cT (zm bF Z (zm bF Z (zo Z (zo Z (zo Z (zo Z (zo Z (zF bF Z ?_))))))))))))
     refine cS (aF Z (aA (aQ (aD (cT (zg Z (fa33_0 (b:=⟨b10,0,none⟩) Z Z) (zl (J r.kind) lo26 (H27.ob (i:=1) Z) Z (cS (aG (cT (zg Z (bP (r:=false) Z Z (decide_eq_false (by omega))) (za bF Z (cS (aF Z (cT ?_)))))))))))))))
     refine zc ((r.kind:Int) = (2:Int)) Z (fun r hr=>bP Z Z hr) (fun h232=>?_) (fun h232=>?_)
     ·refine za bT Z (cS (aE Z (aD (cT (zg Z (fa33_5 (b:=⟨b10,5,none⟩) Z Z) (zg Z (fa31_0 (b:=⟨b10,5,none⟩) Z Z) (zl (J r.entry.num) Bw (H27.ob (i:=1) Z) Z (zg Z (bJ (r:=IntKind.i64.wrap (r.entry.num - 1)) Z Z Z) (zm (J (Dm k)) Z ?_)))))))))
      refine zc ((IntKind.i64.wrap (r.entry.num - 1):Int) ≠ ((Dm k):Int)) Z (fun r hr=>bQ Z Z hr) (fun h233=>?_) (fun h233=>?_)
      ·refine cS (aE Z (cT (zg Z (bW Z (Aj (cs:=(kC k A n c)) Ct (H27.ob (i:=2) Z).cl)) (bE (vs:=(kC k A n c)) (cs':=(kC k A n c)) sizeOf24 (H27.ob (i:=0) Z) Z Z Z Z Z Z ?_))))
       intro w234 hz235 g236 o237
       have H238:Sp [Aa b18 24 (kC k A n c),Aa b10 33 (rC r A2 n2 c2),Aa b2 24 (kC k A n c),Ai 31 11 A n c (ents k.ents),Bd w S] w234:=H27.setB (i:=0) rfl g236 o237 rfl
       have z239:=g236.size
       refine za (J 140) Z (cS (aB (aR (inB.r (aR (aO (v:=(.tuple #[(.agg ((kC k A n c)).toArray),(J 140)])) (Ch Z (cA Z (Aj (cs:=(kC k A n c)) Ct (H238.ob (i:=0) Z).cl)) (bZ Z)) ?_))))))
       have hmd:(As k r).1 = 140:=made2n (by omega) (by assumption)
       exact ⟨k,_,_,_,by rw [hmd] <;> rfl,(H238.optN (p:=(As k r).1 = 0) (A:=Ai 31 11 A n c (ents (As k r).2.ents)) (by omega)).sel [0,5] (by decide) Z,fun h0=>absurd h0 (by omega)⟩
      ·refine cS (aF Z (aA (aQ (aL (zg Z (Cv (b:=⟨b2,4,none⟩) Z Z) (zl (.slice A n c) lo22 (H27.ob (i:=2) Z) Z (zg Z (fa33_5 (b:=⟨b10,5,none⟩) Z Z) (zg Z (bW Z (Aj (cs:=[(J r.entry.num),(J r.entry.view),(J r.entry.client),(J r.entry.seq),(J r.entry.op.kind),(J r.entry.op.h),(J r.entry.op.i),(J r.entry.op.n),(J r.entry.op.k),(J r.entry.op.v),(J r.entry.op.t)]) wh31 ((H27.ob (i:=1) Z).sub 5 11))) (cF (cs:=[(J r.entry.num),(J r.entry.view),(J r.entry.client),(J r.entry.seq),(J r.entry.op.kind),(J r.entry.op.h),(J r.entry.op.i),(J r.entry.op.n),(J r.entry.op.k),(J r.entry.op.v),(J r.entry.op.t)]) underlying22 sizeOf31 ze22 Z Z Z (by decide) Z Z Z ?_)))))))))
       intro w240 b241 hb242 hz243 g244 o245
       have H246:=H27.newB g244 o245 (by omega)
       have z247:=g244.size
       have hl248:=H246.len (i:=4) rfl
       rw [Ap] at hl248
       refine aU call172 (joined_ _ w240.heap.size k.ents ([r.entry]) A (some ⟨b241,0,none⟩) n c 1 1 ((H246.rowrd (i:=4) Z).more (Nat.le_refl _)) (by first | assumption | rfl | omega | (simp only [List.length_take,List.length_drop]; omega)) ((Ob.rd1 (H246.ob (i:=0) Z) Z).more (by have:=((H246.ob (i:=0) Z)).lt; omega)) (by first | assumption | rfl | omega | (simp only [List.length_take,List.length_drop]; omega)) (Nat.le_refl _) (by omega) (by omega)) Z Z Z ?_
       rintro _ w252 ⟨A249,n250,c251,rfl,g253⟩
       have g254:=g253.fix (i:=1) rfl
       have H255:Sp [Ai 31 11 A249 n250 c251 (ents (k.ents ++ [r.entry])),Aa b241 31 [(J r.entry.num),(J r.entry.view),(J r.entry.client),(J r.entry.seq),(J r.entry.op.kind),(J r.entry.op.h),(J r.entry.op.i),(J r.entry.op.n),(J r.entry.op.k),(J r.entry.op.v),(J r.entry.op.t)],Aa b18 24 [(J 0),(J 0),(J 0),(.string (⟨#[]⟩)),(.slice none 0 0)],Aa b10 33 (rC r A2 n2 c2),Aa b2 24 (kC k A n c),Ai 31 11 A n c (ents k.ents),Bd w S] w252:=H246.join (m:=[Ai 31 11 A249 n250 c251 (ents (k.ents ++ [r.entry]))]) g253
       have z256:=g254.size
       refine zg Z (Cv (b:=⟨b2,4,none⟩) Z Z) (bE (vs:=[(.slice A249 n250 c251)]) (cs':=[(J k.view),(J k.normal),(J k.base),(.string (tx k.image)),(.slice A249 n250 c251)]) sizeOf22 (H255.ob (i:=4) Z) Z Z Z Z Z Z ?_)
       intro w257 hz258 g259 o260
       have H261:Sp [Ai 31 11 A249 n250 c251 (ents (k.ents ++ [r.entry])),Aa b241 31 [(J r.entry.num),(J r.entry.view),(J r.entry.client),(J r.entry.seq),(J r.entry.op.kind),(J r.entry.op.h),(J r.entry.op.i),(J r.entry.op.n),(J r.entry.op.k),(J r.entry.op.v),(J r.entry.op.t)],Aa b18 24 [(J 0),(J 0),(J 0),(.string (⟨#[]⟩)),(.slice none 0 0)],Aa b10 33 (rC r A2 n2 c2),Aa b2 24 [(J k.view),(J k.normal),(J k.base),(.string (tx k.image)),(.slice A249 n250 c251)],Ai 31 11 A n c (ents k.ents),Bd w S] w257:=H255.setB (i:=4) rfl g259 o260 rfl
       have z262:=g259.size
       refine aM (inB.n (aQ (cT (zg Z (bW Z (Aj (cs:=[(J k.view),(J k.normal),(J k.base),(.string (tx k.image)),(.slice A249 n250 c251)]) Ct (H261.ob (i:=4) Z).cl)) (bE (vs:=[(J k.view),(J k.normal),(J k.base),(.string (tx k.image)),(.slice A249 n250 c251)]) (cs':=[(J k.view),(J k.normal),(J k.base),(.string (tx k.image)),(.slice A249 n250 c251)]) sizeOf24 (H261.ob (i:=2) Z) Z Z Z Z Z Z ?_)))))
       intro w263 hz264 g265 o266
       have H267:Sp [Ai 31 11 A249 n250 c251 (ents (k.ents ++ [r.entry])),Aa b241 31 [(J r.entry.num),(J r.entry.view),(J r.entry.client),(J r.entry.seq),(J r.entry.op.kind),(J r.entry.op.h),(J r.entry.op.i),(J r.entry.op.n),(J r.entry.op.k),(J r.entry.op.v),(J r.entry.op.t)],Aa b18 24 [(J k.view),(J k.normal),(J k.base),(.string (tx k.image)),(.slice A249 n250 c251)],Aa b10 33 (rC r A2 n2 c2),Aa b2 24 [(J k.view),(J k.normal),(J k.base),(.string (tx k.image)),(.slice A249 n250 c251)],Ai 31 11 A n c (ents k.ents),Bd w S] w263:=H261.setB (i:=2) rfl g265 o266 rfl
       have z268:=g265.size
       refine za (J 0) Z (cS (aB (aO (v:=(.tuple #[(.agg ([(J k.view),(J k.normal),(J k.base),(.string (tx k.image)),(.slice A249 n250 c251)]).toArray),(J 0)])) (Ch Z (cA Z (Aj (cs:=[(J k.view),(J k.normal),(J k.base),(.string (tx k.image)),(.slice A249 n250 c251)]) Ct (H267.ob (i:=2) Z).cl)) (bZ Z)) ?_)))
       have H269:Sp [OptA ((As k r).1 = 0) (Ai 31 11 A249 n250 c251 (ents (k.ents ++ [r.entry]))),Aa b241 31 [(J r.entry.num),(J r.entry.view),(J r.entry.client),(J r.entry.seq),(J r.entry.op.kind),(J r.entry.op.h),(J r.entry.op.i),(J r.entry.op.n),(J r.entry.op.k),(J r.entry.op.v),(J r.entry.op.t)],Aa b18 24 [(J k.view),(J k.normal),(J k.base),(.string (tx k.image)),(.slice A249 n250 c251)],Aa b10 33 (rC r A2 n2 c2),Aa b2 24 [(J k.view),(J k.normal),(J k.base),(.string (tx k.image)),(.slice A249 n250 c251)],Ai 31 11 A n c (ents k.ents),Bd w S] w263:=H267.optI (i:=0) (p:=(As k r).1 = 0) rfl rfl
       have hmd:As k r = (0,({ k with ents:=k.ents ++ [r.entry] } : Kept)):=made2 (by omega) (by first | assumption | exact Decidable.not_not.1 (by assumption))
       have hml:(As k r).2.ents = (k.ents ++ [r.entry]):=by first | (rw [hmd]; done) | (rw [hmd]; dsimp only; rw [hj]; done) | (rw [hmd]; dsimp only; rw [hj,Int.toNat_natCast]; done) | (rw [hmd]; dsimp only; rw [hj,Int.toNat_natCast,List.append_nil]) | (rw [hmd,List.append_nil])
       exact ⟨(As k r).2,_,_,_,by rw [hmd] <;> rfl,by rw [hml]; exact (H269.sel [0,6] (by decide) Z),fun _=>rfl⟩
     ·refine za bF Z (cS (aF Z (cT (zg Z (bP (r:=false) Z Z (decide_eq_false (by omega))) (za bF Z (cS (aF Z (cT ?_))))))))
      refine zc ((r.kind:Int) = (4:Int)) Z (fun r hr=>bP Z Z hr) (fun h270=>?_) (fun h270=>?_)
      ·refine za bT Z (cS (aE Z (aD (cT (zg Z (fa33_3 (b:=⟨b10,3,none⟩) Z Z) (zl (J r.number) Bw (H27.ob (i:=1) Z) Z (zg Z (fa24_2 (b:=⟨b2,2,none⟩) Z Z) (zl (J k.base) Bw (H27.ob (i:=2) Z) Z ?_))))))))
       refine zc ((r.number:Int) ≤ (k.base:Int)) Z (fun r hr=>bM Z Z hr) (fun h271=>?_) (fun h271=>?_)
       ·refine zm bT Z (zo Z (zo Z (zo Z (zo Z (zT bT Z (cS (aE Z (cT (zg Z (bW Z (Aj (cs:=(kC k A n c)) Ct (H27.ob (i:=2) Z).cl)) (bE (vs:=(kC k A n c)) (cs':=(kC k A n c)) sizeOf24 (H27.ob (i:=0) Z) Z Z Z Z Z Z ?_))))))))))
        intro w272 hz273 g274 o275
        have H276:Sp [Aa b18 24 (kC k A n c),Aa b10 33 (rC r A2 n2 c2),Aa b2 24 (kC k A n c),Ai 31 11 A n c (ents k.ents),Bd w S] w272:=H27.setB (i:=0) rfl g274 o275 rfl
        have z277:=g274.size
        refine za (J 140) Z (cS (aB (aR (inB.r (aR (aO (v:=(.tuple #[(.agg ((kC k A n c)).toArray),(J 140)])) (Ch Z (cA Z (Aj (cs:=(kC k A n c)) Ct (H276.ob (i:=0) Z).cl)) (bZ Z)) ?_))))))
        have hmd:(As k r).1 = 140:=made4n (by omega) (by omega)
        exact ⟨k,_,_,_,by rw [hmd] <;> rfl,(H276.optN (p:=(As k r).1 = 0) (A:=Ai 31 11 A n c (ents (As k r).2.ents)) (by omega)).sel [0,5] (by decide) Z,fun h0=>absurd h0 (by omega)⟩
       ·refine zm bF Z (zg Z (fa33_3 (b:=⟨b10,3,none⟩) Z Z) (zl (J r.number) Bw (H27.ob (i:=1) Z) Z (zm (J (Dm k)) Z ?_)))
        refine zc (((Dm k):Int) < (r.number:Int)) Z (fun r hr=>bN Z Z hr) (fun h278=>?_) (fun h278=>?_)
        ·refine zF bT Z (cS (aE Z (cT (zg Z (bW Z (Aj (cs:=(kC k A n c)) Ct (H27.ob (i:=2) Z).cl)) (bE (vs:=(kC k A n c)) (cs':=(kC k A n c)) sizeOf24 (H27.ob (i:=0) Z) Z Z Z Z Z Z ?_)))))
         intro w279 hz280 g281 o282
         have H283:Sp [Aa b18 24 (kC k A n c),Aa b10 33 (rC r A2 n2 c2),Aa b2 24 (kC k A n c),Ai 31 11 A n c (ents k.ents),Bd w S] w279:=H27.setB (i:=0) rfl g281 o282 rfl
         have z284:=g281.size
         refine za (J 140) Z (cS (aB (aR (inB.r (aR (aO (v:=(.tuple #[(.agg ((kC k A n c)).toArray),(J 140)])) (Ch Z (cA Z (Aj (cs:=(kC k A n c)) Ct (H283.ob (i:=0) Z).cl)) (bZ Z)) ?_))))))
         have hmd:(As k r).1 = 140:=made4n (by omega) (by omega)
         exact ⟨k,_,_,_,by rw [hmd] <;> rfl,(H283.optN (p:=(As k r).1 = 0) (A:=Ai 31 11 A n c (ents (As k r).2.ents)) (by omega)).sel [0,5] (by decide) Z,fun h0=>absurd h0 (by omega)⟩
        ·refine zF bF Z (cS (aF Z (aA (aQ (cT (zg Z (Cv (b:=⟨b2,4,none⟩) Z Z) (zl (.slice A n c) lo22 (H27.ob (i:=2) Z) Z (zg Z (fa33_3 (b:=⟨b10,3,none⟩) Z Z) (zl (J r.number) Bw (H27.ob (i:=1) Z) Z (zg Z (fa24_2 (b:=⟨b2,2,none⟩) Z Z) (zl (J k.base) Bw (H27.ob (i:=2) Z) Z ?_)))))))))))
         obtain ⟨j,hj⟩ : ∃ j:Nat,r.number - k.base = j:=⟨_,(Int.toNat_of_nonneg (by omega)).symm⟩
         refine zg Z (bJ (r:=((j:Nat):Int)) Z Z (by rw [Dl (by omega) (by omega)]; exact hj)) (RL.slW (i:=j) underlying22 sizeOf31 (H27.wr (i:=3) Z) Z Z (by omega) (by omega) Z Z ?_)
         intro A285 hbk287 r286
         have H288:Sp [Aa b18 24 [(J 0),(J 0),(J 0),(.string (⟨#[]⟩)),(.slice none 0 0)],Aa b10 33 (rC r A2 n2 c2),Aa b2 24 (kC k A n c),Ai 31 11 A285 (n - j) (c - j) (ents ((k.ents).drop j)),Bd w S] w25:=H27.setR (i:=3) rfl (Bs _ _) ((ents_drop _ _) ▸ r286) (fun g hg=>.inl (by rw [← hbk287]; exact hg)) rfl
         have hl289:=H288.len (i:=3) rfl
         rw [Ap] at hl289
         refine aU call172 (joined_ _ w25.heap.size ((k.ents).drop j) ([]) A285 none (n - j) (c - j) 0 0 ((H288.rowrd (i:=3) Z).more (Nat.le_refl _)) (by first | assumption | rfl | omega | (simp only [List.length_take,List.length_drop]; omega)) (Rd.nil_ _ _ 11 none) (by first | assumption | rfl | omega | (simp only [List.length_take,List.length_drop]; omega)) (Nat.le_refl _) (by omega) (by omega)) Z Z Z ?_
         rintro _ w293 ⟨A290,n291,c292,rfl,g294⟩
         have g295:=g294.fix (i:=1) rfl
         have H296:Sp [Ai 31 11 A290 n291 c292 (ents ((k.ents).drop j ++ [])),Aa b18 24 [(J 0),(J 0),(J 0),(.string (⟨#[]⟩)),(.slice none 0 0)],Aa b10 33 (rC r A2 n2 c2),Aa b2 24 (kC k A n c),Ai 31 11 A285 (n - j) (c - j) (ents ((k.ents).drop j)),Bd w S] w293:=H288.join (m:=[Ai 31 11 A290 n291 c292 (ents ((k.ents).drop j ++ []))]) g294
         have z297:=g295.size
         refine zg Z (Cv (b:=⟨b2,4,none⟩) Z Z) (bE (vs:=[(.slice A290 n291 c292)]) (cs':=[(J k.view),(J k.normal),(J k.base),(.string (tx k.image)),(.slice A290 n291 c292)]) sizeOf22 (H296.ob (i:=3) Z) Z Z Z Z Z Z ?_)
         intro w298 hz299 g300 o301
         have H302:Sp [Ai 31 11 A290 n291 c292 (ents ((k.ents).drop j ++ [])),Aa b18 24 [(J 0),(J 0),(J 0),(.string (⟨#[]⟩)),(.slice none 0 0)],Aa b10 33 (rC r A2 n2 c2),Aa b2 24 [(J k.view),(J k.normal),(J k.base),(.string (tx k.image)),(.slice A290 n291 c292)],Ai 31 11 A285 (n - j) (c - j) (ents ((k.ents).drop j)),Bd w S] w298:=H296.setB (i:=3) rfl g300 o301 rfl
         have z303:=g300.size
         refine cS (cT (zg Z (fa33_3 (b:=⟨b10,3,none⟩) Z Z) (zl (J r.number) Bw (H302.ob (i:=2) Z) Z (zg Z (fa24_2 (b:=⟨b2,2,none⟩) Z Z) (bE (vs:=[(J r.number)]) (cs':=[(J k.view),(J k.normal),(J r.number),(.string (tx k.image)),(.slice A290 n291 c292)]) sizeOf3 (H302.ob (i:=3) Z) Z Z Z Z Z Z ?_)))))
         intro w304 hz305 g306 o307
         have H308:Sp [Ai 31 11 A290 n291 c292 (ents ((k.ents).drop j ++ [])),Aa b18 24 [(J 0),(J 0),(J 0),(.string (⟨#[]⟩)),(.slice none 0 0)],Aa b10 33 (rC r A2 n2 c2),Aa b2 24 [(J k.view),(J k.normal),(J r.number),(.string (tx k.image)),(.slice A290 n291 c292)],Ai 31 11 A285 (n - j) (c - j) (ents ((k.ents).drop j)),Bd w S] w304:=H302.setB (i:=3) rfl g306 o307 rfl
         have z309:=g306.size
         refine cS (aL (zg Z (fa33_4 (b:=⟨b10,4,none⟩) Z Z) (zl (.string (tx r.image)) lo9 (H308.ob (i:=2) Z) Z (zg Z (fa24_3 (b:=⟨b2,3,none⟩) Z Z) (bE (vs:=[(.string (tx r.image))]) (cs':=[(J k.view),(J k.normal),(J r.number),(.string (tx r.image)),(.slice A290 n291 c292)]) sizeOf9 (H308.ob (i:=3) Z) Z Z Z Z Z Z ?_)))))
         intro w310 hz311 g312 o313
         have H314:Sp [Ai 31 11 A290 n291 c292 (ents ((k.ents).drop j ++ [])),Aa b18 24 [(J 0),(J 0),(J 0),(.string (⟨#[]⟩)),(.slice none 0 0)],Aa b10 33 (rC r A2 n2 c2),Aa b2 24 [(J k.view),(J k.normal),(J r.number),(.string (tx r.image)),(.slice A290 n291 c292)],Ai 31 11 A285 (n - j) (c - j) (ents ((k.ents).drop j)),Bd w S] w310:=H308.setB (i:=3) rfl g312 o313 rfl
         have z315:=g312.size
         refine aM (inB.n (aQ (cT (zg Z (bW Z (Aj (cs:=[(J k.view),(J k.normal),(J r.number),(.string (tx r.image)),(.slice A290 n291 c292)]) Ct (H314.ob (i:=3) Z).cl)) (bE (vs:=[(J k.view),(J k.normal),(J r.number),(.string (tx r.image)),(.slice A290 n291 c292)]) (cs':=[(J k.view),(J k.normal),(J r.number),(.string (tx r.image)),(.slice A290 n291 c292)]) sizeOf24 (H314.ob (i:=1) Z) Z Z Z Z Z Z ?_)))))
         intro w316 hz317 g318 o319
         have H320:Sp [Ai 31 11 A290 n291 c292 (ents ((k.ents).drop j ++ [])),Aa b18 24 [(J k.view),(J k.normal),(J r.number),(.string (tx r.image)),(.slice A290 n291 c292)],Aa b10 33 (rC r A2 n2 c2),Aa b2 24 [(J k.view),(J k.normal),(J r.number),(.string (tx r.image)),(.slice A290 n291 c292)],Ai 31 11 A285 (n - j) (c - j) (ents ((k.ents).drop j)),Bd w S] w316:=H314.setB (i:=1) rfl g318 o319 rfl
         have z321:=g318.size
         refine za (J 0) Z (cS (aB (aO (v:=(.tuple #[(.agg ([(J k.view),(J k.normal),(J r.number),(.string (tx r.image)),(.slice A290 n291 c292)]).toArray),(J 0)])) (Ch Z (cA Z (Aj (cs:=[(J k.view),(J k.normal),(J r.number),(.string (tx r.image)),(.slice A290 n291 c292)]) Ct (H320.ob (i:=1) Z).cl)) (bZ Z)) ?_)))
         have H322:Sp [OptA ((As k r).1 = 0) (Ai 31 11 A290 n291 c292 (ents ((k.ents).drop j ++ []))),Aa b18 24 [(J k.view),(J k.normal),(J r.number),(.string (tx r.image)),(.slice A290 n291 c292)],Aa b10 33 (rC r A2 n2 c2),Aa b2 24 [(J k.view),(J k.normal),(J r.number),(.string (tx r.image)),(.slice A290 n291 c292)],Ai 31 11 A285 (n - j) (c - j) (ents ((k.ents).drop j)),Bd w S] w316:=H320.optI (i:=0) (p:=(As k r).1 = 0) rfl rfl
         have hmd:As k r = (0,({ k with ents:=k.ents.drop (r.number - k.base).toNat,base:=r.number,image:=r.image } : Kept)):=made4 (by omega) (by omega) (by omega)
         have hml:(As k r).2.ents = ((k.ents).drop j ++ []):=by first | (rw [hmd]; done) | (rw [hmd]; dsimp only; rw [hj]; done) | (rw [hmd]; dsimp only; rw [hj,Int.toNat_natCast]; done) | (rw [hmd]; dsimp only; rw [hj,Int.toNat_natCast,List.append_nil]) | (rw [hmd,List.append_nil])
         exact ⟨(As k r).2,_,_,_,by rw [hmd] <;> rfl,by rw [hml]; exact (H322.sel [0,5] (by decide) Z),fun _=>rfl⟩
      ·refine za bF Z (cS (aF Z (cT (zg Z (bP (r:=false) Z Z (decide_eq_false (by omega))) (za bF Z (cS (aF Z (cT (zg Z (bW Z (Aj (cs:=(kC k A n c)) Ct (H27.ob (i:=2) Z).cl)) (bE (vs:=(kC k A n c)) (cs':=(kC k A n c)) sizeOf24 (H27.ob (i:=0) Z) Z Z Z Z Z Z ?_))))))))))
       intro w323 hz324 g325 o326
       have H327:Sp [Aa b18 24 (kC k A n c),Aa b10 33 (rC r A2 n2 c2),Aa b2 24 (kC k A n c),Ai 31 11 A n c (ents k.ents),Bd w S] w323:=H27.setB (i:=0) rfl g325 o326 rfl
       have z328:=g325.size
       refine za (J 141) Z (cS (aB (inB.r (aR (aO (v:=(.tuple #[(.agg ((kC k A n c)).toArray),(J 141)])) (Ch Z (cA Z (Aj (cs:=(kC k A n c)) Ct (H327.ob (i:=0) Z).cl)) (bZ Z)) ?_)))))
       have hmd:(As k r).1 = 141:=made0 (by omega) (by omega) (by omega) (by omega) (by omega)
       exact ⟨k,_,_,_,by rw [hmd] <;> rfl,(H327.optN (p:=(As k r).1 = 0) (A:=Ai 31 11 A n c (ents (As k r).2.ents)) (by omega)).sel [0,5] (by decide) Z,fun h0=>absurd h0 (by omega)⟩
end Go.Proofs.YtfokljnhllflbaaGreat
