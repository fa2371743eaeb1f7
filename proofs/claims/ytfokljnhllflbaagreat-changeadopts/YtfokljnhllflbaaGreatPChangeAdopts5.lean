/- Part 6 of the proof of ChangeAdopts: R5, Spec26, R6, Spec17, Spec27, EngClr, EngStW, R7, R8. -/
import Derived.Deep.Quiet
import Derived.Ground.NamesProg
import Derived.Ground.SlgcProg
import Derived.Ground.SlsfProg
import Derived.JoinedOf
import Derived.Laws.BytesString
import Derived.Laws.MakeOwn
import Derived.Laws.Strings
import Derived.Lib.AppendZeros
import Derived.Lib.ConvBytes
import Derived.Lib.Overlaps
import Derived.Maps.AppendAt
import Derived.OrdersHeld
import Derived.ProofKit
import Derived.Recover
import Derived.ScopeJumps
import Derived.Shelf.SlSortCmp.NoneTotal
import Derived.Shelf.SlSortCmp.WholeK
import Derived.Shelf.SlicesG.Cmp
import Derived.Shelf.Small.Bits
import Derived.Sort.OwnSortedInts
import Derived.StillTail
import Derived.Test.YtfokljnhllflbaaGreatProg
import Derived.WalkKit
import Derived.WalkLawsBesides
import Derived.WalkSpells
import Derived.Test.YtfokljnhllflbaaGreatPChangeAdopts4
set_option linter.unusedSimpArgs false
set_option linter.unusedVariables false
namespace Go.Proofs.YtfokljnhllflbaaGreat
open Go Go.Eng Go.RowKit
set_option maxHeartbeats 1000000 in
set_option maxRecDepth 20000 in
theorem rdTxt_ (w : World) (B : Nat) (bs : List UInt8) (A : Option Addr) (n c : Nat) (hr : Rd w B 1 A (Cz bs)) (hn : n = bs.length) (hc : n ≤ c) (hm : n ≤ 140737488351232) : Ret Tryz.prog 185 [(.slice A n c)] w (fun v w' => (∃ (t : List UInt8) (k : Nat), v = .tuple #[.string (tx t), .int .i64 (k : Int), .int .i64 0] ∧ w.grownBy w' none ∧ rdT bs = some (t, bs.drop k) ∧ k ≤ n ∧ t.length ≤ 65536) ∨ (∃ e : Int, v = .tuple #[.string (tx []), .int .i64 0, .int .i64 e] ∧ w.grownBy w' none ∧ rdT bs = none ∧ e ≠ 0)) := by
  have H0 : Sp [Bd w Bl] w := Bn w
  refine Ret.body Tryz.func185 rfl rfl rfl ?_
  refine CW.seq (CW.region (za (.string (⟨#[]⟩)) rfl (za (J 0) rfl (za (J 0) rfl (RL.nil (thn.n (CW.seq (CW.region (zm (.slice A n c) rfl (RL.call Tryz.call244 (rdNum_ _ _ bs A n c hr (by first | assumption | omega) (by omega)) rfl rfl rfl ?_))))))))))
  rintro _ w8 (⟨x1, rfl, g9, hrn3, hge4, hle5⟩ | ⟨e2, rfl, g10, hrn6, hne7⟩)
  ·skip
   have H11 := H0.grow g9
   have z12 := g9.size
   refine zm (.tuple #[(J (x1 : Int)), (J 4), (J 0)]) rfl (zx (J (x1 : Int)) rfl (zx (J 4) rfl (zx (J 0) rfl (za (J (x1 : Int)) rfl (za (J 4) rfl (za (J 0) rfl (RL.nil (thn.n (CW.seq (CW.seq (CW.region (zm (J 0) rfl (zg rfl (Cm (r := false) rfl rfl (by decide)) (RL.nil (thn.n (Ag rfl (CW.skip (thn.n (CW.seq (CW.seq (CW.region ?_)))))))))))))))))))))
   refine zm (J (x1 : Int)) rfl ?_
   refine zc ((65536 : Int) < ((x1 : Int) : Int)) rfl (fun r hr => Df rfl rfl hr) (fun h13 => ?_) (fun h13 => ?_)
   ·skip
    refine RL.nil (thn.n (Ab rfl (CW.seq (CW.region (za (.string (⟨#[]⟩)) rfl (za (J 0) rfl (za (J 11) rfl (RL.nil (thn.n (CW.ret (thn.r (finQ.r (v := (.tuple #[(.string (⟨#[]⟩)), (J 0), (J 11)])) (res3 rfl rfl rfl rfl) ?_))))))))))))
    exact .inr ⟨_, rfl, (H11.fix (i := 0) rfl), by first | exact rdT_no2 hrn3 (by omega) | exact rdT_no3 hrn3 (by omega) (by omega), by decide⟩
   ·skip
    refine RL.nil (thn.n (Ag rfl (CW.skip (thn.n (CW.seq (CW.seq (CW.region (zm (.slice A n c) rfl (zg rfl (Ex.len Tryz.underlying97 rfl) (zm (J 4) rfl (zg rfl (Ci (r := (n : Nat) - 4) rfl rfl (Dd (by omega) (by omega))) (zm (J (x1 : Int)) rfl ?_))))))))))))
    refine zc (((n : Nat) - 4 : Int) < ((x1 : Int) : Int)) rfl (fun r hr => Ex.lt rfl rfl hr) (fun h14 => ?_) (fun h14 => ?_)
    ·skip
     refine RL.nil (thn.n (Ab rfl (CW.seq (CW.region (za (.string (⟨#[]⟩)) rfl (za (J 0) rfl (za (J 10) rfl (RL.nil (thn.n (CW.ret (thn.r (finQ.r (v := (.tuple #[(.string (⟨#[]⟩)), (J 0), (J 10)])) (res3 rfl rfl rfl rfl) ?_))))))))))))
     exact .inr ⟨_, rfl, (H11.fix (i := 0) rfl), by first | exact rdT_no2 hrn3 (by omega) | exact rdT_no3 hrn3 (by omega) (by omega), by decide⟩
    ·skip
     refine RL.nil (thn.n (Ag rfl (CW.skip (thn.n (CW.seq (CW.region (zm (.slice A n c) rfl (zm (J 4) rfl (zm (J 4) rfl (zm (J (x1 : Int)) rfl (zg rfl (Ex.add (r := 4 + (x1 : Int)) rfl rfl (Dd (by omega) (by omega))) ?_)))))))))))
     have hl4 : (bs.drop 4).length = bs.length - 4 := List.length_drop
     have hr4 := (RB.drop (k := 4) ⟨hr, hn, hc, hm⟩ (by omega)).1
     refine zg rfl (Ex.slLH (i := 4) (j := 4 + x1) (v := .slice (dropA A c 4 1) x1 (c - 4)) Tryz.underlying97 Tryz.sizeOf5 rfl rfl rfl (by omega) (by omega) (by omega) (by omega) (by rw [Nat.add_sub_cancel_left]; rfl)) (zg rfl (Ex.b2s (bs := (bs.drop 4)) Tryz.underlying97 Tryz.underlying5 Tryz.underlying9 rfl (hr4.st0 (H11.fix (i := 0) rfl)) (by omega)) (zm (J 4) rfl (zm (J (x1 : Int)) rfl (zg rfl (Ex.add (r := 4 + (x1 : Int)) rfl rfl (Dd (by omega) (by omega))) (za (.string (tx (((bs.drop 4)).take x1))) rfl (za (J (4 + (x1 : Int))) rfl (za (J 0) rfl (RL.nil (thn.n (CW.ret (finQ.r (v := (.tuple #[(.string (tx (((bs.drop 4)).take x1))), (J (4 + (x1 : Int))), (J 0)])) (res3 rfl rfl rfl rfl) ?_)))))))))))
     exact .inl ⟨(bs.drop 4).take x1, 4 + x1, rfl, (H11.fix (i := 0) rfl), rdT_ok hrn3 (by omega) (by omega), by omega, by rw [List.length_take]; omega⟩
  ·skip
   have H15 := H0.grow g10
   have z16 := g10.size
   refine zm (.tuple #[(J 0), (J 0), (J e2)]) rfl (zx (J 0) rfl (zx (J 0) rfl (zx (J e2) rfl (za (J 0) rfl (za (J 0) rfl (za (J e2) rfl (RL.nil (thn.n (CW.seq (CW.seq (CW.region (zm (J e2) rfl (zg rfl (Cm (r := true) rfl rfl (decide_eq_true (by omega))) (RL.nil (thn.n (Ab rfl (CW.seq (CW.region ?_))))))))))))))))))
   refine zm (J e2) rfl (za (.string (⟨#[]⟩)) rfl (za (J 0) rfl (za (J e2) rfl (RL.nil (thn.n (CW.ret (thn.r (finQ.r (v := (.tuple #[(.string (⟨#[]⟩)), (J 0), (J e2)])) (res3 rfl rfl rfl rfl) ?_))))))))
   exact .inr ⟨_, rfl, (H15.fix (i := 0) rfl), rdT_no1 hrn6, by first | assumption | decide⟩
set_option maxHeartbeats 4000000 in
set_option maxRecDepth 20000 in
theorem getHeapR_ (w : World) (B : Nat) (bs : List UInt8) (A : Option Addr) (n c : Nat) (hr : RB w B A n c bs) (hB : B ≤ w.heap.size) : Ret Tryz.prog 186 [(.slice A n c)] w (fun v w' => (∃ (rh : RHeap) (ros : List RObj) (hh : Eng.Heap), v = .tuple #[.agg rh.cells.toArray, .int .i64 0] ∧ Sp ([HpW rh ros hh] ++ [Bd w Bl]) w' ∧ getHeap bs = some hh ∧ Cw hh = true) ∨ (v = .tuple #[.agg zHeap.toArray, .int .i64 60] ∧ w.grownBy w' none ∧ getHeap bs = none)) := by
  have H0 : Sp [Bd w Bl] w := Bn w
  refine Ret.body Tryz.func186 rfl rfl rfl ?_
  refine CW.seq (CW.region (RL.al (cs := zHeap) Tryz.zeroValue47 rfl rfl rfl ?_))
  intro w1 b2 hb3 hz4 g5 o6
  have H7 := H0.newB g5 o6 (by omega)
  have z8 := g5.size
  refine za (J 0) rfl (RL.nil (thn.n (CW.seq (CW.region (zm (.slice A n c) rfl (zg rfl (Cc (cs := [(.slice A n c), bF]) bd213 rfl) (RL.bx (cs := [(.slice A n c), bF]) rfl rfl rfl ?_)))))))
  intro w9 b10 hb11 hz12 g13 o14
  have H15 := H7.newB g13 o14 (by omega)
  have z16 := g13.size
  refine za (.pointer (some ⟨b10, 0, none⟩)) rfl (RL.nil (thn.n (CW.seq (CW.region (zg rfl (Cc (cs := zHeap) bd47 rfl) (RL.al (cs := zHeap) Tryz.zeroValue47 rfl rfl rfl ?_))))))
  intro w17 b18 hb19 hz20 g21 o22
  have H23 := H15.newB g21 o22 (by omega)
  have z24 := g21.size
  refine RL.st (vs := zHeap) (cs' := zHeap) Tryz.sizeOf47 (H23.ob (i := 0) rfl) rfl rfl rfl rfl rfl rfl ?_
  intro w25 hz26 g27 o28
  have H29 : Sp [Af b18 47 zHeap, Af b10 213 [(.slice A n c), bF], Af b2 47 zHeap, Bd w Bl] w25 := H23.setB (i := 0) rfl g27 o28 rfl
  have z30 := g27.size
  refine RL.nil (thn.n (CW.seq (CW.region (zm (.pointer (some ⟨b10, 0, none⟩)) rfl ?_))))
  obtain ⟨S41, hS42, hO43, K44⟩ := Sp.takeL (l1 := [Af b10 213 [(.slice A n c), bF]]) (l2 := [Af b18 47 zHeap, Af b2 47 zHeap, Bd w Bl]) (w := w25) (H29.sel [1, 0, 2, 3] (by decide) rfl)
  refine RL.call Tryz.call187 (rnum_ _ S41 b10 A n c bs false hS42 ⟨(Dh hO43 (j := 2) rfl hr.1 (by omega)), hr.2⟩) rfl rfl rfl ?_
  rintro _ w45 ⟨x31, A32, n33, c34, bs35, bq36, rfl, g46, hnum37, hind38, hxle39⟩
  have H47 : Sp [Af b10 213 [.slice A32 n33 c34, .bool bq36], Af b18 47 zHeap, Af b2 47 zHeap, Bd w Bl] w45 := K44 _ _ g46
  have z48 := (H47.fix (i := 3) rfl).size
  have hq40 := hind38.r _ _ hr
  refine zg rfl (fa47_0 (b := ⟨b18, 0, none⟩) rfl rfl) (RL.st (vs := [(J (x31 : Int))]) (cs' := [(J (x31 : Int)), (.slice none 0 0), (J 0), (J 0), (J 0), (J 0), (J 0), (.slice none 0 0)]) Tryz.sizeOf3 (H47.ob (i := 1) rfl) rfl rfl rfl rfl rfl rfl ?_)
  intro w49 hz50 g51 o52
  have H53 : Sp [Af b10 213 [.slice A32 n33 c34, .bool bq36], Af b18 47 [(J (x31 : Int)), (.slice none 0 0), (J 0), (J 0), (J 0), (J 0), (J 0), (.slice none 0 0)], Af b2 47 zHeap, Bd w Bl] w49 := H47.setB (i := 1) rfl g51 o52 rfl
  have z54 := g51.size
  refine RL.nil (thn.n (CW.seq (CW.region (zm (.pointer (some ⟨b10, 0, none⟩)) rfl ?_))))
  obtain ⟨S66, hS67, hO68, K69⟩ := H53.takeN 1
  refine RL.call Tryz.call187 (rnum_ _ S66 b10 A32 n33 c34 bs35 bq36 hS67 ⟨(Dh hO68 (j := 2) rfl hq40.1 (by omega)), hq40.2⟩) rfl rfl rfl ?_
  rintro _ w70 ⟨x55, A56, n57, c58, bs59, bq60, rfl, g71, hnum61, hind62, hxle63⟩
  have H72 : Sp [Af b10 213 [.slice A56 n57 c58, .bool bq60], Af b18 47 [(J (x31 : Int)), (.slice none 0 0), (J 0), (J 0), (J 0), (J 0), (J 0), (.slice none 0 0)], Af b2 47 zHeap, Bd w Bl] w70 := K69 _ _ g71
  have z73 := (H72.fix (i := 3) rfl).size
  have hq65 := hind62.r _ _ hq40
  refine zg rfl (fa47_2 (b := ⟨b18, 2, none⟩) rfl rfl) (RL.st (vs := [(J (x55 : Int))]) (cs' := [(J (x31 : Int)), (.slice none 0 0), (J (x55 : Int)), (J 0), (J 0), (J 0), (J 0), (.slice none 0 0)]) Tryz.sizeOf3 (H72.ob (i := 1) rfl) rfl rfl rfl rfl rfl rfl ?_)
  intro w74 hz75 g76 o77
  have H78 : Sp [Af b10 213 [.slice A56 n57 c58, .bool bq60], Af b18 47 [(J (x31 : Int)), (.slice none 0 0), (J (x55 : Int)), (J 0), (J 0), (J 0), (J 0), (.slice none 0 0)], Af b2 47 zHeap, Bd w Bl] w74 := H72.setB (i := 1) rfl g76 o77 rfl
  have z79 := g76.size
  refine RL.nil (thn.n (CW.seq (CW.seq (CW.region (za (J 0) rfl (RL.nil (thn.n (CW.block (CW.unroll (Cg (CW.seq (CW.seq (CW.region (zm (J 0) rfl (zg rfl (Ex.lt (r := true) rfl rfl (by decide)) (RL.nil (thn.n (Ab rfl (CW.skip (thn.n (CW.seq (CW.block (CW.region (zm (J 0) rfl ?_))))))))))))))))))))))))
  refine zm (.pointer (some ⟨b10, 0, none⟩)) rfl ?_
  obtain ⟨S90, hS91, hO92, K93⟩ := H78.takeN 1
  refine RL.call Tryz.call187 (rnum_ _ S90 b10 A56 n57 c58 bs59 bq60 hS91 ⟨(Dh hO92 (j := 2) rfl hq65.1 (by omega)), hq65.2⟩) rfl rfl rfl ?_
  rintro _ w94 ⟨x80, A81, n82, c83, bs84, bq85, rfl, g95, hnum86, hind87, hxle88⟩
  have H96 : Sp [Af b10 213 [.slice A81 n82 c83, .bool bq85], Af b18 47 [(J (x31 : Int)), (.slice none 0 0), (J (x55 : Int)), (J 0), (J 0), (J 0), (J 0), (.slice none 0 0)], Af b2 47 zHeap, Bd w Bl] w94 := K93 _ _ g95
  have z97 := (H96.fix (i := 3) rfl).size
  have hq89 := hind87.r _ _ hq65
  refine zg rfl (fa47_3 (b := ⟨b18, 3, none⟩) rfl rfl) (zg rfl (Ex.ixA (b := ⟨b18, 3, none⟩) (i := 0) Tryz.underlying44 Tryz.sizeOf3 rfl rfl rfl rfl rfl) (RL.st (vs := [(J (x80 : Int))]) (cs' := [(J (x31 : Int)), (.slice none 0 0), (J (x55 : Int)), (J (x80 : Int)), (J 0), (J 0), (J 0), (.slice none 0 0)]) Tryz.sizeOf3 (H96.ob (i := 1) rfl) rfl rfl rfl rfl rfl rfl ?_))
  intro w98 hz99 g100 o101
  have H102 : Sp [Af b10 213 [.slice A81 n82 c83, .bool bq85], Af b18 47 [(J (x31 : Int)), (.slice none 0 0), (J (x55 : Int)), (J (x80 : Int)), (J 0), (J 0), (J 0), (.slice none 0 0)], Af b2 47 zHeap, Bd w Bl] w98 := H96.setB (i := 1) rfl g100 o101 rfl
  have z103 := g100.size
  refine RL.nil (inB.n (thn.n (CW.region (zm (J 0) rfl (zg rfl (Ex.add (r := 1) rfl rfl rfl) (za (J 1) rfl (RL.nil (thn.n (Cg (CW.seq (CW.seq (CW.region (zm (J 1) rfl (zg rfl (Ex.lt (r := true) rfl rfl (by decide)) (RL.nil (thn.n (Ab rfl (CW.skip (thn.n (CW.seq (CW.block (CW.region ?_))))))))))))))))))))))
  refine zm (J 1) rfl (zm (.pointer (some ⟨b10, 0, none⟩)) rfl ?_)
  obtain ⟨S114, hS115, hO116, K117⟩ := H102.takeN 1
  refine RL.call Tryz.call187 (rnum_ _ S114 b10 A81 n82 c83 bs84 bq85 hS115 ⟨(Dh hO116 (j := 2) rfl hq89.1 (by omega)), hq89.2⟩) rfl rfl rfl ?_
  rintro _ w118 ⟨x104, A105, n106, c107, bs108, bq109, rfl, g119, hnum110, hind111, hxle112⟩
  have H120 : Sp [Af b10 213 [.slice A105 n106 c107, .bool bq109], Af b18 47 [(J (x31 : Int)), (.slice none 0 0), (J (x55 : Int)), (J (x80 : Int)), (J 0), (J 0), (J 0), (.slice none 0 0)], Af b2 47 zHeap, Bd w Bl] w118 := K117 _ _ g119
  have z121 := (H120.fix (i := 3) rfl).size
  have hq113 := hind111.r _ _ hq89
  refine zg rfl (fa47_3 (b := ⟨b18, 3, none⟩) rfl rfl) (zg rfl (Ex.ixA (b := ⟨b18, 4, none⟩) (i := 1) Tryz.underlying44 Tryz.sizeOf3 rfl rfl rfl rfl rfl) (RL.st (vs := [(J (x104 : Int))]) (cs' := [(J (x31 : Int)), (.slice none 0 0), (J (x55 : Int)), (J (x80 : Int)), (J (x104 : Int)), (J 0), (J 0), (.slice none 0 0)]) Tryz.sizeOf3 (H120.ob (i := 1) rfl) rfl rfl rfl rfl rfl rfl ?_))
  intro w122 hz123 g124 o125
  have H126 : Sp [Af b10 213 [.slice A105 n106 c107, .bool bq109], Af b18 47 [(J (x31 : Int)), (.slice none 0 0), (J (x55 : Int)), (J (x80 : Int)), (J (x104 : Int)), (J 0), (J 0), (.slice none 0 0)], Af b2 47 zHeap, Bd w Bl] w122 := H120.setB (i := 1) rfl g124 o125 rfl
  have z127 := g124.size
  refine RL.nil (inB.n (thn.n (CW.region (zm (J 1) rfl (zg rfl (Ex.add (r := 2) rfl rfl rfl) (za (J 2) rfl (RL.nil (thn.n (Cg (CW.seq (CW.seq (CW.region (zm (J 2) rfl (zg rfl (Ex.lt (r := true) rfl rfl (by decide)) (RL.nil (thn.n (Ab rfl (CW.skip (thn.n (CW.seq (CW.block (CW.region ?_))))))))))))))))))))))
  refine zm (J 2) rfl (zm (.pointer (some ⟨b10, 0, none⟩)) rfl ?_)
  obtain ⟨S138, hS139, hO140, K141⟩ := H126.takeN 1
  refine RL.call Tryz.call187 (rnum_ _ S138 b10 A105 n106 c107 bs108 bq109 hS139 ⟨(Dh hO140 (j := 2) rfl hq113.1 (by omega)), hq113.2⟩) rfl rfl rfl ?_
  rintro _ w142 ⟨x128, A129, n130, c131, bs132, bq133, rfl, g143, hnum134, hind135, hxle136⟩
  have H144 : Sp [Af b10 213 [.slice A129 n130 c131, .bool bq133], Af b18 47 [(J (x31 : Int)), (.slice none 0 0), (J (x55 : Int)), (J (x80 : Int)), (J (x104 : Int)), (J 0), (J 0), (.slice none 0 0)], Af b2 47 zHeap, Bd w Bl] w142 := K141 _ _ g143
  have z145 := (H144.fix (i := 3) rfl).size
  have hq137 := hind135.r _ _ hq113
  refine zg rfl (fa47_3 (b := ⟨b18, 3, none⟩) rfl rfl) (zg rfl (Ex.ixA (b := ⟨b18, 5, none⟩) (i := 2) Tryz.underlying44 Tryz.sizeOf3 rfl rfl rfl rfl rfl) (RL.st (vs := [(J (x128 : Int))]) (cs' := [(J (x31 : Int)), (.slice none 0 0), (J (x55 : Int)), (J (x80 : Int)), (J (x104 : Int)), (J (x128 : Int)), (J 0), (.slice none 0 0)]) Tryz.sizeOf3 (H144.ob (i := 1) rfl) rfl rfl rfl rfl rfl rfl ?_))
  intro w146 hz147 g148 o149
  have H150 : Sp [Af b10 213 [.slice A129 n130 c131, .bool bq133], Af b18 47 [(J (x31 : Int)), (.slice none 0 0), (J (x55 : Int)), (J (x80 : Int)), (J (x104 : Int)), (J (x128 : Int)), (J 0), (.slice none 0 0)], Af b2 47 zHeap, Bd w Bl] w146 := H144.setB (i := 1) rfl g148 o149 rfl
  have z151 := g148.size
  refine RL.nil (inB.n (thn.n (CW.region (zm (J 2) rfl (zg rfl (Ex.add (r := 3) rfl rfl rfl) (za (J 3) rfl (RL.nil (thn.n (Cg (CW.seq (CW.seq (CW.region (zm (J 3) rfl (zg rfl (Ex.lt (r := true) rfl rfl (by decide)) (RL.nil (thn.n (Ab rfl (CW.skip (thn.n (CW.seq (CW.block (CW.region ?_))))))))))))))))))))))
  refine zm (J 3) rfl (zm (.pointer (some ⟨b10, 0, none⟩)) rfl ?_)
  obtain ⟨S162, hS163, hO164, K165⟩ := H150.takeN 1
  refine RL.call Tryz.call187 (rnum_ _ S162 b10 A129 n130 c131 bs132 bq133 hS163 ⟨(Dh hO164 (j := 2) rfl hq137.1 (by omega)), hq137.2⟩) rfl rfl rfl ?_
  rintro _ w166 ⟨x152, A153, n154, c155, bs156, bq157, rfl, g167, hnum158, hind159, hxle160⟩
  have H168 : Sp [Af b10 213 [.slice A153 n154 c155, .bool bq157], Af b18 47 [(J (x31 : Int)), (.slice none 0 0), (J (x55 : Int)), (J (x80 : Int)), (J (x104 : Int)), (J (x128 : Int)), (J 0), (.slice none 0 0)], Af b2 47 zHeap, Bd w Bl] w166 := K165 _ _ g167
  have z169 := (H168.fix (i := 3) rfl).size
  have hq161 := hind159.r _ _ hq137
  refine zg rfl (fa47_3 (b := ⟨b18, 3, none⟩) rfl rfl) (zg rfl (Ex.ixA (b := ⟨b18, 6, none⟩) (i := 3) Tryz.underlying44 Tryz.sizeOf3 rfl rfl rfl rfl rfl) (RL.st (vs := [(J (x152 : Int))]) (cs' := [(J (x31 : Int)), (.slice none 0 0), (J (x55 : Int)), (J (x80 : Int)), (J (x104 : Int)), (J (x128 : Int)), (J (x152 : Int)), (.slice none 0 0)]) Tryz.sizeOf3 (H168.ob (i := 1) rfl) rfl rfl rfl rfl rfl rfl ?_))
  intro w170 hz171 g172 o173
  have H174 : Sp [Af b10 213 [.slice A153 n154 c155, .bool bq157], Af b18 47 [(J (x31 : Int)), (.slice none 0 0), (J (x55 : Int)), (J (x80 : Int)), (J (x104 : Int)), (J (x128 : Int)), (J (x152 : Int)), (.slice none 0 0)], Af b2 47 zHeap, Bd w Bl] w170 := H168.setB (i := 1) rfl g172 o173 rfl
  have z175 := g172.size
  refine RL.nil (inB.n (thn.n (CW.region (zm (J 3) rfl (zg rfl (Ex.add (r := 4) rfl rfl rfl) (za (J 4) rfl (RL.nil (thn.n (Cg (CW.seq (CW.seq (CW.region (zm (J 4) rfl (zg rfl (Ex.lt (r := false) rfl rfl (by decide)) (RL.nil (thn.n (Ag rfl (CW.exit (thn.x (thn.x (Bf (thn.n (CW.seq (CW.region ?_))))))))))))))))))))))))
  refine zm (.pointer (some ⟨b10, 0, none⟩)) rfl ?_
  obtain ⟨S186, hS187, hO188, K189⟩ := H174.takeN 1
  refine RL.call Tryz.call187 (rnum_ _ S186 b10 A153 n154 c155 bs156 bq157 hS187 ⟨(Dh hO188 (j := 2) rfl hq161.1 (by omega)), hq161.2⟩) rfl rfl rfl ?_
  rintro _ w190 ⟨x176, A177, n178, c179, bs180, bq181, rfl, g191, hnum182, hind183, hxle184⟩
  have H192 : Sp [Af b10 213 [.slice A177 n178 c179, .bool bq181], Af b18 47 [(J (x31 : Int)), (.slice none 0 0), (J (x55 : Int)), (J (x80 : Int)), (J (x104 : Int)), (J (x128 : Int)), (J (x152 : Int)), (.slice none 0 0)], Af b2 47 zHeap, Bd w Bl] w190 := K189 _ _ g191
  have z193 := (H192.fix (i := 3) rfl).size
  have hq185 := hind183.r _ _ hq161
  refine za (J (x176 : Int)) rfl (RL.nil (thn.n (CW.seq (CW.seq (CW.region (za (J 0) rfl (RL.nil (thn.n (CW.block ?_)))))))))
  have H194 := H192.nil_ 136 5
  have H195 : Sp [ObjsA ([]) ([]), Ar 136 5 none 0 0 (Cj ([])), Af b10 213 [.slice A177 n178 c179, .bool bq181], Af b18 47 [(J (x31 : Int)), (.slice none 0 0), (J (x55 : Int)), (J (x80 : Int)), (J (x104 : Int)), (J (x128 : Int)), (J (x152 : Int)), (.slice none 0 0)], Af b2 47 zHeap, Bd w Bl] w190 := H194.obNil
  refine CW.loop (fun t => (Nat.ble 8 t && Nat.ble t 9) || (Nat.ble 31 t && Nat.ble t 54)) (fun nL ρ wl => ∃ (k n1 c1 no co : Nat) (A1 Ao : Option Addr) (ros : List RObj) (os : List Eng.Obj) (bs1 : List UInt8) (b1 : Bool), ρ 8 = (J (k : Int)) ∧ nL = 257 - k ∧ Sp [ObjsA ros os, Ar 136 5 Ao no co (Cj ros), Af b10 213 [.slice A1 n1 c1, .bool b1], Af b18 47 [(J (x31 : Int)), (.slice Ao no co), (J (x55 : Int)), (J (x80 : Int)), (J (x104 : Int)), (J (x128 : Int)), (J (x152 : Int)), (.slice none 0 0)], Af b2 47 zHeap, Bd w Bl] wl ∧ k ≤ x176 ∧ k ≤ 257 ∧ manyF objF k (bs180, bq181) = (os, (bs1, b1)) ∧ no = k ∧ InD A177 n178 c179 bs180 A1 n1 c1 bs1) (257) ?aa1 ?bb1
  case aa1 =>
   exact ⟨0, n178, c179, 0, 0, A177, none, [], [], bs180, bq181, rfl, rfl, H195, Nat.zero_le _, by omega, rfl, rfl, InD.refl _ _ _ _⟩
  case bb1 =>
   rintro n197 ρ1 w196 ho198 ⟨k, n1, c1, no, co, A1, Ao, ros, os, bs1, b1, hs1_8, hn1, H199, hk1, hk2, hmy, hno, hin1⟩
   obtain ⟨j1, rfl⟩ := ho198.shape1 hs1_8
   clear ho198 hs1_8
   subst hn1
   have z200 := (H199.fix (i := 5) rfl).size
   have hq1 := hin1.r _ _ hq185
   refine CW.seq (CW.seq (CW.region (zm (J (k : Int)) rfl (zm (J (x176 : Int)) rfl ?_))))
   refine zc (((k : Int) : Int) < ((x176 : Int) : Int)) rfl (fun r hr => Ex.lt rfl rfl hr) (fun h201 => ?_) (fun h201 => ?_)
   ·skip
    refine zm (bT) rfl (zm (J (k : Int)) rfl ?_)
    refine zc (((k : Int) : Int) ≤ (256 : Int)) rfl (fun r hr => Ex.le rfl rfl hr) (fun h202 => ?_) (fun h202 => ?_)
    ·skip
     refine zT (bT) rfl (zm (bT) rfl (zm (.pointer (some ⟨b10, 0, none⟩)) rfl (zg rfl (Ct rfl) (zg rfl (fa213_1 (b := ⟨b10, 1, none⟩) rfl rfl) (zl (.bool b1) lo4 (H199.ob (i := 2) rfl) rfl ?_)))))
     rcases b1 with _ | _
     ·skip
      refine zg rfl (Ex.not (b := false) rfl) (zT (bT) rfl (RL.nil (thn.n (Ab rfl (CW.skip (thn.n (CW.seq (CW.block (CW.seq (CW.region (zm (.pointer (some ⟨b10, 0, none⟩)) rfl ?_)))))))))))
      obtain ⟨S220, hS221, hO222, K223⟩ := Sp.takeL (l1 := [Af b10 213 [.slice A1 n1 c1, .bool false]]) (l2 := [ObjsA ros os, Ar 136 5 Ao no co (Cj ros), Af b18 47 [(J (x31 : Int)), (.slice Ao no co), (J (x55 : Int)), (J (x80 : Int)), (J (x104 : Int)), (J (x128 : Int)), (J (x152 : Int)), (.slice none 0 0)], Af b2 47 zHeap, Bd w Bl]) (w := w196) (H199.sel [2, 0, 1, 3, 4, 5] (by decide) rfl)
      refine RL.call Tryz.call245 (robj_ _ S220 b10 A1 n1 c1 bs1 false hS221 ⟨(Dh hO222 (j := 4) rfl hq1.1 (by omega)), hq1.2⟩) rfl rfl rfl ?_
      rintro _ w224 ⟨o203, A204, n205, c206, A207, n208, c209, A210, n211, c212, bs213, bq214, rfl, g225, hob215, hind216, hnw217, hnl218⟩
      have H226 : Sp [Af b10 213 [.slice A210 n211 c212, .bool bq214], Ar 3 1 A204 n205 c206 (ics o203.words), Ar 3 1 A207 n208 c209 (ics o203.links), ObjsA ros os, Ar 136 5 Ao no co (Cj ros), Af b18 47 [(J (x31 : Int)), (.slice Ao no co), (J (x55 : Int)), (J (x80 : Int)), (J (x104 : Int)), (J (x128 : Int)), (J (x152 : Int)), (.slice none 0 0)], Af b2 47 zHeap, Bd w Bl] w224 := K223 _ _ g225
      have z227 := (H226.fix (i := 7) rfl).size
      have hq219 := hind216.r _ _ hq1
      refine RL.al (cs := [(J 0), (J 0), (J 0), (.slice none 0 0), (.slice none 0 0)]) Tryz.zeroValue136 rfl rfl rfl ?_
      intro w228 b229 hb230 hz231 g232 o233
      have H234 := H226.newB g232 o233 (by omega)
      have z235 := g232.size
      refine RL.st (vs := [(J o203.handle), (J o203.blk.at_), (J o203.blk.ord), (.slice A204 n205 c206), (.slice A207 n208 c209)]) (cs' := [(J o203.handle), (J o203.blk.at_), (J o203.blk.ord), (.slice A204 n205 c206), (.slice A207 n208 c209)]) Tryz.sizeOf136 (H234.ob (i := 0) rfl) rfl rfl rfl rfl rfl rfl ?_
      intro w236 hz237 g238 o239
      have H240 : Sp [Af b229 136 [(J o203.handle), (J o203.blk.at_), (J o203.blk.ord), (.slice A204 n205 c206), (.slice A207 n208 c209)], Af b10 213 [.slice A210 n211 c212, .bool bq214], Ar 3 1 A204 n205 c206 (ics o203.words), Ar 3 1 A207 n208 c209 (ics o203.links), ObjsA ros os, Ar 136 5 Ao no co (Cj ros), Af b18 47 [(J (x31 : Int)), (.slice Ao no co), (J (x55 : Int)), (J (x80 : Int)), (J (x104 : Int)), (J (x128 : Int)), (J (x152 : Int)), (.slice none 0 0)], Af b2 47 zHeap, Bd w Bl] w236 := H234.setB (i := 0) rfl g238 o239 rfl
      have z241 := g238.size
      refine RL.nil (thn.n (CW.region (zg rfl (fa47_1 (b := ⟨b18, 1, none⟩) rfl rfl) (zl (.slice Ao no co) lo43 (H240.ob (i := 6) rfl) rfl (zg rfl (Ai rfl (Ak (cs := [(J o203.handle), (J o203.blk.at_), (J o203.blk.ord), (.slice A204 n205 c206), (.slice A207 n208 c209)]) wh136 (H240.ob (i := 0) rfl).cl)) (RL.bs (cs := [(J o203.handle), (J o203.blk.at_), (J o203.blk.ord), (.slice A204 n205 c206), (.slice A207 n208 c209)]) Tryz.underlying43 Tryz.sizeOf136 ze43 rfl rfl rfl (by decide) rfl rfl rfl ?_))))))
      intro w242 b243 hb244 hz245 g246 o247
      have H248 := H240.newB g246 o247 (by omega)
      have z249 := g246.size
      refine RL.apW (base := 0) (xss := (Cj ros)) (yss := (Cj ([(⟨o203.handle, o203.blk, ⟨A204, n205, c206⟩, ⟨A207, n208, c209⟩⟩ : RObj)]))) el43 (H248.wr (i := 6) rfl) rfl (Da (H248.ob (i := 0) rfl) rfl) rfl (by simp only [As, Av, At, Ap, An, Bb, List.length_append, List.length_cons, List.length_nil, List.length_take, List.length_drop, List.length_map, Cy, enc8, Bq, Bt, Ca]; try omega) (robjs_one _) (by omega) (by omega) (by omega) rfl rfl ?_
      intro w250 A251 c252 g253 ow254 nx255
      have H256 : Sp [Af b243 136 [(J o203.handle), (J o203.blk.at_), (J o203.blk.ord), (.slice A204 n205 c206), (.slice A207 n208 c209)], Af b229 136 [(J o203.handle), (J o203.blk.at_), (J o203.blk.ord), (.slice A204 n205 c206), (.slice A207 n208 c209)], Af b10 213 [.slice A210 n211 c212, .bool bq214], Ar 3 1 A204 n205 c206 (ics o203.words), Ar 3 1 A207 n208 c209 (ics o203.links), ObjsA ros os, Ar 136 5 A251 (no + 1) c252 (Cj (ros ++ [(⟨o203.handle, o203.blk, ⟨A204, n205, c206⟩, ⟨A207, n208, c209⟩⟩ : RObj)])), Af b18 47 [(J (x31 : Int)), (.slice Ao no co), (J (x55 : Int)), (J (x80 : Int)), (J (x104 : Int)), (J (x128 : Int)), (J (x152 : Int)), (.slice none 0 0)], Af b2 47 zHeap, Bd w Bl] w250 := H248.setR (i := 6) rfl g253 ((robjs_app _ _).symm ▸ ow254) nx255 rfl
      have z257 := g253.size
      refine zg rfl (fa47_1 (b := ⟨b18, 1, none⟩) rfl rfl) (RL.st (vs := [(.slice A251 (no + 1) c252)]) (cs' := [(J (x31 : Int)), (.slice A251 (no + 1) c252), (J (x55 : Int)), (J (x80 : Int)), (J (x104 : Int)), (J (x128 : Int)), (J (x152 : Int)), (.slice none 0 0)]) Tryz.sizeOf43 (H256.ob (i := 7) rfl) rfl rfl rfl rfl rfl rfl ?_)
      intro w258 hz259 g260 o261
      have H262 : Sp [Af b243 136 [(J o203.handle), (J o203.blk.at_), (J o203.blk.ord), (.slice A204 n205 c206), (.slice A207 n208 c209)], Af b229 136 [(J o203.handle), (J o203.blk.at_), (J o203.blk.ord), (.slice A204 n205 c206), (.slice A207 n208 c209)], Af b10 213 [.slice A210 n211 c212, .bool bq214], Ar 3 1 A204 n205 c206 (ics o203.words), Ar 3 1 A207 n208 c209 (ics o203.links), ObjsA ros os, Ar 136 5 A251 (no + 1) c252 (Cj (ros ++ [(⟨o203.handle, o203.blk, ⟨A204, n205, c206⟩, ⟨A207, n208, c209⟩⟩ : RObj)])), Af b18 47 [(J (x31 : Int)), (.slice A251 (no + 1) c252), (J (x55 : Int)), (J (x80 : Int)), (J (x104 : Int)), (J (x128 : Int)), (J (x152 : Int)), (.slice none 0 0)], Af b2 47 zHeap, Bd w Bl] w258 := H256.setB (i := 7) rfl g260 o261 rfl
      have z263 := g260.size
      refine RL.nil (inB.n (thn.n (CW.region (zm (J (k : Int)) rfl (zg rfl (Ex.add (r := (k : Int) + 1) rfl rfl (Dd (by omega) (by omega))) (za (J ((k : Int) + 1)) rfl (RL.nil (thn.n ?_))))))))
      have H264 : Sp [ObjsA (ros ++ [(⟨o203.handle, o203.blk, ⟨A204, n205, c206⟩, ⟨A207, n208, c209⟩⟩ : RObj)]) (os ++ [o203]), Af b243 136 [(J o203.handle), (J o203.blk.at_), (J o203.blk.ord), (.slice A204 n205 c206), (.slice A207 n208 c209)], Af b229 136 [(J o203.handle), (J o203.blk.at_), (J o203.blk.ord), (.slice A204 n205 c206), (.slice A207 n208 c209)], Af b10 213 [.slice A210 n211 c212, .bool bq214], Ar 136 5 A251 (no + 1) c252 (Cj (ros ++ [(⟨o203.handle, o203.blk, ⟨A204, n205, c206⟩, ⟨A207, n208, c209⟩⟩ : RObj)])), Af b18 47 [(J (x31 : Int)), (.slice A251 (no + 1) c252), (J (x55 : Int)), (J (x80 : Int)), (J (x104 : Int)), (J (x128 : Int)), (J (x152 : Int)), (.slice none 0 0)], Af b2 47 zHeap, Bd w Bl] w258 := (Sp.obSnoc (ros := ros) (os := os) (o := o203) (H262.sel [5, 3, 4, 0, 1, 2, 6, 7, 8, 9] (by decide) rfl) (by omega) (by omega))
      refine ⟨(by repeat (first | exact Out.mix _ _ | exact Out.refl _ _ | refine Bg ?_ rfl _ | refine Co ?_ (by intro t ht; simp only [Bool.or_eq_false_iff, Bool.and_eq_false_iff, ble_f, beq_f] at ht ⊢; omega))), _, ?_, k + 1, n211, c212, no + 1, c252, A210, A251, ros ++ [(⟨o203.handle, o203.blk, ⟨A204, n205, c206⟩, ⟨A207, n208, c209⟩⟩ : RObj)], os ++ [o203], bs213, bq214, rfl, rfl, (H264.sel [0, 4, 3, 5, 6, 7] (by decide) rfl), by omega, by omega, manyF_go hmy hob215, by omega, hin1.trans hind216⟩
      omega
     ·skip
      refine zg rfl (Ex.not (b := true) rfl) (zT (bF) rfl (RL.nil (thn.n (Ag rfl (CW.exit (thn.x (thn.x (Bf (thn.n (CW.seq (CW.seq ?_)))))))))))
      have hgh := getHeap_ref hnum37 hnum61 hnum86 hnum110 hnum134 hnum158 hnum182 hmy (by omega) (by first | exact .inl (by omega) | exact .inr (.inl (by omega)) | exact .inr (.inr rfl))
      have hob := H199.obR (i := 0) rfl
      have hobl := hob.1
      have hrl := H199.len (i := 1) rfl
      rw [An] at hrl
      have hmb := map_blk hob
      have hq1l := hq1.2.1
      refine CW.region (zm (.pointer (some ⟨b10, 0, none⟩)) rfl (zg rfl (Ct rfl) (zg rfl (fa213_1 (b := ⟨b10, 1, none⟩) rfl rfl) (zl (bT) lo4 (H199.ob (i := 2) rfl) rfl (zm (bT) rfl (zo rfl (zo rfl (zo rfl (zo rfl (zo rfl ?_))))))))))
      refine zo rfl (zT (bT) rfl (zm (bT) rfl (zo rfl (zo rfl (zo rfl (zo rfl (zT (bT) rfl (zm (bT) rfl (zo rfl (zo rfl ?_))))))))))
      refine zo rfl (zo rfl (zo rfl (zT (bT) rfl (RL.nil (thn.n (Ab rfl (CW.seq (CW.region (zg rfl (Cc (cs := zHeap) bd47 rfl) (RL.st (vs := zHeap) (cs' := zHeap) Tryz.sizeOf47 (H199.ob (i := 4) rfl) rfl rfl rfl rfl rfl rfl ?_))))))))))
      intro w265 hz266 g267 o268
      have H269 : Sp [ObjsA ros os, Ar 136 5 Ao no co (Cj ros), Af b10 213 [.slice A1 n1 c1, .bool true], Af b18 47 [(J (x31 : Int)), (.slice Ao no co), (J (x55 : Int)), (J (x80 : Int)), (J (x104 : Int)), (J (x128 : Int)), (J (x152 : Int)), (.slice none 0 0)], Af b2 47 zHeap, Bd w Bl] w265 := H199.setB (i := 4) rfl g267 o268 rfl
      have z270 := g267.size
      refine za (J 60) rfl (RL.nil (thn.n (CW.ret (thn.r (finQ.r (v := (.tuple #[(.agg (zHeap).toArray), (J 60)])) (Cp rfl (Rv.cell rfl (Ak (cs := zHeap) wh47 (H269.ob (i := 4) rfl).cl)) (Rv.tmp rfl)) ?_)))))
      exact .inr ⟨rfl, (H269.fix (i := 5) rfl), by rw [hgh, if_neg (fun ⟨q1, q2, q3, q4, q5⟩ => by first | (cases q1; done) | (rw [q2] at hq1l; simp only [List.length_nil] at hq1l; omega) | omega)]⟩
    ·skip
     refine zT (bF) rfl (zm (bF) rfl (zo rfl (zo rfl (zo rfl (zo rfl (zo rfl (zF (bF) rfl (RL.nil (thn.n (Ag rfl (CW.exit (thn.x (thn.x (Bf (thn.n (CW.seq (CW.seq ?_)))))))))))))))))
     have hgh := getHeap_ref hnum37 hnum61 hnum86 hnum110 hnum134 hnum158 hnum182 hmy (by omega) (by first | exact .inl (by omega) | exact .inr (.inl (by omega)) | exact .inr (.inr rfl))
     have hob := H199.obR (i := 0) rfl
     have hobl := hob.1
     have hrl := H199.len (i := 1) rfl
     rw [An] at hrl
     have hmb := map_blk hob
     have hq1l := hq1.2.1
     refine CW.region (zm (.pointer (some ⟨b10, 0, none⟩)) rfl (zg rfl (Ct rfl) (zg rfl (fa213_1 (b := ⟨b10, 1, none⟩) rfl rfl) (zl (.bool b1) lo4 (H199.ob (i := 2) rfl) rfl ?_))))
     rcases b1 with _ | _
     ·skip
      refine zm (bF) rfl (zm (.pointer (some ⟨b10, 0, none⟩)) rfl (zg rfl (Ct rfl) (zg rfl (fa213_0 (b := ⟨b10, 0, none⟩) rfl rfl) (zl (.slice A1 n1 c1) lo97 (H199.ob (i := 2) rfl) rfl (zg rfl (Ex.len Tryz.underlying97 rfl) ?_)))))
      refine zc ((0 : Int) < ((n1 : Nat) : Int)) rfl (fun r hr => Df rfl rfl hr) (fun h271 => ?_) (fun h271 => ?_)
      ·skip
       refine zF (bT) rfl (zm (bT) rfl (zo rfl (zo rfl (zo rfl (zo rfl (zT (bT) rfl (zm (bT) rfl (zo rfl (zo rfl (zo rfl ?_))))))))))
       refine zo rfl (zo rfl (zT (bT) rfl (RL.nil (thn.n (Ab rfl (CW.seq (CW.region (zg rfl (Cc (cs := zHeap) bd47 rfl) (RL.st (vs := zHeap) (cs' := zHeap) Tryz.sizeOf47 (H199.ob (i := 4) rfl) rfl rfl rfl rfl rfl rfl ?_)))))))))
       intro w272 hz273 g274 o275
       have H276 : Sp [ObjsA ros os, Ar 136 5 Ao no co (Cj ros), Af b10 213 [.slice A1 n1 c1, .bool false], Af b18 47 [(J (x31 : Int)), (.slice Ao no co), (J (x55 : Int)), (J (x80 : Int)), (J (x104 : Int)), (J (x128 : Int)), (J (x152 : Int)), (.slice none 0 0)], Af b2 47 zHeap, Bd w Bl] w272 := H199.setB (i := 4) rfl g274 o275 rfl
       have z277 := g274.size
       refine za (J 60) rfl (RL.nil (thn.n (CW.ret (thn.r (finQ.r (v := (.tuple #[(.agg (zHeap).toArray), (J 60)])) (Cp rfl (Rv.cell rfl (Ak (cs := zHeap) wh47 (H276.ob (i := 4) rfl).cl)) (Rv.tmp rfl)) ?_)))))
       exact .inr ⟨rfl, (H276.fix (i := 5) rfl), by rw [hgh, if_neg (fun ⟨q1, q2, q3, q4, q5⟩ => by first | (cases q1; done) | (rw [q2] at hq1l; simp only [List.length_nil] at hq1l; omega) | omega)]⟩
      ·skip
       refine zF (bF) rfl (zm (bF) rfl (zg rfl (fa47_0 (b := ⟨b18, 0, none⟩) rfl rfl) (zl (J (x31 : Int)) Cf (H199.ob (i := 3) rfl) rfl (RL.call Tryz.call235 (reg_ _ (x31 : Int)) rfl rfl rfl ?_))))
       rintro _ w278 ⟨rfl, g279⟩
       have H280 := H199.grow g279
       have z281 := g279.size
       rcases hb282 : (Aq (x31 : Int) 3 8) with _ | _
       ·have hwf := withinB_f hb282
        refine zg rfl (Ex.not (b := false) rfl) (zF (bT) rfl (zm (bT) rfl (zo rfl (zo rfl (zo rfl (zo rfl (zo rfl (zT (bT) rfl (RL.nil (thn.n (Ab rfl (CW.seq (CW.region (zg rfl (Cc (cs := zHeap) bd47 rfl) ?_))))))))))))))
        refine RL.st (vs := zHeap) (cs' := zHeap) Tryz.sizeOf47 (H280.ob (i := 4) rfl) rfl rfl rfl rfl rfl rfl ?_
        intro w283 hz284 g285 o286
        have H287 : Sp [ObjsA ros os, Ar 136 5 Ao no co (Cj ros), Af b10 213 [.slice A1 n1 c1, .bool false], Af b18 47 [(J (x31 : Int)), (.slice Ao no co), (J (x55 : Int)), (J (x80 : Int)), (J (x104 : Int)), (J (x128 : Int)), (J (x152 : Int)), (.slice none 0 0)], Af b2 47 zHeap, Bd w Bl] w283 := H280.setB (i := 4) rfl g285 o286 rfl
        have z288 := g285.size
        refine za (J 60) rfl (RL.nil (thn.n (CW.ret (thn.r (finQ.r (v := (.tuple #[(.agg (zHeap).toArray), (J 60)])) (Cp rfl (Rv.cell rfl (Ak (cs := zHeap) wh47 (H287.ob (i := 4) rfl).cl)) (Rv.tmp rfl)) ?_)))))
        exact .inr ⟨rfl, (H287.fix (i := 5) rfl), by rw [hgh, if_neg (fun ⟨q1, q2, q3, q4, q5⟩ => by first | (cases q1; done) | (rw [q2] at hq1l; simp only [List.length_nil] at hq1l; omega) | (rw [hb282] at q3; cases q3) | (rw [hb282] at q5; cases q5) | omega)]⟩
       ·have hwt := Bc hb282
        refine zg rfl (Ex.not (b := true) rfl) (zF (bF) rfl (zm (bF) rfl (zm (J (x176 : Int)) rfl (zg rfl (fa47_1 (b := ⟨b18, 1, none⟩) rfl rfl) (zl (.slice Ao no co) lo43 (H280.ob (i := 3) rfl) rfl (zg rfl (Ex.len Tryz.underlying43 rfl) ?_))))))
        refine zc (((x176 : Int) : Int) ≠ ((no : Nat) : Int)) rfl (fun r hr => Cm rfl rfl hr) (fun h289 => ?_) (fun h289 => ?_)
        ·skip
         refine zF (bT) rfl (RL.nil (thn.n (Ab rfl (CW.seq (CW.region (zg rfl (Cc (cs := zHeap) bd47 rfl) (RL.st (vs := zHeap) (cs' := zHeap) Tryz.sizeOf47 (H280.ob (i := 4) rfl) rfl rfl rfl rfl rfl rfl ?_)))))))
         intro w290 hz291 g292 o293
         have H294 : Sp [ObjsA ros os, Ar 136 5 Ao no co (Cj ros), Af b10 213 [.slice A1 n1 c1, .bool false], Af b18 47 [(J (x31 : Int)), (.slice Ao no co), (J (x55 : Int)), (J (x80 : Int)), (J (x104 : Int)), (J (x128 : Int)), (J (x152 : Int)), (.slice none 0 0)], Af b2 47 zHeap, Bd w Bl] w290 := H280.setB (i := 4) rfl g292 o293 rfl
         have z295 := g292.size
         refine za (J 60) rfl (RL.nil (thn.n (CW.ret (thn.r (finQ.r (v := (.tuple #[(.agg (zHeap).toArray), (J 60)])) (Cp rfl (Rv.cell rfl (Ak (cs := zHeap) wh47 (H294.ob (i := 4) rfl).cl)) (Rv.tmp rfl)) ?_)))))
         exact .inr ⟨rfl, (H294.fix (i := 5) rfl), by rw [hgh, if_neg (fun ⟨q1, q2, q3, q4, q5⟩ => by first | (cases q1; done) | (rw [q2] at hq1l; simp only [List.length_nil] at hq1l; omega) | (rw [hb282] at q3; cases q3) | (rw [hb282] at q5; cases q5) | omega)]⟩
        ·skip
         refine zF (bF) rfl (RL.nil (thn.n (Ag rfl (CW.skip (thn.n (CW.seq ?_))))))
         have hxb := obs_bd hmb (many_ok hmy)
         refine CW.region (zg rfl (fa47_0 (b := ⟨b18, 0, none⟩) rfl rfl) (zl (J (x31 : Int)) Cf (H280.ob (i := 3) rfl) rfl (zg rfl (fa47_1 (b := ⟨b18, 1, none⟩) rfl rfl) (zl (.slice Ao no co) lo43 (H280.ob (i := 3) rfl) rfl (RL.call Tryz.call246 (freeR_ _ w278.heap.size (x31 : Int) ros Ao no co ((H280.rowrd (i := 1) rfl).more (Nat.le_refl _)) (by first | assumption | omega) (Nat.le_refl _) (by omega) (by first | assumption | omega) hxb) rfl rfl rfl ?_)))))
         rintro _ w300 ⟨A296, n297, c298, rfl, g301, hn6299⟩
         have g302 := g301.fix (i := 1) rfl
         have H303 : Sp [Ar 133 2 A296 n297 c298 (Ck ((Dg (Ae (x31 : Int)) (ros.map RObj.blk) [⟨0, (x31 : Int)⟩]))), ObjsA ros os, Ar 136 5 Ao no co (Cj ros), Af b10 213 [.slice A1 n1 c1, .bool false], Af b18 47 [(J (x31 : Int)), (.slice Ao no co), (J (x55 : Int)), (J (x80 : Int)), (J (x104 : Int)), (J (x128 : Int)), (J (x152 : Int)), (.slice none 0 0)], Af b2 47 zHeap, Bd w Bl] w300 := H280.join (m := [Ar 133 2 A296 n297 c298 (Ck ((Dg (Ae (x31 : Int)) (ros.map RObj.blk) [⟨0, (x31 : Int)⟩])))]) g301
         have z304 := g302.size
         refine zg rfl (fa47_4 (b := ⟨b18, 7, none⟩) rfl rfl) (RL.st (vs := [(.slice A296 n297 c298)]) (cs' := [(J (x31 : Int)), (.slice Ao no co), (J (x55 : Int)), (J (x80 : Int)), (J (x104 : Int)), (J (x128 : Int)), (J (x152 : Int)), (.slice A296 n297 c298)]) Tryz.sizeOf45 (H303.ob (i := 4) rfl) rfl rfl rfl rfl rfl rfl ?_)
         intro w305 hz306 g307 o308
         have H309 : Sp [Ar 133 2 A296 n297 c298 (Ck ((Dg (Ae (x31 : Int)) (ros.map RObj.blk) [⟨0, (x31 : Int)⟩]))), ObjsA ros os, Ar 136 5 Ao no co (Cj ros), Af b10 213 [.slice A1 n1 c1, .bool false], Af b18 47 [(J (x31 : Int)), (.slice Ao no co), (J (x55 : Int)), (J (x80 : Int)), (J (x104 : Int)), (J (x128 : Int)), (J (x152 : Int)), (.slice A296 n297 c298)], Af b2 47 zHeap, Bd w Bl] w305 := H303.setB (i := 4) rfl g307 o308 rfl
         have z310 := g307.size
         refine RL.nil (thn.n (CW.seq (CW.seq ?_)))
         rw [hmb] at H309
         have H311 : Sp [HpW (⟨(x31 : Int), ⟨Ao, no, co⟩, (x55 : Int), (x80 : Int), (x104 : Int), (x128 : Int), (x152 : Int), ⟨A296, n297, c298⟩⟩ : RHeap) ros (⟨(x31 : Int), os, (x55 : Int), (x80 : Int), (x104 : Int), (x128 : Int), (x152 : Int), (Dg (Ae (x31 : Int)) (os.map Obj.blk) [⟨0, (x31 : Int)⟩])⟩ : Eng.Heap), Af b10 213 [.slice A1 n1 c1, .bool false], Af b18 47 [(J (x31 : Int)), (.slice Ao no co), (J (x55 : Int)), (J (x80 : Int)), (J (x104 : Int)), (J (x128 : Int)), (J (x152 : Int)), (.slice A296 n297 c298)], Af b2 47 zHeap, Bd w Bl] w305 := (Sp.hpMk (rh := (⟨(x31 : Int), ⟨Ao, no, co⟩, (x55 : Int), (x80 : Int), (x104 : Int), (x128 : Int), (x152 : Int), ⟨A296, n297, c298⟩⟩ : RHeap)) (ros := ros) (hh := (⟨(x31 : Int), os, (x55 : Int), (x80 : Int), (x104 : Int), (x128 : Int), (x152 : Int), (Dg (Ae (x31 : Int)) (os.map Obj.blk) [⟨0, (x31 : Int)⟩])⟩ : Eng.Heap)) (H309.sel [2, 1, 0, 3, 4, 5, 6] (by decide) rfl) ⟨rfl, rfl, rfl, by show no ≤ _; omega, by show n297 ≤ _; omega⟩)
         refine CW.region (zg rfl (Ai rfl (Ak (cs := [(J (x31 : Int)), (.slice Ao no co), (J (x55 : Int)), (J (x80 : Int)), (J (x104 : Int)), (J (x128 : Int)), (J (x152 : Int)), (.slice A296 n297 c298)]) wh47 (H311.ob (i := 2) rfl).cl)) (RL.call Tryz.call167 (right05_ _ _ (⟨(x31 : Int), ⟨Ao, no, co⟩, (x55 : Int), (x80 : Int), (x104 : Int), (x128 : Int), (x152 : Int), ⟨A296, n297, c298⟩⟩ : RHeap) _ _ (H311.hpWR (i := 0) rfl) (Nat.le_refl _) (by first | assumption | omega | (dsimp only; omega))) rfl rfl rfl ?_))
         rintro _ w312 ⟨rfl, g313⟩
         have H314 := H311.grow g313
         have z315 := g313.size
         rcases hb316 : (Cw ((⟨(x31 : Int), os, (x55 : Int), (x80 : Int), (x104 : Int), (x128 : Int), (x152 : Int), (Dg (Ae (x31 : Int)) (os.map Obj.blk) [⟨0, (x31 : Int)⟩])⟩ : Eng.Heap))) with _ | _
         ·skip
          refine zg rfl (Ex.not (b := false) rfl) (RL.nil (thn.n (Ab rfl (CW.seq (CW.region (zg rfl (Cc (cs := zHeap) bd47 rfl) (RL.st (vs := zHeap) (cs' := zHeap) Tryz.sizeOf47 (H314.ob (i := 3) rfl) rfl rfl rfl rfl rfl rfl ?_)))))))
          intro w317 hz318 g319 o320
          have H321 : Sp [HpW (⟨(x31 : Int), ⟨Ao, no, co⟩, (x55 : Int), (x80 : Int), (x104 : Int), (x128 : Int), (x152 : Int), ⟨A296, n297, c298⟩⟩ : RHeap) ros (⟨(x31 : Int), os, (x55 : Int), (x80 : Int), (x104 : Int), (x128 : Int), (x152 : Int), (Dg (Ae (x31 : Int)) (os.map Obj.blk) [⟨0, (x31 : Int)⟩])⟩ : Eng.Heap), Af b10 213 [.slice A1 n1 c1, .bool false], Af b18 47 [(J (x31 : Int)), (.slice Ao no co), (J (x55 : Int)), (J (x80 : Int)), (J (x104 : Int)), (J (x128 : Int)), (J (x152 : Int)), (.slice A296 n297 c298)], Af b2 47 zHeap, Bd w Bl] w317 := H314.setB (i := 3) rfl g319 o320 rfl
          have z322 := g319.size
          refine za (J 60) rfl (RL.nil (thn.n (CW.ret (thn.r (finQ.r (v := (.tuple #[(.agg (zHeap).toArray), (J 60)])) (Cp rfl (Rv.cell rfl (Ak (cs := zHeap) wh47 (H321.ob (i := 3) rfl).cl)) (Rv.tmp rfl)) ?_)))))
          exact .inr ⟨rfl, (H321.fix (i := 4) rfl), by rw [hgh, if_neg (fun ⟨q1, q2, q3, q4, q5⟩ => by first | (cases q1; done) | (rw [q2] at hq1l; simp only [List.length_nil] at hq1l; omega) | (rw [hb316] at q3; cases q3) | (rw [hb316] at q5; cases q5) | omega)]⟩
         ·skip
          refine zg rfl (Ex.not (b := true) rfl) (RL.nil (thn.n (Ag rfl (CW.skip (thn.n (CW.seq (CW.region (zg rfl (Ai rfl (Ak (cs := [(J (x31 : Int)), (.slice Ao no co), (J (x55 : Int)), (J (x80 : Int)), (J (x104 : Int)), (J (x128 : Int)), (J (x152 : Int)), (.slice A296 n297 c298)]) wh47 (H314.ob (i := 2) rfl).cl)) (RL.st (vs := [(J (x31 : Int)), (.slice Ao no co), (J (x55 : Int)), (J (x80 : Int)), (J (x104 : Int)), (J (x128 : Int)), (J (x152 : Int)), (.slice A296 n297 c298)]) (cs' := [(J (x31 : Int)), (.slice Ao no co), (J (x55 : Int)), (J (x80 : Int)), (J (x104 : Int)), (J (x128 : Int)), (J (x152 : Int)), (.slice A296 n297 c298)]) Tryz.sizeOf47 (H314.ob (i := 3) rfl) rfl rfl rfl rfl rfl rfl ?_)))))))))
          intro w323 hz324 g325 o326
          have H327 : Sp [HpW (⟨(x31 : Int), ⟨Ao, no, co⟩, (x55 : Int), (x80 : Int), (x104 : Int), (x128 : Int), (x152 : Int), ⟨A296, n297, c298⟩⟩ : RHeap) ros (⟨(x31 : Int), os, (x55 : Int), (x80 : Int), (x104 : Int), (x128 : Int), (x152 : Int), (Dg (Ae (x31 : Int)) (os.map Obj.blk) [⟨0, (x31 : Int)⟩])⟩ : Eng.Heap), Af b10 213 [.slice A1 n1 c1, .bool false], Af b18 47 [(J (x31 : Int)), (.slice Ao no co), (J (x55 : Int)), (J (x80 : Int)), (J (x104 : Int)), (J (x128 : Int)), (J (x152 : Int)), (.slice A296 n297 c298)], Af b2 47 [(J (x31 : Int)), (.slice Ao no co), (J (x55 : Int)), (J (x80 : Int)), (J (x104 : Int)), (J (x128 : Int)), (J (x152 : Int)), (.slice A296 n297 c298)], Bd w Bl] w323 := H314.setB (i := 3) rfl g325 o326 rfl
          have z328 := g325.size
          refine za (J 0) rfl (RL.nil (thn.n (CW.ret (finQ.r (v := (.tuple #[(.agg ([(J (x31 : Int)), (.slice Ao no co), (J (x55 : Int)), (J (x80 : Int)), (J (x104 : Int)), (J (x128 : Int)), (J (x152 : Int)), (.slice A296 n297 c298)]).toArray), (J 0)])) (Cp rfl (Rv.cell rfl (Ak (cs := [(J (x31 : Int)), (.slice Ao no co), (J (x55 : Int)), (J (x80 : Int)), (J (x104 : Int)), (J (x128 : Int)), (J (x152 : Int)), (.slice A296 n297 c298)]) wh47 (H327.ob (i := 3) rfl).cl)) (Rv.tmp rfl)) ?_))))
          exact .inl ⟨(⟨(x31 : Int), ⟨Ao, no, co⟩, (x55 : Int), (x80 : Int), (x104 : Int), (x128 : Int), (x152 : Int), ⟨A296, n297, c298⟩⟩ : RHeap), ros, _, rfl, (H327.sel [0, 4] (by decide) rfl), by rw [hgh, if_pos ⟨rfl, List.eq_nil_of_length_eq_zero (by omega), hb282, by omega, hb316⟩], hb316⟩
     ·skip
      refine zm (bT) rfl (zo rfl (zo rfl (zo rfl (zo rfl (zo rfl (zo rfl (zT (bT) rfl (zm (bT) rfl (zo rfl (zo rfl ?_))))))))))
      refine zo rfl (zo rfl (zT (bT) rfl (zm (bT) rfl (zo rfl (zo rfl (zo rfl (zo rfl (zo rfl (zT (bT) rfl (RL.nil (thn.n (Ab rfl (CW.seq (CW.region ?_))))))))))))))
      refine zg rfl (Cc (cs := zHeap) bd47 rfl) (RL.st (vs := zHeap) (cs' := zHeap) Tryz.sizeOf47 (H199.ob (i := 4) rfl) rfl rfl rfl rfl rfl rfl ?_)
      intro w329 hz330 g331 o332
      have H333 : Sp [ObjsA ros os, Ar 136 5 Ao no co (Cj ros), Af b10 213 [.slice A1 n1 c1, .bool true], Af b18 47 [(J (x31 : Int)), (.slice Ao no co), (J (x55 : Int)), (J (x80 : Int)), (J (x104 : Int)), (J (x128 : Int)), (J (x152 : Int)), (.slice none 0 0)], Af b2 47 zHeap, Bd w Bl] w329 := H199.setB (i := 4) rfl g331 o332 rfl
      have z334 := g331.size
      refine za (J 60) rfl (RL.nil (thn.n (CW.ret (thn.r (finQ.r (v := (.tuple #[(.agg (zHeap).toArray), (J 60)])) (Cp rfl (Rv.cell rfl (Ak (cs := zHeap) wh47 (H333.ob (i := 4) rfl).cl)) (Rv.tmp rfl)) ?_)))))
      exact .inr ⟨rfl, (H333.fix (i := 5) rfl), by rw [hgh, if_neg (fun ⟨q1, q2, q3, q4, q5⟩ => by first | (cases q1; done) | (rw [q2] at hq1l; simp only [List.length_nil] at hq1l; omega) | omega)]⟩
   ·skip
    refine zm (bF) rfl (zo rfl (zo rfl (zF (bF) rfl (zm (bF) rfl (zo rfl (zo rfl (zo rfl (zo rfl (zo rfl (zF (bF) rfl ?_))))))))))
    refine RL.nil (thn.n (Ag rfl (CW.exit (thn.x (thn.x (Bf (thn.n (CW.seq (CW.seq ?_)))))))))
    have hgh := getHeap_ref hnum37 hnum61 hnum86 hnum110 hnum134 hnum158 hnum182 hmy (by omega) (by first | exact .inl (by omega) | exact .inr (.inl (by omega)) | exact .inr (.inr rfl))
    have hob := H199.obR (i := 0) rfl
    have hobl := hob.1
    have hrl := H199.len (i := 1) rfl
    rw [An] at hrl
    have hmb := map_blk hob
    have hq1l := hq1.2.1
    refine CW.region (zm (.pointer (some ⟨b10, 0, none⟩)) rfl (zg rfl (Ct rfl) (zg rfl (fa213_1 (b := ⟨b10, 1, none⟩) rfl rfl) (zl (.bool b1) lo4 (H199.ob (i := 2) rfl) rfl ?_))))
    rcases b1 with _ | _
    ·skip
     refine zm (bF) rfl (zm (.pointer (some ⟨b10, 0, none⟩)) rfl (zg rfl (Ct rfl) (zg rfl (fa213_0 (b := ⟨b10, 0, none⟩) rfl rfl) (zl (.slice A1 n1 c1) lo97 (H199.ob (i := 2) rfl) rfl (zg rfl (Ex.len Tryz.underlying97 rfl) ?_)))))
     refine zc ((0 : Int) < ((n1 : Nat) : Int)) rfl (fun r hr => Df rfl rfl hr) (fun h335 => ?_) (fun h335 => ?_)
     ·skip
      refine zF (bT) rfl (zm (bT) rfl (zo rfl (zo rfl (zo rfl (zo rfl (zT (bT) rfl (zm (bT) rfl (zo rfl (zo rfl (zo rfl ?_))))))))))
      refine zo rfl (zo rfl (zT (bT) rfl (RL.nil (thn.n (Ab rfl (CW.seq (CW.region (zg rfl (Cc (cs := zHeap) bd47 rfl) (RL.st (vs := zHeap) (cs' := zHeap) Tryz.sizeOf47 (H199.ob (i := 4) rfl) rfl rfl rfl rfl rfl rfl ?_)))))))))
      intro w336 hz337 g338 o339
      have H340 : Sp [ObjsA ros os, Ar 136 5 Ao no co (Cj ros), Af b10 213 [.slice A1 n1 c1, .bool false], Af b18 47 [(J (x31 : Int)), (.slice Ao no co), (J (x55 : Int)), (J (x80 : Int)), (J (x104 : Int)), (J (x128 : Int)), (J (x152 : Int)), (.slice none 0 0)], Af b2 47 zHeap, Bd w Bl] w336 := H199.setB (i := 4) rfl g338 o339 rfl
      have z341 := g338.size
      refine za (J 60) rfl (RL.nil (thn.n (CW.ret (thn.r (finQ.r (v := (.tuple #[(.agg (zHeap).toArray), (J 60)])) (Cp rfl (Rv.cell rfl (Ak (cs := zHeap) wh47 (H340.ob (i := 4) rfl).cl)) (Rv.tmp rfl)) ?_)))))
      exact .inr ⟨rfl, (H340.fix (i := 5) rfl), by rw [hgh, if_neg (fun ⟨q1, q2, q3, q4, q5⟩ => by first | (cases q1; done) | (rw [q2] at hq1l; simp only [List.length_nil] at hq1l; omega) | omega)]⟩
     ·skip
      refine zF (bF) rfl (zm (bF) rfl (zg rfl (fa47_0 (b := ⟨b18, 0, none⟩) rfl rfl) (zl (J (x31 : Int)) Cf (H199.ob (i := 3) rfl) rfl (RL.call Tryz.call235 (reg_ _ (x31 : Int)) rfl rfl rfl ?_))))
      rintro _ w342 ⟨rfl, g343⟩
      have H344 := H199.grow g343
      have z345 := g343.size
      rcases hb346 : (Aq (x31 : Int) 3 8) with _ | _
      ·have hwf := withinB_f hb346
       refine zg rfl (Ex.not (b := false) rfl) (zF (bT) rfl (zm (bT) rfl (zo rfl (zo rfl (zo rfl (zo rfl (zo rfl (zT (bT) rfl (RL.nil (thn.n (Ab rfl (CW.seq (CW.region (zg rfl (Cc (cs := zHeap) bd47 rfl) ?_))))))))))))))
       refine RL.st (vs := zHeap) (cs' := zHeap) Tryz.sizeOf47 (H344.ob (i := 4) rfl) rfl rfl rfl rfl rfl rfl ?_
       intro w347 hz348 g349 o350
       have H351 : Sp [ObjsA ros os, Ar 136 5 Ao no co (Cj ros), Af b10 213 [.slice A1 n1 c1, .bool false], Af b18 47 [(J (x31 : Int)), (.slice Ao no co), (J (x55 : Int)), (J (x80 : Int)), (J (x104 : Int)), (J (x128 : Int)), (J (x152 : Int)), (.slice none 0 0)], Af b2 47 zHeap, Bd w Bl] w347 := H344.setB (i := 4) rfl g349 o350 rfl
       have z352 := g349.size
       refine za (J 60) rfl (RL.nil (thn.n (CW.ret (thn.r (finQ.r (v := (.tuple #[(.agg (zHeap).toArray), (J 60)])) (Cp rfl (Rv.cell rfl (Ak (cs := zHeap) wh47 (H351.ob (i := 4) rfl).cl)) (Rv.tmp rfl)) ?_)))))
       exact .inr ⟨rfl, (H351.fix (i := 5) rfl), by rw [hgh, if_neg (fun ⟨q1, q2, q3, q4, q5⟩ => by first | (cases q1; done) | (rw [q2] at hq1l; simp only [List.length_nil] at hq1l; omega) | (rw [hb346] at q3; cases q3) | (rw [hb346] at q5; cases q5) | omega)]⟩
      ·have hwt := Bc hb346
       refine zg rfl (Ex.not (b := true) rfl) (zF (bF) rfl (zm (bF) rfl (zm (J (x176 : Int)) rfl (zg rfl (fa47_1 (b := ⟨b18, 1, none⟩) rfl rfl) (zl (.slice Ao no co) lo43 (H344.ob (i := 3) rfl) rfl (zg rfl (Ex.len Tryz.underlying43 rfl) ?_))))))
       refine zc (((x176 : Int) : Int) ≠ ((no : Nat) : Int)) rfl (fun r hr => Cm rfl rfl hr) (fun h353 => ?_) (fun h353 => ?_)
       ·skip
        refine zF (bT) rfl (RL.nil (thn.n (Ab rfl (CW.seq (CW.region (zg rfl (Cc (cs := zHeap) bd47 rfl) (RL.st (vs := zHeap) (cs' := zHeap) Tryz.sizeOf47 (H344.ob (i := 4) rfl) rfl rfl rfl rfl rfl rfl ?_)))))))
        intro w354 hz355 g356 o357
        have H358 : Sp [ObjsA ros os, Ar 136 5 Ao no co (Cj ros), Af b10 213 [.slice A1 n1 c1, .bool false], Af b18 47 [(J (x31 : Int)), (.slice Ao no co), (J (x55 : Int)), (J (x80 : Int)), (J (x104 : Int)), (J (x128 : Int)), (J (x152 : Int)), (.slice none 0 0)], Af b2 47 zHeap, Bd w Bl] w354 := H344.setB (i := 4) rfl g356 o357 rfl
        have z359 := g356.size
        refine za (J 60) rfl (RL.nil (thn.n (CW.ret (thn.r (finQ.r (v := (.tuple #[(.agg (zHeap).toArray), (J 60)])) (Cp rfl (Rv.cell rfl (Ak (cs := zHeap) wh47 (H358.ob (i := 4) rfl).cl)) (Rv.tmp rfl)) ?_)))))
        exact .inr ⟨rfl, (H358.fix (i := 5) rfl), by rw [hgh, if_neg (fun ⟨q1, q2, q3, q4, q5⟩ => by first | (cases q1; done) | (rw [q2] at hq1l; simp only [List.length_nil] at hq1l; omega) | (rw [hb346] at q3; cases q3) | (rw [hb346] at q5; cases q5) | omega)]⟩
       ·skip
        refine zF (bF) rfl (RL.nil (thn.n (Ag rfl (CW.skip (thn.n (CW.seq ?_))))))
        have hxb := obs_bd hmb (many_ok hmy)
        refine CW.region (zg rfl (fa47_0 (b := ⟨b18, 0, none⟩) rfl rfl) (zl (J (x31 : Int)) Cf (H344.ob (i := 3) rfl) rfl (zg rfl (fa47_1 (b := ⟨b18, 1, none⟩) rfl rfl) (zl (.slice Ao no co) lo43 (H344.ob (i := 3) rfl) rfl (RL.call Tryz.call246 (freeR_ _ w342.heap.size (x31 : Int) ros Ao no co ((H344.rowrd (i := 1) rfl).more (Nat.le_refl _)) (by first | assumption | omega) (Nat.le_refl _) (by omega) (by first | assumption | omega) hxb) rfl rfl rfl ?_)))))
        rintro _ w364 ⟨A360, n361, c362, rfl, g365, hn6363⟩
        have g366 := g365.fix (i := 1) rfl
        have H367 : Sp [Ar 133 2 A360 n361 c362 (Ck ((Dg (Ae (x31 : Int)) (ros.map RObj.blk) [⟨0, (x31 : Int)⟩]))), ObjsA ros os, Ar 136 5 Ao no co (Cj ros), Af b10 213 [.slice A1 n1 c1, .bool false], Af b18 47 [(J (x31 : Int)), (.slice Ao no co), (J (x55 : Int)), (J (x80 : Int)), (J (x104 : Int)), (J (x128 : Int)), (J (x152 : Int)), (.slice none 0 0)], Af b2 47 zHeap, Bd w Bl] w364 := H344.join (m := [Ar 133 2 A360 n361 c362 (Ck ((Dg (Ae (x31 : Int)) (ros.map RObj.blk) [⟨0, (x31 : Int)⟩])))]) g365
        have z368 := g366.size
        refine zg rfl (fa47_4 (b := ⟨b18, 7, none⟩) rfl rfl) (RL.st (vs := [(.slice A360 n361 c362)]) (cs' := [(J (x31 : Int)), (.slice Ao no co), (J (x55 : Int)), (J (x80 : Int)), (J (x104 : Int)), (J (x128 : Int)), (J (x152 : Int)), (.slice A360 n361 c362)]) Tryz.sizeOf45 (H367.ob (i := 4) rfl) rfl rfl rfl rfl rfl rfl ?_)
        intro w369 hz370 g371 o372
        have H373 : Sp [Ar 133 2 A360 n361 c362 (Ck ((Dg (Ae (x31 : Int)) (ros.map RObj.blk) [⟨0, (x31 : Int)⟩]))), ObjsA ros os, Ar 136 5 Ao no co (Cj ros), Af b10 213 [.slice A1 n1 c1, .bool false], Af b18 47 [(J (x31 : Int)), (.slice Ao no co), (J (x55 : Int)), (J (x80 : Int)), (J (x104 : Int)), (J (x128 : Int)), (J (x152 : Int)), (.slice A360 n361 c362)], Af b2 47 zHeap, Bd w Bl] w369 := H367.setB (i := 4) rfl g371 o372 rfl
        have z374 := g371.size
        refine RL.nil (thn.n (CW.seq (CW.seq ?_)))
        rw [hmb] at H373
        have H375 : Sp [HpW (⟨(x31 : Int), ⟨Ao, no, co⟩, (x55 : Int), (x80 : Int), (x104 : Int), (x128 : Int), (x152 : Int), ⟨A360, n361, c362⟩⟩ : RHeap) ros (⟨(x31 : Int), os, (x55 : Int), (x80 : Int), (x104 : Int), (x128 : Int), (x152 : Int), (Dg (Ae (x31 : Int)) (os.map Obj.blk) [⟨0, (x31 : Int)⟩])⟩ : Eng.Heap), Af b10 213 [.slice A1 n1 c1, .bool false], Af b18 47 [(J (x31 : Int)), (.slice Ao no co), (J (x55 : Int)), (J (x80 : Int)), (J (x104 : Int)), (J (x128 : Int)), (J (x152 : Int)), (.slice A360 n361 c362)], Af b2 47 zHeap, Bd w Bl] w369 := (Sp.hpMk (rh := (⟨(x31 : Int), ⟨Ao, no, co⟩, (x55 : Int), (x80 : Int), (x104 : Int), (x128 : Int), (x152 : Int), ⟨A360, n361, c362⟩⟩ : RHeap)) (ros := ros) (hh := (⟨(x31 : Int), os, (x55 : Int), (x80 : Int), (x104 : Int), (x128 : Int), (x152 : Int), (Dg (Ae (x31 : Int)) (os.map Obj.blk) [⟨0, (x31 : Int)⟩])⟩ : Eng.Heap)) (H373.sel [2, 1, 0, 3, 4, 5, 6] (by decide) rfl) ⟨rfl, rfl, rfl, by show no ≤ _; omega, by show n361 ≤ _; omega⟩)
        refine CW.region (zg rfl (Ai rfl (Ak (cs := [(J (x31 : Int)), (.slice Ao no co), (J (x55 : Int)), (J (x80 : Int)), (J (x104 : Int)), (J (x128 : Int)), (J (x152 : Int)), (.slice A360 n361 c362)]) wh47 (H375.ob (i := 2) rfl).cl)) (RL.call Tryz.call167 (right05_ _ _ (⟨(x31 : Int), ⟨Ao, no, co⟩, (x55 : Int), (x80 : Int), (x104 : Int), (x128 : Int), (x152 : Int), ⟨A360, n361, c362⟩⟩ : RHeap) _ _ (H375.hpWR (i := 0) rfl) (Nat.le_refl _) (by first | assumption | omega | (dsimp only; omega))) rfl rfl rfl ?_))
        rintro _ w376 ⟨rfl, g377⟩
        have H378 := H375.grow g377
        have z379 := g377.size
        rcases hb380 : (Cw ((⟨(x31 : Int), os, (x55 : Int), (x80 : Int), (x104 : Int), (x128 : Int), (x152 : Int), (Dg (Ae (x31 : Int)) (os.map Obj.blk) [⟨0, (x31 : Int)⟩])⟩ : Eng.Heap))) with _ | _
        ·skip
         refine zg rfl (Ex.not (b := false) rfl) (RL.nil (thn.n (Ab rfl (CW.seq (CW.region (zg rfl (Cc (cs := zHeap) bd47 rfl) (RL.st (vs := zHeap) (cs' := zHeap) Tryz.sizeOf47 (H378.ob (i := 3) rfl) rfl rfl rfl rfl rfl rfl ?_)))))))
         intro w381 hz382 g383 o384
         have H385 : Sp [HpW (⟨(x31 : Int), ⟨Ao, no, co⟩, (x55 : Int), (x80 : Int), (x104 : Int), (x128 : Int), (x152 : Int), ⟨A360, n361, c362⟩⟩ : RHeap) ros (⟨(x31 : Int), os, (x55 : Int), (x80 : Int), (x104 : Int), (x128 : Int), (x152 : Int), (Dg (Ae (x31 : Int)) (os.map Obj.blk) [⟨0, (x31 : Int)⟩])⟩ : Eng.Heap), Af b10 213 [.slice A1 n1 c1, .bool false], Af b18 47 [(J (x31 : Int)), (.slice Ao no co), (J (x55 : Int)), (J (x80 : Int)), (J (x104 : Int)), (J (x128 : Int)), (J (x152 : Int)), (.slice A360 n361 c362)], Af b2 47 zHeap, Bd w Bl] w381 := H378.setB (i := 3) rfl g383 o384 rfl
         have z386 := g383.size
         refine za (J 60) rfl (RL.nil (thn.n (CW.ret (thn.r (finQ.r (v := (.tuple #[(.agg (zHeap).toArray), (J 60)])) (Cp rfl (Rv.cell rfl (Ak (cs := zHeap) wh47 (H385.ob (i := 3) rfl).cl)) (Rv.tmp rfl)) ?_)))))
         exact .inr ⟨rfl, (H385.fix (i := 4) rfl), by rw [hgh, if_neg (fun ⟨q1, q2, q3, q4, q5⟩ => by first | (cases q1; done) | (rw [q2] at hq1l; simp only [List.length_nil] at hq1l; omega) | (rw [hb380] at q3; cases q3) | (rw [hb380] at q5; cases q5) | omega)]⟩
        ·skip
         refine zg rfl (Ex.not (b := true) rfl) (RL.nil (thn.n (Ag rfl (CW.skip (thn.n (CW.seq (CW.region (zg rfl (Ai rfl (Ak (cs := [(J (x31 : Int)), (.slice Ao no co), (J (x55 : Int)), (J (x80 : Int)), (J (x104 : Int)), (J (x128 : Int)), (J (x152 : Int)), (.slice A360 n361 c362)]) wh47 (H378.ob (i := 2) rfl).cl)) (RL.st (vs := [(J (x31 : Int)), (.slice Ao no co), (J (x55 : Int)), (J (x80 : Int)), (J (x104 : Int)), (J (x128 : Int)), (J (x152 : Int)), (.slice A360 n361 c362)]) (cs' := [(J (x31 : Int)), (.slice Ao no co), (J (x55 : Int)), (J (x80 : Int)), (J (x104 : Int)), (J (x128 : Int)), (J (x152 : Int)), (.slice A360 n361 c362)]) Tryz.sizeOf47 (H378.ob (i := 3) rfl) rfl rfl rfl rfl rfl rfl ?_)))))))))
         intro w387 hz388 g389 o390
         have H391 : Sp [HpW (⟨(x31 : Int), ⟨Ao, no, co⟩, (x55 : Int), (x80 : Int), (x104 : Int), (x128 : Int), (x152 : Int), ⟨A360, n361, c362⟩⟩ : RHeap) ros (⟨(x31 : Int), os, (x55 : Int), (x80 : Int), (x104 : Int), (x128 : Int), (x152 : Int), (Dg (Ae (x31 : Int)) (os.map Obj.blk) [⟨0, (x31 : Int)⟩])⟩ : Eng.Heap), Af b10 213 [.slice A1 n1 c1, .bool false], Af b18 47 [(J (x31 : Int)), (.slice Ao no co), (J (x55 : Int)), (J (x80 : Int)), (J (x104 : Int)), (J (x128 : Int)), (J (x152 : Int)), (.slice A360 n361 c362)], Af b2 47 [(J (x31 : Int)), (.slice Ao no co), (J (x55 : Int)), (J (x80 : Int)), (J (x104 : Int)), (J (x128 : Int)), (J (x152 : Int)), (.slice A360 n361 c362)], Bd w Bl] w387 := H378.setB (i := 3) rfl g389 o390 rfl
         have z392 := g389.size
         refine za (J 0) rfl (RL.nil (thn.n (CW.ret (finQ.r (v := (.tuple #[(.agg ([(J (x31 : Int)), (.slice Ao no co), (J (x55 : Int)), (J (x80 : Int)), (J (x104 : Int)), (J (x128 : Int)), (J (x152 : Int)), (.slice A360 n361 c362)]).toArray), (J 0)])) (Cp rfl (Rv.cell rfl (Ak (cs := [(J (x31 : Int)), (.slice Ao no co), (J (x55 : Int)), (J (x80 : Int)), (J (x104 : Int)), (J (x128 : Int)), (J (x152 : Int)), (.slice A360 n361 c362)]) wh47 (H391.ob (i := 3) rfl).cl)) (Rv.tmp rfl)) ?_))))
         exact .inl ⟨(⟨(x31 : Int), ⟨Ao, no, co⟩, (x55 : Int), (x80 : Int), (x104 : Int), (x128 : Int), (x152 : Int), ⟨A360, n361, c362⟩⟩ : RHeap), ros, _, rfl, (H391.sel [0, 4] (by decide) rfl), by rw [hgh, if_pos ⟨rfl, List.eq_nil_of_length_eq_zero (by omega), hb346, by omega, hb380⟩], hb380⟩
    ·skip
     refine zm (bT) rfl (zo rfl (zo rfl (zo rfl (zo rfl (zo rfl (zo rfl (zT (bT) rfl (zm (bT) rfl (zo rfl (zo rfl ?_))))))))))
     refine zo rfl (zo rfl (zT (bT) rfl (zm (bT) rfl (zo rfl (zo rfl (zo rfl (zo rfl (zo rfl (zT (bT) rfl (RL.nil (thn.n (Ab rfl (CW.seq (CW.region ?_))))))))))))))
     refine zg rfl (Cc (cs := zHeap) bd47 rfl) (RL.st (vs := zHeap) (cs' := zHeap) Tryz.sizeOf47 (H199.ob (i := 4) rfl) rfl rfl rfl rfl rfl rfl ?_)
     intro w393 hz394 g395 o396
     have H397 : Sp [ObjsA ros os, Ar 136 5 Ao no co (Cj ros), Af b10 213 [.slice A1 n1 c1, .bool true], Af b18 47 [(J (x31 : Int)), (.slice Ao no co), (J (x55 : Int)), (J (x80 : Int)), (J (x104 : Int)), (J (x128 : Int)), (J (x152 : Int)), (.slice none 0 0)], Af b2 47 zHeap, Bd w Bl] w393 := H199.setB (i := 4) rfl g395 o396 rfl
     have z398 := g395.size
     refine za (J 60) rfl (RL.nil (thn.n (CW.ret (thn.r (finQ.r (v := (.tuple #[(.agg (zHeap).toArray), (J 60)])) (Cp rfl (Rv.cell rfl (Ak (cs := zHeap) wh47 (H397.ob (i := 4) rfl).cl)) (Rv.tmp rfl)) ?_)))))
     exact .inr ⟨rfl, (H397.fix (i := 5) rfl), by rw [hgh, if_neg (fun ⟨q1, q2, q3, q4, q5⟩ => by first | (cases q1; done) | (rw [q2] at hq1l; simp only [List.length_nil] at hq1l; omega) | omega)]⟩
end Go.Proofs.YtfokljnhllflbaaGreat
namespace Go.Eng
open Go Go.RowKit
theorem rows_app (l m : List Row) : rows (l ++ m) = rows l ++ rows m := by simp [rows]
def mayRow (x : Row) : Bool := Aq x.client 1 4 && Aq x.seq 1 1000000 && Aq x.code 0 65535
theorem mayRow_t {x : Row} (h : mayRow x = true) : (1 ≤ x.client ∧ x.client ≤ 4) ∧ (1 ≤ x.seq ∧ x.seq ≤ 1000000) ∧ (0 ≤ x.code ∧ x.code ≤ 65535) := by
  unfold mayRow at h
  simp only [Bool.and_eq_true] at h
  exact ⟨Bc h.1.1, Bc h.1.2, Bc h.2⟩
def rowOK (l : List Row) (i : Nat) (x : Row) : Prop := mayRow x = true ∧ ∀ y : Row, 0 < i → l[i - 1]? = some y → y.client < x.client
theorem rowsB_of {l : List Row} {n : Nat} (hn : l.length ≤ n) (h : ∀ (j : Nat) (x : Row), j < n → l[j]? = some x → rowOK l j x) : rowsB 0 l = true :=
  rows_right.2 fun i x hx => by
    obtain ⟨h1, h2⟩ := h i x (by have := lt_len hx; omega) hx
    have h3 := mayRow_t h1
    exact ⟨by omega, by omega, h3.2.1, h3.2.2, h2⟩
theorem rowsB_no {l : List Row} {i : Nat} {x : Row} (hx : l[i]? = some x) (h : ¬ rowOK l i x) : rowsB 0 l = false := by
  cases e : rowsB 0 l with
  | false => rfl
  | true =>
    exfalso
    obtain ⟨h1, h2, h3, h4, h5⟩ := rows_right.1 e i x hx
    refine h ⟨?_, h5⟩
    unfold mayRow Aq
    simp only [Bool.and_eq_true, decide_eq_true_eq]
    exact ⟨⟨⟨by omega, h2⟩, h3⟩, h4⟩
theorem stateB_no1 {s : State} (h : rowsB 0 s.rows = false) : Cu s = false := by unfold Cu; rw [h, Bool.and_false]
theorem stateB_rows {s : State} (h : rowsB 0 s.rows = true) : Cu s = Cw s.heap := by unfold Cu; rw [h, Bool.and_true]
def entOK (nm : Int) (l : List Entry) (i : Nat) (e : Entry) : Prop := mayE e = true ∧ e.view ≤ nm ∧ ∀ y : Entry, 0 < i → l[i - 1]? = some y → y.view ≤ e.view
theorem mayE_view {e : Entry} (h : mayE e = true) : 0 ≤ e.view := by
  unfold mayE at h
  simp only [Bool.and_eq_true] at h
  exact (Bc h.1.2).1
theorem entsB_iff {nm : Int} : ∀ {l : List Entry} {v : Int}, entsB nm v l = true ↔ ∀ (i : Nat) (e : Entry), l[i]? = some e → mayE e = true ∧ v ≤ e.view ∧ e.view ≤ nm ∧ ∀ y : Entry, 0 < i → l[i - 1]? = some y → y.view ≤ e.view
  | [], v => by simp [entsB]
  | r :: l, v => by
    unfold entsB
    simp only [Bool.and_eq_true]
    rw [entsB_iff (l := l)]
    constructor
    · rintro ⟨⟨h1, h2⟩, h7⟩ i x hx
      have h2 := Bc h2
      cases i with
      | zero => simp at hx; subst hx; exact ⟨h1, h2.1, h2.2, fun y hy => by omega⟩
      | succ i =>
        simp at hx
        obtain ⟨a1, a2, a3, a4⟩ := h7 i x hx
        refine ⟨a1, by omega, a3, fun y _ hy => ?_⟩
        cases i with
        | zero => simp at hy; subst hy; exact a2
        | succ i => simp at hy; exact a4 y (by omega) (by simpa using hy)
    · intro h
      obtain ⟨a1, a2, a3, _⟩ := h 0 r rfl
      refine ⟨⟨a1, by simp [Aq]; omega⟩, fun i x hx => ?_⟩
      obtain ⟨b1, b2, b3, b4⟩ := h (i + 1) x (by simpa using hx)
      have key : ∀ (i : Nat) (x : Entry), l[i]? = some x → r.view ≤ x.view := by
        intro i
        induction i with
        | zero => intro x hx; exact (h 1 x (by simpa using hx)).2.2.2 r (by omega) rfl
        | succ i ih =>
          intro x hx
          have hlt : i < l.length := by have := lt_len hx; omega
          have h1 := ih _ (List.getElem?_eq_getElem hlt)
          have h2 := (h (i + 2) x (by simpa using hx)).2.2.2 l[i] (by omega) (by show l[i]? = some _; exact List.getElem?_eq_getElem hlt)
          omega
      refine ⟨b1, key i x hx, b3, fun y hi hy => b4 y (by omega) ?_⟩
      cases i with
      | zero => omega
      | succ i => simpa using hy
theorem entsB_of {nm : Int} {l : List Entry} {n : Nat} (hn : l.length ≤ n) (h : ∀ (j : Nat) (x : Entry), j < n → l[j]? = some x → entOK nm l j x) : entsB nm 0 l = true :=
  entsB_iff.2 fun i x hx => by
    obtain ⟨h1, h2, h3⟩ := h i x (by have := lt_len hx; omega) hx
    exact ⟨h1, mayE_view h1, h2, h3⟩
theorem entsB_bad {nm : Int} {l : List Entry} {i : Nat} {x : Entry} (hx : l[i]? = some x) (h : ¬ entOK nm l i x) : entsB nm 0 l = false := by
  cases e : entsB nm 0 l with
  | false => rfl
  | true =>
    obtain ⟨h1, h2, h3, h4⟩ := entsB_iff.1 e i x hx
    exact absurd ⟨h1, h3, h4⟩ h
theorem keptB_no {k : Kept} (h : ¬ (0 ≤ k.view ∧ k.view ≤ 900000000 ∧ 0 ≤ k.normal ∧ k.normal ≤ k.view ∧ 0 ≤ k.base ∧ k.base ≤ 900000000 ∧ k.ents.length ≤ 4000 ∧ follB k.ents k.base = true ∧ entsB k.normal 0 k.ents = true ∧ (De k.image).isSome = true)) : keptB k = false := by
  cases e : keptB k with
  | false => rfl
  | true => exact absurd (keptB_t e) h
theorem keptB_yes {k : Kept} (h : 0 ≤ k.view ∧ k.view ≤ 900000000 ∧ 0 ≤ k.normal ∧ k.normal ≤ k.view ∧ 0 ≤ k.base ∧ k.base ≤ 900000000 ∧ k.ents.length ≤ 4000 ∧ follB k.ents k.base = true ∧ entsB k.normal 0 k.ents = true ∧ (De k.image).isSome = true) : keptB k = true := by
  obtain ⟨h1, h2, h3, h4, h5, h6, h7, h8, h9, h10⟩ := h
  unfold keptB
  rw [h8, h9, h10]
  simp only [Aq, Bool.and_true, Bool.and_eq_true, decide_eq_true_eq]
  exact ⟨⟨⟨⟨h1, h2⟩, ⟨h3, h4⟩⟩, ⟨h5, h6⟩⟩, h7⟩
end Go.Eng
namespace Go.Proofs.YtfokljnhllflbaaGreat
open Go Go.Eng Go.RowKit
set_option maxHeartbeats 400000 in
set_option maxRecDepth 20000 in
theorem mayRow_ (w : World) (x : Row) : Ret Tryz.prog 166 [(.agg (x.cells).toArray)] w (fun v w' => v = .bool (mayRow x) ∧ w.grownBy w' none) := by
  have H0 : Sp [Bd w Bl] w := Bn w
  refine Ret.body Tryz.func166 rfl rfl rfl ?_
  refine CW.seq (CW.region (RL.bx (cs := x.cells) rfl rfl rfl ?_))
  intro w1 b2 hb3 hz4 g5 o6
  have H7 := H0.newB g5 o6 (by omega)
  have z8 := g5.size
  refine za (bF) rfl (RL.nil (thn.n (CW.seq (CW.region (zg rfl (Dc (b := ⟨b2, 0, none⟩) rfl rfl) (zl (J x.client) Cf (H7.ob (i := 0) rfl) rfl (RL.call Tryz.call221 (within_tumulusref06 _ x.client 1 4) rfl rfl rfl ?_)))))))
  rintro _ _ ⟨rfl, rfl⟩
  rcases hb12 : (Aq x.client 1 4) with _ | _
  ·skip
   refine zm (bF) rfl (zo rfl (zo rfl (zo rfl (zF (bF) rfl (zm (bF) rfl (zo rfl (zo rfl (zo rfl (zo rfl (zF (bF) rfl ?_))))))))))
   refine za (bF) rfl (RL.nil (thn.n (CW.ret (finQ.r (v := bF) (Ax rfl rfl) ?_))))
   exact ⟨Am (by unfold mayRow; simp [hb12]), (H7.fix (i := 1) rfl)⟩
  ·have hw9 := Bc hb12
   refine zm (bT) rfl (zg rfl (fa123_1 (b := ⟨b2, 1, none⟩) rfl rfl) (zl (J x.seq) Cf (H7.ob (i := 0) rfl) rfl (RL.call Tryz.call221 (within_tumulusref06 _ x.seq 1 1000000) rfl rfl rfl ?_)))
   rintro _ _ ⟨rfl, rfl⟩
   rcases hb16 : (Aq x.seq 1 1000000) with _ | _
   ·skip
    refine zT (bF) rfl (zm (bF) rfl (zo rfl (zo rfl (zo rfl (zo rfl (zF (bF) rfl (za (bF) rfl (RL.nil (thn.n (CW.ret (finQ.r (v := bF) (Ax rfl rfl) ?_)))))))))))
    exact ⟨Am (by unfold mayRow; simp [hb12, hb16]), (H7.fix (i := 1) rfl)⟩
   ·have hw13 := Bc hb16
    refine zT (bT) rfl (zm (bT) rfl (zg rfl (fa123_2 (b := ⟨b2, 2, none⟩) rfl rfl) (zg rfl (fa55_0 (b := ⟨b2, 2, none⟩) rfl rfl) (zl (J x.code) lo53 (H7.ob (i := 0) rfl) rfl (RL.call Tryz.call221 (within_tumulusref06 _ x.code 0 65535) rfl rfl rfl ?_)))))
    rintro _ _ ⟨rfl, rfl⟩
    rcases hb20 : (Aq x.code 0 65535) with _ | _
    ·skip
     refine zT (bF) rfl (za (bF) rfl (RL.nil (thn.n (CW.ret (finQ.r (v := bF) (Ax rfl rfl) ?_)))))
     exact ⟨Am (by unfold mayRow; simp [hb12, hb16, hb20]), (H7.fix (i := 1) rfl)⟩
    ·have hw17 := Bc hb20
     refine zT (bT) rfl (za (bT) rfl (RL.nil (thn.n (CW.ret (finQ.r (v := bT) (Ax rfl rfl) ?_)))))
     exact ⟨Am (by unfold mayRow; simp [hb12, hb16, hb20]), (H7.fix (i := 1) rfl)⟩
set_option maxHeartbeats 1000000 in
set_option maxRecDepth 20000 in
theorem rightS_ (w : World) (B : Nat) (rs : RState) (ros : List RObj) (s : State) (H : StateR w B rs ros s) (hB : B ≤ w.heap.size) (hxr : s.heap.next ≤ 9223372036854775807) : Ret Tryz.prog 104 [(.agg (rs.cells).toArray)] w (fun v w' => v = .bool (Cu s) ∧ w.grownBy w' none) := by
  have hrn := H.rn
  have hrm := H.rm
  have H0 : Sp [Bd w Bl] w := Bn w
  refine Ret.body Tryz.func104 rfl rfl rfl ?_
  refine CW.seq (CW.region (RL.bx (cs := rs.cells) rfl rfl rfl ?_))
  intro w1 b2 hb3 hz4 g5 o6
  have H7 := H0.newB g5 o6 (by omega)
  have z8 := g5.size
  refine za (bF) rfl (RL.nil (thn.n (CW.seq (CW.seq (CW.region (za (J 0) rfl (RL.nil (thn.n (CW.block ?_)))))))))
  refine CW.loop (fun t => (Nat.ble 2 t && Nat.ble t 37)) (fun nL ρ wl => ∃ (i : Nat), ρ 3 = (J (i : Int)) ∧ nL = rs.rows.n - i ∧ Sp [Af b2 50 rs.cells, Bd w Bl] wl ∧ i ≤ rs.rows.n ∧ ∀ (j : Nat) (x : Row), j < i → s.rows[j]? = some x → rowOK s.rows j x) (rs.rows.n) ?aa0 ?bb0
  case aa0 =>
   exact ⟨0, rfl, rfl, H7, Nat.zero_le _, fun j x hj => by omega⟩
  case bb0 =>
   rintro n10 ρ0 w9 ho11 ⟨i, hs0_3, hn0, H12, hi, hO⟩
   obtain ⟨j0, rfl⟩ := ho11.shape1 hs0_3
   clear ho11 hs0_3
   subst hn0
   have z13 := (H12.fix (i := 1) rfl).size
   refine CW.seq (CW.seq (CW.region (zm (J (i : Int)) rfl (zg rfl (fa50_1 (b := ⟨b2, 8, none⟩) rfl rfl) (zl (.slice rs.rows.a rs.rows.n rs.rows.c) lo48 (H12.ob (i := 0) rfl) rfl (zg rfl (Ex.len Tryz.underlying48 rfl) ?_))))))
   refine zc (((i : Int) : Int) < ((rs.rows.n : Nat) : Int)) rfl (fun r hr => Ex.lt rfl rfl hr) (fun h14 => ?_) (fun h14 => ?_)
   ·skip
    refine RL.nil (thn.n (Ab rfl (CW.skip (thn.n (CW.seq (CW.block (CW.seq (CW.held (fun wq => Sp [Af b2 50 rs.cells, Bd w Bl] wq) Tryz.mixed rfl ?_))))))))
    intro w15 g16
    have H17 := H12.grow g16
    have z18 := g16.size
    refine zr 0 1 rfl (by kernel_rfl) H17 (fun wq hq => fa50_1 (b := ⟨b2, 8, none⟩) rfl rfl) (zr 2 5 rfl (by kernel_rfl) H17 (fun wq hq => Au (v := (J (i : Int))) rfl) (zr 1 7 rfl (by kernel_rfl) H17 (fun wq hq => Ai rfl (Ba lo48 (Ob.cell (v := (.slice rs.rows.a rs.rows.n rs.rows.c)) (hq.ob (i := 0) rfl) rfl))) ?_))
    obtain ⟨e19, he20⟩ : ∃ e, (s.rows)[i]? = some e := ⟨_, List.getElem?_eq_getElem (by omega)⟩
    obtain ⟨ad21, hA22⟩ := Rd.sm (H.rr.st0 (H17.fix (i := 1) rfl)) (rows_get he20)
    have hl23 := Eng.lt_len (rows_get he20)
    refine zr 3 15 rfl (by kernel_rfl) H17 (fun wq hq => Cq (b := (ad21.add (i * 4))) (i := i) Tryz.underlying48 Tryz.sizeOf123 (by rw [← hA22]; rfl) rfl (by omega) (by omega) rfl) (zr 4 31 rfl (by kernel_rfl) H17 (fun wq hq => Ai rfl (Ak (cs := e19.cells) wh123 (Rd.cl (H.rr.st0 (hq.fix (i := 1) rfl)) hA22 (rows_get he20)))) (RA.one (i := 5) (by kernel_rfl) ?_))
    refine ⟨_, 63, rfl, by kernel_rfl, ?_⟩
    refine RL.call Tryz.call166 (mayRow_ _ e19) rfl rfl rfl ?_
    rintro _ w24 ⟨rfl, g25⟩
    have H26 := H17.grow g25
    have z27 := g25.size
    rcases hb28 : (mayRow e19) with _ | _
    ·skip
     refine RL.nil ?_
     refine ⟨H26, ?_⟩
     refine zr 6 127 rfl (by kernel_rfl) H26 (fun wq hq => Ex.not (b := false) rfl) (zr 7 255 rfl (by kernel_rfl) H26 (fun wq hq => Au (v := bT) rfl) (zq 8 511 rfl (by kernel_rfl) H26 (zq 9 1023 rfl (by kernel_rfl) H26 (zq 10 2047 rfl (by kernel_rfl) H26 (zq 11 4095 rfl (by kernel_rfl) H26 (zq 13 12287 rfl (by kernel_rfl) H26 (zq 14 28671 rfl (by kernel_rfl) H26 (zq 18 290815 rfl (by kernel_rfl) H26 (zq 20 1339391 rfl (by kernel_rfl) H26 (zq 12 1343487 rfl (by kernel_rfl) H26 ?_))))))))))
     refine zq 15 1376255 rfl (by kernel_rfl) H26 (zq 16 1441791 rfl (by kernel_rfl) H26 (zq 17 1572863 rfl (by kernel_rfl) H26 (zq 19 2097151 rfl (by kernel_rfl) H26 (zq 21 4194303 rfl (by kernel_rfl) H26 (zq 22 8388607 rfl (by kernel_rfl) H26 (zq 23 16777215 rfl (by kernel_rfl) H26 (zq 24 33554431 rfl (by kernel_rfl) H26 (zq 25 67108863 rfl (by kernel_rfl) H26 (zr 26 134217727 rfl (by kernel_rfl) H26 (fun wq hq => Bi (v := bT) rfl rfl) (Bj (by kernel_rfl) ?_))))))))))
     refine thn.n (Ab rfl (CW.seq (CW.region (za (bF) rfl (RL.nil (thn.n (CW.ret (inB.r (thn.r (thn.r (inB.r (thn.r (finQ.r (v := bF) (Ax rfl rfl) ?_)))))))))))))
     exact ⟨Am (stateB_no1 (rowsB_no he20 (fun ⟨q1, q2⟩ => by first | (rw [hb28] at q1; cases q1; done)))).symm, (H26.fix (i := 1) rfl)⟩
    ·skip
     refine RL.nil ?_
     refine ⟨H26, ?_⟩
     refine zr 6 127 rfl (by kernel_rfl) H26 (fun wq hq => Ex.not (b := true) rfl) (zr 7 255 rfl (by kernel_rfl) H26 (fun wq hq => Au (v := bF) rfl) (zr 8 511 rfl (by kernel_rfl) H26 (fun wq hq => Au (v := (J (i : Int))) rfl) ?_))
     refine zb 9 1023 ((0 : Int) < ((i : Int) : Int)) rfl (by kernel_rfl) H26 (fun r hr wq hq => Df rfl rfl hr) (fun h29 => ?_) (fun h29 => ?_)
     ·skip
      refine zr 10 2047 rfl (by kernel_rfl) H26 (fun wq hq => Au (v := bT) rfl) (zr 11 4095 rfl (by kernel_rfl) H26 (fun wq hq => fa50_1 (b := ⟨b2, 8, none⟩) rfl rfl) (zr 13 12287 rfl (by kernel_rfl) H26 (fun wq hq => Au (v := (J (i : Int))) rfl) (zr 14 28671 rfl (by kernel_rfl) H26 (fun wq hq => Ci (r := ((i - 1 : Nat) : Int)) rfl rfl (by rw [Dd (by omega) (by omega)]; omega)) (zr 18 290815 rfl (by kernel_rfl) H26 (fun wq hq => fa50_1 (b := ⟨b2, 8, none⟩) rfl rfl) (zr 20 1339391 rfl (by kernel_rfl) H26 (fun wq hq => Au (v := (J (i : Int))) rfl) (zr 12 1343487 rfl (by kernel_rfl) H26 (fun wq hq => Ai rfl (Ba lo48 (Ob.cell (v := (.slice rs.rows.a rs.rows.n rs.rows.c)) (hq.ob (i := 0) rfl) rfl))) ?_))))))
      obtain ⟨e30, he31⟩ : ∃ e, (s.rows)[(i - 1)]? = some e := ⟨_, List.getElem?_eq_getElem (by omega)⟩
      obtain ⟨ad32, hA33⟩ := Rd.sm (H.rr.st0 (H26.fix (i := 1) rfl)) (rows_get he31)
      have hl34 := Eng.lt_len (rows_get he31)
      refine zr 15 1376255 rfl (by kernel_rfl) H26 (fun wq hq => Cq (b := (ad32.add ((i - 1) * 4))) (i := (i - 1)) Tryz.underlying48 Tryz.sizeOf123 (by rw [← hA33]; rfl) rfl (by omega) (by omega) rfl) (zr 16 1441791 rfl (by kernel_rfl) H26 (fun wq hq => Dc (b := ((ad32.add ((i - 1) * 4)))) rfl rfl) (zr 17 1572863 rfl (by kernel_rfl) H26 (fun wq hq => Ai rfl (Ba Cf (Cl.at_ (v := (J e30.client)) (Rd.cl (H.rr.st0 (hq.fix (i := 1) rfl)) hA33 (rows_get he31)) (i := 0) rfl))) (zr 19 2097151 rfl (by kernel_rfl) H26 (fun wq hq => Ai rfl (Ba lo48 (Ob.cell (v := (.slice rs.rows.a rs.rows.n rs.rows.c)) (hq.ob (i := 0) rfl) rfl))) ?_)))
      obtain ⟨ad35, hA36⟩ := Rd.sm (H.rr.st0 (H26.fix (i := 1) rfl)) (rows_get he20)
      have hl37 := Eng.lt_len (rows_get he20)
      refine zr 21 4194303 rfl (by kernel_rfl) H26 (fun wq hq => Cq (b := (ad35.add (i * 4))) (i := i) Tryz.underlying48 Tryz.sizeOf123 (by rw [← hA36]; rfl) rfl (by omega) (by omega) rfl) (zr 22 8388607 rfl (by kernel_rfl) H26 (fun wq hq => Dc (b := ((ad35.add (i * 4)))) rfl rfl) (zr 23 16777215 rfl (by kernel_rfl) H26 (fun wq hq => Ai rfl (Ba Cf (Cl.at_ (v := (J e19.client)) (Rd.cl (H.rr.st0 (hq.fix (i := 1) rfl)) hA36 (rows_get he20)) (i := 0) rfl))) ?_))
      refine zb 24 33554431 ((e19.client : Int) ≤ (e30.client : Int)) rfl (by kernel_rfl) H26 (fun r hr wq hq => Ex.ge rfl rfl hr) (fun h38 => ?_) (fun h38 => ?_)
      ·skip
       refine zr 25 67108863 rfl (by kernel_rfl) H26 (fun wq hq => Bi (v := bT) rfl rfl) (zr 26 134217727 rfl (by kernel_rfl) H26 (fun wq hq => Be (v := bT) rfl rfl) (Bj (by kernel_rfl) (thn.n (Ab rfl (CW.seq (CW.region (za (bF) rfl (RL.nil (thn.n (CW.ret (inB.r (thn.r (thn.r (inB.r (thn.r (finQ.r (v := bF) (Ax rfl rfl) ?_))))))))))))))))
       exact ⟨Am (stateB_no1 (rowsB_no he20 (fun ⟨q1, q2⟩ => by first | (rw [hb28] at q1; cases q1; done) | (have q3 := q2 e30 (by omega) he31; omega)))).symm, (H26.fix (i := 1) rfl)⟩
      ·skip
       refine zr 25 67108863 rfl (by kernel_rfl) H26 (fun wq hq => Bi (v := bF) rfl rfl) (zr 26 134217727 rfl (by kernel_rfl) H26 (fun wq hq => Be (v := bF) rfl rfl) (Bj (by kernel_rfl) (thn.n (Ag rfl (CW.skip (inB.n (thn.n (CW.region (zm (J (i : Int)) rfl (zg rfl (Ex.add (r := (i : Int) + 1) rfl rfl (Dd (by omega) (by omega))) (za (J ((i : Int) + 1)) rfl (RL.nil (thn.n ?_)))))))))))))
       refine ⟨(by repeat (first | exact Out.mix _ _ | exact Out.refl _ _ | refine Bg ?_ rfl _ | refine Co ?_ (by intro t ht; simp only [Bool.or_eq_false_iff, Bool.and_eq_false_iff, ble_f, beq_f] at ht ⊢; omega))), _, ?_, i + 1, rfl, rfl, H26, by omega, upto_go hO he20 ⟨hb28, (fun y _ hy => by rw [he31] at hy; injection hy with hy; subst hy; omega)⟩⟩
       omega
     ·skip
      refine zr 10 2047 rfl (by kernel_rfl) H26 (fun wq hq => Au (v := bF) rfl) (zq 11 4095 rfl (by kernel_rfl) H26 (zq 13 12287 rfl (by kernel_rfl) H26 (zq 14 28671 rfl (by kernel_rfl) H26 (zq 18 290815 rfl (by kernel_rfl) H26 (zq 20 1339391 rfl (by kernel_rfl) H26 (zq 12 1343487 rfl (by kernel_rfl) H26 (zq 15 1376255 rfl (by kernel_rfl) H26 (zq 16 1441791 rfl (by kernel_rfl) H26 (zq 17 1572863 rfl (by kernel_rfl) H26 (zq 19 2097151 rfl (by kernel_rfl) H26 ?_))))))))))
      refine zq 21 4194303 rfl (by kernel_rfl) H26 (zq 22 8388607 rfl (by kernel_rfl) H26 (zq 23 16777215 rfl (by kernel_rfl) H26 (zq 24 33554431 rfl (by kernel_rfl) H26 (zr 25 67108863 rfl (by kernel_rfl) H26 (fun wq hq => Be (v := bF) rfl rfl) (zr 26 134217727 rfl (by kernel_rfl) H26 (fun wq hq => Be (v := bF) rfl rfl) (Bj (by kernel_rfl) (thn.n (Ag rfl (CW.skip (inB.n (thn.n (CW.region (zm (J (i : Int)) rfl (zg rfl (Ex.add (r := (i : Int) + 1) rfl rfl (Dd (by omega) (by omega))) ?_))))))))))))))
      refine za (J ((i : Int) + 1)) rfl (RL.nil (thn.n ?_))
      refine ⟨(by repeat (first | exact Out.mix _ _ | exact Out.refl _ _ | refine Bg ?_ rfl _ | refine Co ?_ (by intro t ht; simp only [Bool.or_eq_false_iff, Bool.and_eq_false_iff, ble_f, beq_f] at ht ⊢; omega))), _, ?_, i + 1, rfl, rfl, H26, by omega, upto_go hO he20 ⟨hb28, (fun y hi0 hy => by omega)⟩⟩
      omega
   ·skip
    refine RL.nil (thn.n (Ag rfl (CW.exit (thn.x (thn.x (Bf (thn.n (CW.seq (CW.region (zg rfl (fa50_0 (b := ⟨b2, 0, none⟩) rfl rfl) (zg rfl (Ai rfl (Ak (cs := [(J rs.heap.order), (.slice rs.heap.objs.a rs.heap.objs.n rs.heap.objs.c), (J rs.heap.next), (J rs.heap.t0), (J rs.heap.t1), (J rs.heap.t2), (J rs.heap.t3), (.slice rs.heap.free.a rs.heap.free.n rs.heap.free.c)]) wh47 ((H12.ob (i := 0) rfl).sub 0 8))) (RL.call Tryz.call167 (right05_ _ _ rs.heap _ _ (H.heap.st0 (H12.fix (i := 1) rfl)) (by omega) (by first | assumption | omega | (dsimp only; omega))) rfl rfl rfl ?_))))))))))))
    rintro _ w39 ⟨rfl, g40⟩
    have H41 := H12.grow g40
    have z42 := g40.size
    rcases hb43 : (Cw s.heap) with _ | _
    ·skip
     refine za (bF) rfl (RL.nil (thn.n (CW.ret (finQ.r (v := bF) (Ax rfl rfl) ?_))))
     have hrw := rowsB_of (n := i) (by omega) hO
     exact ⟨Am (by rw [stateB_rows hrw, hb43]), (H41.fix (i := 1) rfl)⟩
    ·skip
     refine za (bT) rfl (RL.nil (thn.n (CW.ret (finQ.r (v := bT) (Ax rfl rfl) ?_))))
     have hrw := rowsB_of (n := i) (by omega) hO
     exact ⟨Am (by rw [stateB_rows hrw, hb43]), (H41.fix (i := 1) rfl)⟩
set_option maxHeartbeats 4000000 in
set_option maxRecDepth 20000 in
theorem getStateR_ (w : World) (B : Nat) (bs : List UInt8) (A : Option Addr) (n c : Nat) (hr : RB w B A n c bs) (hB : B ≤ w.heap.size) : Ret Tryz.prog 127 [(.slice A n c)] w (fun v w' => (∃ (rs : RState) (ros : List RObj) (ss : Eng.State), v = .tuple #[.agg rs.cells.toArray, .int .i64 0] ∧ Sp ([StW rs ros ss] ++ [Bd w Bl]) w' ∧ De bs = some ss ∧ Cu ss = true) ∨ (v = .tuple #[.agg zState.toArray, .int .i64 60] ∧ w.grownBy w' none ∧ De bs = none)) := by
  obtain ⟨hrd, hrn, hrc, hrm⟩ := hr
  have hr : RB w B A n c bs := ⟨hrd, hrn, hrc, hrm⟩
  have H0 : Sp [Bd w Bl] w := Bn w
  refine Ret.body Tryz.func127 rfl rfl rfl ?_
  refine CW.seq (CW.region (RL.al (cs := zState) Tryz.zeroValue50 rfl rfl rfl ?_))
  intro w1 b2 hb3 hz4 g5 o6
  have H7 := H0.newB g5 o6 (by omega)
  have z8 := g5.size
  refine za (J 0) rfl (RL.nil (thn.n (CW.seq (CW.region (zm (.slice A n c) rfl (RL.call Tryz.call185 (rdTxt_ _ _ bs A n c (hr.1.st0 (H7.fix (i := 1) rfl)) hr.2.1 hr.2.2.1 hr.2.2.2) rfl rfl rfl ?_))))))
  rintro _ w17 (⟨t9, k10, rfl, g18, hrt12, hkl13, htl14⟩ | ⟨e11, rfl, g19, hrt15, hne16⟩)
  ·skip
   have H20 := H7.grow g18
   have z21 := g18.size
   refine zm (.tuple #[(.string (tx t9)), (J (k10 : Int)), (J 0)]) rfl (zx (.string (tx t9)) rfl (zx (J (k10 : Int)) rfl (zx (J 0) rfl (za (.string (tx t9)) rfl (za (J (k10 : Int)) rfl (za (J 0) rfl (RL.nil (thn.n (CW.seq (CW.region (zm (.string (tx t9)) rfl (RL.s2bT (l := t9) Tryz.underlying9 Tryz.underlying97 Tryz.underlying5 rfl rfl rfl ?_))))))))))))
   intro w22 b23 c24 hb25 hz26 g27 rd28 hc29
   have H30 := H20.grow g27
   have z31 := g27.size
   refine RL.call Tryz.call186 (getHeapR_ _ _ t9 (some ⟨b23, 0, none⟩) t9.length c24 ⟨rd28, by first | rfl | omega, by omega, by first | omega | (simp only [List.length_nil]; omega)⟩ (by omega)) rfl rfl rfl ?_
   rintro _ w38 (⟨rh32, ros33, hh34, rfl, g39, hgh35, hhb37⟩ | ⟨rfl, g40, hgh36⟩)
   ·skip
    have g41 := g39.fix (i := 1) rfl
    have H42 : Sp [HpW rh32 ros33 hh34, Af b2 50 zState, Bd w Bl] w38 := H30.join (m := [HpW rh32 ros33 hh34]) g39
    have z43 := g41.size
    refine zm (.tuple #[(.agg (rh32.cells).toArray), (J 0)]) rfl (zx (.agg (rh32.cells).toArray) rfl (zx (J 0) rfl (RL.al (cs := zHeap) Tryz.zeroValue47 rfl rfl rfl ?_)))
    intro w44 b45 hb46 hz47 g48 o49
    have H50 := H42.newB g48 o49 (by omega)
    have z51 := g48.size
    refine RL.st (vs := rh32.cells) (cs' := rh32.cells) Tryz.sizeOf47 (H50.ob (i := 0) rfl) rfl rfl rfl rfl rfl rfl ?_
    intro w52 hz53 g54 o55
    have H56 : Sp [Af b45 47 rh32.cells, HpW rh32 ros33 hh34, Af b2 50 zState, Bd w Bl] w52 := H50.setB (i := 0) rfl g54 o55 rfl
    have z57 := g54.size
    refine za (J 0) rfl (RL.nil (thn.n (CW.seq (CW.seq (CW.region (zm (J 0) rfl (zg rfl (Cm (r := false) rfl rfl (by decide)) (zm (bF) rfl (zm (J 0) rfl (zg rfl (Cm (r := false) rfl rfl (by decide)) (zF (bF) rfl (RL.nil (thn.n (Ag rfl (CW.skip (thn.n (CW.seq (CW.region (zm (.slice A n c) rfl (zm (J (k10 : Int)) rfl ?_))))))))))))))))))))
    have hqk := hr.drop (k := k10) (by omega)
    refine zg rfl (Ex.slLo (i := k10) Tryz.underlying97 Tryz.sizeOf5 rfl rfl (by omega) (by omega) rfl) (zg rfl (Cc (cs := [(.slice (dropA A c k10 1) (n - k10) (c - k10)), bF]) bd213 rfl) (RL.bx (cs := [(.slice (dropA A c k10 1) (n - k10) (c - k10)), bF]) rfl rfl rfl ?_))
    intro w58 b59 hb60 hz61 g62 o63
    have H65 := H56.newB g62 o63 (by omega)
    have z66 := g62.size
    refine za (.pointer (some ⟨b59, 0, none⟩)) rfl (RL.nil (thn.n (CW.seq (CW.region (zg rfl (Ai rfl (Ak (cs := rh32.cells) wh47 (H65.ob (i := 1) rfl).cl)) (zg rfl (Cc (cs := [(J rh32.order), (.slice rh32.objs.a rh32.objs.n rh32.objs.c), (J rh32.next), (J rh32.t0), (J rh32.t1), (J rh32.t2), (J rh32.t3), (.slice rh32.free.a rh32.free.n rh32.free.c), (.slice none 0 0)]) bd50 rfl) (RL.al (cs := zState) Tryz.zeroValue50 rfl rfl rfl ?_)))))))
    intro w67 b68 hb69 hz70 g71 o72
    have H73 := H65.newB g71 o72 (by omega)
    have z74 := g71.size
    refine RL.st (vs := [(J rh32.order), (.slice rh32.objs.a rh32.objs.n rh32.objs.c), (J rh32.next), (J rh32.t0), (J rh32.t1), (J rh32.t2), (J rh32.t3), (.slice rh32.free.a rh32.free.n rh32.free.c), (.slice none 0 0)]) (cs' := [(J rh32.order), (.slice rh32.objs.a rh32.objs.n rh32.objs.c), (J rh32.next), (J rh32.t0), (J rh32.t1), (J rh32.t2), (J rh32.t3), (.slice rh32.free.a rh32.free.n rh32.free.c), (.slice none 0 0)]) Tryz.sizeOf50 (H73.ob (i := 0) rfl) rfl rfl rfl rfl rfl rfl ?_
    intro w75 hz76 g77 o78
    have H79 : Sp [Af b68 50 [(J rh32.order), (.slice rh32.objs.a rh32.objs.n rh32.objs.c), (J rh32.next), (J rh32.t0), (J rh32.t1), (J rh32.t2), (J rh32.t3), (.slice rh32.free.a rh32.free.n rh32.free.c), (.slice none 0 0)], Af b59 213 [(.slice (dropA A c k10 1) (n - k10) (c - k10)), bF], Af b45 47 rh32.cells, HpW rh32 ros33 hh34, Af b2 50 zState, Bd w Bl] w75 := H73.setB (i := 0) rfl g77 o78 rfl
    have z80 := g77.size
    refine RL.nil (thn.n (CW.seq (CW.region (zm (.pointer (some ⟨b59, 0, none⟩)) rfl ?_))))
    obtain ⟨S91, hS92, hO93, K94⟩ := Sp.takeL (l1 := [Af b59 213 [(.slice (dropA A c k10 1) (n - k10) (c - k10)), bF]]) (l2 := [Af b68 50 [(J rh32.order), (.slice rh32.objs.a rh32.objs.n rh32.objs.c), (J rh32.next), (J rh32.t0), (J rh32.t1), (J rh32.t2), (J rh32.t3), (.slice rh32.free.a rh32.free.n rh32.free.c), (.slice none 0 0)], Af b45 47 rh32.cells, HpW rh32 ros33 hh34, Af b2 50 zState, Bd w Bl]) (w := w75) (H79.sel [1, 0, 2, 3, 4, 5] (by decide) rfl)
    refine RL.call Tryz.call187 (rnum_ _ S91 b59 (dropA A c k10 1) (n - k10) (c - k10) (bs.drop k10) false hS92 ⟨(Dh hO93 (j := 4) rfl hqk.1 (by omega)), hqk.2⟩) rfl rfl rfl ?_
    rintro _ w95 ⟨x81, A82, n83, c84, bs85, bq86, rfl, g96, hnum87, hind88, hxle89⟩
    have H97 : Sp [Af b59 213 [.slice A82 n83 c84, .bool bq86], Af b68 50 [(J rh32.order), (.slice rh32.objs.a rh32.objs.n rh32.objs.c), (J rh32.next), (J rh32.t0), (J rh32.t1), (J rh32.t2), (J rh32.t3), (.slice rh32.free.a rh32.free.n rh32.free.c), (.slice none 0 0)], Af b45 47 rh32.cells, HpW rh32 ros33 hh34, Af b2 50 zState, Bd w Bl] w95 := K94 _ _ g96
    have z98 := (H97.fix (i := 5) rfl).size
    have hq90 := hind88.r _ _ hqk
    refine za (J (x81 : Int)) rfl (RL.nil (thn.n (CW.seq (CW.seq (CW.region (za (J 0) rfl (RL.nil (thn.n (CW.block ?_)))))))))
    have H99 := H97.nil_ 123 4
    obtain ⟨_, ⟨_, hnxb⟩, _⟩ := heapB_rng hhb37
    refine CW.loop (fun t => (Nat.ble 12 t && Nat.ble t 14) || (Nat.ble 43 t && Nat.ble t 80)) (fun nL ρ wl => ∃ (k n1 c1 no co : Nat) (A1 Ao : Option Addr) (l : List Row) (bs1 : List UInt8) (b1 : Bool), ρ 12 = (J (k : Int)) ∧ nL = 5 - k ∧ Sp [Ar 123 4 Ao no co (rows l), Af b59 213 [.slice A1 n1 c1, .bool b1], Af b68 50 [(J rh32.order), (.slice rh32.objs.a rh32.objs.n rh32.objs.c), (J rh32.next), (J rh32.t0), (J rh32.t1), (J rh32.t2), (J rh32.t3), (.slice rh32.free.a rh32.free.n rh32.free.c), (.slice Ao no co)], HpW rh32 ros33 hh34, Af b2 50 zState, Bd w Bl] wl ∧ k ≤ x81 ∧ k ≤ 5 ∧ manyF rowF k (bs85, bq86) = (l, (bs1, b1)) ∧ no = k ∧ InD A82 n83 c84 bs85 A1 n1 c1 bs1) (5) ?aa0 ?bb0
    case aa0 =>
     exact ⟨0, n83, c84, 0, 0, A82, none, [], bs85, bq86, rfl, rfl, (H99.sel [0, 1, 2, 4, 5, 6] (by decide) rfl), Nat.zero_le _, by omega, rfl, rfl, InD.refl _ _ _ _⟩
    case bb0 =>
     rintro n101 ρ0 w100 ho102 ⟨k, n1, c1, no, co, A1, Ao, l, bs1, b1, hs0_12, hn0, H103, hk1, hk2, hmy, hno, hin1⟩
     obtain ⟨j0, rfl⟩ := ho102.shape1 hs0_12
     clear ho102 hs0_12
     subst hn0
     have z104 := (H103.fix (i := 5) rfl).size
     have hq1 := hin1.r _ _ hq90
     refine CW.seq (CW.seq (CW.region (zm (J (k : Int)) rfl (zm (J (x81 : Int)) rfl ?_))))
     refine zc (((k : Int) : Int) < ((x81 : Int) : Int)) rfl (fun r hr => Ex.lt rfl rfl hr) (fun h105 => ?_) (fun h105 => ?_)
     ·skip
      refine zm (bT) rfl (zm (J (k : Int)) rfl ?_)
      refine zc (((k : Int) : Int) ≤ (4 : Int)) rfl (fun r hr => Ex.le rfl rfl hr) (fun h106 => ?_) (fun h106 => ?_)
      ·skip
       refine zT (bT) rfl (zm (bT) rfl (zm (.pointer (some ⟨b59, 0, none⟩)) rfl (zg rfl (Ct rfl) (zg rfl (fa213_1 (b := ⟨b59, 1, none⟩) rfl rfl) (zl (.bool b1) lo4 (H103.ob (i := 1) rfl) rfl ?_)))))
       rcases b1 with _ | _
       ·skip
        refine zg rfl (Ex.not (b := false) rfl) (zT (bT) rfl (RL.nil (thn.n (Ab rfl (CW.skip (thn.n (CW.seq (CW.block (CW.seq (CW.region (zg rfl (Cc (cs := [(J 0), (J 0), (J 0), (J 0)]) bd123 rfl) (RL.al (cs := [(J 0), (J 0), (J 0), (J 0)]) Tryz.zeroValue123 rfl rfl rfl ?_))))))))))))
        intro w107 b108 hb109 hz110 g111 o112
        have H113 := H103.newB g111 o112 (by omega)
        have z114 := g111.size
        refine RL.st (vs := [(J 0), (J 0), (J 0), (J 0)]) (cs' := [(J 0), (J 0), (J 0), (J 0)]) Tryz.sizeOf123 (H113.ob (i := 0) rfl) rfl rfl rfl rfl rfl rfl ?_
        intro w115 hz116 g117 o118
        have H119 : Sp [Af b108 123 [(J 0), (J 0), (J 0), (J 0)], Ar 123 4 Ao no co (rows l), Af b59 213 [.slice A1 n1 c1, .bool false], Af b68 50 [(J rh32.order), (.slice rh32.objs.a rh32.objs.n rh32.objs.c), (J rh32.next), (J rh32.t0), (J rh32.t1), (J rh32.t2), (J rh32.t3), (.slice rh32.free.a rh32.free.n rh32.free.c), (.slice Ao no co)], HpW rh32 ros33 hh34, Af b2 50 zState, Bd w Bl] w115 := H113.setB (i := 0) rfl g117 o118 rfl
        have z120 := g117.size
        refine RL.nil (thn.n (CW.seq (CW.region (zm (.pointer (some ⟨b59, 0, none⟩)) rfl ?_))))
        obtain ⟨S131, hS132, hO133, K134⟩ := Sp.takeL (l1 := [Af b59 213 [.slice A1 n1 c1, .bool false]]) (l2 := [Af b108 123 [(J 0), (J 0), (J 0), (J 0)], Ar 123 4 Ao no co (rows l), Af b68 50 [(J rh32.order), (.slice rh32.objs.a rh32.objs.n rh32.objs.c), (J rh32.next), (J rh32.t0), (J rh32.t1), (J rh32.t2), (J rh32.t3), (.slice rh32.free.a rh32.free.n rh32.free.c), (.slice Ao no co)], HpW rh32 ros33 hh34, Af b2 50 zState, Bd w Bl]) (w := w115) (H119.sel [2, 0, 1, 3, 4, 5, 6] (by decide) rfl)
        refine RL.call Tryz.call187 (rnum_ _ S131 b59 A1 n1 c1 bs1 false hS132 ⟨(Dh hO133 (j := 5) rfl hq1.1 (by omega)), hq1.2⟩) rfl rfl rfl ?_
        rintro _ w135 ⟨x121, A122, n123, c124, bs125, bq126, rfl, g136, hnum127, hind128, hxle129⟩
        have H137 : Sp [Af b59 213 [.slice A122 n123 c124, .bool bq126], Af b108 123 [(J 0), (J 0), (J 0), (J 0)], Ar 123 4 Ao no co (rows l), Af b68 50 [(J rh32.order), (.slice rh32.objs.a rh32.objs.n rh32.objs.c), (J rh32.next), (J rh32.t0), (J rh32.t1), (J rh32.t2), (J rh32.t3), (.slice rh32.free.a rh32.free.n rh32.free.c), (.slice Ao no co)], HpW rh32 ros33 hh34, Af b2 50 zState, Bd w Bl] w135 := K134 _ _ g136
        have z138 := (H137.fix (i := 6) rfl).size
        have hq130 := hind128.r _ _ hq1
        refine zg rfl (Dc (b := ⟨b108, 0, none⟩) rfl rfl) (RL.st (vs := [(J (x121 : Int))]) (cs' := [(J (x121 : Int)), (J 0), (J 0), (J 0)]) Tryz.sizeOf3 (H137.ob (i := 1) rfl) rfl rfl rfl rfl rfl rfl ?_)
        intro w139 hz140 g141 o142
        have H143 : Sp [Af b59 213 [.slice A122 n123 c124, .bool bq126], Af b108 123 [(J (x121 : Int)), (J 0), (J 0), (J 0)], Ar 123 4 Ao no co (rows l), Af b68 50 [(J rh32.order), (.slice rh32.objs.a rh32.objs.n rh32.objs.c), (J rh32.next), (J rh32.t0), (J rh32.t1), (J rh32.t2), (J rh32.t3), (.slice rh32.free.a rh32.free.n rh32.free.c), (.slice Ao no co)], HpW rh32 ros33 hh34, Af b2 50 zState, Bd w Bl] w139 := H137.setB (i := 1) rfl g141 o142 rfl
        have z144 := g141.size
        refine RL.nil (thn.n (CW.seq (CW.region (zm (.pointer (some ⟨b59, 0, none⟩)) rfl ?_))))
        obtain ⟨S155, hS156, hO157, K158⟩ := H143.takeN 1
        refine RL.call Tryz.call187 (rnum_ _ S155 b59 A122 n123 c124 bs125 bq126 hS156 ⟨(Dh hO157 (j := 5) rfl hq130.1 (by omega)), hq130.2⟩) rfl rfl rfl ?_
        rintro _ w159 ⟨x145, A146, n147, c148, bs149, bq150, rfl, g160, hnum151, hind152, hxle153⟩
        have H161 : Sp [Af b59 213 [.slice A146 n147 c148, .bool bq150], Af b108 123 [(J (x121 : Int)), (J 0), (J 0), (J 0)], Ar 123 4 Ao no co (rows l), Af b68 50 [(J rh32.order), (.slice rh32.objs.a rh32.objs.n rh32.objs.c), (J rh32.next), (J rh32.t0), (J rh32.t1), (J rh32.t2), (J rh32.t3), (.slice rh32.free.a rh32.free.n rh32.free.c), (.slice Ao no co)], HpW rh32 ros33 hh34, Af b2 50 zState, Bd w Bl] w159 := K158 _ _ g160
        have z162 := (H161.fix (i := 6) rfl).size
        have hq154 := hind152.r _ _ hq130
        refine zg rfl (fa123_1 (b := ⟨b108, 1, none⟩) rfl rfl) (RL.st (vs := [(J (x145 : Int))]) (cs' := [(J (x121 : Int)), (J (x145 : Int)), (J 0), (J 0)]) Tryz.sizeOf3 (H161.ob (i := 1) rfl) rfl rfl rfl rfl rfl rfl ?_)
        intro w163 hz164 g165 o166
        have H167 : Sp [Af b59 213 [.slice A146 n147 c148, .bool bq150], Af b108 123 [(J (x121 : Int)), (J (x145 : Int)), (J 0), (J 0)], Ar 123 4 Ao no co (rows l), Af b68 50 [(J rh32.order), (.slice rh32.objs.a rh32.objs.n rh32.objs.c), (J rh32.next), (J rh32.t0), (J rh32.t1), (J rh32.t2), (J rh32.t3), (.slice rh32.free.a rh32.free.n rh32.free.c), (.slice Ao no co)], HpW rh32 ros33 hh34, Af b2 50 zState, Bd w Bl] w163 := H161.setB (i := 1) rfl g165 o166 rfl
        have z168 := g165.size
        refine RL.nil (thn.n (CW.seq (CW.region (zm (.pointer (some ⟨b59, 0, none⟩)) rfl ?_))))
        obtain ⟨S179, hS180, hO181, K182⟩ := H167.takeN 1
        refine RL.call Tryz.call187 (rnum_ _ S179 b59 A146 n147 c148 bs149 bq150 hS180 ⟨(Dh hO181 (j := 5) rfl hq154.1 (by omega)), hq154.2⟩) rfl rfl rfl ?_
        rintro _ w183 ⟨x169, A170, n171, c172, bs173, bq174, rfl, g184, hnum175, hind176, hxle177⟩
        have H185 : Sp [Af b59 213 [.slice A170 n171 c172, .bool bq174], Af b108 123 [(J (x121 : Int)), (J (x145 : Int)), (J 0), (J 0)], Ar 123 4 Ao no co (rows l), Af b68 50 [(J rh32.order), (.slice rh32.objs.a rh32.objs.n rh32.objs.c), (J rh32.next), (J rh32.t0), (J rh32.t1), (J rh32.t2), (J rh32.t3), (.slice rh32.free.a rh32.free.n rh32.free.c), (.slice Ao no co)], HpW rh32 ros33 hh34, Af b2 50 zState, Bd w Bl] w183 := K182 _ _ g184
        have z186 := (H185.fix (i := 6) rfl).size
        have hq178 := hind176.r _ _ hq154
        refine za (J (x169 : Int)) rfl (RL.nil (thn.n (CW.seq (CW.region (zm (J (x169 : Int)) rfl (zg rfl (fa123_2 (b := ⟨b108, 2, none⟩) rfl rfl) (zg rfl (fa55_0 (b := ⟨b108, 2, none⟩) rfl rfl) (RL.st (vs := [(J (x169 : Int))]) (cs' := [(J (x121 : Int)), (J (x145 : Int)), (J (x169 : Int)), (J 0)]) Tryz.sizeOf53 (H185.ob (i := 1) rfl) rfl rfl rfl rfl rfl rfl ?_))))))))
        intro w187 hz188 g189 o190
        have H191 : Sp [Af b59 213 [.slice A170 n171 c172, .bool bq174], Af b108 123 [(J (x121 : Int)), (J (x145 : Int)), (J (x169 : Int)), (J 0)], Ar 123 4 Ao no co (rows l), Af b68 50 [(J rh32.order), (.slice rh32.objs.a rh32.objs.n rh32.objs.c), (J rh32.next), (J rh32.t0), (J rh32.t1), (J rh32.t2), (J rh32.t3), (.slice rh32.free.a rh32.free.n rh32.free.c), (.slice Ao no co)], HpW rh32 ros33 hh34, Af b2 50 zState, Bd w Bl] w187 := H185.setB (i := 1) rfl g189 o190 rfl
        have z192 := g189.size
        refine RL.nil (thn.n (CW.seq (CW.region (zm (.pointer (some ⟨b59, 0, none⟩)) rfl ?_))))
        obtain ⟨S203, hS204, hO205, K206⟩ := H191.takeN 1
        refine RL.call Tryz.call188 (rint_ _ S203 b59 A170 n171 c172 bs173 bq174 hS204 ⟨(Dh hO205 (j := 5) rfl hq178.1 (by omega)), hq178.2⟩) rfl rfl rfl ?_
        rintro _ w207 ⟨x193, A194, n195, c196, bs197, bq198, rfl, g208, hnum199, hind200⟩
        have H209 : Sp [Af b59 213 [.slice A194 n195 c196, .bool bq198], Af b108 123 [(J (x121 : Int)), (J (x145 : Int)), (J (x169 : Int)), (J 0)], Ar 123 4 Ao no co (rows l), Af b68 50 [(J rh32.order), (.slice rh32.objs.a rh32.objs.n rh32.objs.c), (J rh32.next), (J rh32.t0), (J rh32.t1), (J rh32.t2), (J rh32.t3), (.slice rh32.free.a rh32.free.n rh32.free.c), (.slice Ao no co)], HpW rh32 ros33 hh34, Af b2 50 zState, Bd w Bl] w207 := K206 _ _ g208
        have z210 := (H209.fix (i := 6) rfl).size
        have hq202 := hind200.r _ _ hq178
        refine zg rfl (fa123_2 (b := ⟨b108, 2, none⟩) rfl rfl) (zg rfl (fa55_1 (b := ⟨b108, 3, none⟩) rfl rfl) (RL.st (vs := [(J x193)]) (cs' := [(J (x121 : Int)), (J (x145 : Int)), (J (x169 : Int)), (J x193)]) Tryz.sizeOf3 (H209.ob (i := 1) rfl) rfl rfl rfl rfl rfl rfl ?_))
        intro w211 hz212 g213 o214
        have H215 : Sp [Af b59 213 [.slice A194 n195 c196, .bool bq198], Af b108 123 [(J (x121 : Int)), (J (x145 : Int)), (J (x169 : Int)), (J x193)], Ar 123 4 Ao no co (rows l), Af b68 50 [(J rh32.order), (.slice rh32.objs.a rh32.objs.n rh32.objs.c), (J rh32.next), (J rh32.t0), (J rh32.t1), (J rh32.t2), (J rh32.t3), (.slice rh32.free.a rh32.free.n rh32.free.c), (.slice Ao no co)], HpW rh32 ros33 hh34, Af b2 50 zState, Bd w Bl] w211 := H209.setB (i := 1) rfl g213 o214 rfl
        have z216 := g213.size
        refine RL.nil (thn.n (CW.region (zg rfl (fa50_1 (b := ⟨b68, 8, none⟩) rfl rfl) (zl (.slice Ao no co) lo48 (H215.ob (i := 3) rfl) rfl (zg rfl (Ai rfl (Ak (cs := [(J (x121 : Int)), (J (x145 : Int)), (J (x169 : Int)), (J x193)]) wh123 (H215.ob (i := 1) rfl).cl)) (RL.bs (cs := [(J (x121 : Int)), (J (x145 : Int)), (J (x169 : Int)), (J x193)]) Tryz.underlying48 Tryz.sizeOf123 ze48 rfl rfl rfl (by decide) rfl rfl rfl ?_))))))
        intro w217 b218 hb219 hz220 g221 o222
        have H223 := H215.newB g221 o222 (by omega)
        have z224 := g221.size
        refine RL.apW (base := 0) (xss := (rows l)) (yss := (rows ([(⟨(x121 : Int), (x145 : Int), (x169 : Int), x193⟩ : Row)]))) el48 (H223.wr (i := 3) rfl) rfl (Da (H223.ob (i := 0) rfl) rfl) rfl (by simp only [As, Av, At, Ap, An, Bb, List.length_append, List.length_cons, List.length_nil, List.length_take, List.length_drop, List.length_map, Cy, enc8, Bq, Bt, Ca]; try omega) (rows_one _) (by omega) (by omega) (by omega) rfl rfl ?_
        intro w225 A226 c227 g228 ow229 nx230
        have H231 : Sp [Af b218 123 [(J (x121 : Int)), (J (x145 : Int)), (J (x169 : Int)), (J x193)], Af b59 213 [.slice A194 n195 c196, .bool bq198], Af b108 123 [(J (x121 : Int)), (J (x145 : Int)), (J (x169 : Int)), (J x193)], Ar 123 4 A226 (no + 1) c227 (rows (l ++ [(⟨(x121 : Int), (x145 : Int), (x169 : Int), x193⟩ : Row)])), Af b68 50 [(J rh32.order), (.slice rh32.objs.a rh32.objs.n rh32.objs.c), (J rh32.next), (J rh32.t0), (J rh32.t1), (J rh32.t2), (J rh32.t3), (.slice rh32.free.a rh32.free.n rh32.free.c), (.slice Ao no co)], HpW rh32 ros33 hh34, Af b2 50 zState, Bd w Bl] w225 := H223.setR (i := 3) rfl g228 ((rows_app _ _).symm ▸ ow229) nx230 rfl
        have z232 := g228.size
        refine zg rfl (fa50_1 (b := ⟨b68, 8, none⟩) rfl rfl) (RL.st (vs := [(.slice A226 (no + 1) c227)]) (cs' := [(J rh32.order), (.slice rh32.objs.a rh32.objs.n rh32.objs.c), (J rh32.next), (J rh32.t0), (J rh32.t1), (J rh32.t2), (J rh32.t3), (.slice rh32.free.a rh32.free.n rh32.free.c), (.slice A226 (no + 1) c227)]) Tryz.sizeOf48 (H231.ob (i := 4) rfl) rfl rfl rfl rfl rfl rfl ?_)
        intro w233 hz234 g235 o236
        have H237 : Sp [Af b218 123 [(J (x121 : Int)), (J (x145 : Int)), (J (x169 : Int)), (J x193)], Af b59 213 [.slice A194 n195 c196, .bool bq198], Af b108 123 [(J (x121 : Int)), (J (x145 : Int)), (J (x169 : Int)), (J x193)], Ar 123 4 A226 (no + 1) c227 (rows (l ++ [(⟨(x121 : Int), (x145 : Int), (x169 : Int), x193⟩ : Row)])), Af b68 50 [(J rh32.order), (.slice rh32.objs.a rh32.objs.n rh32.objs.c), (J rh32.next), (J rh32.t0), (J rh32.t1), (J rh32.t2), (J rh32.t3), (.slice rh32.free.a rh32.free.n rh32.free.c), (.slice A226 (no + 1) c227)], HpW rh32 ros33 hh34, Af b2 50 zState, Bd w Bl] w233 := H231.setB (i := 4) rfl g235 o236 rfl
        have z238 := g235.size
        refine RL.nil (inB.n (thn.n (CW.region (zm (J (k : Int)) rfl (zg rfl (Ex.add (r := (k : Int) + 1) rfl rfl (Dd (by omega) (by omega))) (za (J ((k : Int) + 1)) rfl (RL.nil (thn.n ?_))))))))
        refine ⟨(by repeat (first | exact Out.mix _ _ | exact Out.refl _ _ | refine Bg ?_ rfl _ | refine Co ?_ (by intro t ht; simp only [Bool.or_eq_false_iff, Bool.and_eq_false_iff, ble_f, beq_f] at ht ⊢; omega))), _, ?_, k + 1, n195, c196, no + 1, c227, A194, A226, l ++ [(⟨(x121 : Int), (x145 : Int), (x169 : Int), x193⟩ : Row)], bs197, bq198, rfl, rfl, (H237.sel [3, 1, 4, 5, 6, 7] (by decide) rfl), by omega, by omega, manyF_go hmy (rowF_mk hnum127 hnum151 hnum175 hnum199), by omega, hin1.trans ((hind128.trans hind152).trans (hind176.trans hind200))⟩
        omega
       ·skip
        refine zg rfl (Ex.not (b := true) rfl) (zT (bF) rfl (RL.nil (thn.n (Ag rfl (CW.exit (thn.x (thn.x (Bf (thn.n (CW.seq (CW.seq ?_)))))))))))
        have hgs := getState_ref hrt12 hgh35 hnum87 hmy (by omega) (by first | exact .inl (by omega) | exact .inr (.inl (by omega)) | exact .inr (.inr rfl))
        have hrl := H103.len (i := 0) rfl
        rw [At] at hrl
        have hq1l := hq1.2.1
        refine CW.region (zm (.pointer (some ⟨b59, 0, none⟩)) rfl (zg rfl (Ct rfl) (zg rfl (fa213_1 (b := ⟨b59, 1, none⟩) rfl rfl) (zl (bT) lo4 (H103.ob (i := 1) rfl) rfl (zm (bT) rfl (zo rfl (zo rfl (zo rfl (zo rfl (zo rfl ?_))))))))))
        refine zo rfl (zT (bT) rfl (zm (bT) rfl (zo rfl (zo rfl (zo rfl (zo rfl (zo rfl (zT (bT) rfl (zm (bT) rfl (zo rfl ?_))))))))))
        refine zo rfl (zo rfl (zT (bT) rfl (RL.nil (thn.n (Ab rfl (CW.seq (CW.region (zg rfl (Cc (cs := zState) bd50 rfl) (RL.st (vs := zState) (cs' := zState) Tryz.sizeOf50 (H103.ob (i := 4) rfl) rfl rfl rfl rfl rfl rfl ?_)))))))))
        intro w239 hz240 g241 o242
        have H243 : Sp [Ar 123 4 Ao no co (rows l), Af b59 213 [.slice A1 n1 c1, .bool true], Af b68 50 [(J rh32.order), (.slice rh32.objs.a rh32.objs.n rh32.objs.c), (J rh32.next), (J rh32.t0), (J rh32.t1), (J rh32.t2), (J rh32.t3), (.slice rh32.free.a rh32.free.n rh32.free.c), (.slice Ao no co)], HpW rh32 ros33 hh34, Af b2 50 zState, Bd w Bl] w239 := H103.setB (i := 4) rfl g241 o242 rfl
        have z244 := g241.size
        refine za (J 60) rfl (RL.nil (thn.n (CW.ret (thn.r (finQ.r (v := (.tuple #[(.agg (zState).toArray), (J 60)])) (Cp rfl (Rv.cell rfl (Ak (cs := zState) wh50 (H243.ob (i := 4) rfl).cl)) (Rv.tmp rfl)) ?_)))))
        exact .inr ⟨rfl, (H243.fix (i := 5) rfl), by rw [hgs, if_neg (fun ⟨q1, q2, q3, q4⟩ => by first | (cases q1; done) | (rw [q2] at hq1l; simp only [List.length_nil] at hq1l; omega) | omega)]⟩
      ·skip
       refine zT (bF) rfl (zm (bF) rfl (zo rfl (zo rfl (zo rfl (zo rfl (zo rfl (zF (bF) rfl (RL.nil (thn.n (Ag rfl (CW.exit (thn.x (thn.x (Bf (thn.n (CW.seq (CW.seq ?_)))))))))))))))))
       have hgs := getState_ref hrt12 hgh35 hnum87 hmy (by omega) (by first | exact .inl (by omega) | exact .inr (.inl (by omega)) | exact .inr (.inr rfl))
       have hrl := H103.len (i := 0) rfl
       rw [At] at hrl
       have hq1l := hq1.2.1
       refine CW.region (zm (.pointer (some ⟨b59, 0, none⟩)) rfl (zg rfl (Ct rfl) (zg rfl (fa213_1 (b := ⟨b59, 1, none⟩) rfl rfl) (zl (.bool b1) lo4 (H103.ob (i := 1) rfl) rfl ?_))))
       rcases b1 with _ | _
       ·skip
        refine zm (bF) rfl (zm (.pointer (some ⟨b59, 0, none⟩)) rfl (zg rfl (Ct rfl) (zg rfl (fa213_0 (b := ⟨b59, 0, none⟩) rfl rfl) (zl (.slice A1 n1 c1) lo97 (H103.ob (i := 1) rfl) rfl (zg rfl (Ex.len Tryz.underlying97 rfl) ?_)))))
        refine zc ((0 : Int) < ((n1 : Nat) : Int)) rfl (fun r hr => Df rfl rfl hr) (fun h245 => ?_) (fun h245 => ?_)
        ·skip
         refine zF (bT) rfl (zm (bT) rfl (zo rfl (zo rfl (zo rfl (zo rfl (zo rfl (zT (bT) rfl (zm (bT) rfl (zo rfl (zo rfl ?_))))))))))
         refine zo rfl (zT (bT) rfl (RL.nil (thn.n (Ab rfl (CW.seq (CW.region (zg rfl (Cc (cs := zState) bd50 rfl) (RL.st (vs := zState) (cs' := zState) Tryz.sizeOf50 (H103.ob (i := 4) rfl) rfl rfl rfl rfl rfl rfl ?_))))))))
         intro w246 hz247 g248 o249
         have H250 : Sp [Ar 123 4 Ao no co (rows l), Af b59 213 [.slice A1 n1 c1, .bool false], Af b68 50 [(J rh32.order), (.slice rh32.objs.a rh32.objs.n rh32.objs.c), (J rh32.next), (J rh32.t0), (J rh32.t1), (J rh32.t2), (J rh32.t3), (.slice rh32.free.a rh32.free.n rh32.free.c), (.slice Ao no co)], HpW rh32 ros33 hh34, Af b2 50 zState, Bd w Bl] w246 := H103.setB (i := 4) rfl g248 o249 rfl
         have z251 := g248.size
         refine za (J 60) rfl (RL.nil (thn.n (CW.ret (thn.r (finQ.r (v := (.tuple #[(.agg (zState).toArray), (J 60)])) (Cp rfl (Rv.cell rfl (Ak (cs := zState) wh50 (H250.ob (i := 4) rfl).cl)) (Rv.tmp rfl)) ?_)))))
         exact .inr ⟨rfl, (H250.fix (i := 5) rfl), by rw [hgs, if_neg (fun ⟨q1, q2, q3, q4⟩ => by first | (cases q1; done) | (rw [q2] at hq1l; simp only [List.length_nil] at hq1l; omega) | omega)]⟩
        ·skip
         refine zF (bF) rfl (zm (bF) rfl (zm (J (x81 : Int)) rfl (zg rfl (fa50_1 (b := ⟨b68, 8, none⟩) rfl rfl) (zl (.slice Ao no co) lo48 (H103.ob (i := 2) rfl) rfl (zg rfl (Ex.len Tryz.underlying48 rfl) ?_)))))
         refine zc (((x81 : Int) : Int) ≠ ((no : Nat) : Int)) rfl (fun r hr => Cm rfl rfl hr) (fun h252 => ?_) (fun h252 => ?_)
         ·skip
          refine zF (bT) rfl (zm (bT) rfl (zo rfl (zo rfl (zo rfl (zT (bT) rfl (RL.nil (thn.n (Ab rfl (CW.seq (CW.region (zg rfl (Cc (cs := zState) bd50 rfl) (RL.st (vs := zState) (cs' := zState) Tryz.sizeOf50 (H103.ob (i := 4) rfl) rfl rfl rfl rfl rfl rfl ?_))))))))))))
          intro w253 hz254 g255 o256
          have H257 : Sp [Ar 123 4 Ao no co (rows l), Af b59 213 [.slice A1 n1 c1, .bool false], Af b68 50 [(J rh32.order), (.slice rh32.objs.a rh32.objs.n rh32.objs.c), (J rh32.next), (J rh32.t0), (J rh32.t1), (J rh32.t2), (J rh32.t3), (.slice rh32.free.a rh32.free.n rh32.free.c), (.slice Ao no co)], HpW rh32 ros33 hh34, Af b2 50 zState, Bd w Bl] w253 := H103.setB (i := 4) rfl g255 o256 rfl
          have z258 := g255.size
          refine za (J 60) rfl (RL.nil (thn.n (CW.ret (thn.r (finQ.r (v := (.tuple #[(.agg (zState).toArray), (J 60)])) (Cp rfl (Rv.cell rfl (Ak (cs := zState) wh50 (H257.ob (i := 4) rfl).cl)) (Rv.tmp rfl)) ?_)))))
          exact .inr ⟨rfl, (H257.fix (i := 5) rfl), by rw [hgs, if_neg (fun ⟨q1, q2, q3, q4⟩ => by first | (cases q1; done) | (rw [q2] at hq1l; simp only [List.length_nil] at hq1l; omega) | omega)]⟩
         ·skip
          refine zF (bF) rfl (zm (bF) rfl ?_)
          have H259 : Sp [StW (⟨rh32, ⟨Ao, no, co⟩⟩ : RState) ros33 (⟨hh34, l⟩ : Eng.State), Af b59 213 [.slice A1 n1 c1, .bool false], Af b68 50 [(J rh32.order), (.slice rh32.objs.a rh32.objs.n rh32.objs.c), (J rh32.next), (J rh32.t0), (J rh32.t1), (J rh32.t2), (J rh32.t3), (.slice rh32.free.a rh32.free.n rh32.free.c), (.slice Ao no co)], Af b2 50 zState, Bd w Bl] w100 := (Sp.stMk (rs := (⟨rh32, ⟨Ao, no, co⟩⟩ : RState)) (ros := ros33) (s := (⟨hh34, l⟩ : Eng.State)) (H103.sel [3, 0, 1, 2, 4, 5] (by decide) rfl) (by show no ≤ _; omega))
          refine zg rfl (Ai rfl (Ak (cs := [(J rh32.order), (.slice rh32.objs.a rh32.objs.n rh32.objs.c), (J rh32.next), (J rh32.t0), (J rh32.t1), (J rh32.t2), (J rh32.t3), (.slice rh32.free.a rh32.free.n rh32.free.c), (.slice Ao no co)]) wh50 (H259.ob (i := 2) rfl).cl)) (RL.call Tryz.call104 (rightS_ _ _ (⟨rh32, ⟨Ao, no, co⟩⟩ : RState) _ _ (H259.stWR (i := 0) rfl) (Nat.le_refl _) (by first | assumption | omega | (dsimp only; omega))) rfl rfl rfl ?_)
          rintro _ w260 ⟨rfl, g261⟩
          have H262 := H259.grow g261
          have z263 := g261.size
          rcases hb264 : (Cu (⟨hh34, l⟩ : Eng.State)) with _ | _
          ·skip
           refine zg rfl (Ex.not (b := false) rfl) (zF (bT) rfl (RL.nil (thn.n (Ab rfl (CW.seq (CW.region (zg rfl (Cc (cs := zState) bd50 rfl) (RL.st (vs := zState) (cs' := zState) Tryz.sizeOf50 (H262.ob (i := 3) rfl) rfl rfl rfl rfl rfl rfl ?_))))))))
           intro w265 hz266 g267 o268
           have H269 : Sp [StW (⟨rh32, ⟨Ao, no, co⟩⟩ : RState) ros33 (⟨hh34, l⟩ : Eng.State), Af b59 213 [.slice A1 n1 c1, .bool false], Af b68 50 [(J rh32.order), (.slice rh32.objs.a rh32.objs.n rh32.objs.c), (J rh32.next), (J rh32.t0), (J rh32.t1), (J rh32.t2), (J rh32.t3), (.slice rh32.free.a rh32.free.n rh32.free.c), (.slice Ao no co)], Af b2 50 zState, Bd w Bl] w265 := H262.setB (i := 3) rfl g267 o268 rfl
           have z270 := g267.size
           refine za (J 60) rfl (RL.nil (thn.n (CW.ret (thn.r (finQ.r (v := (.tuple #[(.agg (zState).toArray), (J 60)])) (Cp rfl (Rv.cell rfl (Ak (cs := zState) wh50 (H269.ob (i := 3) rfl).cl)) (Rv.tmp rfl)) ?_)))))
           exact .inr ⟨rfl, (H269.fix (i := 4) rfl), by rw [hgs, if_neg (fun ⟨q1, q2, q3, q4⟩ => by first | (cases q1; done) | (rw [q2] at hq1l; simp only [List.length_nil] at hq1l; omega) | (rw [hb264] at q4; cases q4) | omega)]⟩
          ·skip
           refine zg rfl (Ex.not (b := true) rfl) (zF (bF) rfl (RL.nil (thn.n (Ag rfl (CW.skip (thn.n (CW.seq (CW.region (zg rfl (Ai rfl (Ak (cs := [(J rh32.order), (.slice rh32.objs.a rh32.objs.n rh32.objs.c), (J rh32.next), (J rh32.t0), (J rh32.t1), (J rh32.t2), (J rh32.t3), (.slice rh32.free.a rh32.free.n rh32.free.c), (.slice Ao no co)]) wh50 (H262.ob (i := 2) rfl).cl)) (RL.st (vs := [(J rh32.order), (.slice rh32.objs.a rh32.objs.n rh32.objs.c), (J rh32.next), (J rh32.t0), (J rh32.t1), (J rh32.t2), (J rh32.t3), (.slice rh32.free.a rh32.free.n rh32.free.c), (.slice Ao no co)]) (cs' := [(J rh32.order), (.slice rh32.objs.a rh32.objs.n rh32.objs.c), (J rh32.next), (J rh32.t0), (J rh32.t1), (J rh32.t2), (J rh32.t3), (.slice rh32.free.a rh32.free.n rh32.free.c), (.slice Ao no co)]) Tryz.sizeOf50 (H262.ob (i := 3) rfl) rfl rfl rfl rfl rfl rfl ?_))))))))))
           intro w271 hz272 g273 o274
           have H275 : Sp [StW (⟨rh32, ⟨Ao, no, co⟩⟩ : RState) ros33 (⟨hh34, l⟩ : Eng.State), Af b59 213 [.slice A1 n1 c1, .bool false], Af b68 50 [(J rh32.order), (.slice rh32.objs.a rh32.objs.n rh32.objs.c), (J rh32.next), (J rh32.t0), (J rh32.t1), (J rh32.t2), (J rh32.t3), (.slice rh32.free.a rh32.free.n rh32.free.c), (.slice Ao no co)], Af b2 50 [(J rh32.order), (.slice rh32.objs.a rh32.objs.n rh32.objs.c), (J rh32.next), (J rh32.t0), (J rh32.t1), (J rh32.t2), (J rh32.t3), (.slice rh32.free.a rh32.free.n rh32.free.c), (.slice Ao no co)], Bd w Bl] w271 := H262.setB (i := 3) rfl g273 o274 rfl
           have z276 := g273.size
           refine za (J 0) rfl (RL.nil (thn.n (CW.ret (finQ.r (v := (.tuple #[(.agg ([(J rh32.order), (.slice rh32.objs.a rh32.objs.n rh32.objs.c), (J rh32.next), (J rh32.t0), (J rh32.t1), (J rh32.t2), (J rh32.t3), (.slice rh32.free.a rh32.free.n rh32.free.c), (.slice Ao no co)]).toArray), (J 0)])) (Cp rfl (Rv.cell rfl (Ak (cs := [(J rh32.order), (.slice rh32.objs.a rh32.objs.n rh32.objs.c), (J rh32.next), (J rh32.t0), (J rh32.t1), (J rh32.t2), (J rh32.t3), (.slice rh32.free.a rh32.free.n rh32.free.c), (.slice Ao no co)]) wh50 (H275.ob (i := 3) rfl).cl)) (Rv.tmp rfl)) ?_))))
           exact .inl ⟨(⟨rh32, ⟨Ao, no, co⟩⟩ : RState), ros33, _, rfl, (H275.sel [0, 4] (by decide) rfl), by rw [hgs, if_pos ⟨rfl, List.eq_nil_of_length_eq_zero (by omega), by omega, hb264⟩], hb264⟩
       ·skip
        refine zm (bT) rfl (zo rfl (zo rfl (zo rfl (zo rfl (zo rfl (zo rfl (zT (bT) rfl (zm (bT) rfl (zo rfl (zo rfl ?_))))))))))
        refine zo rfl (zo rfl (zo rfl (zT (bT) rfl (zm (bT) rfl (zo rfl (zo rfl (zo rfl (zT (bT) rfl (RL.nil (thn.n (Ab rfl (CW.seq (CW.region (zg rfl (Cc (cs := zState) bd50 rfl) ?_))))))))))))))
        refine RL.st (vs := zState) (cs' := zState) Tryz.sizeOf50 (H103.ob (i := 4) rfl) rfl rfl rfl rfl rfl rfl ?_
        intro w277 hz278 g279 o280
        have H281 : Sp [Ar 123 4 Ao no co (rows l), Af b59 213 [.slice A1 n1 c1, .bool true], Af b68 50 [(J rh32.order), (.slice rh32.objs.a rh32.objs.n rh32.objs.c), (J rh32.next), (J rh32.t0), (J rh32.t1), (J rh32.t2), (J rh32.t3), (.slice rh32.free.a rh32.free.n rh32.free.c), (.slice Ao no co)], HpW rh32 ros33 hh34, Af b2 50 zState, Bd w Bl] w277 := H103.setB (i := 4) rfl g279 o280 rfl
        have z282 := g279.size
        refine za (J 60) rfl (RL.nil (thn.n (CW.ret (thn.r (finQ.r (v := (.tuple #[(.agg (zState).toArray), (J 60)])) (Cp rfl (Rv.cell rfl (Ak (cs := zState) wh50 (H281.ob (i := 4) rfl).cl)) (Rv.tmp rfl)) ?_)))))
        exact .inr ⟨rfl, (H281.fix (i := 5) rfl), by rw [hgs, if_neg (fun ⟨q1, q2, q3, q4⟩ => by first | (cases q1; done) | (rw [q2] at hq1l; simp only [List.length_nil] at hq1l; omega) | omega)]⟩
     ·skip
      refine zm (bF) rfl (zo rfl (zo rfl (zF (bF) rfl (zm (bF) rfl (zo rfl (zo rfl (zo rfl (zo rfl (zo rfl (zF (bF) rfl ?_))))))))))
      refine RL.nil (thn.n (Ag rfl (CW.exit (thn.x (thn.x (Bf (thn.n (CW.seq (CW.seq ?_)))))))))
      have hgs := getState_ref hrt12 hgh35 hnum87 hmy (by omega) (by first | exact .inl (by omega) | exact .inr (.inl (by omega)) | exact .inr (.inr rfl))
      have hrl := H103.len (i := 0) rfl
      rw [At] at hrl
      have hq1l := hq1.2.1
      refine CW.region (zm (.pointer (some ⟨b59, 0, none⟩)) rfl (zg rfl (Ct rfl) (zg rfl (fa213_1 (b := ⟨b59, 1, none⟩) rfl rfl) (zl (.bool b1) lo4 (H103.ob (i := 1) rfl) rfl ?_))))
      rcases b1 with _ | _
      ·skip
       refine zm (bF) rfl (zm (.pointer (some ⟨b59, 0, none⟩)) rfl (zg rfl (Ct rfl) (zg rfl (fa213_0 (b := ⟨b59, 0, none⟩) rfl rfl) (zl (.slice A1 n1 c1) lo97 (H103.ob (i := 1) rfl) rfl (zg rfl (Ex.len Tryz.underlying97 rfl) ?_)))))
       refine zc ((0 : Int) < ((n1 : Nat) : Int)) rfl (fun r hr => Df rfl rfl hr) (fun h283 => ?_) (fun h283 => ?_)
       ·skip
        refine zF (bT) rfl (zm (bT) rfl (zo rfl (zo rfl (zo rfl (zo rfl (zo rfl (zT (bT) rfl (zm (bT) rfl (zo rfl (zo rfl ?_))))))))))
        refine zo rfl (zT (bT) rfl (RL.nil (thn.n (Ab rfl (CW.seq (CW.region (zg rfl (Cc (cs := zState) bd50 rfl) (RL.st (vs := zState) (cs' := zState) Tryz.sizeOf50 (H103.ob (i := 4) rfl) rfl rfl rfl rfl rfl rfl ?_))))))))
        intro w284 hz285 g286 o287
        have H288 : Sp [Ar 123 4 Ao no co (rows l), Af b59 213 [.slice A1 n1 c1, .bool false], Af b68 50 [(J rh32.order), (.slice rh32.objs.a rh32.objs.n rh32.objs.c), (J rh32.next), (J rh32.t0), (J rh32.t1), (J rh32.t2), (J rh32.t3), (.slice rh32.free.a rh32.free.n rh32.free.c), (.slice Ao no co)], HpW rh32 ros33 hh34, Af b2 50 zState, Bd w Bl] w284 := H103.setB (i := 4) rfl g286 o287 rfl
        have z289 := g286.size
        refine za (J 60) rfl (RL.nil (thn.n (CW.ret (thn.r (finQ.r (v := (.tuple #[(.agg (zState).toArray), (J 60)])) (Cp rfl (Rv.cell rfl (Ak (cs := zState) wh50 (H288.ob (i := 4) rfl).cl)) (Rv.tmp rfl)) ?_)))))
        exact .inr ⟨rfl, (H288.fix (i := 5) rfl), by rw [hgs, if_neg (fun ⟨q1, q2, q3, q4⟩ => by first | (cases q1; done) | (rw [q2] at hq1l; simp only [List.length_nil] at hq1l; omega) | omega)]⟩
       ·skip
        refine zF (bF) rfl (zm (bF) rfl (zm (J (x81 : Int)) rfl (zg rfl (fa50_1 (b := ⟨b68, 8, none⟩) rfl rfl) (zl (.slice Ao no co) lo48 (H103.ob (i := 2) rfl) rfl (zg rfl (Ex.len Tryz.underlying48 rfl) ?_)))))
        refine zc (((x81 : Int) : Int) ≠ ((no : Nat) : Int)) rfl (fun r hr => Cm rfl rfl hr) (fun h290 => ?_) (fun h290 => ?_)
        ·skip
         refine zF (bT) rfl (zm (bT) rfl (zo rfl (zo rfl (zo rfl (zT (bT) rfl (RL.nil (thn.n (Ab rfl (CW.seq (CW.region (zg rfl (Cc (cs := zState) bd50 rfl) (RL.st (vs := zState) (cs' := zState) Tryz.sizeOf50 (H103.ob (i := 4) rfl) rfl rfl rfl rfl rfl rfl ?_))))))))))))
         intro w291 hz292 g293 o294
         have H295 : Sp [Ar 123 4 Ao no co (rows l), Af b59 213 [.slice A1 n1 c1, .bool false], Af b68 50 [(J rh32.order), (.slice rh32.objs.a rh32.objs.n rh32.objs.c), (J rh32.next), (J rh32.t0), (J rh32.t1), (J rh32.t2), (J rh32.t3), (.slice rh32.free.a rh32.free.n rh32.free.c), (.slice Ao no co)], HpW rh32 ros33 hh34, Af b2 50 zState, Bd w Bl] w291 := H103.setB (i := 4) rfl g293 o294 rfl
         have z296 := g293.size
         refine za (J 60) rfl (RL.nil (thn.n (CW.ret (thn.r (finQ.r (v := (.tuple #[(.agg (zState).toArray), (J 60)])) (Cp rfl (Rv.cell rfl (Ak (cs := zState) wh50 (H295.ob (i := 4) rfl).cl)) (Rv.tmp rfl)) ?_)))))
         exact .inr ⟨rfl, (H295.fix (i := 5) rfl), by rw [hgs, if_neg (fun ⟨q1, q2, q3, q4⟩ => by first | (cases q1; done) | (rw [q2] at hq1l; simp only [List.length_nil] at hq1l; omega) | omega)]⟩
        ·skip
         refine zF (bF) rfl (zm (bF) rfl ?_)
         have H297 : Sp [StW (⟨rh32, ⟨Ao, no, co⟩⟩ : RState) ros33 (⟨hh34, l⟩ : Eng.State), Af b59 213 [.slice A1 n1 c1, .bool false], Af b68 50 [(J rh32.order), (.slice rh32.objs.a rh32.objs.n rh32.objs.c), (J rh32.next), (J rh32.t0), (J rh32.t1), (J rh32.t2), (J rh32.t3), (.slice rh32.free.a rh32.free.n rh32.free.c), (.slice Ao no co)], Af b2 50 zState, Bd w Bl] w100 := (Sp.stMk (rs := (⟨rh32, ⟨Ao, no, co⟩⟩ : RState)) (ros := ros33) (s := (⟨hh34, l⟩ : Eng.State)) (H103.sel [3, 0, 1, 2, 4, 5] (by decide) rfl) (by show no ≤ _; omega))
         refine zg rfl (Ai rfl (Ak (cs := [(J rh32.order), (.slice rh32.objs.a rh32.objs.n rh32.objs.c), (J rh32.next), (J rh32.t0), (J rh32.t1), (J rh32.t2), (J rh32.t3), (.slice rh32.free.a rh32.free.n rh32.free.c), (.slice Ao no co)]) wh50 (H297.ob (i := 2) rfl).cl)) (RL.call Tryz.call104 (rightS_ _ _ (⟨rh32, ⟨Ao, no, co⟩⟩ : RState) _ _ (H297.stWR (i := 0) rfl) (Nat.le_refl _) (by first | assumption | omega | (dsimp only; omega))) rfl rfl rfl ?_)
         rintro _ w298 ⟨rfl, g299⟩
         have H300 := H297.grow g299
         have z301 := g299.size
         rcases hb302 : (Cu (⟨hh34, l⟩ : Eng.State)) with _ | _
         ·skip
          refine zg rfl (Ex.not (b := false) rfl) (zF (bT) rfl (RL.nil (thn.n (Ab rfl (CW.seq (CW.region (zg rfl (Cc (cs := zState) bd50 rfl) (RL.st (vs := zState) (cs' := zState) Tryz.sizeOf50 (H300.ob (i := 3) rfl) rfl rfl rfl rfl rfl rfl ?_))))))))
          intro w303 hz304 g305 o306
          have H307 : Sp [StW (⟨rh32, ⟨Ao, no, co⟩⟩ : RState) ros33 (⟨hh34, l⟩ : Eng.State), Af b59 213 [.slice A1 n1 c1, .bool false], Af b68 50 [(J rh32.order), (.slice rh32.objs.a rh32.objs.n rh32.objs.c), (J rh32.next), (J rh32.t0), (J rh32.t1), (J rh32.t2), (J rh32.t3), (.slice rh32.free.a rh32.free.n rh32.free.c), (.slice Ao no co)], Af b2 50 zState, Bd w Bl] w303 := H300.setB (i := 3) rfl g305 o306 rfl
          have z308 := g305.size
          refine za (J 60) rfl (RL.nil (thn.n (CW.ret (thn.r (finQ.r (v := (.tuple #[(.agg (zState).toArray), (J 60)])) (Cp rfl (Rv.cell rfl (Ak (cs := zState) wh50 (H307.ob (i := 3) rfl).cl)) (Rv.tmp rfl)) ?_)))))
          exact .inr ⟨rfl, (H307.fix (i := 4) rfl), by rw [hgs, if_neg (fun ⟨q1, q2, q3, q4⟩ => by first | (cases q1; done) | (rw [q2] at hq1l; simp only [List.length_nil] at hq1l; omega) | (rw [hb302] at q4; cases q4) | omega)]⟩
         ·skip
          refine zg rfl (Ex.not (b := true) rfl) (zF (bF) rfl (RL.nil (thn.n (Ag rfl (CW.skip (thn.n (CW.seq (CW.region (zg rfl (Ai rfl (Ak (cs := [(J rh32.order), (.slice rh32.objs.a rh32.objs.n rh32.objs.c), (J rh32.next), (J rh32.t0), (J rh32.t1), (J rh32.t2), (J rh32.t3), (.slice rh32.free.a rh32.free.n rh32.free.c), (.slice Ao no co)]) wh50 (H300.ob (i := 2) rfl).cl)) (RL.st (vs := [(J rh32.order), (.slice rh32.objs.a rh32.objs.n rh32.objs.c), (J rh32.next), (J rh32.t0), (J rh32.t1), (J rh32.t2), (J rh32.t3), (.slice rh32.free.a rh32.free.n rh32.free.c), (.slice Ao no co)]) (cs' := [(J rh32.order), (.slice rh32.objs.a rh32.objs.n rh32.objs.c), (J rh32.next), (J rh32.t0), (J rh32.t1), (J rh32.t2), (J rh32.t3), (.slice rh32.free.a rh32.free.n rh32.free.c), (.slice Ao no co)]) Tryz.sizeOf50 (H300.ob (i := 3) rfl) rfl rfl rfl rfl rfl rfl ?_))))))))))
          intro w309 hz310 g311 o312
          have H313 : Sp [StW (⟨rh32, ⟨Ao, no, co⟩⟩ : RState) ros33 (⟨hh34, l⟩ : Eng.State), Af b59 213 [.slice A1 n1 c1, .bool false], Af b68 50 [(J rh32.order), (.slice rh32.objs.a rh32.objs.n rh32.objs.c), (J rh32.next), (J rh32.t0), (J rh32.t1), (J rh32.t2), (J rh32.t3), (.slice rh32.free.a rh32.free.n rh32.free.c), (.slice Ao no co)], Af b2 50 [(J rh32.order), (.slice rh32.objs.a rh32.objs.n rh32.objs.c), (J rh32.next), (J rh32.t0), (J rh32.t1), (J rh32.t2), (J rh32.t3), (.slice rh32.free.a rh32.free.n rh32.free.c), (.slice Ao no co)], Bd w Bl] w309 := H300.setB (i := 3) rfl g311 o312 rfl
          have z314 := g311.size
          refine za (J 0) rfl (RL.nil (thn.n (CW.ret (finQ.r (v := (.tuple #[(.agg ([(J rh32.order), (.slice rh32.objs.a rh32.objs.n rh32.objs.c), (J rh32.next), (J rh32.t0), (J rh32.t1), (J rh32.t2), (J rh32.t3), (.slice rh32.free.a rh32.free.n rh32.free.c), (.slice Ao no co)]).toArray), (J 0)])) (Cp rfl (Rv.cell rfl (Ak (cs := [(J rh32.order), (.slice rh32.objs.a rh32.objs.n rh32.objs.c), (J rh32.next), (J rh32.t0), (J rh32.t1), (J rh32.t2), (J rh32.t3), (.slice rh32.free.a rh32.free.n rh32.free.c), (.slice Ao no co)]) wh50 (H313.ob (i := 3) rfl).cl)) (Rv.tmp rfl)) ?_))))
          exact .inl ⟨(⟨rh32, ⟨Ao, no, co⟩⟩ : RState), ros33, _, rfl, (H313.sel [0, 4] (by decide) rfl), by rw [hgs, if_pos ⟨rfl, List.eq_nil_of_length_eq_zero (by omega), by omega, hb302⟩], hb302⟩
      ·skip
       refine zm (bT) rfl (zo rfl (zo rfl (zo rfl (zo rfl (zo rfl (zo rfl (zT (bT) rfl (zm (bT) rfl (zo rfl (zo rfl ?_))))))))))
       refine zo rfl (zo rfl (zo rfl (zT (bT) rfl (zm (bT) rfl (zo rfl (zo rfl (zo rfl (zT (bT) rfl (RL.nil (thn.n (Ab rfl (CW.seq (CW.region (zg rfl (Cc (cs := zState) bd50 rfl) ?_))))))))))))))
       refine RL.st (vs := zState) (cs' := zState) Tryz.sizeOf50 (H103.ob (i := 4) rfl) rfl rfl rfl rfl rfl rfl ?_
       intro w315 hz316 g317 o318
       have H319 : Sp [Ar 123 4 Ao no co (rows l), Af b59 213 [.slice A1 n1 c1, .bool true], Af b68 50 [(J rh32.order), (.slice rh32.objs.a rh32.objs.n rh32.objs.c), (J rh32.next), (J rh32.t0), (J rh32.t1), (J rh32.t2), (J rh32.t3), (.slice rh32.free.a rh32.free.n rh32.free.c), (.slice Ao no co)], HpW rh32 ros33 hh34, Af b2 50 zState, Bd w Bl] w315 := H103.setB (i := 4) rfl g317 o318 rfl
       have z320 := g317.size
       refine za (J 60) rfl (RL.nil (thn.n (CW.ret (thn.r (finQ.r (v := (.tuple #[(.agg (zState).toArray), (J 60)])) (Cp rfl (Rv.cell rfl (Ak (cs := zState) wh50 (H319.ob (i := 4) rfl).cl)) (Rv.tmp rfl)) ?_)))))
       exact .inr ⟨rfl, (H319.fix (i := 5) rfl), by rw [hgs, if_neg (fun ⟨q1, q2, q3, q4⟩ => by first | (cases q1; done) | (rw [q2] at hq1l; simp only [List.length_nil] at hq1l; omega) | omega)]⟩
   ·skip
    have H321 := H30.grow g40
    have z322 := g40.size
    refine zm (.tuple #[(.agg (zHeap).toArray), (J 60)]) rfl (zx (.agg (zHeap).toArray) rfl (zx (J 60) rfl (RL.al (cs := zHeap) Tryz.zeroValue47 rfl rfl rfl ?_)))
    intro w323 b324 hb325 hz326 g327 o328
    have H329 := H321.newB g327 o328 (by omega)
    have z330 := g327.size
    refine RL.st (vs := zHeap) (cs' := zHeap) Tryz.sizeOf47 (H329.ob (i := 0) rfl) rfl rfl rfl rfl rfl rfl ?_
    intro w331 hz332 g333 o334
    have H335 : Sp [Af b324 47 zHeap, Af b2 50 zState, Bd w Bl] w331 := H329.setB (i := 0) rfl g333 o334 rfl
    have z336 := g333.size
    refine za (J 60) rfl (RL.nil (thn.n (CW.seq (CW.seq (CW.region (zm (J 0) rfl (zg rfl (Cm (r := false) rfl rfl (by decide)) (zm (bF) rfl (zm (J 60) rfl (zg rfl (Cm (r := true) rfl rfl (by decide)) (zF (bT) rfl (RL.nil (thn.n (Ab rfl (CW.seq (CW.region (zg rfl (Cc (cs := zState) bd50 rfl) (RL.st (vs := zState) (cs' := zState) Tryz.sizeOf50 (H335.ob (i := 1) rfl) rfl rfl rfl rfl rfl rfl ?_))))))))))))))))))
    intro w337 hz338 g339 o340
    have H341 : Sp [Af b324 47 zHeap, Af b2 50 zState, Bd w Bl] w337 := H335.setB (i := 1) rfl g339 o340 rfl
    have z342 := g339.size
    refine za (J 60) rfl (RL.nil (thn.n (CW.ret (thn.r (finQ.r (v := (.tuple #[(.agg (zState).toArray), (J 60)])) (Cp rfl (Rv.cell rfl (Ak (cs := zState) wh50 (H341.ob (i := 1) rfl).cl)) (Rv.tmp rfl)) ?_)))))
    exact .inr ⟨rfl, (H341.fix (i := 2) rfl), getState_no2 hrt12 hgh36⟩
  ·skip
   have H343 := H7.grow g19
   have z344 := g19.size
   refine zm (.tuple #[(.string (tx [])), (J 0), (J e11)]) rfl (zx (.string (tx [])) rfl (zx (J 0) rfl (zx (J e11) rfl (za (.string (tx [])) rfl (za (J 0) rfl (za (J e11) rfl (RL.nil (thn.n (CW.seq (CW.region (zm (.string (tx [])) rfl (RL.s2bT (l := []) Tryz.underlying9 Tryz.underlying97 Tryz.underlying5 rfl rfl rfl ?_))))))))))))
   intro w345 b346 c347 hb348 hz349 g350 rd351 hc352
   have H353 := H343.grow g350
   have z354 := g350.size
   refine RL.call Tryz.call186 (getHeapR_ _ _ ([]) (some ⟨b346, 0, none⟩) (([]).length) c347 ⟨rd351, by first | rfl | omega, by omega, by first | omega | (simp only [List.length_nil]; omega)⟩ (by omega)) rfl rfl rfl ?_
   rintro _ w361 (⟨rh355, ros356, hh357, rfl, g362, hgh358, hhb360⟩ | ⟨rfl, g363, hgh359⟩)
   ·skip
    have g364 := g362.fix (i := 1) rfl
    have H365 : Sp [HpW rh355 ros356 hh357, Af b2 50 zState, Bd w Bl] w361 := H353.join (m := [HpW rh355 ros356 hh357]) g362
    have z366 := g364.size
    refine zm (.tuple #[(.agg (rh355.cells).toArray), (J 0)]) rfl (zx (.agg (rh355.cells).toArray) rfl (zx (J 0) rfl (RL.al (cs := zHeap) Tryz.zeroValue47 rfl rfl rfl ?_)))
    intro w367 b368 hb369 hz370 g371 o372
    have H373 := H365.newB g371 o372 (by omega)
    have z374 := g371.size
    refine RL.st (vs := rh355.cells) (cs' := rh355.cells) Tryz.sizeOf47 (H373.ob (i := 0) rfl) rfl rfl rfl rfl rfl rfl ?_
    intro w375 hz376 g377 o378
    have H379 : Sp [Af b368 47 rh355.cells, HpW rh355 ros356 hh357, Af b2 50 zState, Bd w Bl] w375 := H373.setB (i := 0) rfl g377 o378 rfl
    have z380 := g377.size
    refine za (J 0) rfl (RL.nil (thn.n (CW.seq (CW.seq (CW.region (zm (J e11) rfl (zg rfl (Cm (r := true) rfl rfl (decide_eq_true (by omega))) (zm (bT) rfl (zo rfl (zo rfl (zT (bT) rfl (RL.nil (thn.n (Ab rfl (CW.seq (CW.region (zg rfl (Cc (cs := zState) bd50 rfl) (RL.st (vs := zState) (cs' := zState) Tryz.sizeOf50 (H379.ob (i := 2) rfl) rfl rfl rfl rfl rfl rfl ?_))))))))))))))))))
    intro w381 hz382 g383 o384
    have H385 : Sp [Af b368 47 rh355.cells, HpW rh355 ros356 hh357, Af b2 50 zState, Bd w Bl] w381 := H379.setB (i := 2) rfl g383 o384 rfl
    have z386 := g383.size
    refine za (J 60) rfl (RL.nil (thn.n (CW.ret (thn.r (finQ.r (v := (.tuple #[(.agg (zState).toArray), (J 60)])) (Cp rfl (Rv.cell rfl (Ak (cs := zState) wh50 (H385.ob (i := 2) rfl).cl)) (Rv.tmp rfl)) ?_)))))
    exact .inr ⟨rfl, (H385.fix (i := 3) rfl), getState_no1 hrt15⟩
   ·skip
    have H387 := H353.grow g363
    have z388 := g363.size
    refine zm (.tuple #[(.agg (zHeap).toArray), (J 60)]) rfl (zx (.agg (zHeap).toArray) rfl (zx (J 60) rfl (RL.al (cs := zHeap) Tryz.zeroValue47 rfl rfl rfl ?_)))
    intro w389 b390 hb391 hz392 g393 o394
    have H395 := H387.newB g393 o394 (by omega)
    have z396 := g393.size
    refine RL.st (vs := zHeap) (cs' := zHeap) Tryz.sizeOf47 (H395.ob (i := 0) rfl) rfl rfl rfl rfl rfl rfl ?_
    intro w397 hz398 g399 o400
    have H401 : Sp [Af b390 47 zHeap, Af b2 50 zState, Bd w Bl] w397 := H395.setB (i := 0) rfl g399 o400 rfl
    have z402 := g399.size
    refine za (J 60) rfl (RL.nil (thn.n (CW.seq (CW.seq (CW.region (zm (J e11) rfl (zg rfl (Cm (r := true) rfl rfl (decide_eq_true (by omega))) (zm (bT) rfl (zo rfl (zo rfl (zT (bT) rfl (RL.nil (thn.n (Ab rfl (CW.seq (CW.region (zg rfl (Cc (cs := zState) bd50 rfl) (RL.st (vs := zState) (cs' := zState) Tryz.sizeOf50 (H401.ob (i := 1) rfl) rfl rfl rfl rfl rfl rfl ?_))))))))))))))))))
    intro w403 hz404 g405 o406
    have H407 : Sp [Af b390 47 zHeap, Af b2 50 zState, Bd w Bl] w403 := H401.setB (i := 1) rfl g405 o406 rfl
    have z408 := g405.size
    refine za (J 60) rfl (RL.nil (thn.n (CW.ret (thn.r (finQ.r (v := (.tuple #[(.agg (zState).toArray), (J 60)])) (Cp rfl (Rv.cell rfl (Ak (cs := zState) wh50 (H407.ob (i := 1) rfl).cl)) (Rv.tmp rfl)) ?_)))))
    exact .inr ⟨rfl, (H407.fix (i := 2) rfl), getState_no1 hrt15⟩
set_option maxHeartbeats 1000000 in
set_option maxRecDepth 20000 in
theorem mayR14_ (w : World) (e : Entry) : Ret Tryz.prog 105 [(.agg (e.cells).toArray)] w (fun v w' => v = .bool (mayE e) ∧ w.grownBy w' none) := by
  have H0 : Sp [Bd w Bl] w := Bn w
  refine Ret.body Tryz.func105 rfl rfl rfl ?_
  refine CW.seq (CW.region (RL.bx (cs := e.cells) rfl rfl rfl ?_))
  intro w1 b2 hb3 hz4 g5 o6
  have H7 := H0.newB g5 o6 (by omega)
  have z8 := g5.size
  refine za (bF) rfl (RL.nil (thn.n (CW.seq (CW.seq (CW.region (zg rfl (fa31_0 (b := ⟨b2, 0, none⟩) rfl rfl) (zl (J e.num) Cf (H7.ob (i := 0) rfl) rfl (RL.call Tryz.call168 (within_tumulusref14 _ e.num 1 900000000) rfl rfl rfl ?_))))))))
  rintro _ _ ⟨rfl, rfl⟩
  rcases hb12 : (Aq e.num 1 900000000) with _ | _
  ·skip
   refine zg rfl (Ex.not (b := false) rfl) (zm (bT) rfl (zo rfl (zo rfl (zo rfl (zo rfl (zT (bT) rfl (RL.nil (thn.n (Ab rfl (CW.seq (CW.region (za (bF) rfl (RL.nil (thn.n (CW.ret (thn.r (finQ.r (v := bF) (Ax rfl rfl) ?_)))))))))))))))))
   exact ⟨Am (by unfold mayE; first | (simp [hb12]; done) | (simp [op_eq, zOp, hb12]; done) | (simp [op_eq, zOp, hb12]; omega)), (H7.fix (i := 1) rfl)⟩
  ·have hw9 := Bc hb12
   refine zg rfl (Ex.not (b := true) rfl) (zm (bF) rfl (zg rfl (fa31_1 (b := ⟨b2, 1, none⟩) rfl rfl) (zl (J e.view) Cf (H7.ob (i := 0) rfl) rfl (RL.call Tryz.call168 (within_tumulusref14 _ e.view 0 900000000) rfl rfl rfl ?_))))
   rintro _ _ ⟨rfl, rfl⟩
   rcases hb16 : (Aq e.view 0 900000000) with _ | _
   ·skip
    refine zg rfl (Ex.not (b := false) rfl) (zF (bT) rfl (RL.nil (thn.n (Ab rfl (CW.seq (CW.region (za (bF) rfl (RL.nil (thn.n (CW.ret (thn.r (finQ.r (v := bF) (Ax rfl rfl) ?_))))))))))))
    exact ⟨Am (by unfold mayE; first | (simp [hb12, hb16]; done) | (simp [op_eq, zOp, hb12, hb16]; done) | (simp [op_eq, zOp, hb12, hb16]; omega)), (H7.fix (i := 1) rfl)⟩
   ·have hw13 := Bc hb16
    refine zg rfl (Ex.not (b := true) rfl) (zF (bF) rfl (RL.nil (thn.n (Ag rfl (CW.skip (thn.n (CW.seq (CW.seq (CW.region (zg rfl (fa31_2 (b := ⟨b2, 2, none⟩) rfl rfl) (zl (J e.client) Cf (H7.ob (i := 0) rfl) rfl ?_)))))))))))
    refine zc ((e.client : Int) = (0 : Int)) rfl (fun r hr => Cb rfl rfl hr) (fun h17 => ?_) (fun h17 => ?_)
    ·skip
     refine RL.nil (thn.n (Ab rfl (CW.seq (CW.region (zg rfl (fa31_3 (b := ⟨b2, 3, none⟩) rfl rfl) (zl (J e.seq) Cf (H7.ob (i := 0) rfl) rfl ?_))))))
     refine zc ((e.seq : Int) = (0 : Int)) rfl (fun r hr => Cb rfl rfl hr) (fun h18 => ?_) (fun h18 => ?_)
     ·skip
      refine zm (bT) rfl (zg rfl (fa31_4 (b := ⟨b2, 4, none⟩) rfl rfl) (zg rfl (Ai rfl (Ak (cs := [(J e.op.kind), (J e.op.h), (J e.op.i), (J e.op.n), (J e.op.k), (J e.op.v), (J e.op.t)]) wh29 ((H7.ob (i := 0) rfl).sub 4 7))) (zg rfl (Cc (cs := [(J 0), (J 0), (J 0), (J 0), (J 0), (J 0), (J 0)]) bd29 rfl) ?_)))
      refine zc ((e.op.kind : Int) = (0 : Int) ∧ (e.op.h : Int) = (0 : Int) ∧ (e.op.i : Int) = (0 : Int) ∧ (e.op.n : Int) = (0 : Int) ∧ (e.op.k : Int) = (0 : Int) ∧ (e.op.v : Int) = (0 : Int) ∧ (e.op.t : Int) = (0 : Int)) rfl (fun r hr => Ex.eqS (xs := [(J e.op.kind), (J e.op.h), (J e.op.i), (J e.op.n), (J e.op.k), (J e.op.v), (J e.op.t)]) (ys := [(J 0), (J 0), (J 0), (J 0), (J 0), (J 0), (J 0)]) Tryz.eqGuardType29 (eqT29 hr) rfl rfl) (fun h19 => ?_) (fun h19 => ?_)
      ·skip
       refine zT (bT) rfl (za (bT) rfl (RL.nil (thn.n (CW.ret (thn.r (finQ.r (v := bT) (Ax rfl rfl) ?_))))))
       exact ⟨Am (by unfold mayE; first | (simp [hb12, hb16, h17, h18, h19]; done) | (simp [op_eq, zOp, hb12, hb16, h17, h18, h19]; done) | (simp [op_eq, zOp, hb12, hb16, h17, h18, h19]; omega)), (H7.fix (i := 1) rfl)⟩
      ·skip
       refine zT (bF) rfl (za (bF) rfl (RL.nil (thn.n (CW.ret (thn.r (finQ.r (v := bF) (Ax rfl rfl) ?_))))))
       exact ⟨Am (by unfold mayE; first | (simp [hb12, hb16, h17, h18, h19]; done) | (simp [op_eq, zOp, hb12, hb16, h17, h18, h19]; done) | (simp [op_eq, zOp, hb12, hb16, h17, h18, h19]; omega)), (H7.fix (i := 1) rfl)⟩
     ·skip
      refine zm (bF) rfl (zo rfl (zo rfl (zo rfl (zo rfl (zF (bF) rfl (za (bF) rfl (RL.nil (thn.n (CW.ret (thn.r (finQ.r (v := bF) (Ax rfl rfl) ?_)))))))))))
      exact ⟨Am (by unfold mayE; first | (simp [hb12, hb16, h17, h18]; done) | (simp [op_eq, zOp, hb12, hb16, h17, h18]; done) | (simp [op_eq, zOp, hb12, hb16, h17, h18]; omega)), (H7.fix (i := 1) rfl)⟩
    ·skip
     refine RL.nil (thn.n (Ag rfl (CW.skip (thn.n (CW.seq (CW.region (zg rfl (fa31_2 (b := ⟨b2, 2, none⟩) rfl rfl) (zl (J e.client) Cf (H7.ob (i := 0) rfl) rfl (RL.call Tryz.call168 (within_tumulusref14 _ e.client 1 4) rfl rfl rfl ?_)))))))))
     rintro _ _ ⟨rfl, rfl⟩
     rcases hb23 : (Aq e.client 1 4) with _ | _
     ·skip
      refine zm (bF) rfl (zo rfl (zo rfl (zo rfl (zF (bF) rfl (za (bF) rfl (RL.nil (thn.n (CW.ret (finQ.r (v := bF) (Ax rfl rfl) ?_)))))))))
      exact ⟨Am (by unfold mayE; first | (simp [hb12, hb16, h17, hb23]; done) | (simp [op_eq, zOp, hb12, hb16, h17, hb23]; done) | (simp [op_eq, zOp, hb12, hb16, h17, hb23]; omega)), (H7.fix (i := 1) rfl)⟩
     ·have hw20 := Bc hb23
      refine zm (bT) rfl (zg rfl (fa31_3 (b := ⟨b2, 3, none⟩) rfl rfl) (zl (J e.seq) Cf (H7.ob (i := 0) rfl) rfl (RL.call Tryz.call168 (within_tumulusref14 _ e.seq 1 1000000) rfl rfl rfl ?_)))
      rintro _ _ ⟨rfl, rfl⟩
      rcases hb27 : (Aq e.seq 1 1000000) with _ | _
      ·skip
       refine zT (bF) rfl (za (bF) rfl (RL.nil (thn.n (CW.ret (finQ.r (v := bF) (Ax rfl rfl) ?_)))))
       exact ⟨Am (by unfold mayE; first | (simp [hb12, hb16, h17, hb23, hb27]; done) | (simp [op_eq, zOp, hb12, hb16, h17, hb23, hb27]; done) | (simp [op_eq, zOp, hb12, hb16, h17, hb23, hb27]; omega)), (H7.fix (i := 1) rfl)⟩
      ·have hw24 := Bc hb27
       refine zT (bT) rfl (za (bT) rfl (RL.nil (thn.n (CW.ret (finQ.r (v := bT) (Ax rfl rfl) ?_)))))
       exact ⟨Am (by unfold mayE; first | (simp [hb12, hb16, h17, hb23, hb27]; done) | (simp [op_eq, zOp, hb12, hb16, h17, hb23, hb27]; done) | (simp [op_eq, zOp, hb12, hb16, h17, hb23, hb27]; omega)), (H7.fix (i := 1) rfl)⟩
set_option maxHeartbeats 400000 in
set_option maxRecDepth 20000 in
theorem follR_ (w : World) (B : Nat) (l : List Entry) (A : Option Addr) (n c : Nat) (fr : Int) (hr : Rd w B 11 A (ents l)) (hB : B ≤ w.heap.size) (hn : n = l.length) (hm : n ≤ 1099511627776) : Ret Tryz.prog 126 [(.slice A n c), (J fr)] w (fun v w' => v = .bool (follB l fr) ∧ w.grownBy w' none) := by
  have H0 : Sp [Bd w Bl] w := Bn w
  refine Ret.body Tryz.func126 rfl rfl rfl ?_
  refine CW.seq (CW.region (za (bF) rfl (RL.nil (thn.n (CW.seq (CW.seq (CW.region (za (J 0) rfl (RL.nil (thn.n (CW.block ?_)))))))))))
  refine CW.loop (fun t => (Nat.ble 4 t && Nat.ble t 21)) (fun nL ρ wl => ∃ (k : Nat), ρ 5 = (J (k : Int)) ∧ nL = n - k ∧ Sp [Bd w Bl] wl ∧ k ≤ n ∧ follB (l.take k) fr = true) (n) ?aa0 ?bb0
  case aa0 =>
   exact ⟨0, rfl, rfl, H0, Nat.zero_le _, rfl⟩
  case bb0 =>
   rintro n2 ρ0 w1 ho3 ⟨k, hs0_5, hn0, H4, hk, hf⟩
   obtain ⟨j0, rfl⟩ := ho3.shape1 hs0_5
   clear ho3 hs0_5
   subst hn0
   have z5 := (H4.fix (i := 0) rfl).size
   refine CW.seq (CW.seq (CW.region (zm (J (k : Int)) rfl (zm (.slice A n c) rfl (zg rfl (Ex.len Tryz.underlying22 rfl) ?_)))))
   refine zc (((k : Int) : Int) < ((n : Nat) : Int)) rfl (fun r hr => Ex.lt rfl rfl hr) (fun h6 => ?_) (fun h6 => ?_)
   ·skip
    refine RL.nil (thn.n (Ab rfl (CW.skip (thn.n (CW.seq (CW.block (CW.seq (CW.region (zm (.slice A n c) rfl (zm (J (k : Int)) rfl ?_))))))))))
    obtain ⟨e7, he8⟩ : ∃ e, (l)[k]? = some e := ⟨_, List.getElem?_eq_getElem (by omega)⟩
    obtain ⟨ad9, hA10⟩ := Rd.sm (hr.st0 (H4.fix (i := 0) rfl)) (Bw he8)
    have hl11 := Eng.lt_len (Bw he8)
    refine zg rfl (Cq (b := (ad9.add (k * 11))) (i := k) Tryz.underlying22 Tryz.sizeOf31 (by rw [← hA10]; rfl) rfl (by omega) (by omega) rfl) (zg rfl (fa31_0 (b := ((ad9.add (k * 11)))) rfl rfl) (zg rfl (Ai rfl (Ba Cf (Cl.at_ (v := (J e7.num)) (Rd.cl (hr.st0 (H4.fix (i := 0) rfl)) hA10 (Bw he8)) (i := 0) rfl))) (zg rfl (Ci (r := IntKind.i64.wrap (e7.num - 1)) rfl rfl rfl) (zm (J (k : Int)) rfl (zg rfl (Ci (r := IntKind.i64.wrap ((IntKind.i64.wrap (e7.num - 1)) - (k : Int))) rfl rfl rfl) (zm (J fr) rfl ?_))))))
    refine zc ((IntKind.i64.wrap ((IntKind.i64.wrap (e7.num - 1)) - (k : Int)) : Int) ≠ (fr : Int)) rfl (fun r hr => Cm rfl rfl hr) (fun h12 => ?_) (fun h12 => ?_)
    ·skip
     refine RL.nil (thn.n (Ab rfl (CW.seq (CW.region (za (bF) rfl (RL.nil (thn.n (CW.ret (inB.r (thn.r (thn.r (inB.r (thn.r (finQ.r (v := bF) (Ax rfl rfl) ?_))))))))))))))
     exact ⟨Am (by unfold follB; rw [allI_stop he8 0]; rw [decide_eq_false_iff_not, Nat.zero_add]; exact h12), (H4.fix (i := 0) rfl)⟩
    ·skip
     refine RL.nil (thn.n (Ag rfl (CW.skip (inB.n (thn.n (CW.region (zm (J (k : Int)) rfl (zg rfl (Ex.add (r := (k : Int) + 1) rfl rfl (Dd (by omega) (by omega))) (za (J ((k : Int) + 1)) rfl (RL.nil (thn.n ?_)))))))))))
     refine ⟨(by repeat (first | exact Out.mix _ _ | exact Out.refl _ _ | refine Bg ?_ rfl _)), _, ?_, k + 1, rfl, rfl, H4, by omega, by unfold follB at *; rw [allI_take he8 0, hf]; simp only [Nat.zero_add, Bool.true_and, decide_eq_true_eq]; exact Decidable.not_not.1 h12⟩
     omega
   ·skip
    refine RL.nil (thn.n (Ag rfl (CW.exit (thn.x (thn.x (Bf (thn.n (CW.seq (CW.region (za (bT) rfl (RL.nil (thn.n (CW.ret (finQ.r (v := bT) (Ax rfl rfl) ?_))))))))))))))
    exact ⟨Am (by rw [← hf, List.take_of_length_le (by omega)]), (H4.fix (i := 0) rfl)⟩
set_option maxHeartbeats 400000 in
set_option maxRecDepth 20000 in
theorem rowR_ (w : World) (B : Nat) (l : List Entry) (A : Option Addr) (n c : Nat) (fr : Int) (hr : Rd w B 11 A (ents l)) (hB : B ≤ w.heap.size) (hn : n = l.length) (hm : n ≤ 1099511627776) : Ret Tryz.prog 91 [(.slice A n c), (J fr)] w (fun v w' => v = .bool (follB l fr) ∧ w.grownBy w' none) := by
  have H0 : Sp [Bd w Bl] w := Bn w
  refine Ret.body Tryz.func91 rfl rfl rfl ?_
  refine CW.seq (CW.region (za (bF) rfl (RL.nil (thn.n (CW.seq (CW.seq (CW.region (za (J 0) rfl (RL.nil (thn.n (CW.block ?_)))))))))))
  refine CW.loop (fun t => (Nat.ble 4 t && Nat.ble t 21)) (fun nL ρ wl => ∃ (k : Nat), ρ 5 = (J (k : Int)) ∧ nL = n - k ∧ Sp [Bd w Bl] wl ∧ k ≤ n ∧ follB (l.take k) fr = true) (n) ?aa0 ?bb0
  case aa0 =>
   exact ⟨0, rfl, rfl, H0, Nat.zero_le _, rfl⟩
  case bb0 =>
   rintro n2 ρ0 w1 ho3 ⟨k, hs0_5, hn0, H4, hk, hf⟩
   obtain ⟨j0, rfl⟩ := ho3.shape1 hs0_5
   clear ho3 hs0_5
   subst hn0
   have z5 := (H4.fix (i := 0) rfl).size
   refine CW.seq (CW.seq (CW.region (zm (J (k : Int)) rfl (zm (.slice A n c) rfl (zg rfl (Ex.len Tryz.underlying22 rfl) ?_)))))
   refine zc (((k : Int) : Int) < ((n : Nat) : Int)) rfl (fun r hr => Ex.lt rfl rfl hr) (fun h6 => ?_) (fun h6 => ?_)
   ·skip
    refine RL.nil (thn.n (Ab rfl (CW.skip (thn.n (CW.seq (CW.block (CW.seq (CW.region (zm (.slice A n c) rfl (zm (J (k : Int)) rfl ?_))))))))))
    obtain ⟨e7, he8⟩ : ∃ e, (l)[k]? = some e := ⟨_, List.getElem?_eq_getElem (by omega)⟩
    obtain ⟨ad9, hA10⟩ := Rd.sm (hr.st0 (H4.fix (i := 0) rfl)) (Bw he8)
    have hl11 := Eng.lt_len (Bw he8)
    refine zg rfl (Cq (b := (ad9.add (k * 11))) (i := k) Tryz.underlying22 Tryz.sizeOf31 (by rw [← hA10]; rfl) rfl (by omega) (by omega) rfl) (zg rfl (fa31_0 (b := ((ad9.add (k * 11)))) rfl rfl) (zg rfl (Ai rfl (Ba Cf (Cl.at_ (v := (J e7.num)) (Rd.cl (hr.st0 (H4.fix (i := 0) rfl)) hA10 (Bw he8)) (i := 0) rfl))) (zg rfl (Ci (r := IntKind.i64.wrap (e7.num - 1)) rfl rfl rfl) (zm (J (k : Int)) rfl (zg rfl (Ci (r := IntKind.i64.wrap ((IntKind.i64.wrap (e7.num - 1)) - (k : Int))) rfl rfl rfl) (zm (J fr) rfl ?_))))))
    refine zc ((IntKind.i64.wrap ((IntKind.i64.wrap (e7.num - 1)) - (k : Int)) : Int) ≠ (fr : Int)) rfl (fun r hr => Cm rfl rfl hr) (fun h12 => ?_) (fun h12 => ?_)
    ·skip
     refine RL.nil (thn.n (Ab rfl (CW.seq (CW.region (za (bF) rfl (RL.nil (thn.n (CW.ret (inB.r (thn.r (thn.r (inB.r (thn.r (finQ.r (v := bF) (Ax rfl rfl) ?_))))))))))))))
     exact ⟨Am (by unfold follB; rw [allI_stop he8 0]; rw [decide_eq_false_iff_not, Nat.zero_add]; exact h12), (H4.fix (i := 0) rfl)⟩
    ·skip
     refine RL.nil (thn.n (Ag rfl (CW.skip (inB.n (thn.n (CW.region (zm (J (k : Int)) rfl (zg rfl (Ex.add (r := (k : Int) + 1) rfl rfl (Dd (by omega) (by omega))) (za (J ((k : Int) + 1)) rfl (RL.nil (thn.n ?_)))))))))))
     refine ⟨(by repeat (first | exact Out.mix _ _ | exact Out.refl _ _ | refine Bg ?_ rfl _)), _, ?_, k + 1, rfl, rfl, H4, by omega, by unfold follB at *; rw [allI_take he8 0, hf]; simp only [Nat.zero_add, Bool.true_and, decide_eq_true_eq]; exact Decidable.not_not.1 h12⟩
     omega
   ·skip
    refine RL.nil (thn.n (Ag rfl (CW.exit (thn.x (thn.x (Bf (thn.n (CW.seq (CW.region (za (bT) rfl (RL.nil (thn.n (CW.ret (finQ.r (v := bT) (Ax rfl rfl) ?_))))))))))))))
    exact ⟨Am (by rw [← hf, List.take_of_length_le (by omega)]), (H4.fix (i := 0) rfl)⟩
end Go.Proofs.YtfokljnhllflbaaGreat
namespace Go.Eng
open Go
theorem ent_eq {a b : Entry} (h : (a.num : Int) = b.num ∧ (a.view : Int) = b.view ∧ (a.client : Int) = b.client ∧ (a.seq : Int) = b.seq ∧ (a.op.kind : Int) = b.op.kind ∧ (a.op.h : Int) = b.op.h ∧ (a.op.i : Int) = b.op.i ∧ (a.op.n : Int) = b.op.n ∧ (a.op.k : Int) = b.op.k ∧ (a.op.v : Int) = b.op.v ∧ (a.op.t : Int) = b.op.t) : a = b := by
  obtain ⟨a1, a2, a3, a4, ⟨a5, a6, a7, a8, a9, a10, a11⟩⟩ := a
  obtain ⟨b1, b2, b3, b4, ⟨b5, b6, b7, b8, b9, b10, b11⟩⟩ := b
  obtain ⟨h1, h2, h3, h4, h5, h6, h7, h8, h9, h10, h11⟩ := h
  simp only at h1 h2 h3 h4 h5 h6 h7 h8 h9 h10 h11
  subst h1 h2 h3 h4 h5 h6 h7 h8 h9 h10 h11
  rfl
theorem take_same {α : Type} {l m : List α} {i : Nat} {a b : α} (h : l.take i = m.take i) (ha : l[i]? = some a) (hb : m[i]? = some b) (e : a = b) : l.take (i + 1) = m.take (i + 1) := by
  rw [List.take_add_one, List.take_add_one, h, ha, hb, e]
theorem ne_at {α : Type} {l m : List α} {i : Nat} {a b : α} (ha : l[i]? = some a) (hb : m[i]? = some b) (e : ¬ a = b) : ¬ l = m := fun h => by
  subst h
  rw [ha] at hb
  injection hb with hb
  exact e hb
end Go.Eng
namespace Go.Eng
open Go
theorem rec_eq {a b : Rec} (h1 : a.kind = b.kind) (h2 : a.view = b.view) (h3 : a.from_ = b.from_) (h4 : a.number = b.number) (h5 : a.image = b.image) (h6 : a.entry = b.entry) (h7 : a.ents = b.ents) : a = b := by
  obtain ⟨a1, a2, a3, a4, a5, a6, a7⟩ := a
  obtain ⟨b1, b2, b3, b4, b5, b6, b7⟩ := b
  simp only at h1 h2 h3 h4 h5 h6 h7
  subst h1 h2 h3 h4 h5 h6 h7
  rfl
theorem kept_eq {a b : Kept} (h1 : a.view = b.view) (h2 : a.normal = b.normal) (h3 : a.base = b.base) (h5 : a.image = b.image) (h7 : a.ents = b.ents) : a = b := by
  obtain ⟨a1, a2, a3, a5, a7⟩ := a
  obtain ⟨b1, b2, b3, b5, b7⟩ := b
  simp only at h1 h2 h3 h5 h7
  subst h1 h2 h3 h5 h7
  rfl
theorem ents_set (l : List Entry) (i : Nat) (x : Entry) : (ents l).set i x.cells = ents (l.set i x) := by simp [ents, List.map_set]
theorem adopt_filter {k : Kept} {c v b : Int} {l : List Entry} (h : Bx k c v b l = true) (hl : l.length ≤ 1000000) (hr : ∀ e ∈ l, rng e.num) : l.filter (fun e => decide (c < e.num)) = l.drop (c - b).toNat := by
  obtain ⟨h1, h2, h3, h4, h5, h6⟩ := adoptB_t h hl hr
  exact filter_nums h4.2 h6
theorem adoptR_len (k : Kept) (c v b : Int) (l : List Entry) : (Aa k c v b l).ents.length ≤ l.length := by
  unfold Aa
  split
  · show (l.drop _).length ≤ _; rw [List.length_drop]; omega
  · exact Nat.zero_le _
theorem adoptB_of {k : Kept} {c v b : Int} {l : List Entry} (h1 : keptB k = true) (h2 : Aq c k.base (lastK k) = true) (h3 : Aq v k.view 900000000 = true) (h4 : Aq b 0 c = true) (h5 : follB l b = true) (h6 : c - b ≤ l.length) : Bx k c v b l = true := by
  unfold Bx lastOf
  rw [if_pos h1, h1, h2, h3, h4, h5, decide_eq_true h6]
  rfl
theorem adoptB_no {k : Kept} {c v b : Int} {l : List Entry} (h : keptB k = false ∨ (keptB k = true ∧ Aq c k.base (lastK k) = false) ∨ Aq v k.view 900000000 = false ∨ Aq b 0 c = false ∨ follB l b = false ∨ (l.length : Int) < c - b) : Bx k c v b l = false := by
  cases e : Bx k c v b l with
  | false => rfl
  | true =>
    exfalso
    unfold Bx at e
    simp only [Bool.and_eq_true, decide_eq_true_eq] at e
    obtain ⟨⟨⟨⟨⟨h1, h2⟩, h3⟩, h4⟩, h5⟩, h6⟩ := e
    unfold lastOf at h2
    rw [if_pos h1] at h2
    rcases h with h | ⟨_, h⟩ | h | h | h | h
    · rw [h] at h1; cases h1
    · rw [h] at h2; cases h2
    · rw [h] at h3; cases h3
    · rw [h] at h4; cases h4
    · rw [h] at h5; cases h5
    · omega
end Go.Eng
namespace Go.Eng
open Go Go.RowKit
section
variable {P : Program} {N : Nat} {Q Q' : Exit → Cv → World → Prop} {ρ : Cv} {w : World} {ops rest : List Oper} {o : Oper} {ty : TypeId} {ps : String} {af : Array Edge} {gu : Option (Nat × Bool)}
variable {x : Operand} {t : TypeId}
theorem Wr.head {w w' : World} {base e k n c i g off : Nat} {xss : List (List Value)} {cs cs' : List Value} (hr : Wr w base e k (some ⟨g, off, none⟩) n c xss) (ho : Ob w g e cs) (hi : i ≤ n) (ho' : Ob w' g e cs') (hl : cs'.length = cs.length) (hc : (cs'.drop off).take (i * k) = (cs.drop off).take (i * k)) : Wr w' base e k (some ⟨g, off, none⟩) i c (xss.take i) := by
  obtain ⟨h1, h2, h3⟩ := hr
  refine ⟨by rw [List.length_take]; omega, fun x hx => h2 x (List.mem_of_mem_take hx), ?_⟩
  rcases h3 with ⟨q, _⟩ | ⟨g1, off1, cs1, q1, q2, q3, q4, q5, q6, q7⟩
  · cases q
  · injection q1 with q1
    injection q1 with q8 q9
    subst q8; subst q9
    have e1 : cs1 = cs := by
      unfold Ob at q3 ho
      rw [q3] at ho
      simp at ho
      exact ho
    subst e1
    refine .inr ⟨g, off, cs', rfl, q2, ho', by omega, by omega, q6, ?_⟩
    rw [hc, flat_take i h2, ← q7, List.take_take, Nat.min_eq_left (Nat.mul_le_mul_right k hi)]
end
end Go.Eng
namespace Go.Eng
open Go Go.RowKit
section
variable {P : Program} {N : Nat} {Q Q' : Exit → Cv → World → Prop} {ρ : Cv} {w : World} {ops rest : List Oper} {ty : TypeId} {ps : String} {af : Array Edge} {gu : Option (Nat × Bool)}
variable {x y : Operand} {t : TypeId}
theorem flat_set {k : Nat} {vs : List Value} (hv : vs.length = k) : ∀ {xss : List (List Value)} (_ : ∀ x ∈ xss, x.length = k) (i : Nat), i < xss.length → (xss.set i vs).flatten = pt xss.flatten (i * k) vs
  | [], _, i, hi => by simp at hi
  | x :: xss, h, 0, _ => by
    have hx := h x (by simp)
    rw [List.set_cons_zero, List.flatten_cons, List.flatten_cons]
    unfold pt
    rw [Nat.zero_mul, List.take_zero, List.nil_append, Nat.zero_add, List.drop_append_of_le_length (by omega), List.drop_of_length_le (by omega), List.nil_append]
  | x :: xss, h, i + 1, hi => by
    have hx := h x (by simp)
    have ih := flat_set hv (xss := xss) (fun y hy => h y (List.mem_cons_of_mem _ hy)) i (by simpa using hi)
    rw [List.set_cons_succ, List.flatten_cons, List.flatten_cons, ih]
    unfold pt
    have e1 : (i + 1) * k = x.length + i * k := by rw [hx, Nat.add_mul]; omega
    rw [e1, List.take_length_add_append, Nat.add_assoc, List.drop_length_add_append]
    simp only [List.append_assoc]
theorem pt_in {cs vs : List Value} {off m M : Nat} (h1 : off + M ≤ cs.length) (h2 : m + vs.length ≤ M) : ((pt cs (off + m) vs).drop off).take M = pt ((cs.drop off).take M) m vs := by
  have hl : ((cs.drop off).take M).length = M := by rw [List.length_take, List.length_drop]; omega
  apply List.ext_getElem?
  intro j
  rw [pt_get (by omega)]
  by_cases hj : j < M
  · rw [List.getElem?_take_of_lt hj, List.getElem?_drop, pt_get (by omega)]
    by_cases c1 : j < m
    · rw [if_pos (by omega), if_pos c1, List.getElem?_take_of_lt hj, List.getElem?_drop]
    · rw [if_neg (by omega), if_neg c1]
      by_cases c2 : j < m + vs.length
      · rw [if_pos (by omega), if_pos c2]; congr 1; omega
      · rw [if_neg (by omega), if_neg c2, List.getElem?_take_of_lt hj, List.getElem?_drop]
  · rw [List.getElem?_eq_none (by rw [List.length_take]; omega), if_neg (by omega), if_neg (by omega), List.getElem?_eq_none (by omega)]
theorem pt_pt {L x1 vs : List Value} {m o k : Nat} (hx : ∀ j, j < k → L[m + j]? = x1[j]?) (hk : x1.length = k) (hle : o + vs.length ≤ k) (hL : m + k ≤ L.length) : pt L m (pt x1 o vs) = pt L (m + o) vs := by
  have hl : (pt x1 o vs).length = k := by rw [pt_length (by omega), hk]
  apply List.ext_getElem?
  intro j
  rw [pt_get (cs := L) (o := m) (by omega), pt_get (cs := L) (o := m + o) (by omega), hl]
  by_cases c1 : j < m
  · rw [if_pos c1, if_pos (by omega)]
  · rw [if_neg c1]
    by_cases c2 : j < m + k
    · rw [if_pos c2, pt_get (by omega)]
      have hj := hx (j - m) (by omega)
      rw [show m + (j - m) = j by omega] at hj
      by_cases c3 : j < m + o
      · rw [if_pos (by omega), if_pos c3, hj]
      · rw [if_neg (by omega), if_neg c3]
        by_cases c4 : j < m + o + vs.length
        · rw [if_pos (by omega), if_pos c4]; congr 1; omega
        · rw [if_neg (by omega), if_neg c4, hj]
    · rw [if_neg c2, if_neg (by omega), if_neg (by omega)]
theorem RL.stE {e k n c i base off : Nat} {A : Option Addr} {ad : Addr} {xss : List (List Value)} {x1 x2 vs : List Value} (hs : ∀ w : World, (sizeOf t).run P w = .ok vs.length w) (hr : Wr w base e k A n c xss) (hA : A = some ad) (hx1 : xss[i]? = some x1)
    (hp : ev ρ x = .pointer (some ((ad.add (i * k)).add off))) (hy : (ev ρ y).cells = vs.toArray) (hx2 : pt x1 off vs = x2) (hle : Nat.ble (off + vs.length) k = true) (h1 : vs.all Value.oneCell' = true) (hg : gd ops ρ ⟨none, .store t x y, ty, ps, af, gu⟩ = true)
    (h : ∀ w', w.grownBy w' (bk A) → Wr w' base e k A n c (xss.set i x2) → RL P N ops Q rest ρ w') : RL P N ops Q (⟨none, .store t x y, ty, ps, af, gu⟩ :: rest) ρ w := by
  have hi := lt_len hx1
  subst hx2
  rw [Nat.ble_eq] at hle
  obtain ⟨hlen, hall, hrow⟩ := hr
  have hk1 := hall x1 (List.mem_of_getElem? hx1)
  have hv2 : (pt x1 off vs).length = k := by rw [pt_length (by omega), hk1]
  rcases hrow with ⟨rfl, rfl, rfl⟩ | ⟨g, o, cs, rfl, hb, ho, hl, hnc, hcm, htk⟩
  · cases hA
  · injection hA with hA
    subst hA
    rw [add_lit, add_lit] at hp
    have m1 : i * k + k ≤ n * k := by have := Nat.mul_le_mul_right k (show i + 1 ≤ n by omega); rw [Nat.add_mul] at this; omega
    have m2 : n * k ≤ c * k := Nat.mul_le_mul_right k hnc
    have hfl : xss.flatten.length = n * k := by rw [← htk, List.length_take, List.length_drop]; omega
    refine RL.st (b := g) (T := e) (off := o + i * k + off) (cs := cs) (vs := vs) (cs' := pt cs (o + i * k + off) vs) hs ho hp hy h1 (by rw [Nat.ble_eq]; omega) rfl hg fun w' hz gr ob => h w' gr ?_
    refine ⟨by rw [List.length_set]; exact hlen, fun z hz => ?_, .inr ⟨g, o, pt cs (o + i * k + off) vs, rfl, hb, ob, by rw [pt_length (by omega)]; exact hl, hnc, hcm, ?_⟩⟩
    · rcases List.mem_or_eq_of_mem_set hz with hz | hz
      · exact hall z hz
      · rw [hz]; exact hv2
    · rw [flat_set hv2 hall i hi, pt_pt (k := k) (fun j hj => ?_) hk1 hle (by omega), ← htk, Nat.add_assoc, pt_in (by omega) (by omega)]
      rw [flat_get hall hx1 (List.getElem?_eq_getElem (show j < x1.length by omega)), List.getElem?_eq_getElem]
end
end Go.Eng
namespace Go.Proofs.YtfokljnhllflbaaGreat
open Go Go.Eng Go.RowKit
set_option maxHeartbeats 2000000 in
set_option maxRecDepth 20000 in
theorem rightK_ (w : World) (B : Nat) (k : Kept) (A : Option Addr) (n c : Nat) (hr : Rd w B 11 A (ents k.ents)) (hB : B ≤ w.heap.size) (hn : n = k.ents.length) (hm : n ≤ 1099511627776) (hc : n ≤ c) (hi : k.image.length ≤ 140737488351232) : Ret Tryz.prog 59 [(.agg ([(J k.view), (J k.normal), (J k.base), (.string (tx k.image)), (.slice A n c)]).toArray)] w (fun v w' => v = .bool (keptB k) ∧ w.grownBy w' none) := by
  have H0 : Sp [Bd w Bl] w := Bn w
  refine Ret.body Tryz.func59 rfl rfl rfl ?_
  refine CW.seq (CW.region (RL.bx (cs := [(J k.view), (J k.normal), (J k.base), (.string (tx k.image)), (.slice A n c)]) rfl rfl rfl ?_))
  intro w1 b2 hb3 hz4 g5 o6
  have H7 := H0.newB g5 o6 (by omega)
  have z8 := g5.size
  refine za (bF) rfl (RL.nil (thn.n (CW.seq (CW.seq (CW.region (zg rfl (fa24_0 (b := ⟨b2, 0, none⟩) rfl rfl) (zl (J k.view) Cf (H7.ob (i := 0) rfl) rfl ?_)))))))
  refine zc ((k.view : Int) < (0 : Int)) rfl (fun r hr => Ex.lt rfl rfl hr) (fun h9 => ?_) (fun h9 => ?_)
  ·skip
   refine zm (bT) rfl (zo rfl (zo rfl (zo rfl (zT (bT) rfl (zm (bT) rfl (zo rfl (zo rfl (zo rfl (zT (bT) rfl (zm (bT) rfl ?_))))))))))
   refine zo rfl (zo rfl (zo rfl (zo rfl (zo rfl (zT (bT) rfl (zm (bT) rfl (zo rfl (zo rfl (zo rfl (zT (bT) rfl ?_))))))))))
   refine zm (bT) rfl (zo rfl (zo rfl (zo rfl (zT (bT) rfl (zm (bT) rfl (zo rfl (zo rfl (zo rfl (zo rfl (zT (bT) rfl ?_))))))))))
   refine zm (bT) rfl (zo rfl (zo rfl (zo rfl (zo rfl (zo rfl (zo rfl (zT (bT) rfl (RL.nil (thn.n (Ab rfl (CW.seq (CW.region (za (bF) rfl (RL.nil (thn.n (CW.ret (thn.r ?_)))))))))))))))))
   refine finQ.r (v := bF) (Ax rfl rfl) ?_
   exact ⟨Am (keptB_no (fun ⟨q1, q2, q3, q4, q5, q6, q7, q8, _, _⟩ => by first | omega)).symm, (H7.fix (i := 1) rfl)⟩
  ·skip
   refine zm (bF) rfl (zg rfl (fa24_0 (b := ⟨b2, 0, none⟩) rfl rfl) (zl (J k.view) Cf (H7.ob (i := 0) rfl) rfl ?_))
   refine zc ((900000000 : Int) < (k.view : Int)) rfl (fun r hr => Df rfl rfl hr) (fun h10 => ?_) (fun h10 => ?_)
   ·skip
    refine zF (bT) rfl (zm (bT) rfl (zo rfl (zo rfl (zo rfl (zT (bT) rfl (zm (bT) rfl (zo rfl (zo rfl (zo rfl (zo rfl ?_))))))))))
    refine zo rfl (zT (bT) rfl (zm (bT) rfl (zo rfl (zo rfl (zo rfl (zT (bT) rfl (zm (bT) rfl (zo rfl (zo rfl (zo rfl ?_))))))))))
    refine zT (bT) rfl (zm (bT) rfl (zo rfl (zo rfl (zo rfl (zo rfl (zT (bT) rfl (zm (bT) rfl (zo rfl (zo rfl (zo rfl ?_))))))))))
    refine zo rfl (zo rfl (zo rfl (zT (bT) rfl (RL.nil (thn.n (Ab rfl (CW.seq (CW.region (za (bF) rfl (RL.nil (thn.n (CW.ret (thn.r (finQ.r (v := bF) (Ax rfl rfl) ?_))))))))))))))
    exact ⟨Am (keptB_no (fun ⟨q1, q2, q3, q4, q5, q6, q7, q8, _, _⟩ => by first | omega)).symm, (H7.fix (i := 1) rfl)⟩
   ·skip
    refine zF (bF) rfl (zm (bF) rfl (zg rfl (fa24_1 (b := ⟨b2, 1, none⟩) rfl rfl) (zl (J k.normal) Cf (H7.ob (i := 0) rfl) rfl ?_)))
    refine zc ((k.normal : Int) < (0 : Int)) rfl (fun r hr => Ex.lt rfl rfl hr) (fun h11 => ?_) (fun h11 => ?_)
    ·skip
     refine zF (bT) rfl (zm (bT) rfl (zo rfl (zo rfl (zo rfl (zo rfl (zo rfl (zT (bT) rfl (zm (bT) rfl (zo rfl (zo rfl ?_))))))))))
     refine zo rfl (zT (bT) rfl (zm (bT) rfl (zo rfl (zo rfl (zo rfl (zT (bT) rfl (zm (bT) rfl (zo rfl (zo rfl (zo rfl ?_))))))))))
     refine zo rfl (zT (bT) rfl (zm (bT) rfl (zo rfl (zo rfl (zo rfl (zo rfl (zo rfl (zo rfl (zT (bT) rfl (RL.nil (thn.n (Ab rfl (CW.seq (CW.region ?_))))))))))))))
     refine za (bF) rfl (RL.nil (thn.n (CW.ret (thn.r (finQ.r (v := bF) (Ax rfl rfl) ?_)))))
     exact ⟨Am (keptB_no (fun ⟨q1, q2, q3, q4, q5, q6, q7, q8, _, _⟩ => by first | omega)).symm, (H7.fix (i := 1) rfl)⟩
    ·skip
     refine zF (bF) rfl (zm (bF) rfl (zg rfl (fa24_1 (b := ⟨b2, 1, none⟩) rfl rfl) (zl (J k.normal) Cf (H7.ob (i := 0) rfl) rfl (zg rfl (fa24_0 (b := ⟨b2, 0, none⟩) rfl rfl) (zl (J k.view) Cf (H7.ob (i := 0) rfl) rfl ?_)))))
     refine zc ((k.view : Int) < (k.normal : Int)) rfl (fun r hr => Df rfl rfl hr) (fun h12 => ?_) (fun h12 => ?_)
     ·skip
      refine zF (bT) rfl (zm (bT) rfl (zo rfl (zo rfl (zo rfl (zT (bT) rfl (zm (bT) rfl (zo rfl (zo rfl (zo rfl (zT (bT) rfl ?_))))))))))
      refine zm (bT) rfl (zo rfl (zo rfl (zo rfl (zo rfl (zT (bT) rfl (zm (bT) rfl (zo rfl (zo rfl (zo rfl (zo rfl ?_))))))))))
      refine zo rfl (zo rfl (zT (bT) rfl (RL.nil (thn.n (Ab rfl (CW.seq (CW.region (za (bF) rfl (RL.nil (thn.n (CW.ret (thn.r (finQ.r (v := bF) (Ax rfl rfl) ?_)))))))))))))
      exact ⟨Am (keptB_no (fun ⟨q1, q2, q3, q4, q5, q6, q7, q8, _, _⟩ => by first | omega)).symm, (H7.fix (i := 1) rfl)⟩
     ·skip
      refine zF (bF) rfl (zm (bF) rfl (zg rfl (fa24_2 (b := ⟨b2, 2, none⟩) rfl rfl) (zl (J k.base) Cf (H7.ob (i := 0) rfl) rfl ?_)))
      refine zc ((k.base : Int) < (0 : Int)) rfl (fun r hr => Ex.lt rfl rfl hr) (fun h13 => ?_) (fun h13 => ?_)
      ·skip
       refine zF (bT) rfl (zm (bT) rfl (zo rfl (zo rfl (zo rfl (zT (bT) rfl (zm (bT) rfl (zo rfl (zo rfl (zo rfl (zo rfl ?_))))))))))
       refine zT (bT) rfl (zm (bT) rfl (zo rfl (zo rfl (zo rfl (zo rfl (zo rfl (zo rfl (zT (bT) rfl (RL.nil (thn.n (Ab rfl (CW.seq (CW.region (za (bF) rfl ?_))))))))))))))
       refine RL.nil (thn.n (CW.ret (thn.r (finQ.r (v := bF) (Ax rfl rfl) ?_))))
       exact ⟨Am (keptB_no (fun ⟨q1, q2, q3, q4, q5, q6, q7, q8, _, _⟩ => by first | omega)).symm, (H7.fix (i := 1) rfl)⟩
      ·skip
       refine zF (bF) rfl (zm (bF) rfl (zg rfl (fa24_2 (b := ⟨b2, 2, none⟩) rfl rfl) (zl (J k.base) Cf (H7.ob (i := 0) rfl) rfl ?_)))
       refine zc ((900000000 : Int) < (k.base : Int)) rfl (fun r hr => Df rfl rfl hr) (fun h14 => ?_) (fun h14 => ?_)
       ·skip
        refine zF (bT) rfl (zm (bT) rfl (zo rfl (zo rfl (zo rfl (zo rfl (zT (bT) rfl (zm (bT) rfl (zo rfl (zo rfl (zo rfl ?_))))))))))
        refine zo rfl (zo rfl (zo rfl (zT (bT) rfl (RL.nil (thn.n (Ab rfl (CW.seq (CW.region (za (bF) rfl (RL.nil (thn.n (CW.ret (thn.r (finQ.r (v := bF) (Ax rfl rfl) ?_))))))))))))))
        exact ⟨Am (keptB_no (fun ⟨q1, q2, q3, q4, q5, q6, q7, q8, _, _⟩ => by first | omega)).symm, (H7.fix (i := 1) rfl)⟩
       ·skip
        refine zF (bF) rfl (zm (bF) rfl (zg rfl (fa24_4 (b := ⟨b2, 4, none⟩) rfl rfl) (zl (.slice A n c) lo22 (H7.ob (i := 0) rfl) rfl (zg rfl (Ex.len Tryz.underlying22 rfl) ?_))))
        refine zc ((4000 : Int) < ((n : Nat) : Int)) rfl (fun r hr => Df rfl rfl hr) (fun h15 => ?_) (fun h15 => ?_)
        ·skip
         refine zF (bT) rfl (zm (bT) rfl (zo rfl (zo rfl (zo rfl (zo rfl (zo rfl (zo rfl (zT (bT) rfl (RL.nil (thn.n (Ab rfl (CW.seq (CW.region (za (bF) rfl ?_))))))))))))))
         refine RL.nil (thn.n (CW.ret (thn.r (finQ.r (v := bF) (Ax rfl rfl) ?_))))
         exact ⟨Am (keptB_no (fun ⟨q1, q2, q3, q4, q5, q6, q7, q8, _, _⟩ => by first | omega)).symm, (H7.fix (i := 1) rfl)⟩
        ·skip
         refine zF (bF) rfl (zm (bF) rfl (zg rfl (fa24_4 (b := ⟨b2, 4, none⟩) rfl rfl) (zl (.slice A n c) lo22 (H7.ob (i := 0) rfl) rfl (zg rfl (fa24_2 (b := ⟨b2, 2, none⟩) rfl rfl) (zl (J k.base) Cf (H7.ob (i := 0) rfl) rfl (RL.call Tryz.call126 (follR_ _ _ k.ents A n c k.base (hr.st0 (H7.fix (i := 1) rfl)) (by omega) (by first | rfl | assumption | omega) (by omega)) rfl rfl rfl ?_))))))
         rintro _ w16 ⟨rfl, g17⟩
         have H18 := H7.grow g17
         have z19 := g17.size
         rcases hb20 : (follB k.ents k.base) with _ | _
         ·skip
          refine zg rfl (Ex.not (b := false) rfl) (zF (bT) rfl (RL.nil (thn.n (Ab rfl (CW.seq (CW.region (za (bF) rfl (RL.nil (thn.n (CW.ret (thn.r (finQ.r (v := bF) (Ax rfl rfl) ?_))))))))))))
          exact ⟨Am (keptB_no (fun ⟨q1, q2, q3, q4, q5, q6, q7, q8, _, _⟩ => by first | omega | (rw [hb20] at q8; cases q8))).symm, (H18.fix (i := 1) rfl)⟩
         ·skip
          refine zg rfl (Ex.not (b := true) rfl) (zF (bF) rfl (RL.nil (thn.n (Ag rfl (CW.skip (thn.n (CW.seq (CW.seq (CW.region (za (J 0) rfl (RL.nil (thn.n (CW.block ?_)))))))))))))
          refine CW.loop (fun t => (Nat.ble 2 t && Nat.ble t 4) || (Nat.ble 51 t && Nat.ble t 88)) (fun nL ρ wl => ∃ (i : Nat), ρ 3 = (J (i : Int)) ∧ nL = n - i ∧ Sp [Af b2 24 [(J k.view), (J k.normal), (J k.base), (.string (tx k.image)), (.slice A n c)], Bd w Bl] wl ∧ i ≤ n ∧ ∀ (j : Nat) (x : Entry), j < i → k.ents[j]? = some x → entOK k.normal k.ents j x) (n) ?aa0 ?bb0
          case aa0 =>
           exact ⟨0, rfl, rfl, H18, Nat.zero_le _, fun j x hj => by omega⟩
          case bb0 =>
           rintro n22 ρ0 w21 ho23 ⟨i, hs0_3, hn0, H24, hi_, hO⟩
           obtain ⟨j0, rfl⟩ := ho23.shape1 hs0_3
           clear ho23 hs0_3
           subst hn0
           have z25 := (H24.fix (i := 1) rfl).size
           refine CW.seq (CW.seq (CW.region (zm (J (i : Int)) rfl (zg rfl (fa24_4 (b := ⟨b2, 4, none⟩) rfl rfl) (zl (.slice A n c) lo22 (H24.ob (i := 0) rfl) rfl (zg rfl (Ex.len Tryz.underlying22 rfl) ?_))))))
           refine zc (((i : Int) : Int) < ((n : Nat) : Int)) rfl (fun r hr => Ex.lt rfl rfl hr) (fun h26 => ?_) (fun h26 => ?_)
           ·skip
            refine RL.nil (thn.n (Ab rfl (CW.skip (thn.n (CW.seq (CW.block (CW.seq (CW.region (zg rfl (fa24_4 (b := ⟨b2, 4, none⟩) rfl rfl) (zl (.slice A n c) lo22 (H24.ob (i := 0) rfl) rfl (zm (J (i : Int)) rfl ?_)))))))))))
            obtain ⟨e27, he28⟩ : ∃ e, (k.ents)[i]? = some e := ⟨_, List.getElem?_eq_getElem (by omega)⟩
            obtain ⟨ad29, hA30⟩ := Rd.sm (hr.st0 (H24.fix (i := 1) rfl)) (Bw he28)
            have hl31 := Eng.lt_len (Bw he28)
            refine zg rfl (Cq (b := (ad29.add (i * 11))) (i := i) Tryz.underlying22 Tryz.sizeOf31 (by rw [← hA30]; rfl) rfl (by omega) (by omega) rfl) (zg rfl (Ai rfl (Ak (cs := e27.cells) wh31 (Rd.cl (hr.st0 (H24.fix (i := 1) rfl)) hA30 (Bw he28)))) (RL.al (cs := [(J 0), (J 0), (J 0), (J 0), (J 0), (J 0), (J 0), (J 0), (J 0), (J 0), (J 0)]) Tryz.zeroValue31 rfl rfl rfl ?_))
            intro w32 b33 hb34 hz35 g36 o37
            have H38 := H24.newB g36 o37 (by omega)
            have z39 := g36.size
            refine RL.st (vs := e27.cells) (cs' := e27.cells) Tryz.sizeOf31 (H38.ob (i := 0) rfl) rfl rfl rfl rfl rfl rfl ?_
            intro w40 hz41 g42 o43
            have H44 : Sp [Af b33 31 e27.cells, Af b2 24 [(J k.view), (J k.normal), (J k.base), (.string (tx k.image)), (.slice A n c)], Bd w Bl] w40 := H38.setB (i := 0) rfl g42 o43 rfl
            have z45 := g42.size
            refine RL.nil (thn.n (CW.seq (CW.held (fun wq => Sp [Af b33 31 e27.cells, Af b2 24 [(J k.view), (J k.normal), (J k.base), (.string (tx k.image)), (.slice A n c)], Bd w Bl] wq) Tryz.mixed rfl ?_)))
            intro w46 g47
            have H48 := H44.grow g47
            have z49 := g47.size
            refine zr 0 1 rfl (by kernel_rfl) H48 (fun wq hq => Ai rfl (Ak (cs := e27.cells) wh31 (hq.ob (i := 0) rfl).cl)) (RA.one (i := 1) (by kernel_rfl) ?_)
            refine ⟨_, 3, rfl, by kernel_rfl, ?_⟩
            refine RL.call Tryz.call105 (mayR14_ _ e27) rfl rfl rfl ?_
            rintro _ w50 ⟨rfl, g51⟩
            have H52 := H48.grow g51
            have z53 := g51.size
            rcases hb54 : (mayE e27) with _ | _
            ·skip
             refine RL.nil ?_
             refine ⟨H52, ?_⟩
             refine zr 2 7 rfl (by kernel_rfl) H52 (fun wq hq => Ex.not (b := false) rfl) (zr 3 15 rfl (by kernel_rfl) H52 (fun wq hq => Au (v := bT) rfl) (zq 4 31 rfl (by kernel_rfl) H52 (zq 6 95 rfl (by kernel_rfl) H52 (zq 5 127 rfl (by kernel_rfl) H52 (zq 7 255 rfl (by kernel_rfl) H52 (zq 8 511 rfl (by kernel_rfl) H52 (zr 9 1023 rfl (by kernel_rfl) H52 (fun wq hq => Bi (v := bT) rfl rfl) (zr 10 2047 rfl (by kernel_rfl) H52 (fun wq hq => Au (v := bT) rfl) (zq 11 4095 rfl (by kernel_rfl) H52 (zq 12 8191 rfl (by kernel_rfl) H52 ?_))))))))))
             refine zq 13 16383 rfl (by kernel_rfl) H52 (zq 14 32767 rfl (by kernel_rfl) H52 (zq 16 98303 rfl (by kernel_rfl) H52 (zq 17 229375 rfl (by kernel_rfl) H52 (zq 21 2326527 rfl (by kernel_rfl) H52 (zq 15 2359295 rfl (by kernel_rfl) H52 (zq 18 2621439 rfl (by kernel_rfl) H52 (zq 19 3145727 rfl (by kernel_rfl) H52 (zq 20 4194303 rfl (by kernel_rfl) H52 (zq 22 8388607 rfl (by kernel_rfl) H52 (zq 23 16777215 rfl (by kernel_rfl) H52 ?_))))))))))
             refine zq 24 33554431 rfl (by kernel_rfl) H52 (zr 25 67108863 rfl (by kernel_rfl) H52 (fun wq hq => Bi (v := bT) rfl rfl) (Bj (by kernel_rfl) (thn.n (Ab rfl (CW.seq (CW.region (za (bF) rfl (RL.nil (thn.n (CW.ret (inB.r (thn.r (thn.r (inB.r (thn.r (finQ.r (v := bF) (Ax rfl rfl) ?_))))))))))))))))
             have hbd := entsB_bad (nm := k.normal) he28 (fun ⟨q1, q2, q3⟩ => by first | (rw [hb54] at q1; cases q1; done) | omega)
             exact ⟨Am (keptB_no (fun ⟨_, _, _, _, _, _, _, _, q9, _⟩ => by rw [hbd] at q9; cases q9)).symm, (H52.fix (i := 2) rfl)⟩
            ·skip
             refine RL.nil ?_
             refine ⟨H52, ?_⟩
             refine zr 2 7 rfl (by kernel_rfl) H52 (fun wq hq => Ex.not (b := true) rfl) (zr 3 15 rfl (by kernel_rfl) H52 (fun wq hq => Au (v := bF) rfl) (zr 4 31 rfl (by kernel_rfl) H52 (fun wq hq => fa31_1 (b := ⟨b33, 1, none⟩) rfl rfl) (zr 6 95 rfl (by kernel_rfl) H52 (fun wq hq => fa24_1 (b := ⟨b2, 1, none⟩) rfl rfl) (zr 5 127 rfl (by kernel_rfl) H52 (fun wq hq => Ai rfl (Ba Cf (Ob.cell (v := (J e27.view)) (hq.ob (i := 0) rfl) rfl))) (zr 7 255 rfl (by kernel_rfl) H52 (fun wq hq => Ai rfl (Ba Cf (Ob.cell (v := (J k.normal)) (hq.ob (i := 1) rfl) rfl))) ?_)))))
             refine zb 8 511 ((k.normal : Int) < (e27.view : Int)) rfl (by kernel_rfl) H52 (fun r hr wq hq => Df rfl rfl hr) (fun h55 => ?_) (fun h55 => ?_)
             ·skip
              refine zr 9 1023 rfl (by kernel_rfl) H52 (fun wq hq => Be (v := bT) rfl rfl) (zr 10 2047 rfl (by kernel_rfl) H52 (fun wq hq => Au (v := bT) rfl) (zq 11 4095 rfl (by kernel_rfl) H52 (zq 12 8191 rfl (by kernel_rfl) H52 (zq 13 16383 rfl (by kernel_rfl) H52 (zq 14 32767 rfl (by kernel_rfl) H52 (zq 16 98303 rfl (by kernel_rfl) H52 (zq 17 229375 rfl (by kernel_rfl) H52 (zq 21 2326527 rfl (by kernel_rfl) H52 (zq 15 2359295 rfl (by kernel_rfl) H52 (zq 18 2621439 rfl (by kernel_rfl) H52 ?_))))))))))
              refine zq 19 3145727 rfl (by kernel_rfl) H52 (zq 20 4194303 rfl (by kernel_rfl) H52 (zq 22 8388607 rfl (by kernel_rfl) H52 (zq 23 16777215 rfl (by kernel_rfl) H52 (zq 24 33554431 rfl (by kernel_rfl) H52 (zr 25 67108863 rfl (by kernel_rfl) H52 (fun wq hq => Bi (v := bT) rfl rfl) (Bj (by kernel_rfl) (thn.n (Ab rfl (CW.seq (CW.region (za (bF) rfl (RL.nil (thn.n (CW.ret (inB.r (thn.r (thn.r (inB.r (thn.r ?_)))))))))))))))))))
              refine finQ.r (v := bF) (Ax rfl rfl) ?_
              have hbd := entsB_bad (nm := k.normal) he28 (fun ⟨q1, q2, q3⟩ => by first | (rw [hb54] at q1; cases q1; done) | omega)
              exact ⟨Am (keptB_no (fun ⟨_, _, _, _, _, _, _, _, q9, _⟩ => by rw [hbd] at q9; cases q9)).symm, (H52.fix (i := 2) rfl)⟩
             ·skip
              refine zr 9 1023 rfl (by kernel_rfl) H52 (fun wq hq => Be (v := bF) rfl rfl) (zr 10 2047 rfl (by kernel_rfl) H52 (fun wq hq => Au (v := bF) rfl) (zr 11 4095 rfl (by kernel_rfl) H52 (fun wq hq => Au (v := (J (i : Int))) rfl) ?_))
              refine zb 12 8191 ((0 : Int) < ((i : Int) : Int)) rfl (by kernel_rfl) H52 (fun r hr wq hq => Df rfl rfl hr) (fun h56 => ?_) (fun h56 => ?_)
              ·skip
               refine zr 13 16383 rfl (by kernel_rfl) H52 (fun wq hq => Au (v := bT) rfl) (zr 14 32767 rfl (by kernel_rfl) H52 (fun wq hq => fa24_4 (b := ⟨b2, 4, none⟩) rfl rfl) (zr 16 98303 rfl (by kernel_rfl) H52 (fun wq hq => Au (v := (J (i : Int))) rfl) (zr 17 229375 rfl (by kernel_rfl) H52 (fun wq hq => Ci (r := ((i - 1 : Nat) : Int)) rfl rfl (by rw [Dd (by omega) (by omega)]; omega)) (zr 21 2326527 rfl (by kernel_rfl) H52 (fun wq hq => fa31_1 (b := ⟨b33, 1, none⟩) rfl rfl) (zr 15 2359295 rfl (by kernel_rfl) H52 (fun wq hq => Ai rfl (Ba lo22 (Ob.cell (v := (.slice A n c)) (hq.ob (i := 1) rfl) rfl))) ?_)))))
               obtain ⟨e57, he58⟩ : ∃ e, (k.ents)[(i - 1)]? = some e := ⟨_, List.getElem?_eq_getElem (by omega)⟩
               obtain ⟨ad59, hA60⟩ := Rd.sm (hr.st0 (H52.fix (i := 2) rfl)) (Bw he58)
               have hl61 := Eng.lt_len (Bw he58)
               refine zr 18 2621439 rfl (by kernel_rfl) H52 (fun wq hq => Cq (b := (ad59.add ((i - 1) * 11))) (i := (i - 1)) Tryz.underlying22 Tryz.sizeOf31 (by rw [← hA60]; rfl) rfl (by omega) (by omega) rfl) (zr 19 3145727 rfl (by kernel_rfl) H52 (fun wq hq => fa31_1 (b := (((ad59.add ((i - 1) * 11))).add 1)) rfl rfl) (zr 20 4194303 rfl (by kernel_rfl) H52 (fun wq hq => Ai rfl (Ba Cf (Cl.at_ (v := (J e57.view)) (Rd.cl (hr.st0 (hq.fix (i := 2) rfl)) hA60 (Bw he58)) (i := 1) rfl))) (zr 22 8388607 rfl (by kernel_rfl) H52 (fun wq hq => Ai rfl (Ba Cf (Ob.cell (v := (J e27.view)) (hq.ob (i := 0) rfl) rfl))) ?_)))
               refine zb 23 16777215 ((e27.view : Int) < (e57.view : Int)) rfl (by kernel_rfl) H52 (fun r hr wq hq => Df rfl rfl hr) (fun h62 => ?_) (fun h62 => ?_)
               ·skip
                refine zr 24 33554431 rfl (by kernel_rfl) H52 (fun wq hq => Bi (v := bT) rfl rfl) (zr 25 67108863 rfl (by kernel_rfl) H52 (fun wq hq => Be (v := bT) rfl rfl) (Bj (by kernel_rfl) (thn.n (Ab rfl (CW.seq (CW.region (za (bF) rfl (RL.nil (thn.n (CW.ret (inB.r (thn.r (thn.r (inB.r (thn.r (finQ.r (v := bF) (Ax rfl rfl) ?_))))))))))))))))
                have hbd := entsB_bad (nm := k.normal) he28 (fun ⟨q1, q2, q3⟩ => by first | (rw [hb54] at q1; cases q1; done) | omega | (have q4 := q3 e57 (by omega) he58; omega))
                exact ⟨Am (keptB_no (fun ⟨_, _, _, _, _, _, _, _, q9, _⟩ => by rw [hbd] at q9; cases q9)).symm, (H52.fix (i := 2) rfl)⟩
               ·skip
                refine zr 24 33554431 rfl (by kernel_rfl) H52 (fun wq hq => Bi (v := bF) rfl rfl) (zr 25 67108863 rfl (by kernel_rfl) H52 (fun wq hq => Be (v := bF) rfl rfl) (Bj (by kernel_rfl) (thn.n (Ag rfl (CW.skip (inB.n (thn.n (CW.region (zm (J (i : Int)) rfl (zg rfl (Ex.add (r := (i : Int) + 1) rfl rfl (Dd (by omega) (by omega))) (za (J ((i : Int) + 1)) rfl (RL.nil (thn.n ?_)))))))))))))
                refine ⟨(by repeat (first | exact Out.mix _ _ | exact Out.refl _ _ | refine Bg ?_ rfl _ | refine Co ?_ (by intro t ht; simp only [Bool.or_eq_false_iff, Bool.and_eq_false_iff, ble_f, beq_f] at ht ⊢; omega))), _, ?_, i + 1, rfl, rfl, (H52.sel [1, 2] (by decide) rfl), by omega, upto_go hO he28 ⟨hb54, by omega, (fun y _ hy => by rw [he58] at hy; injection hy with hy; subst hy; omega)⟩⟩
                omega
              ·skip
               refine zr 13 16383 rfl (by kernel_rfl) H52 (fun wq hq => Au (v := bF) rfl) (zq 14 32767 rfl (by kernel_rfl) H52 (zq 16 98303 rfl (by kernel_rfl) H52 (zq 17 229375 rfl (by kernel_rfl) H52 (zq 21 2326527 rfl (by kernel_rfl) H52 (zq 15 2359295 rfl (by kernel_rfl) H52 (zq 18 2621439 rfl (by kernel_rfl) H52 (zq 19 3145727 rfl (by kernel_rfl) H52 (zq 20 4194303 rfl (by kernel_rfl) H52 (zq 22 8388607 rfl (by kernel_rfl) H52 (zq 23 16777215 rfl (by kernel_rfl) H52 ?_))))))))))
               refine zr 24 33554431 rfl (by kernel_rfl) H52 (fun wq hq => Be (v := bF) rfl rfl) (zr 25 67108863 rfl (by kernel_rfl) H52 (fun wq hq => Be (v := bF) rfl rfl) (Bj (by kernel_rfl) (thn.n (Ag rfl (CW.skip (inB.n (thn.n (CW.region (zm (J (i : Int)) rfl (zg rfl (Ex.add (r := (i : Int) + 1) rfl rfl (Dd (by omega) (by omega))) (za (J ((i : Int) + 1)) rfl (RL.nil (thn.n ?_)))))))))))))
               refine ⟨(by repeat (first | exact Out.mix _ _ | exact Out.refl _ _ | refine Bg ?_ rfl _ | refine Co ?_ (by intro t ht; simp only [Bool.or_eq_false_iff, Bool.and_eq_false_iff, ble_f, beq_f] at ht ⊢; omega))), _, ?_, i + 1, rfl, rfl, (H52.sel [1, 2] (by decide) rfl), by omega, upto_go hO he28 ⟨hb54, by omega, (fun y hi0 hy => by omega)⟩⟩
               omega
           ·skip
            refine RL.nil (thn.n (Ag rfl (CW.exit (thn.x (thn.x (Bf (thn.n (CW.seq (CW.region (zg rfl (fa24_3 (b := ⟨b2, 3, none⟩) rfl rfl) (zl (.string (tx k.image)) lo9 (H24.ob (i := 0) rfl) rfl (RL.s2bT (l := k.image) Tryz.underlying9 Tryz.underlying97 Tryz.underlying5 rfl rfl rfl ?_))))))))))))
            intro w63 b65 c66 hb67 hz68 g69 rd70 hc71
            have H72 := H24.grow g69
            have z73 := g69.size
            refine RL.call Tryz.call127 (getStateR_ _ _ k.image (some ⟨b65, 0, none⟩) k.image.length c66 ⟨rd70, by first | rfl | omega, by omega, by omega⟩ (by omega)) rfl rfl rfl ?_
            rintro _ w80 (⟨rs74, ros75, ss76, rfl, g81, hgs77, hsb79⟩ | ⟨rfl, g82, hgs78⟩)
            ·skip
             have g83 := g81.fix (i := 1) rfl
             have H84 : Sp [StW rs74 ros75 ss76, Af b2 24 [(J k.view), (J k.normal), (J k.base), (.string (tx k.image)), (.slice A n c)], Bd w Bl] w80 := H72.join (m := [StW rs74 ros75 ss76]) g81
             have z85 := g83.size
             refine zm (.tuple #[(.agg (rs74.cells).toArray), (J 0)]) rfl (zx (.agg (rs74.cells).toArray) rfl (zx (J 0) rfl (RL.al (cs := zState) Tryz.zeroValue50 rfl rfl rfl ?_)))
             intro w86 b87 hb88 hz89 g90 o91
             have H92 := H84.newB g90 o91 (by omega)
             have z93 := g90.size
             refine RL.st (vs := rs74.cells) (cs' := rs74.cells) Tryz.sizeOf50 (H92.ob (i := 0) rfl) rfl rfl rfl rfl rfl rfl ?_
             intro w94 hz95 g96 o97
             have H98 : Sp [Af b87 50 rs74.cells, StW rs74 ros75 ss76, Af b2 24 [(J k.view), (J k.normal), (J k.base), (.string (tx k.image)), (.slice A n c)], Bd w Bl] w94 := H92.setB (i := 0) rfl g96 o97 rfl
             have z99 := g96.size
             refine za (J 0) rfl (RL.nil (thn.n (CW.seq (CW.region (zm (J 0) rfl (zg rfl (Cb (r := true) rfl rfl (by decide)) (za (bT) rfl (RL.nil (thn.n (CW.ret (finQ.r (v := bT) (Ax rfl rfl) ?_)))))))))))
             exact ⟨Am (keptB_yes ⟨by omega, by omega, by omega, by omega, by omega, by omega, by omega, hb20, entsB_of (n := i) (by omega) hO, by rw [hgs77]; rfl⟩).symm, (H98.fix (i := 3) rfl)⟩
            ·skip
             have H100 := H72.grow g82
             have z101 := g82.size
             refine zm (.tuple #[(.agg (zState).toArray), (J 60)]) rfl (zx (.agg (zState).toArray) rfl (zx (J 60) rfl (RL.al (cs := zState) Tryz.zeroValue50 rfl rfl rfl ?_)))
             intro w102 b103 hb104 hz105 g106 o107
             have H108 := H100.newB g106 o107 (by omega)
             have z109 := g106.size
             refine RL.st (vs := zState) (cs' := zState) Tryz.sizeOf50 (H108.ob (i := 0) rfl) rfl rfl rfl rfl rfl rfl ?_
             intro w110 hz111 g112 o113
             have H114 : Sp [Af b103 50 zState, Af b2 24 [(J k.view), (J k.normal), (J k.base), (.string (tx k.image)), (.slice A n c)], Bd w Bl] w110 := H108.setB (i := 0) rfl g112 o113 rfl
             have z115 := g112.size
             refine za (J 60) rfl (RL.nil (thn.n (CW.seq (CW.region (zm (J 60) rfl (zg rfl (Cb (r := false) rfl rfl (by decide)) (za (bF) rfl (RL.nil (thn.n (CW.ret (finQ.r (v := bF) (Ax rfl rfl) ?_)))))))))))
             exact ⟨Am (keptB_no (fun ⟨_, _, _, _, _, _, _, _, _, q10⟩ => by rw [hgs78] at q10; cases q10)).symm, (H114.fix (i := 2) rfl)⟩
set_option maxHeartbeats 400000 in
set_option maxRecDepth 20000 in
theorem lastR_ (w : World) (k : Kept) (A : Option Addr) (n c : Nat) (hn : n = k.ents.length) (hk : keptB k = true) : Ret Tryz.prog 60 [(.agg ([(J k.view), (J k.normal), (J k.base), (.string (tx k.image)), (.slice A n c)]).toArray)] w (fun v w' => v = .int .i64 (lastK k) ∧ w.grownBy w' none) := by
  have hkt := keptB_t hk
  have H0 : Sp [Bd w Bl] w := Bn w
  refine Ret.body Tryz.func60 rfl rfl rfl ?_
  refine CW.seq (CW.region (RL.bx (cs := [(J k.view), (J k.normal), (J k.base), (.string (tx k.image)), (.slice A n c)]) rfl rfl rfl ?_))
  intro w1 b2 hb3 hz4 g5 o6
  have H7 := H0.newB g5 o6 (by omega)
  have z8 := g5.size
  refine za (J 0) rfl (RL.nil (thn.n (CW.seq (CW.region (zg rfl (fa24_2 (b := ⟨b2, 2, none⟩) rfl rfl) (zl (J k.base) Cf (H7.ob (i := 0) rfl) rfl (zg rfl (fa24_4 (b := ⟨b2, 4, none⟩) rfl rfl) (zl (.slice A n c) lo22 (H7.ob (i := 0) rfl) rfl (zg rfl (Ex.len Tryz.underlying22 rfl) (zg rfl (Ex.add (r := k.base + (n : Nat)) rfl rfl (Dd (by omega) (by omega))) (za (J (k.base + (n : Nat))) rfl (RL.nil (thn.n (CW.ret (finQ.r (v := (J (k.base + (n : Nat)))) (Ax rfl rfl) ?_)))))))))))))))
  exact ⟨Bp (by unfold lastK; rw [hn]), (H7.fix (i := 1) rfl)⟩
set_option maxHeartbeats 400000 in
set_option maxRecDepth 20000 in
theorem entSameR_ (w : World) (B : Nat) (l m : List Entry) (A A2 : Option Addr) (n c n2 c2 : Nat) (hr : Rd w B 11 A (ents l)) (hn : n = l.length) (hr2 : Rd w B 11 A2 (ents m)) (hn2 : n2 = m.length) (hm : n ≤ 1099511627776) : Ret Tryz.prog 31 [(.slice A n c), (.slice A2 n2 c2)] w (fun v w' => v = .bool (decide (l = m)) ∧ w.grownBy w' none) := by
  have H0 : Sp [Bd w Bl] w := Bn w
  refine Ret.body Tryz.func31 rfl rfl rfl ?_
  refine CW.seq (CW.region (za (bF) rfl (RL.nil (thn.n (CW.seq (CW.seq (CW.region (zm (.slice A n c) rfl (zg rfl (Ex.len Tryz.underlying22 rfl) (zm (.slice A2 n2 c2) rfl (zg rfl (Ex.len Tryz.underlying22 rfl) ?_)))))))))))
  refine zc (((n : Nat) : Int) ≠ ((n2 : Nat) : Int)) rfl (fun r hr => Cm rfl rfl hr) (fun h1 => ?_) (fun h1 => ?_)
  ·skip
   refine RL.nil (thn.n (Ab rfl (CW.seq (CW.region (za (bF) rfl (RL.nil (thn.n (CW.ret (thn.r (finQ.r (v := bF) (Ax rfl rfl) ?_))))))))))
   exact ⟨Am (by symm; rw [decide_eq_false_iff_not]; intro h; rw [h] at hn; omega), (H0.fix (i := 0) rfl)⟩
  ·skip
   refine RL.nil (thn.n (Ag rfl (CW.skip (thn.n (CW.seq (CW.seq (CW.region (za (J 0) rfl (RL.nil (thn.n (CW.block ?_)))))))))))
   refine CW.loop (fun t => (Nat.ble 4 t && Nat.ble t 5) || (Nat.ble 11 t && Nat.ble t 25)) (fun nL ρ wl => ∃ (i : Nat), ρ 5 = (J (i : Int)) ∧ nL = n - i ∧ Sp [Bd w Bl] wl ∧ i ≤ n ∧ l.take i = m.take i) (n) ?aa0 ?bb0
   case aa0 =>
    exact ⟨0, rfl, rfl, H0, Nat.zero_le _, rfl⟩
   case bb0 =>
    rintro n3 ρ0 w2 ho4 ⟨i, hs0_5, hn0, H5, hi, htk⟩
    obtain ⟨j0, rfl⟩ := ho4.shape1 hs0_5
    clear ho4 hs0_5
    subst hn0
    have z6 := (H5.fix (i := 0) rfl).size
    refine CW.seq (CW.seq (CW.region (zm (J (i : Int)) rfl (zm (.slice A n c) rfl (zg rfl (Ex.len Tryz.underlying22 rfl) ?_)))))
    refine zc (((i : Int) : Int) < ((n : Nat) : Int)) rfl (fun r hr => Ex.lt rfl rfl hr) (fun h7 => ?_) (fun h7 => ?_)
    ·skip
     refine RL.nil (thn.n (Ab rfl (CW.skip (thn.n (CW.seq (CW.block (CW.seq (CW.quiet (fun wq => World.grownBy w2 wq none) Tryz.mixed (by kernel_rfl) ⟨rfl, rfl, rfl, Nat.le_refl _, fun _ _ _ => rfl⟩ (QL.go rfl rfl rfl (fun wq gq => Au (v := (.slice A n c)) rfl) (QL.go rfl rfl rfl (fun wq gq => Au (v := (J (i : Int))) rfl) ?_))))))))))
     obtain ⟨e8, he9⟩ : ∃ e, (l)[i]? = some e := ⟨_, List.getElem?_eq_getElem (by omega)⟩
     obtain ⟨ad10, hA11⟩ := Rd.sm (hr.st0 (H5.fix (i := 0) rfl)) (Bw he9)
     have hl12 := Eng.lt_len (Bw he9)
     refine QL.go rfl rfl rfl (fun wq gq => Cq (b := (ad10.add (i * 11))) (i := i) Tryz.underlying22 Tryz.sizeOf31 (by rw [← hA11]; rfl) rfl (by omega) (by omega) rfl) (QL.go rfl rfl rfl (fun wq gq => Ai rfl (Ak (cs := e8.cells) wh31 (Rd.cl (hr.st0 ((H5.grow gq).fix (i := 0) rfl)) hA11 (Bw he9)))) (QL.go rfl rfl rfl (fun wq gq => Au (v := (.slice A2 n2 c2)) rfl) (QL.go rfl rfl rfl (fun wq gq => Au (v := (J (i : Int))) rfl) ?_)))
     obtain ⟨e13, he14⟩ : ∃ e, (m)[i]? = some e := ⟨_, List.getElem?_eq_getElem (by omega)⟩
     obtain ⟨ad15, hA16⟩ := Rd.sm (hr2.st0 (H5.fix (i := 0) rfl)) (Bw he14)
     have hl17 := Eng.lt_len (Bw he14)
     refine QL.go rfl rfl rfl (fun wq gq => Cq (b := (ad15.add (i * 11))) (i := i) Tryz.underlying22 Tryz.sizeOf31 (by rw [← hA16]; rfl) rfl (by omega) (by omega) rfl) (QL.go rfl rfl rfl (fun wq gq => Ai rfl (Ak (cs := e13.cells) wh31 (Rd.cl (hr2.st0 ((H5.grow gq).fix (i := 0) rfl)) hA16 (Bw he14)))) ?_)
     refine QL.br (p := ¬ ((e8.num : Int) = (e13.num : Int) ∧ (e8.view : Int) = (e13.view : Int) ∧ (e8.client : Int) = (e13.client : Int) ∧ (e8.seq : Int) = (e13.seq : Int) ∧ (e8.op.kind : Int) = (e13.op.kind : Int) ∧ (e8.op.h : Int) = (e13.op.h : Int) ∧ (e8.op.i : Int) = (e13.op.i : Int) ∧ (e8.op.n : Int) = (e13.op.n : Int) ∧ (e8.op.k : Int) = (e13.op.k : Int) ∧ (e8.op.v : Int) = (e13.op.v : Int) ∧ (e8.op.t : Int) = (e13.op.t : Int))) rfl rfl rfl (fun r hr wq gq => Ex.neS (xs := e8.cells) (ys := e13.cells) Tryz.eqGuardType31 (eqT31 (by rw [← hr]; simp)) rfl rfl) (fun h18 => ?_) (fun h18 => ?_)
     ·skip
      refine QL.nil ?_
      intro w19 g20
      have H21 := H5.grow g20
      have z22 := g20.size
      refine thn.n (Ab rfl (CW.seq (CW.region (za (bF) rfl (RL.nil (thn.n (CW.ret (inB.r (thn.r (thn.r (inB.r (thn.r (finQ.r (v := bF) (Ax rfl rfl) ?_)))))))))))))
      exact ⟨Am (by symm; rw [decide_eq_false_iff_not]; exact ne_at he9 he14 (fun h => h18 (by rw [h]; exact ⟨rfl, rfl, rfl, rfl, rfl, rfl, rfl, rfl, rfl, rfl, rfl⟩))), (H21.fix (i := 0) rfl)⟩
     ·skip
      refine QL.nil ?_
      intro w23 g24
      have H25 := H5.grow g24
      have z26 := g24.size
      refine thn.n (Ag rfl (CW.skip (inB.n (thn.n (CW.region (zm (J (i : Int)) rfl (zg rfl (Ex.add (r := (i : Int) + 1) rfl rfl (Dd (by omega) (by omega))) (za (J ((i : Int) + 1)) rfl (RL.nil (thn.n ?_))))))))))
      refine ⟨(by repeat (first | exact Out.mix _ _ | exact Out.refl _ _ | refine Bg ?_ rfl _)), _, ?_, i + 1, rfl, rfl, H25, by omega, take_same htk he9 he14 (ent_eq (Decidable.not_not.1 h18))⟩
      omega
    ·skip
     refine RL.nil (thn.n (Ag rfl (CW.exit (thn.x (thn.x (Bf (thn.n (CW.seq (CW.region (za (bT) rfl (RL.nil (thn.n (CW.ret (finQ.r (v := bT) (Ax rfl rfl) ?_))))))))))))))
     exact ⟨Am (by symm; rw [decide_eq_true_eq]; rw [← List.take_of_length_le (i := i) (l := l) (by omega), htk, List.take_of_length_le (by omega)]), (H5.fix (i := 0) rfl)⟩
set_option maxHeartbeats 400000 in
set_option maxRecDepth 20000 in
theorem own15_ (w : World) (B : Nat) (k : Kept) (A : Option Addr) (n c : Nat) (hr : Rd w B 11 A (ents k.ents)) (hB : B ≤ w.heap.size) (hn : n = k.ents.length) (hm : n ≤ 1099511627776) : Ret Tryz.prog 24 [(.agg ([(J k.view), (J k.normal), (J k.base), (.string (tx k.image)), (.slice A n c)]).toArray)] w (fun v w' => ∃ (A' : Option Addr) (n' c' : Nat), v = .agg [.int .i64 k.view, .int .i64 k.normal, .int .i64 k.base, .string (tx k.image), .slice A' n' c'].toArray ∧ Sp ([Ar 31 11 A' n' c' (ents k.ents)] ++ [Bd w Bl]) w') := by
  have H0 : Sp [Bd w Bl] w := Bn w
  refine Ret.body Tryz.func24 rfl rfl rfl ?_
  refine CW.seq (CW.region (RL.bx (cs := [(J k.view), (J k.normal), (J k.base), (.string (tx k.image)), (.slice A n c)]) rfl rfl rfl ?_))
  intro w1 b2 hb3 hz4 g5 o6
  have H7 := H0.newB g5 o6 (by omega)
  have z8 := g5.size
  refine RL.al (cs := [(J 0), (J 0), (J 0), (.string (⟨#[]⟩)), (.slice none 0 0)]) Tryz.zeroValue24 rfl rfl rfl ?_
  intro w9 b10 hb11 hz12 g13 o14
  have H15 := H7.newB g13 o14 (by omega)
  have z16 := g13.size
  refine RL.nil (thn.n (CW.seq (CW.region (za (.slice none 0 0) rfl (RL.nil (thn.n (CW.seq (CW.region (zm (.slice none 0 0) rfl (zg rfl (fa24_4 (b := ⟨b2, 4, none⟩) rfl rfl) (zl (.slice A n c) lo22 (H15.ob (i := 1) rfl) rfl ?_)))))))))))
  have H17 := H15.nil_ 31 11
  refine RL.apW (base := 0) (xss := (ents [])) (yss := (ents k.ents)) el22 (H17.wr (i := 0) rfl) rfl (hr.st0 (H17.fix (i := 3) rfl)) rfl (by simp only [As, Av, At, Ap, An, Bb, List.length_append, List.length_cons, List.length_nil, List.length_take, List.length_drop, List.length_map, Cy, enc8, Bq, Bt, Ca]; try omega) (ents_one _) (by omega) (by omega) (by omega) rfl rfl ?_
  intro w18 A19 c20 g21 ow22 nx23
  have H24 : Sp [Ar 31 11 A19 (0 + n) c20 (ents k.ents), Af b10 24 [(J 0), (J 0), (J 0), (.string (⟨#[]⟩)), (.slice none 0 0)], Af b2 24 [(J k.view), (J k.normal), (J k.base), (.string (tx k.image)), (.slice A n c)], Bd w Bl] w18 := H17.setR (i := 0) rfl g21 ((List.nil_append _) ▸ ow22) nx23 rfl
  have z25 := g21.size
  refine za (.slice A19 (0 + n) c20) rfl (RL.nil (thn.n (CW.seq (CW.region (zm (.slice A19 (0 + n) c20) rfl (zg rfl (fa24_4 (b := ⟨b2, 4, none⟩) rfl rfl) (RL.st (vs := [(.slice A19 (0 + n) c20)]) (cs' := [(J k.view), (J k.normal), (J k.base), (.string (tx k.image)), (.slice A19 (0 + n) c20)]) Tryz.sizeOf22 (H24.ob (i := 2) rfl) rfl rfl rfl rfl rfl rfl ?_)))))))
  intro w26 hz27 g28 o29
  have H30 : Sp [Ar 31 11 A19 (0 + n) c20 (ents k.ents), Af b10 24 [(J 0), (J 0), (J 0), (.string (⟨#[]⟩)), (.slice none 0 0)], Af b2 24 [(J k.view), (J k.normal), (J k.base), (.string (tx k.image)), (.slice A19 (0 + n) c20)], Bd w Bl] w26 := H24.setB (i := 2) rfl g28 o29 rfl
  have z31 := g28.size
  refine RL.nil (thn.n (CW.seq (CW.region (zg rfl (Ai rfl (Ak (cs := [(J k.view), (J k.normal), (J k.base), (.string (tx k.image)), (.slice A19 (0 + n) c20)]) wh24 (H30.ob (i := 2) rfl).cl)) (RL.st (vs := [(J k.view), (J k.normal), (J k.base), (.string (tx k.image)), (.slice A19 (0 + n) c20)]) (cs' := [(J k.view), (J k.normal), (J k.base), (.string (tx k.image)), (.slice A19 (0 + n) c20)]) Tryz.sizeOf24 (H30.ob (i := 1) rfl) rfl rfl rfl rfl rfl rfl ?_)))))
  intro w32 hz33 g34 o35
  have H36 : Sp [Ar 31 11 A19 (0 + n) c20 (ents k.ents), Af b10 24 [(J k.view), (J k.normal), (J k.base), (.string (tx k.image)), (.slice A19 (0 + n) c20)], Af b2 24 [(J k.view), (J k.normal), (J k.base), (.string (tx k.image)), (.slice A19 (0 + n) c20)], Bd w Bl] w32 := H30.setB (i := 1) rfl g34 o35 rfl
  have z37 := g34.size
  refine RL.nil (thn.n (CW.ret (finQ.r (v := (.agg ([(J k.view), (J k.normal), (J k.base), (.string (tx k.image)), (.slice A19 (0 + n) c20)]).toArray)) (resv1 rfl (Rv.cell rfl (Ak (cs := [(J k.view), (J k.normal), (J k.base), (.string (tx k.image)), (.slice A19 (0 + n) c20)]) wh24 (H36.ob (i := 1) rfl).cl))) ?_)))
  exact ⟨_, _, _, rfl, (H36.sel [0, 3] (by decide) rfl)⟩
set_option maxHeartbeats 1000000 in
set_option maxRecDepth 20000 in
theorem same15_ (w : World) (B : Nat) (k q : Kept) (A A2 : Option Addr) (n c n2 c2 : Nat) (hr : Rd w B 11 A (ents k.ents)) (hr2 : Rd w B 11 A2 (ents q.ents)) (hB : B ≤ w.heap.size) (hn : n = k.ents.length) (hn2 : n2 = q.ents.length) (hm : n ≤ 1099511627776) : Ret Tryz.prog 30 [(.agg ([(J k.view), (J k.normal), (J k.base), (.string (tx k.image)), (.slice A n c)]).toArray), (.agg ([(J q.view), (J q.normal), (J q.base), (.string (tx q.image)), (.slice A2 n2 c2)]).toArray)] w (fun v w' => v = .bool (decide (k = q)) ∧ w.grownBy w' none) := by
  have H0 : Sp [Bd w Bl] w := Bn w
  refine Ret.body Tryz.func30 rfl rfl rfl ?_
  refine CW.seq (CW.region (RL.bx (cs := [(J k.view), (J k.normal), (J k.base), (.string (tx k.image)), (.slice A n c)]) rfl rfl rfl ?_))
  intro w1 b2 hb3 hz4 g5 o6
  have H7 := H0.newB g5 o6 (by omega)
  have z8 := g5.size
  refine RL.bx (cs := [(J q.view), (J q.normal), (J q.base), (.string (tx q.image)), (.slice A2 n2 c2)]) rfl rfl rfl ?_
  intro w9 b10 hb11 hz12 g13 o14
  have H15 := H7.newB g13 o14 (by omega)
  have z16 := g13.size
  refine za (bF) rfl (RL.nil (thn.n (CW.seq (CW.region (zg rfl (fa24_0 (b := ⟨b2, 0, none⟩) rfl rfl) (zl (J k.view) Cf (H15.ob (i := 1) rfl) rfl (zg rfl (fa24_0 (b := ⟨b10, 0, none⟩) rfl rfl) (zl (J q.view) Cf (H15.ob (i := 0) rfl) rfl ?_))))))))
  refine zc ((k.view : Int) = (q.view : Int)) rfl (fun r hr => Cb rfl rfl hr) (fun h17 => ?_) (fun h17 => ?_)
  ·skip
   refine zm (bT) rfl (zg rfl (fa24_1 (b := ⟨b2, 1, none⟩) rfl rfl) (zl (J k.normal) Cf (H15.ob (i := 1) rfl) rfl (zg rfl (fa24_1 (b := ⟨b10, 1, none⟩) rfl rfl) (zl (J q.normal) Cf (H15.ob (i := 0) rfl) rfl ?_))))
   refine zc ((k.normal : Int) = (q.normal : Int)) rfl (fun r hr => Cb rfl rfl hr) (fun h18 => ?_) (fun h18 => ?_)
   ·skip
    refine zT (bT) rfl (zm (bT) rfl (zg rfl (fa24_2 (b := ⟨b2, 2, none⟩) rfl rfl) (zl (J k.base) Cf (H15.ob (i := 1) rfl) rfl (zg rfl (fa24_2 (b := ⟨b10, 2, none⟩) rfl rfl) (zl (J q.base) Cf (H15.ob (i := 0) rfl) rfl ?_)))))
    refine zc ((k.base : Int) = (q.base : Int)) rfl (fun r hr => Cb rfl rfl hr) (fun h19 => ?_) (fun h19 => ?_)
    ·skip
     refine zT (bT) rfl (zm (bT) rfl (zg rfl (fa24_3 (b := ⟨b2, 3, none⟩) rfl rfl) (zl (.string (tx k.image)) lo9 (H15.ob (i := 1) rfl) rfl (zg rfl (fa24_3 (b := ⟨b10, 3, none⟩) rfl rfl) (zl (.string (tx q.image)) lo9 (H15.ob (i := 0) rfl) rfl ?_)))))
     refine zc (k.image = q.image) rfl (fun r hr => Ex.eqTx (l := k.image) (m := q.image) rfl rfl hr) (fun h20 => ?_) (fun h20 => ?_)
     ·skip
      refine zT (bT) rfl (zm (bT) rfl (zg rfl (fa24_4 (b := ⟨b2, 4, none⟩) rfl rfl) (zl (.slice A n c) lo22 (H15.ob (i := 1) rfl) rfl (zg rfl (fa24_4 (b := ⟨b10, 4, none⟩) rfl rfl) (zl (.slice A2 n2 c2) lo22 (H15.ob (i := 0) rfl) rfl (RL.call Tryz.call31 (entSameR_ _ _ k.ents q.ents A A2 n c n2 c2 ((hr.st0 (H15.fix (i := 2) rfl)).more (by omega)) (by first | assumption | rfl | omega) ((hr2.st0 (H15.fix (i := 2) rfl)).more (by omega)) (by first | assumption | rfl | omega) (by omega)) rfl rfl rfl ?_))))))
      rintro _ w21 ⟨rfl, g22⟩
      have H23 := H15.grow g22
      have z24 := g22.size
      rcases hb25 : (decide (k.ents = q.ents)) with _ | _
      ·skip
       refine zT (bF) rfl (za (bF) rfl (RL.nil (thn.n (CW.ret (finQ.r (v := bF) (Ax rfl rfl) ?_)))))
       exact ⟨Am (by symm; rw [decide_eq_false_iff_not]; intro h; first | exact absurd (of_decide_eq_false hb25) (by rw [h]; simp) | exact hb25 (by rw [h]; exact ⟨rfl, rfl, rfl, rfl, rfl, rfl, rfl, rfl, rfl, rfl, rfl⟩) | exact hb25 (by rw [h])), (H23.fix (i := 2) rfl)⟩
      ·skip
       refine zT (bT) rfl (za (bT) rfl (RL.nil (thn.n (CW.ret (finQ.r (v := bT) (Ax rfl rfl) ?_)))))
       exact ⟨Am (by symm; rw [decide_eq_true_eq]; exact kept_eq h17 h18 h19 h20 (of_decide_eq_true hb25)), (H23.fix (i := 2) rfl)⟩
     ·skip
      refine zT (bF) rfl (zm (bF) rfl (zo rfl (zo rfl (zo rfl (zo rfl (zo rfl (zF (bF) rfl (za (bF) rfl (RL.nil (thn.n (CW.ret (finQ.r (v := bF) (Ax rfl rfl) ?_))))))))))))
      exact ⟨Am (by symm; rw [decide_eq_false_iff_not]; intro h; first | exact absurd (of_decide_eq_false h20) (by rw [h]; simp) | exact h20 (by rw [h]; exact ⟨rfl, rfl, rfl, rfl, rfl, rfl, rfl, rfl, rfl, rfl, rfl⟩) | exact h20 (by rw [h])), (H15.fix (i := 2) rfl)⟩
    ·skip
     refine zT (bF) rfl (zm (bF) rfl (zo rfl (zo rfl (zo rfl (zo rfl (zo rfl (zF (bF) rfl (zm (bF) rfl (zo rfl (zo rfl ?_))))))))))
     refine zo rfl (zo rfl (zo rfl (zF (bF) rfl (za (bF) rfl (RL.nil (thn.n (CW.ret (finQ.r (v := bF) (Ax rfl rfl) ?_))))))))
     exact ⟨Am (by symm; rw [decide_eq_false_iff_not]; intro h; first | exact absurd (of_decide_eq_false h19) (by rw [h]; simp) | exact h19 (by rw [h]; exact ⟨rfl, rfl, rfl, rfl, rfl, rfl, rfl, rfl, rfl, rfl, rfl⟩) | exact h19 (by rw [h])), (H15.fix (i := 2) rfl)⟩
   ·skip
    refine zT (bF) rfl (zm (bF) rfl (zo rfl (zo rfl (zo rfl (zo rfl (zo rfl (zF (bF) rfl (zm (bF) rfl (zo rfl (zo rfl ?_))))))))))
    refine zo rfl (zo rfl (zo rfl (zF (bF) rfl (zm (bF) rfl (zo rfl (zo rfl (zo rfl (zo rfl (zo rfl (zF (bF) rfl ?_))))))))))
    refine za (bF) rfl (RL.nil (thn.n (CW.ret (finQ.r (v := bF) (Ax rfl rfl) ?_))))
    exact ⟨Am (by symm; rw [decide_eq_false_iff_not]; intro h; first | exact absurd (of_decide_eq_false h18) (by rw [h]; simp) | exact h18 (by rw [h]; exact ⟨rfl, rfl, rfl, rfl, rfl, rfl, rfl, rfl, rfl, rfl, rfl⟩) | exact h18 (by rw [h])), (H15.fix (i := 2) rfl)⟩
  ·skip
   refine zm (bF) rfl (zo rfl (zo rfl (zo rfl (zo rfl (zo rfl (zF (bF) rfl (zm (bF) rfl (zo rfl (zo rfl (zo rfl ?_))))))))))
   refine zo rfl (zo rfl (zF (bF) rfl (zm (bF) rfl (zo rfl (zo rfl (zo rfl (zo rfl (zo rfl (zF (bF) rfl (zm (bF) rfl ?_))))))))))
   refine zo rfl (zo rfl (zo rfl (zo rfl (zo rfl (zF (bF) rfl (za (bF) rfl (RL.nil (thn.n (CW.ret (finQ.r (v := bF) (Ax rfl rfl) ?_))))))))))
   exact ⟨Am (by symm; rw [decide_eq_false_iff_not]; intro h; first | exact absurd (of_decide_eq_false h17) (by rw [h]; simp) | exact h17 (by rw [h]; exact ⟨rfl, rfl, rfl, rfl, rfl, rfl, rfl, rfl, rfl, rfl, rfl⟩) | exact h17 (by rw [h])), (H15.fix (i := 2) rfl)⟩
set_option maxHeartbeats 1000000 in
set_option maxRecDepth 20000 in
theorem sameRec_ (w : World) (B : Nat) (ra qa : Rec) (A A2 : Option Addr) (n c n2 c2 : Nat) (hr : Rd w B 11 A (ents ra.ents)) (hr2 : Rd w B 11 A2 (ents qa.ents)) (hB : B ≤ w.heap.size) (hn : n = ra.ents.length) (hn2 : n2 = qa.ents.length) (hm : n ≤ 1099511627776) : Ret Tryz.prog 27 [(.agg ([(J ra.kind), (J ra.view), (J ra.from_), (J ra.number), (.string (tx ra.image)), (J ra.entry.num), (J ra.entry.view), (J ra.entry.client), (J ra.entry.seq), (J ra.entry.op.kind), (J ra.entry.op.h), (J ra.entry.op.i), (J ra.entry.op.n), (J ra.entry.op.k), (J ra.entry.op.v), (J ra.entry.op.t), (.slice A n c)]).toArray), (.agg ([(J qa.kind), (J qa.view), (J qa.from_), (J qa.number), (.string (tx qa.image)), (J qa.entry.num), (J qa.entry.view), (J qa.entry.client), (J qa.entry.seq), (J qa.entry.op.kind), (J qa.entry.op.h), (J qa.entry.op.i), (J qa.entry.op.n), (J qa.entry.op.k), (J qa.entry.op.v), (J qa.entry.op.t), (.slice A2 n2 c2)]).toArray)] w (fun v w' => v = .bool (decide (ra = qa)) ∧ w.grownBy w' none) := by
  have H0 : Sp [Bd w Bl] w := Bn w
  refine Ret.body Tryz.func27 rfl rfl rfl ?_
  refine CW.seq (CW.region (RL.bx (cs := [(J ra.kind), (J ra.view), (J ra.from_), (J ra.number), (.string (tx ra.image)), (J ra.entry.num), (J ra.entry.view), (J ra.entry.client), (J ra.entry.seq), (J ra.entry.op.kind), (J ra.entry.op.h), (J ra.entry.op.i), (J ra.entry.op.n), (J ra.entry.op.k), (J ra.entry.op.v), (J ra.entry.op.t), (.slice A n c)]) rfl rfl rfl ?_))
  intro w1 b2 hb3 hz4 g5 o6
  have H7 := H0.newB g5 o6 (by omega)
  have z8 := g5.size
  refine RL.bx (cs := [(J qa.kind), (J qa.view), (J qa.from_), (J qa.number), (.string (tx qa.image)), (J qa.entry.num), (J qa.entry.view), (J qa.entry.client), (J qa.entry.seq), (J qa.entry.op.kind), (J qa.entry.op.h), (J qa.entry.op.i), (J qa.entry.op.n), (J qa.entry.op.k), (J qa.entry.op.v), (J qa.entry.op.t), (.slice A2 n2 c2)]) rfl rfl rfl ?_
  intro w9 b10 hb11 hz12 g13 o14
  have H15 := H7.newB g13 o14 (by omega)
  have z16 := g13.size
  refine za (bF) rfl (RL.nil (thn.n (CW.seq (CW.region (zg rfl (fa33_0 (b := ⟨b2, 0, none⟩) rfl rfl) (zl (J ra.kind) lo26 (H15.ob (i := 1) rfl) rfl (zg rfl (fa33_0 (b := ⟨b10, 0, none⟩) rfl rfl) (zl (J qa.kind) lo26 (H15.ob (i := 0) rfl) rfl ?_))))))))
  refine zc ((ra.kind : Int) = (qa.kind : Int)) rfl (fun r hr => Cb rfl rfl hr) (fun h17 => ?_) (fun h17 => ?_)
  ·skip
   refine zm (bT) rfl (zg rfl (fa33_1 (b := ⟨b2, 1, none⟩) rfl rfl) (zl (J ra.view) Cf (H15.ob (i := 1) rfl) rfl (zg rfl (fa33_1 (b := ⟨b10, 1, none⟩) rfl rfl) (zl (J qa.view) Cf (H15.ob (i := 0) rfl) rfl ?_))))
   refine zc ((ra.view : Int) = (qa.view : Int)) rfl (fun r hr => Cb rfl rfl hr) (fun h18 => ?_) (fun h18 => ?_)
   ·skip
    refine zT (bT) rfl (zm (bT) rfl (zg rfl (fa33_2 (b := ⟨b2, 2, none⟩) rfl rfl) (zl (J ra.from_) Cf (H15.ob (i := 1) rfl) rfl (zg rfl (fa33_2 (b := ⟨b10, 2, none⟩) rfl rfl) (zl (J qa.from_) Cf (H15.ob (i := 0) rfl) rfl ?_)))))
    refine zc ((ra.from_ : Int) = (qa.from_ : Int)) rfl (fun r hr => Cb rfl rfl hr) (fun h19 => ?_) (fun h19 => ?_)
    ·skip
     refine zT (bT) rfl (zm (bT) rfl (zg rfl (fa33_3 (b := ⟨b2, 3, none⟩) rfl rfl) (zl (J ra.number) Cf (H15.ob (i := 1) rfl) rfl (zg rfl (fa33_3 (b := ⟨b10, 3, none⟩) rfl rfl) (zl (J qa.number) Cf (H15.ob (i := 0) rfl) rfl ?_)))))
     refine zc ((ra.number : Int) = (qa.number : Int)) rfl (fun r hr => Cb rfl rfl hr) (fun h20 => ?_) (fun h20 => ?_)
     ·skip
      refine zT (bT) rfl (zm (bT) rfl (zg rfl (fa33_4 (b := ⟨b2, 4, none⟩) rfl rfl) (zl (.string (tx ra.image)) lo9 (H15.ob (i := 1) rfl) rfl (zg rfl (fa33_4 (b := ⟨b10, 4, none⟩) rfl rfl) (zl (.string (tx qa.image)) lo9 (H15.ob (i := 0) rfl) rfl ?_)))))
      refine zc (ra.image = qa.image) rfl (fun r hr => Ex.eqTx (l := ra.image) (m := qa.image) rfl rfl hr) (fun h21 => ?_) (fun h21 => ?_)
      ·skip
       refine zT (bT) rfl (zm (bT) rfl (zg rfl (fa33_5 (b := ⟨b2, 5, none⟩) rfl rfl) (zg rfl (Ai rfl (Ak (cs := [(J ra.entry.num), (J ra.entry.view), (J ra.entry.client), (J ra.entry.seq), (J ra.entry.op.kind), (J ra.entry.op.h), (J ra.entry.op.i), (J ra.entry.op.n), (J ra.entry.op.k), (J ra.entry.op.v), (J ra.entry.op.t)]) wh31 ((H15.ob (i := 1) rfl).sub 5 11))) (zg rfl (fa33_5 (b := ⟨b10, 5, none⟩) rfl rfl) (zg rfl (Ai rfl (Ak (cs := [(J qa.entry.num), (J qa.entry.view), (J qa.entry.client), (J qa.entry.seq), (J qa.entry.op.kind), (J qa.entry.op.h), (J qa.entry.op.i), (J qa.entry.op.n), (J qa.entry.op.k), (J qa.entry.op.v), (J qa.entry.op.t)]) wh31 ((H15.ob (i := 0) rfl).sub 5 11))) ?_)))))
       refine zc ((ra.entry.num : Int) = (qa.entry.num : Int) ∧ (ra.entry.view : Int) = (qa.entry.view : Int) ∧ (ra.entry.client : Int) = (qa.entry.client : Int) ∧ (ra.entry.seq : Int) = (qa.entry.seq : Int) ∧ (ra.entry.op.kind : Int) = (qa.entry.op.kind : Int) ∧ (ra.entry.op.h : Int) = (qa.entry.op.h : Int) ∧ (ra.entry.op.i : Int) = (qa.entry.op.i : Int) ∧ (ra.entry.op.n : Int) = (qa.entry.op.n : Int) ∧ (ra.entry.op.k : Int) = (qa.entry.op.k : Int) ∧ (ra.entry.op.v : Int) = (qa.entry.op.v : Int) ∧ (ra.entry.op.t : Int) = (qa.entry.op.t : Int)) rfl (fun r hr => Ex.eqS (xs := [(J ra.entry.num), (J ra.entry.view), (J ra.entry.client), (J ra.entry.seq), (J ra.entry.op.kind), (J ra.entry.op.h), (J ra.entry.op.i), (J ra.entry.op.n), (J ra.entry.op.k), (J ra.entry.op.v), (J ra.entry.op.t)]) (ys := [(J qa.entry.num), (J qa.entry.view), (J qa.entry.client), (J qa.entry.seq), (J qa.entry.op.kind), (J qa.entry.op.h), (J qa.entry.op.i), (J qa.entry.op.n), (J qa.entry.op.k), (J qa.entry.op.v), (J qa.entry.op.t)]) Tryz.eqGuardType31 (eqT31 hr) rfl rfl) (fun h22 => ?_) (fun h22 => ?_)
       ·skip
        refine zT (bT) rfl (zm (bT) rfl (zg rfl (fa33_6 (b := ⟨b2, 16, none⟩) rfl rfl) (zl (.slice A n c) lo22 (H15.ob (i := 1) rfl) rfl (zg rfl (fa33_6 (b := ⟨b10, 16, none⟩) rfl rfl) (zl (.slice A2 n2 c2) lo22 (H15.ob (i := 0) rfl) rfl (RL.call Tryz.call31 (entSameR_ _ _ ra.ents qa.ents A A2 n c n2 c2 ((hr.st0 (H15.fix (i := 2) rfl)).more (by omega)) (by first | assumption | rfl | omega) ((hr2.st0 (H15.fix (i := 2) rfl)).more (by omega)) (by first | assumption | rfl | omega) (by omega)) rfl rfl rfl ?_))))))
        rintro _ w23 ⟨rfl, g24⟩
        have H25 := H15.grow g24
        have z26 := g24.size
        rcases hb27 : (decide (ra.ents = qa.ents)) with _ | _
        ·skip
         refine zT (bF) rfl (za (bF) rfl (RL.nil (thn.n (CW.ret (finQ.r (v := bF) (Ax rfl rfl) ?_)))))
         exact ⟨Am (by symm; rw [decide_eq_false_iff_not]; intro h; first | exact absurd (of_decide_eq_false hb27) (by rw [h]; simp) | exact hb27 (by rw [h]; exact ⟨rfl, rfl, rfl, rfl, rfl, rfl, rfl, rfl, rfl, rfl, rfl⟩) | exact hb27 (by rw [h])), (H25.fix (i := 2) rfl)⟩
        ·skip
         refine zT (bT) rfl (za (bT) rfl (RL.nil (thn.n (CW.ret (finQ.r (v := bT) (Ax rfl rfl) ?_)))))
         exact ⟨Am (by symm; rw [decide_eq_true_eq]; exact rec_eq h17 h18 h19 h20 h21 (ent_eq h22) (of_decide_eq_true hb27)), (H25.fix (i := 2) rfl)⟩
       ·skip
        refine zT (bF) rfl (zm (bF) rfl (zo rfl (zo rfl (zo rfl (zo rfl (zo rfl (zF (bF) rfl (za (bF) rfl (RL.nil (thn.n (CW.ret (finQ.r (v := bF) (Ax rfl rfl) ?_))))))))))))
        exact ⟨Am (by symm; rw [decide_eq_false_iff_not]; intro h; first | exact absurd (of_decide_eq_false h22) (by rw [h]; simp) | exact h22 (by rw [h]; exact ⟨rfl, rfl, rfl, rfl, rfl, rfl, rfl, rfl, rfl, rfl, rfl⟩) | exact h22 (by rw [h])), (H15.fix (i := 2) rfl)⟩
      ·skip
       refine zT (bF) rfl (zm (bF) rfl (zo rfl (zo rfl (zo rfl (zo rfl (zo rfl (zF (bF) rfl (zm (bF) rfl (zo rfl (zo rfl ?_))))))))))
       refine zo rfl (zo rfl (zo rfl (zF (bF) rfl (za (bF) rfl (RL.nil (thn.n (CW.ret (finQ.r (v := bF) (Ax rfl rfl) ?_))))))))
       exact ⟨Am (by symm; rw [decide_eq_false_iff_not]; intro h; first | exact absurd (of_decide_eq_false h21) (by rw [h]; simp) | exact h21 (by rw [h]; exact ⟨rfl, rfl, rfl, rfl, rfl, rfl, rfl, rfl, rfl, rfl, rfl⟩) | exact h21 (by rw [h])), (H15.fix (i := 2) rfl)⟩
     ·skip
      refine zT (bF) rfl (zm (bF) rfl (zo rfl (zo rfl (zo rfl (zo rfl (zo rfl (zF (bF) rfl (zm (bF) rfl (zo rfl (zo rfl ?_))))))))))
      refine zo rfl (zo rfl (zo rfl (zF (bF) rfl (zm (bF) rfl (zo rfl (zo rfl (zo rfl (zo rfl (zo rfl (zF (bF) rfl ?_))))))))))
      refine za (bF) rfl (RL.nil (thn.n (CW.ret (finQ.r (v := bF) (Ax rfl rfl) ?_))))
      exact ⟨Am (by symm; rw [decide_eq_false_iff_not]; intro h; first | exact absurd (of_decide_eq_false h20) (by rw [h]; simp) | exact h20 (by rw [h]; exact ⟨rfl, rfl, rfl, rfl, rfl, rfl, rfl, rfl, rfl, rfl, rfl⟩) | exact h20 (by rw [h])), (H15.fix (i := 2) rfl)⟩
    ·skip
     refine zT (bF) rfl (zm (bF) rfl (zo rfl (zo rfl (zo rfl (zo rfl (zo rfl (zF (bF) rfl (zm (bF) rfl (zo rfl (zo rfl ?_))))))))))
     refine zo rfl (zo rfl (zo rfl (zF (bF) rfl (zm (bF) rfl (zo rfl (zo rfl (zo rfl (zo rfl (zo rfl (zF (bF) rfl ?_))))))))))
     refine zm (bF) rfl (zo rfl (zo rfl (zo rfl (zo rfl (zo rfl (zF (bF) rfl (za (bF) rfl (RL.nil (thn.n (CW.ret (finQ.r (v := bF) (Ax rfl rfl) ?_)))))))))))
     exact ⟨Am (by symm; rw [decide_eq_false_iff_not]; intro h; first | exact absurd (of_decide_eq_false h19) (by rw [h]; simp) | exact h19 (by rw [h]; exact ⟨rfl, rfl, rfl, rfl, rfl, rfl, rfl, rfl, rfl, rfl, rfl⟩) | exact h19 (by rw [h])), (H15.fix (i := 2) rfl)⟩
   ·skip
    refine zT (bF) rfl (zm (bF) rfl (zo rfl (zo rfl (zo rfl (zo rfl (zo rfl (zF (bF) rfl (zm (bF) rfl (zo rfl (zo rfl ?_))))))))))
    refine zo rfl (zo rfl (zo rfl (zF (bF) rfl (zm (bF) rfl (zo rfl (zo rfl (zo rfl (zo rfl (zo rfl (zF (bF) rfl ?_))))))))))
    refine zm (bF) rfl (zo rfl (zo rfl (zo rfl (zo rfl (zo rfl (zF (bF) rfl (zm (bF) rfl (zo rfl (zo rfl (zo rfl ?_))))))))))
    refine zo rfl (zo rfl (zF (bF) rfl (za (bF) rfl (RL.nil (thn.n (CW.ret (finQ.r (v := bF) (Ax rfl rfl) ?_)))))))
    exact ⟨Am (by symm; rw [decide_eq_false_iff_not]; intro h; first | exact absurd (of_decide_eq_false h18) (by rw [h]; simp) | exact h18 (by rw [h]; exact ⟨rfl, rfl, rfl, rfl, rfl, rfl, rfl, rfl, rfl, rfl, rfl⟩) | exact h18 (by rw [h])), (H15.fix (i := 2) rfl)⟩
  ·skip
   refine zm (bF) rfl (zo rfl (zo rfl (zo rfl (zo rfl (zo rfl (zF (bF) rfl (zm (bF) rfl (zo rfl (zo rfl (zo rfl ?_))))))))))
   refine zo rfl (zo rfl (zF (bF) rfl (zm (bF) rfl (zo rfl (zo rfl (zo rfl (zo rfl (zo rfl (zF (bF) rfl (zm (bF) rfl ?_))))))))))
   refine zo rfl (zo rfl (zo rfl (zo rfl (zo rfl (zF (bF) rfl (zm (bF) rfl (zo rfl (zo rfl (zo rfl (zo rfl ?_))))))))))
   refine zo rfl (zF (bF) rfl (zm (bF) rfl (zo rfl (zo rfl (zo rfl (zo rfl (zo rfl (zF (bF) rfl (za (bF) rfl (RL.nil (thn.n (CW.ret ?_))))))))))))
   refine finQ.r (v := bF) (Ax rfl rfl) ?_
   exact ⟨Am (by symm; rw [decide_eq_false_iff_not]; intro h; first | exact absurd (of_decide_eq_false h17) (by rw [h]; simp) | exact h17 (by rw [h]; exact ⟨rfl, rfl, rfl, rfl, rfl, rfl, rfl, rfl, rfl, rfl, rfl⟩) | exact h17 (by rw [h])), (H15.fix (i := 2) rfl)⟩
set_option maxHeartbeats 400000 in
set_option maxRecDepth 20000 in
theorem over17_ (w : World) (S : Nat → Prop) (A : Option Addr) (n c : Nat) (l : List Entry) (hS : (AllA [Ar 31 11 A n c (ents l)]).ok S w) : Ret Tryz.prog 28 [(.slice A n c)] w (fun v w' => ∃ l' : List Entry, v = .tuple #[] ∧ Sp ([Ar 31 11 A n c (ents l')] ++ [Bd w S]) w') := by
  have H0 := Sp.startL hS
  have hln := H0.len (i := 0) rfl
  rw [Bb] at hln
  have hnm : n ≤ 9223372036854775807 := H0.max (i := 0) rfl
  have H0 : Sp [Ar 31 11 A n c (ents l), Bd w S] w := H0
  refine Ret.body Tryz.func28 rfl rfl rfl ?_
  refine CW.seq (CW.region (za (J 0) rfl (RL.nil (thn.n (CW.block ?_)))))
  refine CW.loop (fun t => (Nat.ble 2 t && Nat.ble t 12)) (fun nL ρ wl => ∃ (i : Nat) (l1 : List Entry), ρ 2 = (J (i : Int)) ∧ nL = n - i ∧ Sp [Ar 31 11 A n c (ents l1), Bd w S] wl ∧ i ≤ n ∧ l1.length = n) (n) ?aa0 ?bb0
  case aa0 =>
   exact ⟨0, l, rfl, rfl, H0, Nat.zero_le _, hln⟩
  case bb0 =>
   rintro n2 ρ0 w1 ho3 ⟨i, l1, hs0_2, hn0, H4, hi, hl1⟩
   obtain ⟨j0, rfl⟩ := ho3.shape1 hs0_2
   clear ho3 hs0_2
   subst hn0
   have z5 := (H4.chg (i := 1) rfl).size
   refine CW.seq (CW.seq (CW.region (zm (J (i : Int)) rfl (zm (.slice A n c) rfl (zg rfl (Ex.len Tryz.underlying22 rfl) ?_)))))
   refine zc (((i : Int) : Int) < ((n : Nat) : Int)) rfl (fun r hr => Ex.lt rfl rfl hr) (fun h6 => ?_) (fun h6 => ?_)
   ·skip
    refine RL.nil (thn.n (Ab rfl (CW.skip (thn.n (CW.seq (CW.block (CW.region (zm (.slice A n c) rfl (zm (J (i : Int)) rfl ?_)))))))))
    obtain ⟨e7, he8⟩ : ∃ e, (l1)[i]? = some e := ⟨_, List.getElem?_eq_getElem (by omega)⟩
    obtain ⟨ad9, hA10⟩ := Rd.sm (H4.rowrd (i := 0) rfl) (Bw he8)
    have hl11 := Eng.lt_len (Bw he8)
    refine zg rfl (Cq (b := (ad9.add (i * 11))) (i := i) Tryz.underlying22 Tryz.sizeOf31 (by rw [← hA10]; rfl) rfl (by omega) (by omega) rfl) (zg rfl (fa31_0 (b := ((ad9.add (i * 11)))) rfl rfl) (RL.stE (vs := [(J (-77))]) (x2 := [(J (-77)), (J e7.view), (J e7.client), (J e7.seq), (J e7.op.kind), (J e7.op.h), (J e7.op.i), (J e7.op.n), (J e7.op.k), (J e7.op.v), (J e7.op.t)]) (off := 0) Tryz.sizeOf3 (H4.wr (i := 0) rfl) hA10 (Bw he8) rfl rfl rfl rfl rfl rfl ?_))
    intro w12 g13 ow14
    have H15 : Sp [Ar 31 11 A n c (ents (l1.set i { e7 with num := -77 })), Bd w S] w12 := H4.setR (i := 0) rfl (by rw [own_bk]; exact g13) ((ents_set _ _ { e7 with num := -77 }) ▸ ow14) (Nx.refl_ _ _) rfl
    have z16 := g13.size
    refine RL.nil (inB.n (thn.n (CW.region (zm (J (i : Int)) rfl (zg rfl (Ex.add (r := (i : Int) + 1) rfl rfl (Dd (by omega) (by omega))) (za (J ((i : Int) + 1)) rfl (RL.nil (thn.n ?_))))))))
    refine ⟨(by repeat (first | exact Out.mix _ _ | exact Out.refl _ _ | refine Bg ?_ rfl _)), _, ?_, i + 1, (l1.set i { e7 with num := -77 }), rfl, rfl, H15, by omega, by rw [List.length_set]; exact hl1⟩
    omega
   ·skip
    refine RL.nil (thn.n (Ag rfl (CW.exit (thn.x (thn.x (Bf (finQ.n (v := (.tuple #[])) (res0 rfl) ?_)))))))
    exact ⟨_, rfl, (H4.sel [0, 1] (by decide) rfl)⟩
end Go.Proofs.YtfokljnhllflbaaGreat
namespace Go.Proofs.YtfokljnhllflbaaGreat
open Go Go.Eng Go.RowKit
set_option maxHeartbeats 2000000 in
set_option maxRecDepth 20000 in
theorem adoptRf_ (w : World) (B : Nat) (k : Kept) (A : Option Addr) (n c : Nat) (hr : Rd w B 11 A (ents k.ents)) (hB : B ≤ w.heap.size) (hn : n = k.ents.length) (hm : n ≤ 1099511627776) (hc : n ≤ c) (hi : k.image.length ≤ 140737488351232) (commit view base : Int) (l : List Entry) (A2 : Option Addr) (n2 c2 : Nat) (hr2 : Rd w B 11 A2 (ents l)) (hn2 : n2 = l.length) (hm2 : n2 ≤ 1000000) (hok : ∀ e ∈ l, rng e.num) : Ret Tryz.prog 26 [(.agg ([(J k.view), (J k.normal), (J k.base), (.string (tx k.image)), (.slice A n c)]).toArray), (J commit), (J view), (J base), (.slice A2 n2 c2)] w (fun v w' => ∃ (A' : Option Addr) (n' c' : Nat), v = .tuple #[.agg #[(J ((Aa k commit view base l).kind)), (J ((Aa k commit view base l).view)), (J ((Aa k commit view base l).from_)), (J ((Aa k commit view base l).number)), (.string (tx (Aa k commit view base l).image)), (J ((Aa k commit view base l).entry.num)), (J ((Aa k commit view base l).entry.view)), (J ((Aa k commit view base l).entry.client)), (J ((Aa k commit view base l).entry.seq)), (J ((Aa k commit view base l).entry.op.kind)), (J ((Aa k commit view base l).entry.op.h)), (J ((Aa k commit view base l).entry.op.i)), (J ((Aa k commit view base l).entry.op.n)), (J ((Aa k commit view base l).entry.op.k)), (J ((Aa k commit view base l).entry.op.v)), (J ((Aa k commit view base l).entry.op.t)), (.slice A' n' c')], .bool (Bx k commit view base l)] ∧ Sp ([Ar 31 11 A' n' c' (ents (Aa k commit view base l).ents)] ++ [Bd w Bl]) w') := by
  have H0 : Sp [Bd w Bl] w := Bn w
  refine Ret.body Tryz.func26 rfl rfl rfl ?_
  refine CW.seq (CW.region (RL.bx (cs := [(J k.view), (J k.normal), (J k.base), (.string (tx k.image)), (.slice A n c)]) rfl rfl rfl ?_))
  intro w1 b2 hb3 hz4 g5 o6
  have H7 := H0.newB g5 o6 (by omega)
  have z8 := g5.size
  refine RL.al (cs := [(J 0), (J 0), (J 0), (J 0), (.string (⟨#[]⟩)), (J 0), (J 0), (J 0), (J 0), (J 0), (J 0), (J 0), (J 0), (J 0), (J 0), (J 0), (.slice none 0 0)]) Tryz.zeroValue33 rfl rfl rfl ?_
  intro w9 b10 hb11 hz12 g13 o14
  have H15 := H7.newB g13 o14 (by omega)
  have z16 := g13.size
  refine za (bF) rfl (RL.nil (thn.n (CW.seq (CW.seq (CW.held (fun wq => Sp [Af b10 33 [(J 0), (J 0), (J 0), (J 0), (.string (⟨#[]⟩)), (J 0), (J 0), (J 0), (J 0), (J 0), (J 0), (J 0), (J 0), (J 0), (J 0), (J 0), (.slice none 0 0)], Af b2 24 [(J k.view), (J k.normal), (J k.base), (.string (tx k.image)), (.slice A n c)], Bd w Bl] wq) Tryz.mixed rfl ?_)))))
  intro w17 g18
  have H19 := H15.grow g18
  have z20 := g18.size
  refine zr 0 1 rfl (by kernel_rfl) H19 (fun wq hq => Ai rfl (Ak (cs := [(J k.view), (J k.normal), (J k.base), (.string (tx k.image)), (.slice A n c)]) wh24 (hq.ob (i := 1) rfl).cl)) (RA.one (i := 1) (by kernel_rfl) ?_)
  refine ⟨_, 3, rfl, by kernel_rfl, ?_⟩
  refine RL.call Tryz.call59 (rightK_ _ _ k A n c (hr.st0 (H19.fix (i := 2) rfl)) (by omega) (by first | assumption | rfl | omega | decide +kernel) (by first | assumption | rfl | omega | decide +kernel) (by first | assumption | rfl | omega | decide +kernel) (by first | assumption | rfl | omega | decide +kernel)) rfl rfl rfl ?_
  rintro _ w21 ⟨rfl, g22⟩
  have H23 := H19.grow g22
  have z24 := g22.size
  rcases hb25 : (keptB k) with _ | _
  ·skip
   refine RL.nil ?_
   refine ⟨H23, ?_⟩
   refine zr 2 7 rfl (by kernel_rfl) H23 (fun wq hq => Ex.not (b := false) rfl) (zr 3 15 rfl (by kernel_rfl) H23 (fun wq hq => Au (v := bT) rfl) (zq 4 31 rfl (by kernel_rfl) H23 (zq 5 63 rfl (by kernel_rfl) H23 (zq 6 127 rfl (by kernel_rfl) H23 (zq 7 255 rfl (by kernel_rfl) H23 (zq 8 511 rfl (by kernel_rfl) H23 (zq 9 1023 rfl (by kernel_rfl) H23 (zq 10 2047 rfl (by kernel_rfl) H23 (zr 11 4095 rfl (by kernel_rfl) H23 (fun wq hq => Bi (v := bT) rfl rfl) (zr 12 8191 rfl (by kernel_rfl) H23 (fun wq hq => Au (v := bT) rfl) ?_))))))))))
   refine zq 13 16383 rfl (by kernel_rfl) H23 (zq 14 32767 rfl (by kernel_rfl) H23 (zq 15 65535 rfl (by kernel_rfl) H23 (zq 16 131071 rfl (by kernel_rfl) H23 (zq 17 262143 rfl (by kernel_rfl) H23 (zr 18 524287 rfl (by kernel_rfl) H23 (fun wq hq => Bi (v := bT) rfl rfl) (zr 19 1048575 rfl (by kernel_rfl) H23 (fun wq hq => Au (v := bT) rfl) (zq 20 2097151 rfl (by kernel_rfl) H23 (zq 21 4194303 rfl (by kernel_rfl) H23 (zq 22 8388607 rfl (by kernel_rfl) H23 (zq 23 16777215 rfl (by kernel_rfl) H23 ?_))))))))))
   refine zr 24 33554431 rfl (by kernel_rfl) H23 (fun wq hq => Bi (v := bT) rfl rfl) (zr 25 67108863 rfl (by kernel_rfl) H23 (fun wq hq => Au (v := bT) rfl) (zq 26 134217727 rfl (by kernel_rfl) H23 (zq 27 268435455 rfl (by kernel_rfl) H23 (zq 28 536870911 rfl (by kernel_rfl) H23 (zq 29 1073741823 rfl (by kernel_rfl) H23 (zr 30 2147483647 rfl (by kernel_rfl) H23 (fun wq hq => Bi (v := bT) rfl rfl) (zr 31 4294967295 rfl (by kernel_rfl) H23 (fun wq hq => Au (v := bT) rfl) (zq 32 8589934591 rfl (by kernel_rfl) H23 (zq 33 17179869183 rfl (by kernel_rfl) H23 (zq 34 34359738367 rfl (by kernel_rfl) H23 ?_))))))))))
   refine zq 35 68719476735 rfl (by kernel_rfl) H23 (zq 36 137438953471 rfl (by kernel_rfl) H23 (zq 37 274877906943 rfl (by kernel_rfl) H23 (zr 38 549755813887 rfl (by kernel_rfl) H23 (fun wq hq => Bi (v := bT) rfl rfl) (Bj (by kernel_rfl) (thn.n (Ab rfl (CW.seq (CW.region (zg rfl (Cc (cs := [(J 0), (J 0), (J 0), (J 0), (.string (⟨#[]⟩)), (J 0), (J 0), (J 0), (J 0), (J 0), (J 0), (J 0), (J 0), (J 0), (J 0), (J 0), (.slice none 0 0)]) bd33 rfl) (RL.st (vs := [(J 0), (J 0), (J 0), (J 0), (.string (⟨#[]⟩)), (J 0), (J 0), (J 0), (J 0), (J 0), (J 0), (J 0), (J 0), (J 0), (J 0), (J 0), (.slice none 0 0)]) (cs' := [(J 0), (J 0), (J 0), (J 0), (.string (⟨#[]⟩)), (J 0), (J 0), (J 0), (J 0), (J 0), (J 0), (J 0), (J 0), (J 0), (J 0), (J 0), (.slice none 0 0)]) Tryz.sizeOf33 (H23.ob (i := 0) rfl) rfl rfl rfl rfl rfl rfl ?_))))))))))
   intro w26 hz27 g28 o29
   have H30 : Sp [Af b10 33 [(J 0), (J 0), (J 0), (J 0), (.string (⟨#[]⟩)), (J 0), (J 0), (J 0), (J 0), (J 0), (J 0), (J 0), (J 0), (J 0), (J 0), (J 0), (.slice none 0 0)], Af b2 24 [(J k.view), (J k.normal), (J k.base), (.string (tx k.image)), (.slice A n c)], Bd w Bl] w26 := H23.setB (i := 0) rfl g28 o29 rfl
   have z31 := g28.size
   refine za (bF) rfl (RL.nil (thn.n (CW.ret (thn.r (finQ.r (v := (.tuple #[(.agg ([(J 0), (J 0), (J 0), (J 0), (.string (⟨#[]⟩)), (J 0), (J 0), (J 0), (J 0), (J 0), (J 0), (J 0), (J 0), (J 0), (J 0), (J 0), (.slice none 0 0)]).toArray), bF])) (Cp rfl (Rv.cell rfl (Ak (cs := [(J 0), (J 0), (J 0), (J 0), (.string (⟨#[]⟩)), (J 0), (J 0), (J 0), (J 0), (J 0), (J 0), (J 0), (J 0), (J 0), (J 0), (J 0), (.slice none 0 0)]) wh33 (H30.ob (i := 0) rfl).cl)) (Rv.tmp rfl)) ?_)))))
   have H32 := H30.nil_ 31 11
   have hx : Bx k commit view base l = false := adoptB_no (.inl hb25)
   have hy : Aa k commit view base l = ⟨0, 0, 0, 0, [], ⟨0, 0, 0, 0, ⟨0, 0, 0, 0, 0, 0, 0⟩⟩, []⟩ := by unfold Aa; rw [hx]; rfl
   exact ⟨none, 0, 0, by rw [hx, hy]; rfl, by rw [hy]; exact (H32.sel [0, 3] (by decide) rfl)⟩
  ·skip
   refine RL.nil ?_
   refine ⟨H23, ?_⟩
   refine zr 2 7 rfl (by kernel_rfl) H23 (fun wq hq => Ex.not (b := true) rfl) (zr 3 15 rfl (by kernel_rfl) H23 (fun wq hq => Au (v := bF) rfl) (zr 4 31 rfl (by kernel_rfl) H23 (fun wq hq => Au (v := (J commit)) rfl) (zr 5 63 rfl (by kernel_rfl) H23 (fun wq hq => fa24_2 (b := ⟨b2, 2, none⟩) rfl rfl) (zr 6 127 rfl (by kernel_rfl) H23 (fun wq hq => Ai rfl (Ba Cf (Ob.cell (v := (J k.base)) (hq.ob (i := 1) rfl) rfl))) (zr 7 255 rfl (by kernel_rfl) H23 (fun wq hq => Ai rfl (Ak (cs := [(J k.view), (J k.normal), (J k.base), (.string (tx k.image)), (.slice A n c)]) wh24 (hq.ob (i := 1) rfl).cl)) (RA.one (i := 8) (by kernel_rfl) ?_))))))
   refine ⟨_, 511, rfl, by kernel_rfl, ?_⟩
   refine RL.call Tryz.call60 (lastR_ _ k A n c (by first | assumption | rfl | omega) hb25) rfl rfl rfl ?_
   rintro _ w33 ⟨rfl, g34⟩
   have H35 := H23.grow g34
   have z36 := g34.size
   refine RL.nil ?_
   refine ⟨H35, ?_⟩
   refine RA.one (i := 9) (by kernel_rfl) ?_
   refine ⟨_, 1023, rfl, by kernel_rfl, ?_⟩
   refine RL.call Tryz.call90 (within_tumulusref17 _ commit k.base (lastK k)) rfl rfl rfl ?_
   rintro _ _ ⟨rfl, rfl⟩
   rcases hb40 : (Aq commit k.base (lastK k)) with _ | _
   ·skip
    refine RL.nil ?_
    refine ⟨H35, ?_⟩
    refine zr 10 2047 rfl (by kernel_rfl) H35 (fun wq hq => Ex.not (b := false) rfl) (zr 11 4095 rfl (by kernel_rfl) H35 (fun wq hq => Be (v := bT) rfl rfl) (zr 12 8191 rfl (by kernel_rfl) H35 (fun wq hq => Au (v := bT) rfl) (zq 13 16383 rfl (by kernel_rfl) H35 (zq 14 32767 rfl (by kernel_rfl) H35 (zq 15 65535 rfl (by kernel_rfl) H35 (zq 16 131071 rfl (by kernel_rfl) H35 (zq 17 262143 rfl (by kernel_rfl) H35 (zr 18 524287 rfl (by kernel_rfl) H35 (fun wq hq => Bi (v := bT) rfl rfl) (zr 19 1048575 rfl (by kernel_rfl) H35 (fun wq hq => Au (v := bT) rfl) (zq 20 2097151 rfl (by kernel_rfl) H35 ?_))))))))))
    refine zq 21 4194303 rfl (by kernel_rfl) H35 (zq 22 8388607 rfl (by kernel_rfl) H35 (zq 23 16777215 rfl (by kernel_rfl) H35 (zr 24 33554431 rfl (by kernel_rfl) H35 (fun wq hq => Bi (v := bT) rfl rfl) (zr 25 67108863 rfl (by kernel_rfl) H35 (fun wq hq => Au (v := bT) rfl) (zq 26 134217727 rfl (by kernel_rfl) H35 (zq 27 268435455 rfl (by kernel_rfl) H35 (zq 28 536870911 rfl (by kernel_rfl) H35 (zq 29 1073741823 rfl (by kernel_rfl) H35 (zr 30 2147483647 rfl (by kernel_rfl) H35 (fun wq hq => Bi (v := bT) rfl rfl) (zr 31 4294967295 rfl (by kernel_rfl) H35 (fun wq hq => Au (v := bT) rfl) ?_))))))))))
    refine zq 32 8589934591 rfl (by kernel_rfl) H35 (zq 33 17179869183 rfl (by kernel_rfl) H35 (zq 34 34359738367 rfl (by kernel_rfl) H35 (zq 35 68719476735 rfl (by kernel_rfl) H35 (zq 36 137438953471 rfl (by kernel_rfl) H35 (zq 37 274877906943 rfl (by kernel_rfl) H35 (zr 38 549755813887 rfl (by kernel_rfl) H35 (fun wq hq => Bi (v := bT) rfl rfl) (Bj (by kernel_rfl) (thn.n (Ab rfl (CW.seq (CW.region (zg rfl (Cc (cs := [(J 0), (J 0), (J 0), (J 0), (.string (⟨#[]⟩)), (J 0), (J 0), (J 0), (J 0), (J 0), (J 0), (J 0), (J 0), (J 0), (J 0), (J 0), (.slice none 0 0)]) bd33 rfl) ?_))))))))))))
    refine RL.st (vs := [(J 0), (J 0), (J 0), (J 0), (.string (⟨#[]⟩)), (J 0), (J 0), (J 0), (J 0), (J 0), (J 0), (J 0), (J 0), (J 0), (J 0), (J 0), (.slice none 0 0)]) (cs' := [(J 0), (J 0), (J 0), (J 0), (.string (⟨#[]⟩)), (J 0), (J 0), (J 0), (J 0), (J 0), (J 0), (J 0), (J 0), (J 0), (J 0), (J 0), (.slice none 0 0)]) Tryz.sizeOf33 (H35.ob (i := 0) rfl) rfl rfl rfl rfl rfl rfl ?_
    intro w41 hz42 g43 o44
    have H45 : Sp [Af b10 33 [(J 0), (J 0), (J 0), (J 0), (.string (⟨#[]⟩)), (J 0), (J 0), (J 0), (J 0), (J 0), (J 0), (J 0), (J 0), (J 0), (J 0), (J 0), (.slice none 0 0)], Af b2 24 [(J k.view), (J k.normal), (J k.base), (.string (tx k.image)), (.slice A n c)], Bd w Bl] w41 := H35.setB (i := 0) rfl g43 o44 rfl
    have z46 := g43.size
    refine za (bF) rfl (RL.nil (thn.n (CW.ret (thn.r (finQ.r (v := (.tuple #[(.agg ([(J 0), (J 0), (J 0), (J 0), (.string (⟨#[]⟩)), (J 0), (J 0), (J 0), (J 0), (J 0), (J 0), (J 0), (J 0), (J 0), (J 0), (J 0), (.slice none 0 0)]).toArray), bF])) (Cp rfl (Rv.cell rfl (Ak (cs := [(J 0), (J 0), (J 0), (J 0), (.string (⟨#[]⟩)), (J 0), (J 0), (J 0), (J 0), (J 0), (J 0), (J 0), (J 0), (J 0), (J 0), (J 0), (.slice none 0 0)]) wh33 (H45.ob (i := 0) rfl).cl)) (Rv.tmp rfl)) ?_)))))
    have H47 := H45.nil_ 31 11
    have hx : Bx k commit view base l = false := adoptB_no (.inr (.inl ⟨hb25, hb40⟩))
    have hy : Aa k commit view base l = ⟨0, 0, 0, 0, [], ⟨0, 0, 0, 0, ⟨0, 0, 0, 0, 0, 0, 0⟩⟩, []⟩ := by unfold Aa; rw [hx]; rfl
    exact ⟨none, 0, 0, by rw [hx, hy]; rfl, by rw [hy]; exact (H47.sel [0, 3] (by decide) rfl)⟩
   ·have hw37 := Bc hb40
    refine RL.nil ?_
    refine ⟨H35, ?_⟩
    refine zr 10 2047 rfl (by kernel_rfl) H35 (fun wq hq => Ex.not (b := true) rfl) (zr 11 4095 rfl (by kernel_rfl) H35 (fun wq hq => Be (v := bF) rfl rfl) (zr 12 8191 rfl (by kernel_rfl) H35 (fun wq hq => Au (v := bF) rfl) (zr 13 16383 rfl (by kernel_rfl) H35 (fun wq hq => Au (v := (J view)) rfl) (zr 14 32767 rfl (by kernel_rfl) H35 (fun wq hq => fa24_0 (b := ⟨b2, 0, none⟩) rfl rfl) (zr 15 65535 rfl (by kernel_rfl) H35 (fun wq hq => Ai rfl (Ba Cf (Ob.cell (v := (J k.view)) (hq.ob (i := 1) rfl) rfl))) (RA.one (i := 16) (by kernel_rfl) ?_))))))
    refine ⟨_, 131071, rfl, by kernel_rfl, ?_⟩
    refine RL.call Tryz.call90 (within_tumulusref17 _ view k.view 900000000) rfl rfl rfl ?_
    rintro _ _ ⟨rfl, rfl⟩
    rcases hb51 : (Aq view k.view 900000000) with _ | _
    ·skip
     refine RL.nil ?_
     refine ⟨H35, ?_⟩
     refine zr 17 262143 rfl (by kernel_rfl) H35 (fun wq hq => Ex.not (b := false) rfl) (zr 18 524287 rfl (by kernel_rfl) H35 (fun wq hq => Be (v := bT) rfl rfl) (zr 19 1048575 rfl (by kernel_rfl) H35 (fun wq hq => Au (v := bT) rfl) (zq 20 2097151 rfl (by kernel_rfl) H35 (zq 21 4194303 rfl (by kernel_rfl) H35 (zq 22 8388607 rfl (by kernel_rfl) H35 (zq 23 16777215 rfl (by kernel_rfl) H35 (zr 24 33554431 rfl (by kernel_rfl) H35 (fun wq hq => Bi (v := bT) rfl rfl) (zr 25 67108863 rfl (by kernel_rfl) H35 (fun wq hq => Au (v := bT) rfl) (zq 26 134217727 rfl (by kernel_rfl) H35 (zq 27 268435455 rfl (by kernel_rfl) H35 ?_))))))))))
     refine zq 28 536870911 rfl (by kernel_rfl) H35 (zq 29 1073741823 rfl (by kernel_rfl) H35 (zr 30 2147483647 rfl (by kernel_rfl) H35 (fun wq hq => Bi (v := bT) rfl rfl) (zr 31 4294967295 rfl (by kernel_rfl) H35 (fun wq hq => Au (v := bT) rfl) (zq 32 8589934591 rfl (by kernel_rfl) H35 (zq 33 17179869183 rfl (by kernel_rfl) H35 (zq 34 34359738367 rfl (by kernel_rfl) H35 (zq 35 68719476735 rfl (by kernel_rfl) H35 (zq 36 137438953471 rfl (by kernel_rfl) H35 (zq 37 274877906943 rfl (by kernel_rfl) H35 (zr 38 549755813887 rfl (by kernel_rfl) H35 (fun wq hq => Bi (v := bT) rfl rfl) ?_))))))))))
     refine Bj (by kernel_rfl) (thn.n (Ab rfl (CW.seq (CW.region (zg rfl (Cc (cs := [(J 0), (J 0), (J 0), (J 0), (.string (⟨#[]⟩)), (J 0), (J 0), (J 0), (J 0), (J 0), (J 0), (J 0), (J 0), (J 0), (J 0), (J 0), (.slice none 0 0)]) bd33 rfl) (RL.st (vs := [(J 0), (J 0), (J 0), (J 0), (.string (⟨#[]⟩)), (J 0), (J 0), (J 0), (J 0), (J 0), (J 0), (J 0), (J 0), (J 0), (J 0), (J 0), (.slice none 0 0)]) (cs' := [(J 0), (J 0), (J 0), (J 0), (.string (⟨#[]⟩)), (J 0), (J 0), (J 0), (J 0), (J 0), (J 0), (J 0), (J 0), (J 0), (J 0), (J 0), (.slice none 0 0)]) Tryz.sizeOf33 (H35.ob (i := 0) rfl) rfl rfl rfl rfl rfl rfl ?_))))))
     intro w52 hz53 g54 o55
     have H56 : Sp [Af b10 33 [(J 0), (J 0), (J 0), (J 0), (.string (⟨#[]⟩)), (J 0), (J 0), (J 0), (J 0), (J 0), (J 0), (J 0), (J 0), (J 0), (J 0), (J 0), (.slice none 0 0)], Af b2 24 [(J k.view), (J k.normal), (J k.base), (.string (tx k.image)), (.slice A n c)], Bd w Bl] w52 := H35.setB (i := 0) rfl g54 o55 rfl
     have z57 := g54.size
     refine za (bF) rfl (RL.nil (thn.n (CW.ret (thn.r (finQ.r (v := (.tuple #[(.agg ([(J 0), (J 0), (J 0), (J 0), (.string (⟨#[]⟩)), (J 0), (J 0), (J 0), (J 0), (J 0), (J 0), (J 0), (J 0), (J 0), (J 0), (J 0), (.slice none 0 0)]).toArray), bF])) (Cp rfl (Rv.cell rfl (Ak (cs := [(J 0), (J 0), (J 0), (J 0), (.string (⟨#[]⟩)), (J 0), (J 0), (J 0), (J 0), (J 0), (J 0), (J 0), (J 0), (J 0), (J 0), (J 0), (.slice none 0 0)]) wh33 (H56.ob (i := 0) rfl).cl)) (Rv.tmp rfl)) ?_)))))
     have H58 := H56.nil_ 31 11
     have hx : Bx k commit view base l = false := adoptB_no (.inr (.inr (.inl hb51)))
     have hy : Aa k commit view base l = ⟨0, 0, 0, 0, [], ⟨0, 0, 0, 0, ⟨0, 0, 0, 0, 0, 0, 0⟩⟩, []⟩ := by unfold Aa; rw [hx]; rfl
     exact ⟨none, 0, 0, by rw [hx, hy]; rfl, by rw [hy]; exact (H58.sel [0, 3] (by decide) rfl)⟩
    ·have hw48 := Bc hb51
     refine RL.nil ?_
     refine ⟨H35, ?_⟩
     refine zr 17 262143 rfl (by kernel_rfl) H35 (fun wq hq => Ex.not (b := true) rfl) (zr 18 524287 rfl (by kernel_rfl) H35 (fun wq hq => Be (v := bF) rfl rfl) (zr 19 1048575 rfl (by kernel_rfl) H35 (fun wq hq => Au (v := bF) rfl) (zr 20 2097151 rfl (by kernel_rfl) H35 (fun wq hq => Au (v := (J base)) rfl) (zr 21 4194303 rfl (by kernel_rfl) H35 (fun wq hq => Au (v := (J commit)) rfl) (RA.one (i := 22) (by kernel_rfl) ?_)))))
     refine ⟨_, 8388607, rfl, by kernel_rfl, ?_⟩
     refine RL.call Tryz.call90 (within_tumulusref17 _ base 0 commit) rfl rfl rfl ?_
     rintro _ _ ⟨rfl, rfl⟩
     rcases hb62 : (Aq base 0 commit) with _ | _
     ·skip
      refine RL.nil ?_
      refine ⟨H35, ?_⟩
      refine zr 23 16777215 rfl (by kernel_rfl) H35 (fun wq hq => Ex.not (b := false) rfl) (zr 24 33554431 rfl (by kernel_rfl) H35 (fun wq hq => Be (v := bT) rfl rfl) (zr 25 67108863 rfl (by kernel_rfl) H35 (fun wq hq => Au (v := bT) rfl) (zq 26 134217727 rfl (by kernel_rfl) H35 (zq 27 268435455 rfl (by kernel_rfl) H35 (zq 28 536870911 rfl (by kernel_rfl) H35 (zq 29 1073741823 rfl (by kernel_rfl) H35 (zr 30 2147483647 rfl (by kernel_rfl) H35 (fun wq hq => Bi (v := bT) rfl rfl) (zr 31 4294967295 rfl (by kernel_rfl) H35 (fun wq hq => Au (v := bT) rfl) (zq 32 8589934591 rfl (by kernel_rfl) H35 (zq 33 17179869183 rfl (by kernel_rfl) H35 ?_))))))))))
      refine zq 34 34359738367 rfl (by kernel_rfl) H35 (zq 35 68719476735 rfl (by kernel_rfl) H35 (zq 36 137438953471 rfl (by kernel_rfl) H35 (zq 37 274877906943 rfl (by kernel_rfl) H35 (zr 38 549755813887 rfl (by kernel_rfl) H35 (fun wq hq => Bi (v := bT) rfl rfl) (Bj (by kernel_rfl) (thn.n (Ab rfl (CW.seq (CW.region (zg rfl (Cc (cs := [(J 0), (J 0), (J 0), (J 0), (.string (⟨#[]⟩)), (J 0), (J 0), (J 0), (J 0), (J 0), (J 0), (J 0), (J 0), (J 0), (J 0), (J 0), (.slice none 0 0)]) bd33 rfl) (RL.st (vs := [(J 0), (J 0), (J 0), (J 0), (.string (⟨#[]⟩)), (J 0), (J 0), (J 0), (J 0), (J 0), (J 0), (J 0), (J 0), (J 0), (J 0), (J 0), (.slice none 0 0)]) (cs' := [(J 0), (J 0), (J 0), (J 0), (.string (⟨#[]⟩)), (J 0), (J 0), (J 0), (J 0), (J 0), (J 0), (J 0), (J 0), (J 0), (J 0), (J 0), (.slice none 0 0)]) Tryz.sizeOf33 (H35.ob (i := 0) rfl) rfl rfl rfl rfl rfl rfl ?_)))))))))))
      intro w63 hz65 g66 o67
      have H68 : Sp [Af b10 33 [(J 0), (J 0), (J 0), (J 0), (.string (⟨#[]⟩)), (J 0), (J 0), (J 0), (J 0), (J 0), (J 0), (J 0), (J 0), (J 0), (J 0), (J 0), (.slice none 0 0)], Af b2 24 [(J k.view), (J k.normal), (J k.base), (.string (tx k.image)), (.slice A n c)], Bd w Bl] w63 := H35.setB (i := 0) rfl g66 o67 rfl
      have z69 := g66.size
      refine za (bF) rfl (RL.nil (thn.n (CW.ret (thn.r (finQ.r (v := (.tuple #[(.agg ([(J 0), (J 0), (J 0), (J 0), (.string (⟨#[]⟩)), (J 0), (J 0), (J 0), (J 0), (J 0), (J 0), (J 0), (J 0), (J 0), (J 0), (J 0), (.slice none 0 0)]).toArray), bF])) (Cp rfl (Rv.cell rfl (Ak (cs := [(J 0), (J 0), (J 0), (J 0), (.string (⟨#[]⟩)), (J 0), (J 0), (J 0), (J 0), (J 0), (J 0), (J 0), (J 0), (J 0), (J 0), (J 0), (.slice none 0 0)]) wh33 (H68.ob (i := 0) rfl).cl)) (Rv.tmp rfl)) ?_)))))
      have H70 := H68.nil_ 31 11
      have hx : Bx k commit view base l = false := adoptB_no (.inr (.inr (.inr (.inl hb62))))
      have hy : Aa k commit view base l = ⟨0, 0, 0, 0, [], ⟨0, 0, 0, 0, ⟨0, 0, 0, 0, 0, 0, 0⟩⟩, []⟩ := by unfold Aa; rw [hx]; rfl
      exact ⟨none, 0, 0, by rw [hx, hy]; rfl, by rw [hy]; exact (H70.sel [0, 3] (by decide) rfl)⟩
     ·have hw59 := Bc hb62
      refine RL.nil ?_
      refine ⟨H35, ?_⟩
      refine zr 23 16777215 rfl (by kernel_rfl) H35 (fun wq hq => Ex.not (b := true) rfl) (zr 24 33554431 rfl (by kernel_rfl) H35 (fun wq hq => Be (v := bF) rfl rfl) (zr 25 67108863 rfl (by kernel_rfl) H35 (fun wq hq => Au (v := bF) rfl) (zr 26 134217727 rfl (by kernel_rfl) H35 (fun wq hq => Au (v := (.slice A2 n2 c2)) rfl) (zr 27 268435455 rfl (by kernel_rfl) H35 (fun wq hq => Au (v := (J base)) rfl) (RA.one (i := 28) (by kernel_rfl) ?_)))))
      refine ⟨_, 536870911, rfl, by kernel_rfl, ?_⟩
      refine RL.call Tryz.call91 (rowR_ _ _ l A2 n2 c2 base (hr2.st0 (H35.fix (i := 2) rfl)) (by omega) (by first | rfl | assumption | omega) (by omega)) rfl rfl rfl ?_
      rintro _ w71 ⟨rfl, g72⟩
      have H73 := H35.grow g72
      have z74 := g72.size
      rcases hb75 : (follB l base) with _ | _
      ·skip
       refine RL.nil ?_
       refine ⟨H73, ?_⟩
       refine zr 29 1073741823 rfl (by kernel_rfl) H73 (fun wq hq => Ex.not (b := false) rfl) (zr 30 2147483647 rfl (by kernel_rfl) H73 (fun wq hq => Be (v := bT) rfl rfl) (zr 31 4294967295 rfl (by kernel_rfl) H73 (fun wq hq => Au (v := bT) rfl) (zq 32 8589934591 rfl (by kernel_rfl) H73 (zq 33 17179869183 rfl (by kernel_rfl) H73 (zq 34 34359738367 rfl (by kernel_rfl) H73 (zq 35 68719476735 rfl (by kernel_rfl) H73 (zq 36 137438953471 rfl (by kernel_rfl) H73 (zq 37 274877906943 rfl (by kernel_rfl) H73 (zr 38 549755813887 rfl (by kernel_rfl) H73 (fun wq hq => Bi (v := bT) rfl rfl) (Bj (by kernel_rfl) ?_))))))))))
       refine thn.n (Ab rfl (CW.seq (CW.region (zg rfl (Cc (cs := [(J 0), (J 0), (J 0), (J 0), (.string (⟨#[]⟩)), (J 0), (J 0), (J 0), (J 0), (J 0), (J 0), (J 0), (J 0), (J 0), (J 0), (J 0), (.slice none 0 0)]) bd33 rfl) (RL.st (vs := [(J 0), (J 0), (J 0), (J 0), (.string (⟨#[]⟩)), (J 0), (J 0), (J 0), (J 0), (J 0), (J 0), (J 0), (J 0), (J 0), (J 0), (J 0), (.slice none 0 0)]) (cs' := [(J 0), (J 0), (J 0), (J 0), (.string (⟨#[]⟩)), (J 0), (J 0), (J 0), (J 0), (J 0), (J 0), (J 0), (J 0), (J 0), (J 0), (J 0), (.slice none 0 0)]) Tryz.sizeOf33 (H73.ob (i := 0) rfl) rfl rfl rfl rfl rfl rfl ?_)))))
       intro w76 hz77 g78 o79
       have H80 : Sp [Af b10 33 [(J 0), (J 0), (J 0), (J 0), (.string (⟨#[]⟩)), (J 0), (J 0), (J 0), (J 0), (J 0), (J 0), (J 0), (J 0), (J 0), (J 0), (J 0), (.slice none 0 0)], Af b2 24 [(J k.view), (J k.normal), (J k.base), (.string (tx k.image)), (.slice A n c)], Bd w Bl] w76 := H73.setB (i := 0) rfl g78 o79 rfl
       have z81 := g78.size
       refine za (bF) rfl (RL.nil (thn.n (CW.ret (thn.r (finQ.r (v := (.tuple #[(.agg ([(J 0), (J 0), (J 0), (J 0), (.string (⟨#[]⟩)), (J 0), (J 0), (J 0), (J 0), (J 0), (J 0), (J 0), (J 0), (J 0), (J 0), (J 0), (.slice none 0 0)]).toArray), bF])) (Cp rfl (Rv.cell rfl (Ak (cs := [(J 0), (J 0), (J 0), (J 0), (.string (⟨#[]⟩)), (J 0), (J 0), (J 0), (J 0), (J 0), (J 0), (J 0), (J 0), (J 0), (J 0), (J 0), (.slice none 0 0)]) wh33 (H80.ob (i := 0) rfl).cl)) (Rv.tmp rfl)) ?_)))))
       have H82 := H80.nil_ 31 11
       have hx : Bx k commit view base l = false := adoptB_no (.inr (.inr (.inr (.inr (.inl hb75)))))
       have hy : Aa k commit view base l = ⟨0, 0, 0, 0, [], ⟨0, 0, 0, 0, ⟨0, 0, 0, 0, 0, 0, 0⟩⟩, []⟩ := by unfold Aa; rw [hx]; rfl
       exact ⟨none, 0, 0, by rw [hx, hy]; rfl, by rw [hy]; exact (H82.sel [0, 3] (by decide) rfl)⟩
      ·skip
       refine RL.nil ?_
       refine ⟨H73, ?_⟩
       refine zr 29 1073741823 rfl (by kernel_rfl) H73 (fun wq hq => Ex.not (b := true) rfl) (zr 30 2147483647 rfl (by kernel_rfl) H73 (fun wq hq => Be (v := bF) rfl rfl) (zr 31 4294967295 rfl (by kernel_rfl) H73 (fun wq hq => Au (v := bF) rfl) (zr 32 8589934591 rfl (by kernel_rfl) H73 (fun wq hq => Au (v := (.slice A2 n2 c2)) rfl) (zr 33 17179869183 rfl (by kernel_rfl) H73 (fun wq hq => Ex.len Tryz.underlying22 rfl) (zr 34 34359738367 rfl (by kernel_rfl) H73 (fun wq hq => Au (v := (J commit)) rfl) (zr 35 68719476735 rfl (by kernel_rfl) H73 (fun wq hq => Au (v := (J base)) rfl) ?_))))))
       have hkt := keptB_t hb25
       have hlk : lastK k = k.base + k.ents.length := rfl
       refine zr 36 137438953471 rfl (by kernel_rfl) H73 (fun wq hq => Ci (r := commit - base) rfl rfl (Dd (by omega) (by omega))) ?_
       refine zb 37 274877906943 (((n2 : Nat) : Int) < (commit - base : Int)) rfl (by kernel_rfl) H73 (fun r hr wq hq => Ex.lt rfl rfl hr) (fun h83 => ?_) (fun h83 => ?_)
       ·skip
        refine zr 38 549755813887 rfl (by kernel_rfl) H73 (fun wq hq => Be (v := bT) rfl rfl) (Bj (by kernel_rfl) (thn.n (Ab rfl (CW.seq (CW.region (zg rfl (Cc (cs := [(J 0), (J 0), (J 0), (J 0), (.string (⟨#[]⟩)), (J 0), (J 0), (J 0), (J 0), (J 0), (J 0), (J 0), (J 0), (J 0), (J 0), (J 0), (.slice none 0 0)]) bd33 rfl) (RL.st (vs := [(J 0), (J 0), (J 0), (J 0), (.string (⟨#[]⟩)), (J 0), (J 0), (J 0), (J 0), (J 0), (J 0), (J 0), (J 0), (J 0), (J 0), (J 0), (.slice none 0 0)]) (cs' := [(J 0), (J 0), (J 0), (J 0), (.string (⟨#[]⟩)), (J 0), (J 0), (J 0), (J 0), (J 0), (J 0), (J 0), (J 0), (J 0), (J 0), (J 0), (.slice none 0 0)]) Tryz.sizeOf33 (H73.ob (i := 0) rfl) rfl rfl rfl rfl rfl rfl ?_)))))))
        intro w84 hz85 g86 o87
        have H88 : Sp [Af b10 33 [(J 0), (J 0), (J 0), (J 0), (.string (⟨#[]⟩)), (J 0), (J 0), (J 0), (J 0), (J 0), (J 0), (J 0), (J 0), (J 0), (J 0), (J 0), (.slice none 0 0)], Af b2 24 [(J k.view), (J k.normal), (J k.base), (.string (tx k.image)), (.slice A n c)], Bd w Bl] w84 := H73.setB (i := 0) rfl g86 o87 rfl
        have z89 := g86.size
        refine za (bF) rfl (RL.nil (thn.n (CW.ret (thn.r (finQ.r (v := (.tuple #[(.agg ([(J 0), (J 0), (J 0), (J 0), (.string (⟨#[]⟩)), (J 0), (J 0), (J 0), (J 0), (J 0), (J 0), (J 0), (J 0), (J 0), (J 0), (J 0), (.slice none 0 0)]).toArray), bF])) (Cp rfl (Rv.cell rfl (Ak (cs := [(J 0), (J 0), (J 0), (J 0), (.string (⟨#[]⟩)), (J 0), (J 0), (J 0), (J 0), (J 0), (J 0), (J 0), (J 0), (J 0), (J 0), (J 0), (.slice none 0 0)]) wh33 (H88.ob (i := 0) rfl).cl)) (Rv.tmp rfl)) ?_)))))
        have H90 := H88.nil_ 31 11
        have hx : Bx k commit view base l = false := adoptB_no (.inr (.inr (.inr (.inr (.inr (by omega))))))
        have hy : Aa k commit view base l = ⟨0, 0, 0, 0, [], ⟨0, 0, 0, 0, ⟨0, 0, 0, 0, 0, 0, 0⟩⟩, []⟩ := by unfold Aa; rw [hx]; rfl
        exact ⟨none, 0, 0, by rw [hx, hy]; rfl, by rw [hy]; exact (H90.sel [0, 3] (by decide) rfl)⟩
       ·skip
        refine zr 38 549755813887 rfl (by kernel_rfl) H73 (fun wq hq => Be (v := bF) rfl rfl) (Bj (by kernel_rfl) (thn.n (Ag rfl (CW.skip (thn.n (CW.seq (CW.region (za (.slice none 0 0) rfl (RL.nil (thn.n (CW.seq (CW.seq (CW.region (za (J 0) rfl (RL.nil (thn.n (CW.block ?_)))))))))))))))))
        have hx : Bx k commit view base l = true := adoptB_of hb25 hb40 hb51 hb62 hb75 (by omega)
        have hflt := adopt_filter hx (by omega) hok
        have H91 := H73.nil_ 31 11
        refine CW.loop (fun t => (Nat.ble 12 t && Nat.ble t 13) || (Nat.ble 54 t && Nat.ble t 73)) (fun nL ρ wl => ∃ (i n1 c1 : Nat) (A1 : Option Addr), ρ 13 = (J (i : Int)) ∧ ρ 12 = (.slice A1 n1 c1) ∧ nL = n2 - i ∧ Sp [Ar 31 11 A1 n1 c1 (ents (((l.take i).filter (fun e => decide (commit < e.num))))), Af b10 33 [(J 0), (J 0), (J 0), (J 0), (.string (⟨#[]⟩)), (J 0), (J 0), (J 0), (J 0), (J 0), (J 0), (J 0), (J 0), (J 0), (J 0), (J 0), (.slice none 0 0)], Af b2 24 [(J k.view), (J k.normal), (J k.base), (.string (tx k.image)), (.slice A n c)], Bd w Bl] wl ∧ i ≤ n2 ∧ n1 ≤ i) (n2) ?aa0 ?bb0
        case aa0 =>
         exact ⟨0, 0, 0, none, rfl, rfl, rfl, H91, Nat.zero_le _, Nat.le_refl _⟩
        case bb0 =>
         rintro n93 ρ0 w92 ho94 ⟨i, n1, c1, A1, hs0_13, hs0_12, hn0, H95, hi_, hn1⟩
         obtain ⟨j0, rfl⟩ := ho94.shape2 hs0_13 hs0_12
         clear ho94 hs0_13 hs0_12
         subst hn0
         have z96 := (H95.fix (i := 3) rfl).size
         refine CW.seq (CW.seq (CW.region (zm (J (i : Int)) rfl (zm (.slice A2 n2 c2) rfl (zg rfl (Ex.len Tryz.underlying22 rfl) ?_)))))
         refine zc (((i : Int) : Int) < ((n2 : Nat) : Int)) rfl (fun r hr => Ex.lt rfl rfl hr) (fun h97 => ?_) (fun h97 => ?_)
         ·skip
          refine RL.nil (thn.n (Ab rfl (CW.skip (thn.n (CW.seq (CW.block (CW.seq (CW.region (zm (.slice A2 n2 c2) rfl (zm (J (i : Int)) rfl ?_))))))))))
          obtain ⟨e98, he99⟩ : ∃ e, (l)[i]? = some e := ⟨_, List.getElem?_eq_getElem (by omega)⟩
          obtain ⟨ad100, hA101⟩ := Rd.sm (hr2.st0 (H95.fix (i := 3) rfl)) (Bw he99)
          have hl102 := Eng.lt_len (Bw he99)
          refine zg rfl (Cq (b := (ad100.add (i * 11))) (i := i) Tryz.underlying22 Tryz.sizeOf31 (by rw [← hA101]; rfl) rfl (by omega) (by omega) rfl) (zg rfl (fa31_0 (b := ((ad100.add (i * 11)))) rfl rfl) (zg rfl (Ai rfl (Ba Cf (Cl.at_ (v := (J e98.num)) (Rd.cl (hr2.st0 (H95.fix (i := 3) rfl)) hA101 (Bw he99)) (i := 0) rfl))) (zm (J commit) rfl ?_)))
          refine zc ((commit : Int) < (e98.num : Int)) rfl (fun r hr => Df rfl rfl hr) (fun h103 => ?_) (fun h103 => ?_)
          ·skip
           refine RL.nil (thn.n (Ab rfl (CW.region (zm (.slice A1 n1 c1) rfl (zm (.slice A2 n2 c2) rfl (zm (J (i : Int)) rfl ?_))))))
           obtain ⟨ad104, hA105⟩ := Rd.sm (hr2.st0 (H95.fix (i := 3) rfl)) (Bw he99)
           have hl106 := Eng.lt_len (Bw he99)
           refine zg rfl (Cq (b := (ad104.add (i * 11))) (i := i) Tryz.underlying22 Tryz.sizeOf31 (by rw [← hA105]; rfl) rfl (by omega) (by omega) rfl) (zg rfl (Ai rfl (Ak (cs := e98.cells) wh31 (Rd.cl (hr2.st0 (H95.fix (i := 3) rfl)) hA105 (Bw he99)))) (RL.bs (cs := e98.cells) Tryz.underlying22 Tryz.sizeOf31 ze22 rfl rfl rfl (by decide) rfl rfl rfl ?_))
           intro w107 b108 hb109 hz110 g111 o112
           have H113 := H95.newB g111 o112 (by omega)
           have z114 := g111.size
           refine RL.apW (base := 0) (xss := (ents (((l.take i).filter (fun e => decide (commit < e.num)))))) (yss := (ents ([e98]))) el22 (H113.wr (i := 1) rfl) rfl (Da (H113.ob (i := 0) rfl) rfl) rfl (by simp only [As, Av, At, Ap, An, Bb, List.length_append, List.length_cons, List.length_nil, List.length_take, List.length_drop, List.length_map, Cy, enc8, Bq, Bt, Ca]; try omega) (ents_one _) (by omega) (by omega) (by omega) rfl rfl ?_
           intro w115 A116 c117 g118 ow119 nx120
           have H121 : Sp [Af b108 31 e98.cells, Ar 31 11 A116 (n1 + 1) c117 (ents (((l.take i).filter (fun e => decide (commit < e.num))) ++ [e98])), Af b10 33 [(J 0), (J 0), (J 0), (J 0), (.string (⟨#[]⟩)), (J 0), (J 0), (J 0), (J 0), (J 0), (J 0), (J 0), (J 0), (J 0), (J 0), (J 0), (.slice none 0 0)], Af b2 24 [(J k.view), (J k.normal), (J k.base), (.string (tx k.image)), (.slice A n c)], Bd w Bl] w115 := H113.setR (i := 1) rfl g118 ((ents_app _ _).symm ▸ ow119) nx120 rfl
           have z122 := g118.size
           refine za (.slice A116 (n1 + 1) c117) rfl (RL.nil (inB.n (thn.n (CW.region (zm (J (i : Int)) rfl (zg rfl (Ex.add (r := (i : Int) + 1) rfl rfl (Dd (by omega) (by omega))) (za (J ((i : Int) + 1)) rfl (RL.nil (thn.n ?_)))))))))
           have H123 : Sp [Af b108 31 e98.cells, Ar 31 11 A116 (n1 + 1) c117 (ents (((l.take (i + 1)).filter (fun e => decide (commit < e.num))))), Af b10 33 [(J 0), (J 0), (J 0), (J 0), (.string (⟨#[]⟩)), (J 0), (J 0), (J 0), (J 0), (J 0), (J 0), (J 0), (J 0), (J 0), (J 0), (J 0), (.slice none 0 0)], Af b2 24 [(J k.view), (J k.normal), (J k.base), (.string (tx k.image)), (.slice A n c)], Bd w Bl] w115 := H121.eqR (i := 1) rfl rfl (by rw [filter_snoc he99, if_pos (by simpa using h103)]) rfl
           refine ⟨(by repeat (first | exact Out.mix _ _ | exact Out.refl _ _ | refine Bg ?_ rfl _ | refine Co ?_ (by intro t ht; simp only [Bool.or_eq_false_iff, Bool.and_eq_false_iff, ble_f, beq_f] at ht ⊢; omega))), _, ?_, i + 1, n1 + 1, c117, A116, rfl, rfl, rfl, (H123.sel [1, 2, 3, 4] (by decide) rfl), by omega, by omega⟩
           omega
          ·skip
           refine RL.nil (thn.n (Ag rfl (CW.skip (inB.n (thn.n (CW.region (zm (J (i : Int)) rfl (zg rfl (Ex.add (r := (i : Int) + 1) rfl rfl (Dd (by omega) (by omega))) (za (J ((i : Int) + 1)) rfl (RL.nil (thn.n ?_)))))))))))
           have H124 : Sp [Ar 31 11 A1 n1 c1 (ents (((l.take (i + 1)).filter (fun e => decide (commit < e.num))))), Af b10 33 [(J 0), (J 0), (J 0), (J 0), (.string (⟨#[]⟩)), (J 0), (J 0), (J 0), (J 0), (J 0), (J 0), (J 0), (J 0), (J 0), (J 0), (J 0), (.slice none 0 0)], Af b2 24 [(J k.view), (J k.normal), (J k.base), (.string (tx k.image)), (.slice A n c)], Bd w Bl] w92 := H95.eqR (i := 0) rfl rfl (by rw [filter_snoc he99, if_neg (by simpa using h103), List.append_nil]) rfl
           refine ⟨(by repeat (first | exact Out.mix _ _ | exact Out.refl _ _ | refine Bg ?_ rfl _ | refine Co ?_ (by intro t ht; simp only [Bool.or_eq_false_iff, Bool.and_eq_false_iff, ble_f, beq_f] at ht ⊢; omega))), _, ?_, i + 1, n1, c1, A1, rfl, rfl, rfl, H124, by omega, by omega⟩
           omega
         ·skip
          refine RL.nil (thn.n (Ag rfl (CW.exit (thn.x (thn.x (Bf (thn.n (CW.seq (CW.region (zm (J view) rfl (zm (J commit) rfl (zm (.slice A1 n1 c1) rfl (zg rfl (Cc (cs := [(J 3), (J view), (J commit), (J 0), (.string (⟨#[]⟩)), (J 0), (J 0), (J 0), (J 0), (J 0), (J 0), (J 0), (J 0), (J 0), (J 0), (J 0), (.slice A1 n1 c1)]) bd33 rfl) (RL.st (vs := [(J 3), (J view), (J commit), (J 0), (.string (⟨#[]⟩)), (J 0), (J 0), (J 0), (J 0), (J 0), (J 0), (J 0), (J 0), (J 0), (J 0), (J 0), (.slice A1 n1 c1)]) (cs' := [(J 3), (J view), (J commit), (J 0), (.string (⟨#[]⟩)), (J 0), (J 0), (J 0), (J 0), (J 0), (J 0), (J 0), (J 0), (J 0), (J 0), (J 0), (.slice A1 n1 c1)]) Tryz.sizeOf33 (H95.ob (i := 1) rfl) rfl rfl rfl rfl rfl rfl ?_))))))))))))))
          intro w125 hz126 g127 o128
          have H129 : Sp [Ar 31 11 A1 n1 c1 (ents (((l.take i).filter (fun e => decide (commit < e.num))))), Af b10 33 [(J 3), (J view), (J commit), (J 0), (.string (⟨#[]⟩)), (J 0), (J 0), (J 0), (J 0), (J 0), (J 0), (J 0), (J 0), (J 0), (J 0), (J 0), (.slice A1 n1 c1)], Af b2 24 [(J k.view), (J k.normal), (J k.base), (.string (tx k.image)), (.slice A n c)], Bd w Bl] w125 := H95.setB (i := 1) rfl g127 o128 rfl
          have z130 := g127.size
          refine za (bT) rfl (RL.nil (thn.n (CW.ret (finQ.r (v := (.tuple #[(.agg ([(J 3), (J view), (J commit), (J 0), (.string (⟨#[]⟩)), (J 0), (J 0), (J 0), (J 0), (J 0), (J 0), (J 0), (J 0), (J 0), (J 0), (J 0), (.slice A1 n1 c1)]).toArray), bT])) (Cp rfl (Rv.cell rfl (Ak (cs := [(J 3), (J view), (J commit), (J 0), (.string (⟨#[]⟩)), (J 0), (J 0), (J 0), (J 0), (J 0), (J 0), (J 0), (J 0), (J 0), (J 0), (J 0), (.slice A1 n1 c1)]) wh33 (H129.ob (i := 1) rfl).cl)) (Rv.tmp rfl)) ?_))))
          have hkk : l.take i = l := List.take_of_length_le (by omega)
          rw [hkk, hflt] at H129
          exact ⟨_, _, _, by rw [hx, adoptR_t hx]; rfl, by rw [adoptR_t hx]; exact (H129.sel [0, 3] (by decide) rfl)⟩
end Go.Proofs.YtfokljnhllflbaaGreat
