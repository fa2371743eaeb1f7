/- Part 6 of the proof of ChangeAdopts: R3, Spec24, R4, Spec25, R5, Spec26, R6, Spec17, Spec27, EngClr, EngStW. -/
import Derived.Deep.Quiet
import Derived.Ground.NamesProg
import Derived.Ground.SlgcProg
import Derived.Ground.SlsfProg
import Derived.JoinedOf
import Derived.Laws.BytesString
import Derived.Laws.MakeOwn
import Derived.Laws.Strings
import Derived.Lib.AppendZeros
import Derived.Lib.ConvBytes
import Derived.Lib.Overlaps
import Derived.Maps.AppendAt
import Derived.OrdersHeld
import Derived.ProofKit
import Derived.Recover
import Derived.ScopeJumps
import Derived.Shelf.SlSortCmp.NoneTotal
import Derived.Shelf.SlSortCmp.WholeK
import Derived.Shelf.SlicesG.Cmp
import Derived.Shelf.Small.Bits
import Derived.Sort.OwnSortedInts
import Derived.StillTail
import Derived.Test.YtfokljnhllflbaaGreatProg
import Derived.WalkKit
import Derived.WalkLawsBesides
import Derived.WalkSpells
import Derived.Test.YtfokljnhllflbaaGreatPChangeAdopts4
set_option linter.unusedSimpArgs false
set_option linter.unusedVariables false
namespace Go.Proofs.YtfokljnhllflbaaGreat
open Go Go.Eng Go.RowKit
set_option maxHeartbeats 1000000 in
set_option maxRecDepth 20000 in
theorem rnum_ (w : World) (S : Nat → Prop) (p : Nat) (A : Option Addr) (n c : Nat) (bs : List UInt8) (bd : Bool) (hS : (AllA [BlkA p 213 [.slice A n c, .bool bd]]).ok S w) (hr : RBM w S A n c bs) : Ret Tryz.prog 187 [(.pointer (some ⟨p, 0, none⟩))] w (fun v w' => ∃ (x : Nat) (A' : Option Addr) (n' c' : Nat) (bs' : List UInt8) (b' : Bool), v = .int .i64 (x : Int) ∧ Sp ([BlkA p 213 [.slice A' n' c', .bool b']] ++ [Fix w S]) w' ∧ numF (bs, bd) = ((x : Int), (bs', b')) ∧ InD A n c bs A' n' c' bs' ∧ x ≤ 2147483647) := by
  have H0 := Sp.startL hS
  obtain ⟨hrd, hrn, hrc, hrm⟩ := hr
  have hr : RBM w S A n c bs := ⟨hrd, hrn, hrc, hrm⟩
  have H0 : Sp [BlkA p 213 [.slice A n c, .bool bd], Fix w S] w := H0
  refine Ret.body Tryz.func187 rfl rfl rfl ?_
  refine CW.seq (CW.region (za (.int .i64 0) rfl (RL.nil (thn.n (CW.seq (CW.region (zm (.pointer (some ⟨p, 0, none⟩)) rfl (zg rfl (Ex.nck rfl) (zg rfl (fa213_0 (b := ⟨p, 0, none⟩) rfl rfl) (zl (.slice A n c) lo97 (H0.ob (i := 0) rfl) rfl (RL.call Tryz.call244 (rdNum_ _ _ bs A n c (hrd.rd) (by first | assumption | omega) (by omega)) rfl rfl rfl ?_)))))))))))
  rintro _ w8 (⟨x1, rfl, g9, hrn3, hge4, hle5⟩ | ⟨e2, rfl, g10, hrn6, hne7⟩)
  ·skip
   have H11 := H0.grow g9
   have z12 := g9.size
   refine zm (.tuple #[(.int .i64 (x1 : Int)), (.int .i64 4), (.int .i64 0)]) rfl (zx (.int .i64 (x1 : Int)) rfl (zx (.int .i64 4) rfl (zx (.int .i64 0) rfl (za (.int .i64 (x1 : Int)) rfl (za (.int .i64 4) rfl (za (.int .i64 0) rfl (RL.nil (thn.n (CW.seq (CW.seq (CW.region (zm (.int .i64 0) rfl (zg rfl (Ex.neD (r := false) rfl rfl (by decide)) (RL.nil (thn.n (CW.condF rfl (CW.skip (thn.n (CW.seq (CW.region ?_))))))))))))))))))))
   refine zm (.pointer (some ⟨p, 0, none⟩)) rfl (zm (.pointer (some ⟨p, 0, none⟩)) rfl (zg rfl (Ex.nck rfl) (zg rfl (fa213_0 (b := ⟨p, 0, none⟩) rfl rfl) (zl (.slice A n c) lo97 (H11.ob (i := 0) rfl) rfl (zm (.int .i64 4) rfl (zg rfl (Ex.slLo (i := 4) Tryz.underlying97 Tryz.sizeOf5 rfl rfl (by omega) (by omega) rfl) (zg rfl (Ex.nck rfl) (zg rfl (fa213_0 (b := ⟨p, 0, none⟩) rfl rfl) (RL.st (vs := [(.slice (dropA A c 4 1) (n - 4) (c - 4))]) (cs' := [(.slice (dropA A c 4 1) (n - 4) (c - 4)), (.bool bd)]) Tryz.sizeOf97 (H11.ob (i := 0) rfl) rfl rfl rfl rfl rfl rfl ?_)))))))))
   intro w13 hz14 g15 o16
   have H17 : Sp [BlkA p 213 [(.slice (dropA A c 4 1) (n - 4) (c - 4)), (.bool bd)], Fix w S] w13 := H11.setB (i := 0) rfl g15 o16 rfl
   have z18 := g15.size
   refine RL.nil (thn.n (CW.seq (CW.region (zm (.int .i64 (x1 : Int)) rfl (za (.int .i64 (x1 : Int)) rfl (RL.nil (thn.n (CW.ret (finQ.r (v := (.int .i64 (x1 : Int))) (res1 rfl rfl) ?_)))))))))
   exact ⟨x1, _, _, _, _, bd, rfl, (H17.sel [0, 1] (by decide) rfl), numF_some hrn3, InD.drop (by omega), by omega⟩
  ·skip
   have H19 := H0.grow g10
   have z20 := g10.size
   refine zm (.tuple #[(.int .i64 0), (.int .i64 0), (.int .i64 e2)]) rfl (zx (.int .i64 0) rfl (zx (.int .i64 0) rfl (zx (.int .i64 e2) rfl (za (.int .i64 0) rfl (za (.int .i64 0) rfl (za (.int .i64 e2) rfl (RL.nil (thn.n (CW.seq (CW.seq (CW.region (zm (.int .i64 e2) rfl (zg rfl (Ex.neD (r := true) rfl rfl (decide_eq_true (by omega))) (RL.nil (thn.n (CW.condT rfl (CW.seq (CW.region ?_))))))))))))))))))
   refine zm (.pointer (some ⟨p, 0, none⟩)) rfl (zg rfl (Ex.nck rfl) (zg rfl (fa213_1 (b := ⟨p, 1, none⟩) rfl rfl) (RL.st (vs := [(.bool true)]) (cs' := [(.slice A n c), (.bool true)]) Tryz.sizeOf4 (H19.ob (i := 0) rfl) rfl rfl rfl rfl rfl rfl ?_)))
   intro w21 hz22 g23 o24
   have H25 : Sp [BlkA p 213 [(.slice A n c), (.bool true)], Fix w S] w21 := H19.setB (i := 0) rfl g23 o24 rfl
   have z26 := g23.size
   refine RL.nil (thn.n (CW.seq (CW.region (za (.int .i64 0) rfl (RL.nil (thn.n (CW.ret (thn.r (finQ.r (v := (.int .i64 0)) (res1 rfl rfl) ?_)))))))))
   exact ⟨0, _, _, _, _, true, rfl, (H25.sel [0, 1] (by decide) rfl), numF_none hrn6, InD.refl _ _ _ _, by omega⟩
set_option maxHeartbeats 1000000 in
set_option maxRecDepth 20000 in
theorem rint_ (w : World) (S : Nat → Prop) (p : Nat) (A : Option Addr) (n c : Nat) (bs : List UInt8) (bd : Bool) (hS : (AllA [BlkA p 213 [.slice A n c, .bool bd]]).ok S w) (hr : RBM w S A n c bs) : Ret Tryz.prog 188 [(.pointer (some ⟨p, 0, none⟩))] w (fun v w' => ∃ (x : Int) (A' : Option Addr) (n' c' : Nat) (bs' : List UInt8) (b' : Bool), v = .int .i64 x ∧ Sp ([BlkA p 213 [.slice A' n' c', .bool b']] ++ [Fix w S]) w' ∧ intF (bs, bd) = (x, (bs', b')) ∧ InD A n c bs A' n' c' bs') := by
  have H0 := Sp.startL hS
  obtain ⟨hrd, hrn, hrc, hrm⟩ := hr
  have hr : RBM w S A n c bs := ⟨hrd, hrn, hrc, hrm⟩
  have H0 : Sp [BlkA p 213 [.slice A n c, .bool bd], Fix w S] w := H0
  refine Ret.body Tryz.func188 rfl rfl rfl ?_
  refine CW.seq (CW.region (za (.int .i64 0) rfl (RL.nil (thn.n (CW.seq (CW.region (zm (.pointer (some ⟨p, 0, none⟩)) rfl (zg rfl (Ex.nck rfl) (zg rfl (fa213_0 (b := ⟨p, 0, none⟩) rfl rfl) (zl (.slice A n c) lo97 (H0.ob (i := 0) rfl) rfl (RL.call Tryz.call247 (rdInt_ _ _ bs A n c (hrd.rd) (by first | assumption | omega) (by omega)) rfl rfl rfl ?_)))))))))))
  rintro _ w7 (⟨x1, rfl, g8, hrn3, hge4⟩ | ⟨e2, rfl, g9, hrn5, hne6⟩)
  ·skip
   have H10 := H0.grow g8
   have z11 := g8.size
   refine zm (.tuple #[(.int .i64 x1), (.int .i64 8), (.int .i64 0)]) rfl (zx (.int .i64 x1) rfl (zx (.int .i64 8) rfl (zx (.int .i64 0) rfl (za (.int .i64 x1) rfl (za (.int .i64 8) rfl (za (.int .i64 0) rfl (RL.nil (thn.n (CW.seq (CW.seq (CW.region (zm (.int .i64 0) rfl (zg rfl (Ex.neD (r := false) rfl rfl (by decide)) (RL.nil (thn.n (CW.condF rfl (CW.skip (thn.n (CW.seq (CW.region ?_))))))))))))))))))))
   refine zm (.pointer (some ⟨p, 0, none⟩)) rfl (zm (.pointer (some ⟨p, 0, none⟩)) rfl (zg rfl (Ex.nck rfl) (zg rfl (fa213_0 (b := ⟨p, 0, none⟩) rfl rfl) (zl (.slice A n c) lo97 (H10.ob (i := 0) rfl) rfl (zm (.int .i64 8) rfl (zg rfl (Ex.slLo (i := 8) Tryz.underlying97 Tryz.sizeOf5 rfl rfl (by omega) (by omega) rfl) (zg rfl (Ex.nck rfl) (zg rfl (fa213_0 (b := ⟨p, 0, none⟩) rfl rfl) (RL.st (vs := [(.slice (dropA A c 8 1) (n - 8) (c - 8))]) (cs' := [(.slice (dropA A c 8 1) (n - 8) (c - 8)), (.bool bd)]) Tryz.sizeOf97 (H10.ob (i := 0) rfl) rfl rfl rfl rfl rfl rfl ?_)))))))))
   intro w12 hz13 g14 o15
   have H16 : Sp [BlkA p 213 [(.slice (dropA A c 8 1) (n - 8) (c - 8)), (.bool bd)], Fix w S] w12 := H10.setB (i := 0) rfl g14 o15 rfl
   have z17 := g14.size
   refine RL.nil (thn.n (CW.seq (CW.region (zm (.int .i64 x1) rfl (za (.int .i64 x1) rfl (RL.nil (thn.n (CW.ret (finQ.r (v := (.int .i64 x1)) (res1 rfl rfl) ?_)))))))))
   exact ⟨x1, _, _, _, _, bd, rfl, (H16.sel [0, 1] (by decide) rfl), intF_some hrn3, InD.drop (by omega)⟩
  ·skip
   have H18 := H0.grow g9
   have z19 := g9.size
   refine zm (.tuple #[(.int .i64 0), (.int .i64 0), (.int .i64 e2)]) rfl (zx (.int .i64 0) rfl (zx (.int .i64 0) rfl (zx (.int .i64 e2) rfl (za (.int .i64 0) rfl (za (.int .i64 0) rfl (za (.int .i64 e2) rfl (RL.nil (thn.n (CW.seq (CW.seq (CW.region (zm (.int .i64 e2) rfl (zg rfl (Ex.neD (r := true) rfl rfl (decide_eq_true (by omega))) (RL.nil (thn.n (CW.condT rfl (CW.seq (CW.region ?_))))))))))))))))))
   refine zm (.pointer (some ⟨p, 0, none⟩)) rfl (zg rfl (Ex.nck rfl) (zg rfl (fa213_1 (b := ⟨p, 1, none⟩) rfl rfl) (RL.st (vs := [(.bool true)]) (cs' := [(.slice A n c), (.bool true)]) Tryz.sizeOf4 (H18.ob (i := 0) rfl) rfl rfl rfl rfl rfl rfl ?_)))
   intro w20 hz21 g22 o23
   have H24 : Sp [BlkA p 213 [(.slice A n c), (.bool true)], Fix w S] w20 := H18.setB (i := 0) rfl g22 o23 rfl
   have z25 := g22.size
   refine RL.nil (thn.n (CW.seq (CW.region (za (.int .i64 0) rfl (RL.nil (thn.n (CW.ret (thn.r (finQ.r (v := (.int .i64 0)) (res1 rfl rfl) ?_)))))))))
   exact ⟨0, _, _, _, _, true, rfl, (H24.sel [0, 1] (by decide) rfl), intF_none hrn5, InD.refl _ _ _ _⟩
set_option maxHeartbeats 2000000 in
set_option maxRecDepth 20000 in
theorem robj_ (w : World) (S : Nat → Prop) (p : Nat) (A : Option Addr) (n c : Nat) (bs : List UInt8) (bd : Bool) (hS : (AllA [BlkA p 213 [.slice A n c, .bool bd]]).ok S w) (hr : RBM w S A n c bs) : Ret Tryz.prog 245 [(.pointer (some ⟨p, 0, none⟩))] w (fun v w' => ∃ (o : Eng.Obj) (Aw : Option Addr) (nw cw : Nat) (Al : Option Addr) (nl cl : Nat) (A' : Option Addr) (n' c' : Nat) (bs' : List UInt8) (b' : Bool), v = .agg #[.int .i64 o.handle, .int .i64 o.blk.at_, .int .i64 o.blk.ord, .slice Aw nw cw, .slice Al nl cl] ∧ Sp ([BlkA p 213 [.slice A' n' c', .bool b'], RowA 3 1 Aw nw cw (ics o.words), RowA 3 1 Al nl cl (ics o.links)] ++ [Fix w S]) w' ∧ objF (bs, bd) = (o, (bs', b')) ∧ InD A n c bs A' n' c' bs' ∧ nw ≤ 140737488351232 ∧ nl ≤ 140737488351232) := by
  have H0 := Sp.startL hS
  obtain ⟨hrd, hrn, hrc, hrm⟩ := hr
  have hr : RBM w S A n c bs := ⟨hrd, hrn, hrc, hrm⟩
  have H0 : Sp [BlkA p 213 [.slice A n c, .bool bd], Fix w S] w := H0
  refine Ret.body Tryz.func245 rfl rfl rfl ?_
  refine CW.seq (CW.region (RL.al (cs := [(.int .i64 0), (.int .i64 0), (.int .i64 0), (.slice none 0 0), (.slice none 0 0)]) Tryz.zeroValue136 rfl rfl rfl ?_))
  intro w1 b2 hb3 hz4 g5 o6
  have H7 := H0.newB g5 o6 (by omega)
  have z8 := g5.size
  refine RL.nil (thn.n (CW.seq (CW.region (zg rfl (Ex.bd (cs := [(.int .i64 0), (.int .i64 0), (.int .i64 0), (.slice none 0 0), (.slice none 0 0)]) bd136 rfl) (RL.al (cs := [(.int .i64 0), (.int .i64 0), (.int .i64 0), (.slice none 0 0), (.slice none 0 0)]) Tryz.zeroValue136 rfl rfl rfl ?_)))))
  intro w9 b10 hb11 hz12 g13 o14
  have H15 := H7.newB g13 o14 (by omega)
  have z16 := g13.size
  refine RL.st (vs := [(.int .i64 0), (.int .i64 0), (.int .i64 0), (.slice none 0 0), (.slice none 0 0)]) (cs' := [(.int .i64 0), (.int .i64 0), (.int .i64 0), (.slice none 0 0), (.slice none 0 0)]) Tryz.sizeOf136 (H15.ob (i := 0) rfl) rfl rfl rfl rfl rfl rfl ?_
  intro w17 hz18 g19 o20
  have H21 : Sp [BlkA b10 136 [(.int .i64 0), (.int .i64 0), (.int .i64 0), (.slice none 0 0), (.slice none 0 0)], BlkA b2 136 [(.int .i64 0), (.int .i64 0), (.int .i64 0), (.slice none 0 0), (.slice none 0 0)], BlkA p 213 [.slice A n c, .bool bd], Fix w S] w17 := H15.setB (i := 0) rfl g19 o20 rfl
  have z22 := g19.size
  refine RL.nil (thn.n (CW.seq (CW.region (zm (.pointer (some ⟨p, 0, none⟩)) rfl ?_))))
  obtain ⟨S33, hS34, hO35, K36⟩ := Sp.takeL (l1 := [BlkA p 213 [.slice A n c, .bool bd]]) (l2 := [BlkA b10 136 [(.int .i64 0), (.int .i64 0), (.int .i64 0), (.slice none 0 0), (.slice none 0 0)], BlkA b2 136 [(.int .i64 0), (.int .i64 0), (.int .i64 0), (.slice none 0 0), (.slice none 0 0)], Fix w S]) (w := w17) (H21.sel [2, 0, 1, 3] (by decide) rfl)
  refine RL.call Tryz.call187 (rnum_ _ S33 p A n c bs bd hS34 ⟨(RdN.of_fixM hO35 (j := 2) rfl hrd), hr.2⟩) rfl rfl rfl ?_
  rintro _ w37 ⟨x23, A24, n25, c26, bs27, bq28, rfl, g38, hnum29, hind30, hxle31⟩
  have H39 : Sp [BlkA p 213 [.slice A24 n25 c26, .bool bq28], BlkA b10 136 [(.int .i64 0), (.int .i64 0), (.int .i64 0), (.slice none 0 0), (.slice none 0 0)], BlkA b2 136 [(.int .i64 0), (.int .i64 0), (.int .i64 0), (.slice none 0 0), (.slice none 0 0)], Fix w S] w37 := K36 _ _ g38
  have z40 := (H39.chg (i := 3) rfl).size
  have hq32 := hind30.m _ _ hr
  refine zg rfl (fa136_0 (b := ⟨b10, 0, none⟩) rfl rfl) (RL.st (vs := [(.int .i64 (x23 : Int))]) (cs' := [(.int .i64 (x23 : Int)), (.int .i64 0), (.int .i64 0), (.slice none 0 0), (.slice none 0 0)]) Tryz.sizeOf3 (H39.ob (i := 1) rfl) rfl rfl rfl rfl rfl rfl ?_)
  intro w41 hz42 g43 o44
  have H45 : Sp [BlkA p 213 [.slice A24 n25 c26, .bool bq28], BlkA b10 136 [(.int .i64 (x23 : Int)), (.int .i64 0), (.int .i64 0), (.slice none 0 0), (.slice none 0 0)], BlkA b2 136 [(.int .i64 0), (.int .i64 0), (.int .i64 0), (.slice none 0 0), (.slice none 0 0)], Fix w S] w41 := H39.setB (i := 1) rfl g43 o44 rfl
  have z46 := g43.size
  refine RL.nil (thn.n (CW.seq (CW.region (zm (.pointer (some ⟨p, 0, none⟩)) rfl ?_))))
  obtain ⟨S57, hS58, hO59, K60⟩ := H45.takeN 1
  refine RL.call Tryz.call187 (rnum_ _ S57 p A24 n25 c26 bs27 bq28 hS58 ⟨(RdN.of_fixM hO59 (j := 2) rfl hq32.1), hq32.2⟩) rfl rfl rfl ?_
  rintro _ w61 ⟨x47, A48, n49, c50, bs51, bq52, rfl, g62, hnum53, hind54, hxle55⟩
  have H63 : Sp [BlkA p 213 [.slice A48 n49 c50, .bool bq52], BlkA b10 136 [(.int .i64 (x23 : Int)), (.int .i64 0), (.int .i64 0), (.slice none 0 0), (.slice none 0 0)], BlkA b2 136 [(.int .i64 0), (.int .i64 0), (.int .i64 0), (.slice none 0 0), (.slice none 0 0)], Fix w S] w61 := K60 _ _ g62
  have z65 := (H63.chg (i := 3) rfl).size
  have hq56 := hind54.m _ _ hq32
  refine zg rfl (fa136_1 (b := ⟨b10, 1, none⟩) rfl rfl) (zg rfl (fa133_0 (b := ⟨b10, 1, none⟩) rfl rfl) (RL.st (vs := [(.int .i64 (x47 : Int))]) (cs' := [(.int .i64 (x23 : Int)), (.int .i64 (x47 : Int)), (.int .i64 0), (.slice none 0 0), (.slice none 0 0)]) Tryz.sizeOf3 (H63.ob (i := 1) rfl) rfl rfl rfl rfl rfl rfl ?_))
  intro w66 hz67 g68 o69
  have H70 : Sp [BlkA p 213 [.slice A48 n49 c50, .bool bq52], BlkA b10 136 [(.int .i64 (x23 : Int)), (.int .i64 (x47 : Int)), (.int .i64 0), (.slice none 0 0), (.slice none 0 0)], BlkA b2 136 [(.int .i64 0), (.int .i64 0), (.int .i64 0), (.slice none 0 0), (.slice none 0 0)], Fix w S] w66 := H63.setB (i := 1) rfl g68 o69 rfl
  have z71 := g68.size
  refine RL.nil (thn.n (CW.seq (CW.region (zm (.pointer (some ⟨p, 0, none⟩)) rfl ?_))))
  obtain ⟨S82, hS83, hO84, K85⟩ := H70.takeN 1
  refine RL.call Tryz.call187 (rnum_ _ S82 p A48 n49 c50 bs51 bq52 hS83 ⟨(RdN.of_fixM hO84 (j := 2) rfl hq56.1), hq56.2⟩) rfl rfl rfl ?_
  rintro _ w86 ⟨x72, A73, n74, c75, bs76, bq77, rfl, g87, hnum78, hind79, hxle80⟩
  have H88 : Sp [BlkA p 213 [.slice A73 n74 c75, .bool bq77], BlkA b10 136 [(.int .i64 (x23 : Int)), (.int .i64 (x47 : Int)), (.int .i64 0), (.slice none 0 0), (.slice none 0 0)], BlkA b2 136 [(.int .i64 0), (.int .i64 0), (.int .i64 0), (.slice none 0 0), (.slice none 0 0)], Fix w S] w86 := K85 _ _ g87
  have z89 := (H88.chg (i := 3) rfl).size
  have hq81 := hind79.m _ _ hq56
  refine za (.int .i64 (x72 : Int)) rfl (RL.nil (thn.n (CW.seq (CW.region (zm (.pointer (some ⟨p, 0, none⟩)) rfl ?_)))))
  obtain ⟨S100, hS101, hO102, K103⟩ := H88.takeN 1
  refine RL.call Tryz.call187 (rnum_ _ S100 p A73 n74 c75 bs76 bq77 hS101 ⟨(RdN.of_fixM hO102 (j := 2) rfl hq81.1), hq81.2⟩) rfl rfl rfl ?_
  rintro _ w104 ⟨x90, A91, n92, c93, bs94, bq95, rfl, g105, hnum96, hind97, hxle98⟩
  have H106 : Sp [BlkA p 213 [.slice A91 n92 c93, .bool bq95], BlkA b10 136 [(.int .i64 (x23 : Int)), (.int .i64 (x47 : Int)), (.int .i64 0), (.slice none 0 0), (.slice none 0 0)], BlkA b2 136 [(.int .i64 0), (.int .i64 0), (.int .i64 0), (.slice none 0 0), (.slice none 0 0)], Fix w S] w104 := K103 _ _ g105
  have z107 := (H106.chg (i := 3) rfl).size
  have hq99 := hind97.m _ _ hq81
  refine za (.int .i64 (x90 : Int)) rfl (RL.nil (thn.n (CW.seq (CW.region (zm (.int .i64 (x72 : Int)) rfl (zm (.int .i64 (x90 : Int)) rfl ?_))))))
  have hnb108 := needI_bd ((x72 : Int) : Int) ((x90 : Int) : Int)
  refine RL.call Tryz.call223 (needR_ _ ((x72 : Int) : Int) ((x90 : Int) : Int)) rfl rfl rfl ?_
  rintro _ w109 ⟨rfl, g110⟩
  have H111 := H106.grow g110
  have z112 := g110.size
  refine zg rfl (fa136_1 (b := ⟨b10, 1, none⟩) rfl rfl) (zg rfl (fa133_1 (b := ⟨b10, 2, none⟩) rfl rfl) (RL.st (vs := [(.int .i64 ((needI ((x72 : Int) : Int) ((x90 : Int) : Int))))]) (cs' := [(.int .i64 (x23 : Int)), (.int .i64 (x47 : Int)), (.int .i64 ((needI ((x72 : Int) : Int) ((x90 : Int) : Int)))), (.slice none 0 0), (.slice none 0 0)]) Tryz.sizeOf3 (H111.ob (i := 1) rfl) rfl rfl rfl rfl rfl rfl ?_))
  intro w113 hz114 g115 o116
  have H117 : Sp [BlkA p 213 [.slice A91 n92 c93, .bool bq95], BlkA b10 136 [(.int .i64 (x23 : Int)), (.int .i64 (x47 : Int)), (.int .i64 ((needI ((x72 : Int) : Int) ((x90 : Int) : Int)))), (.slice none 0 0), (.slice none 0 0)], BlkA b2 136 [(.int .i64 0), (.int .i64 0), (.int .i64 0), (.slice none 0 0), (.slice none 0 0)], Fix w S] w113 := H111.setB (i := 1) rfl g115 o116 rfl
  have z118 := g115.size
  refine RL.nil (thn.n (CW.seq (CW.seq (CW.region ?_))))
  have hnrg := fun h => needI_rng (a := (x72 : Int)) (b := (x90 : Int)) h
  refine zg rfl (fa136_1 (b := ⟨b10, 1, none⟩) rfl rfl) (zg rfl (fa133_1 (b := ⟨b10, 2, none⟩) rfl rfl) (zl (.int .i64 ((needI ((x72 : Int) : Int) ((x90 : Int) : Int)))) lo3 (H117.ob (i := 1) rfl) rfl ?_))
  refine RL.br (p := ((needI ((x72 : Int) : Int) ((x90 : Int) : Int)) : Int) < (0 : Int)) rfl rfl rfl (fun r hr => Ex.lt rfl rfl hr) (fun h119 => ?_) (fun h119 => ?_)
  ·skip
   refine RL.nil (thn.n (CW.condT rfl (CW.seq (CW.region (zm (.pointer (some ⟨p, 0, none⟩)) rfl (zg rfl (Ex.nck rfl) (zg rfl (fa213_1 (b := ⟨p, 1, none⟩) rfl rfl) (RL.st (vs := [(.bool true)]) (cs' := [(.slice A91 n92 c93), (.bool true)]) Tryz.sizeOf4 (H117.ob (i := 0) rfl) rfl rfl rfl rfl rfl rfl ?_))))))))
   intro w120 hz121 g122 o123
   have H124 : Sp [BlkA p 213 [(.slice A91 n92 c93), (.bool true)], BlkA b10 136 [(.int .i64 (x23 : Int)), (.int .i64 (x47 : Int)), (.int .i64 ((needI ((x72 : Int) : Int) ((x90 : Int) : Int)))), (.slice none 0 0), (.slice none 0 0)], BlkA b2 136 [(.int .i64 0), (.int .i64 0), (.int .i64 0), (.slice none 0 0), (.slice none 0 0)], Fix w S] w120 := H117.setB (i := 0) rfl g122 o123 rfl
   have z125 := g122.size
   refine RL.nil (thn.n (CW.seq (CW.region (zg rfl (Ex.ldv rfl (loadCN (cs := [(.int .i64 (x23 : Int)), (.int .i64 (x47 : Int)), (.int .i64 ((needI ((x72 : Int) : Int) ((x90 : Int) : Int)))), (.slice none 0 0), (.slice none 0 0)]) wh136 (H124.ob (i := 1) rfl).cl)) (RL.st (vs := [(.int .i64 (x23 : Int)), (.int .i64 (x47 : Int)), (.int .i64 ((needI ((x72 : Int) : Int) ((x90 : Int) : Int)))), (.slice none 0 0), (.slice none 0 0)]) (cs' := [(.int .i64 (x23 : Int)), (.int .i64 (x47 : Int)), (.int .i64 ((needI ((x72 : Int) : Int) ((x90 : Int) : Int)))), (.slice none 0 0), (.slice none 0 0)]) Tryz.sizeOf136 (H124.ob (i := 2) rfl) rfl rfl rfl rfl rfl rfl ?_)))))
   intro w126 hz127 g128 o129
   have H130 : Sp [BlkA p 213 [(.slice A91 n92 c93), (.bool true)], BlkA b10 136 [(.int .i64 (x23 : Int)), (.int .i64 (x47 : Int)), (.int .i64 ((needI ((x72 : Int) : Int) ((x90 : Int) : Int)))), (.slice none 0 0), (.slice none 0 0)], BlkA b2 136 [(.int .i64 (x23 : Int)), (.int .i64 (x47 : Int)), (.int .i64 ((needI ((x72 : Int) : Int) ((x90 : Int) : Int)))), (.slice none 0 0), (.slice none 0 0)], Fix w S] w126 := H124.setB (i := 2) rfl g128 o129 rfl
   have z131 := g128.size
   refine RL.nil (thn.n (CW.ret (thn.r (finQ.r (v := (.agg ([(.int .i64 (x23 : Int)), (.int .i64 (x47 : Int)), (.int .i64 ((needI ((x72 : Int) : Int) ((x90 : Int) : Int)))), (.slice none 0 0), (.slice none 0 0)]).toArray)) (resv1 rfl (Rv.cell rfl (loadCN (cs := [(.int .i64 (x23 : Int)), (.int .i64 (x47 : Int)), (.int .i64 ((needI ((x72 : Int) : Int) ((x90 : Int) : Int)))), (.slice none 0 0), (.slice none 0 0)]) wh136 (H130.ob (i := 2) rfl).cl))) ?_))))
   have H132 := H130.nil_ 3 1
   have H133 := H132.nil_ 3 1
   exact ⟨_, none, 0, 0, none, 0, 0, _, _, _, _, _, rfl, (H133.sel [2, 0, 1, 5] (by decide) rfl), objF_no hnum29 hnum53 hnum78 hnum96 h119, ((hind30.trans hind54).trans (hind79.trans hind97)), by omega, by omega⟩
  ·skip
   refine RL.nil (thn.n (CW.condF rfl (CW.skip (thn.n (CW.seq (CW.seq (CW.region ?_)))))))
   have hnr2 := hnrg (by omega)
   refine za (.int .i64 0) rfl (RL.nil (thn.n (CW.block ?_)))
   have H134 := H117.nil_ 3 1
   refine CW.loop (fun t => (Nat.ble 6 t && Nat.ble t 7) || (Nat.ble 35 t && Nat.ble t 47)) (fun nL ρ wl => ∃ (k0 nw0 cw0 n0 c0 : Nat) (Aw0 A0 : Option Addr) (l0 : List Int) (bs0 : List UInt8) (b0 : Bool), ρ 6 = (.int .i64 (k0 : Int)) ∧ nL = x72 - k0 ∧ Sp [RowA 3 1 Aw0 nw0 cw0 (ics l0), BlkA p 213 [.slice A0 n0 c0, .bool b0], BlkA b10 136 [(.int .i64 (x23 : Int)), (.int .i64 (x47 : Int)), (.int .i64 ((needI ((x72 : Int) : Int) ((x90 : Int) : Int)))), (.slice Aw0 nw0 cw0), (.slice none 0 0)], BlkA b2 136 [(.int .i64 0), (.int .i64 0), (.int .i64 0), (.slice none 0 0), (.slice none 0 0)], Fix w S] wl ∧ k0 ≤ x72 ∧ manyF intF k0 (bs94, bq95) = (l0, (bs0, b0)) ∧ nw0 = k0 ∧ InD A91 n92 c93 bs94 A0 n0 c0 bs0) (x72) ?aa0 ?bb0
   case aa0 =>
    exact ⟨0, 0, 0, n92, c93, none, A91, [], bs94, bq95, rfl, rfl, H134, Nat.zero_le _, rfl, rfl, InD.refl _ _ _ _⟩
   case bb0 =>
    rintro n136 ρ0 w135 ho137 ⟨k0, nw0, cw0, n0, c0, Aw0, A0, l0, bs0, b0, hs0_6, hn0, H138, hk0, hmy0, hnw0, hin0⟩
    obtain ⟨j0, rfl⟩ := ho137.shape1 hs0_6
    clear ho137 hs0_6
    subst hn0
    have z139 := (H138.chg (i := 4) rfl).size
    have hqi0 := hin0.m _ _ hq99
    refine CW.seq (CW.seq (CW.region (zm (.int .i64 (k0 : Int)) rfl (zm (.int .i64 (x72 : Int)) rfl ?_))))
    refine RL.br (p := ((k0 : Int) : Int) < ((x72 : Int) : Int)) rfl rfl rfl (fun r hr => Ex.lt rfl rfl hr) (fun h140 => ?_) (fun h140 => ?_)
    ·skip
     refine RL.nil (thn.n (CW.condT rfl (CW.skip (thn.n (CW.seq (CW.block (CW.seq (CW.region (zm (.pointer (some ⟨p, 0, none⟩)) rfl ?_)))))))))
     obtain ⟨S151, hS152, hO153, K154⟩ := Sp.takeL (l1 := [BlkA p 213 [.slice A0 n0 c0, .bool b0]]) (l2 := [RowA 3 1 Aw0 nw0 cw0 (ics l0), BlkA b10 136 [(.int .i64 (x23 : Int)), (.int .i64 (x47 : Int)), (.int .i64 ((needI ((x72 : Int) : Int) ((x90 : Int) : Int)))), (.slice Aw0 nw0 cw0), (.slice none 0 0)], BlkA b2 136 [(.int .i64 0), (.int .i64 0), (.int .i64 0), (.slice none 0 0), (.slice none 0 0)], Fix w S]) (w := w135) (H138.sel [1, 0, 2, 3, 4] (by decide) rfl)
     refine RL.call Tryz.call188 (rint_ _ S151 p A0 n0 c0 bs0 b0 hS152 ⟨(RdN.of_fixM hO153 (j := 3) rfl hqi0.1), hqi0.2⟩) rfl rfl rfl ?_
     rintro _ w155 ⟨x141, A142, n143, c144, bs145, bq146, rfl, g156, hnum147, hind148⟩
     have H157 : Sp [BlkA p 213 [.slice A142 n143 c144, .bool bq146], RowA 3 1 Aw0 nw0 cw0 (ics l0), BlkA b10 136 [(.int .i64 (x23 : Int)), (.int .i64 (x47 : Int)), (.int .i64 ((needI ((x72 : Int) : Int) ((x90 : Int) : Int)))), (.slice Aw0 nw0 cw0), (.slice none 0 0)], BlkA b2 136 [(.int .i64 0), (.int .i64 0), (.int .i64 0), (.slice none 0 0), (.slice none 0 0)], Fix w S] w155 := K154 _ _ g156
     have z158 := (H157.chg (i := 4) rfl).size
     have hq150 := hind148.m _ _ hqi0
     refine za (.int .i64 x141) rfl (RL.nil (thn.n (CW.region (zg rfl (fa136_2 (b := ⟨b10, 3, none⟩) rfl rfl) (zl (.slice Aw0 nw0 cw0) lo134 (H157.ob (i := 2) rfl) rfl (zm (.int .i64 x141) rfl (RL.bs (cs := [(.int .i64 x141)]) Tryz.underlying134 Tryz.sizeOf3 ze134 rfl rfl rfl (by decide) rfl rfl rfl ?_)))))))
     intro w159 b160 hb161 hz162 g163 o164
     have H165 := H157.newB g163 o164 (by omega)
     have z166 := g163.size
     refine RL.apW (base := 0) (xss := (ics l0)) (yss := (ics ([x141]))) el134 (H165.wr (i := 2) rfl) rfl (Ob.rd1 (H165.ob (i := 0) rfl) rfl) rfl (by simp only [bcs_length, ics_length, rows_length, blks_length, robjs_length, ents_length, List.length_append, List.length_cons, List.length_nil, List.length_take, List.length_drop, List.length_map, enc4, enc8, encN_len, encW_len, recsE_length]; try omega) (ics_one _) (by omega) (by omega) (by omega) rfl rfl ?_
     intro w167 A168 c169 g170 ow171 nx172
     have H173 : Sp [BlkA b160 3 [(.int .i64 x141)], BlkA p 213 [.slice A142 n143 c144, .bool bq146], RowA 3 1 A168 (nw0 + 1) c169 (ics (l0 ++ [x141])), BlkA b10 136 [(.int .i64 (x23 : Int)), (.int .i64 (x47 : Int)), (.int .i64 ((needI ((x72 : Int) : Int) ((x90 : Int) : Int)))), (.slice Aw0 nw0 cw0), (.slice none 0 0)], BlkA b2 136 [(.int .i64 0), (.int .i64 0), (.int .i64 0), (.slice none 0 0), (.slice none 0 0)], Fix w S] w167 := H165.setR (i := 2) rfl g170 ((ics_app _ _).symm ▸ ow171) nx172 rfl
     have z174 := g170.size
     refine zg rfl (fa136_2 (b := ⟨b10, 3, none⟩) rfl rfl) (RL.st (vs := [(.slice A168 (nw0 + 1) c169)]) (cs' := [(.int .i64 (x23 : Int)), (.int .i64 (x47 : Int)), (.int .i64 ((needI ((x72 : Int) : Int) ((x90 : Int) : Int)))), (.slice A168 (nw0 + 1) c169), (.slice none 0 0)]) Tryz.sizeOf134 (H173.ob (i := 3) rfl) rfl rfl rfl rfl rfl rfl ?_)
     intro w175 hz176 g177 o178
     have H179 : Sp [BlkA b160 3 [(.int .i64 x141)], BlkA p 213 [.slice A142 n143 c144, .bool bq146], RowA 3 1 A168 (nw0 + 1) c169 (ics (l0 ++ [x141])), BlkA b10 136 [(.int .i64 (x23 : Int)), (.int .i64 (x47 : Int)), (.int .i64 ((needI ((x72 : Int) : Int) ((x90 : Int) : Int)))), (.slice A168 (nw0 + 1) c169), (.slice none 0 0)], BlkA b2 136 [(.int .i64 0), (.int .i64 0), (.int .i64 0), (.slice none 0 0), (.slice none 0 0)], Fix w S] w175 := H173.setB (i := 3) rfl g177 o178 rfl
     have z180 := g177.size
     refine RL.nil (inB.n (thn.n (CW.region (zm (.int .i64 (k0 : Int)) rfl (zg rfl (Ex.add (r := (k0 : Int) + 1) rfl rfl (w64 (by omega) (by omega))) (za (.int .i64 ((k0 : Int) + 1)) rfl (RL.nil (thn.n ?_))))))))
     refine ⟨(by repeat (first | exact Out.mix _ _ | exact Out.refl _ _ | refine Out.up ?_ rfl _ | refine Out.mixIn ?_ (by intro t ht; simp only [Bool.or_eq_false_iff, Bool.and_eq_false_iff, ble_f, beq_f] at ht ⊢; omega))), _, ?_, k0 + 1, nw0 + 1, c169, n143, c144, A168, A142, l0 ++ [x141], bs145, bq146, rfl, rfl, (H179.sel [2, 1, 3, 4, 5] (by decide) rfl), by omega, manyF_go hmy0 hnum147, by omega, hin0.trans hind148⟩
     omega
    ·skip
     refine RL.nil (thn.n (CW.condF rfl (CW.exit (thn.x (thn.x (inB.hit (thn.n (CW.seq (CW.seq (CW.region (za (.int .i64 0) rfl (RL.nil (thn.n (CW.block ?_))))))))))))))
     have H181 := H138.nil_ 3 1
     refine CW.loop (fun t => (Nat.ble 8 t && Nat.ble t 9) || (Nat.ble 48 t && Nat.ble t 60)) (fun nL ρ wl => ∃ (k1 nw1 cw1 n1 c1 : Nat) (Aw1 A1 : Option Addr) (l1 : List Int) (bs1 : List UInt8) (b1 : Bool), ρ 8 = (.int .i64 (k1 : Int)) ∧ nL = x90 - k1 ∧ Sp [RowA 3 1 Aw1 nw1 cw1 (ics l1), RowA 3 1 Aw0 nw0 cw0 (ics l0), BlkA p 213 [.slice A1 n1 c1, .bool b1], BlkA b10 136 [(.int .i64 (x23 : Int)), (.int .i64 (x47 : Int)), (.int .i64 ((needI ((x72 : Int) : Int) ((x90 : Int) : Int)))), (.slice Aw0 nw0 cw0), (.slice Aw1 nw1 cw1)], BlkA b2 136 [(.int .i64 0), (.int .i64 0), (.int .i64 0), (.slice none 0 0), (.slice none 0 0)], Fix w S] wl ∧ k1 ≤ x90 ∧ manyF numF k1 (bs0, b0) = (l1, (bs1, b1)) ∧ nw1 = k1 ∧ InD A0 n0 c0 bs0 A1 n1 c1 bs1) (x90) ?aa1 ?bb1
     case aa1 =>
      exact ⟨0, 0, 0, n0, c0, none, A0, [], bs0, b0, rfl, rfl, H181, Nat.zero_le _, rfl, rfl, InD.refl _ _ _ _⟩
     case bb1 =>
      rintro n183 ρ1 w182 ho184 ⟨k1, nw1, cw1, n1, c1, Aw1, A1, l1, bs1, b1, hs1_8, hn1, H185, hk1, hmy1, hnw1, hin1⟩
      obtain ⟨j1, rfl⟩ := ho184.shape1 hs1_8
      clear ho184 hs1_8
      subst hn1
      have z186 := (H185.chg (i := 5) rfl).size
      have hqi1 := hin1.m _ _ hqi0
      refine CW.seq (CW.seq (CW.region (zm (.int .i64 (k1 : Int)) rfl (zm (.int .i64 (x90 : Int)) rfl ?_))))
      refine RL.br (p := ((k1 : Int) : Int) < ((x90 : Int) : Int)) rfl rfl rfl (fun r hr => Ex.lt rfl rfl hr) (fun h187 => ?_) (fun h187 => ?_)
      ·skip
       refine RL.nil (thn.n (CW.condT rfl (CW.skip (thn.n (CW.seq (CW.block (CW.seq (CW.region (zm (.pointer (some ⟨p, 0, none⟩)) rfl ?_)))))))))
       obtain ⟨S198, hS199, hO200, K201⟩ := Sp.takeL (l1 := [BlkA p 213 [.slice A1 n1 c1, .bool b1]]) (l2 := [RowA 3 1 Aw1 nw1 cw1 (ics l1), RowA 3 1 Aw0 nw0 cw0 (ics l0), BlkA b10 136 [(.int .i64 (x23 : Int)), (.int .i64 (x47 : Int)), (.int .i64 ((needI ((x72 : Int) : Int) ((x90 : Int) : Int)))), (.slice Aw0 nw0 cw0), (.slice Aw1 nw1 cw1)], BlkA b2 136 [(.int .i64 0), (.int .i64 0), (.int .i64 0), (.slice none 0 0), (.slice none 0 0)], Fix w S]) (w := w182) (H185.sel [2, 0, 1, 3, 4, 5] (by decide) rfl)
       refine RL.call Tryz.call187 (rnum_ _ S198 p A1 n1 c1 bs1 b1 hS199 ⟨(RdN.of_fixM hO200 (j := 4) rfl hqi1.1), hqi1.2⟩) rfl rfl rfl ?_
       rintro _ w202 ⟨x188, A189, n190, c191, bs192, bq193, rfl, g203, hnum194, hind195, hxle196⟩
       have H204 : Sp [BlkA p 213 [.slice A189 n190 c191, .bool bq193], RowA 3 1 Aw1 nw1 cw1 (ics l1), RowA 3 1 Aw0 nw0 cw0 (ics l0), BlkA b10 136 [(.int .i64 (x23 : Int)), (.int .i64 (x47 : Int)), (.int .i64 ((needI ((x72 : Int) : Int) ((x90 : Int) : Int)))), (.slice Aw0 nw0 cw0), (.slice Aw1 nw1 cw1)], BlkA b2 136 [(.int .i64 0), (.int .i64 0), (.int .i64 0), (.slice none 0 0), (.slice none 0 0)], Fix w S] w202 := K201 _ _ g203
       have z205 := (H204.chg (i := 5) rfl).size
       have hq197 := hind195.m _ _ hqi1
       refine za (.int .i64 (x188 : Int)) rfl (RL.nil (thn.n (CW.region (zg rfl (fa136_3 (b := ⟨b10, 4, none⟩) rfl rfl) (zl (.slice Aw1 nw1 cw1) lo134 (H204.ob (i := 3) rfl) rfl (zm (.int .i64 (x188 : Int)) rfl (RL.bs (cs := [(.int .i64 (x188 : Int))]) Tryz.underlying134 Tryz.sizeOf3 ze134 rfl rfl rfl (by decide) rfl rfl rfl ?_)))))))
       intro w206 b207 hb208 hz209 g210 o211
       have H212 := H204.newB g210 o211 (by omega)
       have z213 := g210.size
       refine RL.apW (base := 0) (xss := (ics l1)) (yss := (ics ([(x188 : Int)]))) el134 (H212.wr (i := 2) rfl) rfl (Ob.rd1 (H212.ob (i := 0) rfl) rfl) rfl (by simp only [bcs_length, ics_length, rows_length, blks_length, robjs_length, ents_length, List.length_append, List.length_cons, List.length_nil, List.length_take, List.length_drop, List.length_map, enc4, enc8, encN_len, encW_len, recsE_length]; try omega) (ics_one _) (by omega) (by omega) (by omega) rfl rfl ?_
       intro w214 A215 c216 g217 ow218 nx219
       have H220 : Sp [BlkA b207 3 [(.int .i64 (x188 : Int))], BlkA p 213 [.slice A189 n190 c191, .bool bq193], RowA 3 1 A215 (nw1 + 1) c216 (ics (l1 ++ [(x188 : Int)])), RowA 3 1 Aw0 nw0 cw0 (ics l0), BlkA b10 136 [(.int .i64 (x23 : Int)), (.int .i64 (x47 : Int)), (.int .i64 ((needI ((x72 : Int) : Int) ((x90 : Int) : Int)))), (.slice Aw0 nw0 cw0), (.slice Aw1 nw1 cw1)], BlkA b2 136 [(.int .i64 0), (.int .i64 0), (.int .i64 0), (.slice none 0 0), (.slice none 0 0)], Fix w S] w214 := H212.setR (i := 2) rfl g217 ((ics_app _ _).symm ▸ ow218) nx219 rfl
       have z221 := g217.size
       refine zg rfl (fa136_3 (b := ⟨b10, 4, none⟩) rfl rfl) (RL.st (vs := [(.slice A215 (nw1 + 1) c216)]) (cs' := [(.int .i64 (x23 : Int)), (.int .i64 (x47 : Int)), (.int .i64 ((needI ((x72 : Int) : Int) ((x90 : Int) : Int)))), (.slice Aw0 nw0 cw0), (.slice A215 (nw1 + 1) c216)]) Tryz.sizeOf134 (H220.ob (i := 4) rfl) rfl rfl rfl rfl rfl rfl ?_)
       intro w222 hz223 g224 o225
       have H226 : Sp [BlkA b207 3 [(.int .i64 (x188 : Int))], BlkA p 213 [.slice A189 n190 c191, .bool bq193], RowA 3 1 A215 (nw1 + 1) c216 (ics (l1 ++ [(x188 : Int)])), RowA 3 1 Aw0 nw0 cw0 (ics l0), BlkA b10 136 [(.int .i64 (x23 : Int)), (.int .i64 (x47 : Int)), (.int .i64 ((needI ((x72 : Int) : Int) ((x90 : Int) : Int)))), (.slice Aw0 nw0 cw0), (.slice A215 (nw1 + 1) c216)], BlkA b2 136 [(.int .i64 0), (.int .i64 0), (.int .i64 0), (.slice none 0 0), (.slice none 0 0)], Fix w S] w222 := H220.setB (i := 4) rfl g224 o225 rfl
       have z227 := g224.size
       refine RL.nil (inB.n (thn.n (CW.region (zm (.int .i64 (k1 : Int)) rfl (zg rfl (Ex.add (r := (k1 : Int) + 1) rfl rfl (w64 (by omega) (by omega))) (za (.int .i64 ((k1 : Int) + 1)) rfl (RL.nil (thn.n ?_))))))))
       refine ⟨(by repeat (first | exact Out.mix _ _ | exact Out.refl _ _ | refine Out.up ?_ rfl _ | refine Out.mixIn ?_ (by intro t ht; simp only [Bool.or_eq_false_iff, Bool.and_eq_false_iff, ble_f, beq_f] at ht ⊢; omega))), _, ?_, k1 + 1, nw1 + 1, c216, n190, c191, A215, A189, l1 ++ [(x188 : Int)], bs192, bq193, rfl, rfl, (H226.sel [2, 3, 1, 4, 5, 6] (by decide) rfl), by omega, manyF_go hmy1 hnum194, by omega, hin1.trans hind195⟩
       omega
      ·skip
       refine RL.nil (thn.n (CW.condF rfl (CW.exit (thn.x (thn.x (inB.hit (thn.n (CW.seq (CW.region (zg rfl (Ex.ldv rfl (loadCN (cs := [(.int .i64 (x23 : Int)), (.int .i64 (x47 : Int)), (.int .i64 ((needI ((x72 : Int) : Int) ((x90 : Int) : Int)))), (.slice Aw0 nw0 cw0), (.slice Aw1 nw1 cw1)]) wh136 (H185.ob (i := 3) rfl).cl)) (RL.st (vs := [(.int .i64 (x23 : Int)), (.int .i64 (x47 : Int)), (.int .i64 ((needI ((x72 : Int) : Int) ((x90 : Int) : Int)))), (.slice Aw0 nw0 cw0), (.slice Aw1 nw1 cw1)]) (cs' := [(.int .i64 (x23 : Int)), (.int .i64 (x47 : Int)), (.int .i64 ((needI ((x72 : Int) : Int) ((x90 : Int) : Int)))), (.slice Aw0 nw0 cw0), (.slice Aw1 nw1 cw1)]) Tryz.sizeOf136 (H185.ob (i := 4) rfl) rfl rfl rfl rfl rfl rfl ?_)))))))))))
       intro w228 hz229 g230 o231
       have H232 : Sp [RowA 3 1 Aw1 nw1 cw1 (ics l1), RowA 3 1 Aw0 nw0 cw0 (ics l0), BlkA p 213 [.slice A1 n1 c1, .bool b1], BlkA b10 136 [(.int .i64 (x23 : Int)), (.int .i64 (x47 : Int)), (.int .i64 ((needI ((x72 : Int) : Int) ((x90 : Int) : Int)))), (.slice Aw0 nw0 cw0), (.slice Aw1 nw1 cw1)], BlkA b2 136 [(.int .i64 (x23 : Int)), (.int .i64 (x47 : Int)), (.int .i64 ((needI ((x72 : Int) : Int) ((x90 : Int) : Int)))), (.slice Aw0 nw0 cw0), (.slice Aw1 nw1 cw1)], Fix w S] w228 := H185.setB (i := 4) rfl g230 o231 rfl
       have z233 := g230.size
       refine RL.nil (thn.n (CW.ret (finQ.r (v := (.agg ([(.int .i64 (x23 : Int)), (.int .i64 (x47 : Int)), (.int .i64 ((needI ((x72 : Int) : Int) ((x90 : Int) : Int)))), (.slice Aw0 nw0 cw0), (.slice Aw1 nw1 cw1)]).toArray)) (resv1 rfl (Rv.cell rfl (loadCN (cs := [(.int .i64 (x23 : Int)), (.int .i64 (x47 : Int)), (.int .i64 ((needI ((x72 : Int) : Int) ((x90 : Int) : Int)))), (.slice Aw0 nw0 cw0), (.slice Aw1 nw1 cw1)]) wh136 (H232.ob (i := 4) rfl).cl))) ?_)))
       exact ⟨_, _, _, _, _, _, _, _, _, _, _, _, rfl, (H232.sel [2, 1, 0, 5] (by decide) rfl), objF_yes hnum29 hnum53 hnum78 hnum96 h119 (by omega) (by omega) hmy0 hmy1, ((hind30.trans hind54).trans (hind79.trans hind97)).trans (hin0.trans hin1), by omega, by omega⟩
end Go.Proofs.YtfokljnhllflbaaGreat
namespace Go.Eng
open Go Go.RowKit
theorem clear_f {o : Int} {ros : List RObj} {b : Blk} {i : Nat} {x : RObj} (hx : ros[i]? = some x) (h : meetB b x.blk = true) : clearB o (ros.map RObj.blk) b = false := by
  unfold clearB
  rw [Bool.and_eq_false_iff]
  left
  rw [Bool.not_eq_false']
  exact List.any_eq_true.2 ⟨x.blk, List.mem_map.2 ⟨x, List.mem_of_getElem? hx, rfl⟩, h⟩
theorem clear_m {o : Int} {ros : List RObj} {b : Blk} {n : Nat} (hn : ros.length ≤ n) (h : ∀ (j : Nat) (x : RObj), j < n → ros[j]? = some x → meetB b x.blk = false) : clearB o (ros.map RObj.blk) b = mayR o b := by
  have : (ros.map RObj.blk).any (fun x => meetB b x) = false := List.any_eq_false.2 fun y hy => by
    obtain ⟨x, hx, rfl⟩ := List.mem_map.1 hy
    obtain ⟨j, hj⟩ := List.mem_iff_getElem?.1 hx
    rw [h j x (by have := lt_len hj; omega) hj]
    decide
  unfold clearB
  rw [this]
  rfl
theorem scan_step {o : Int} {xs : List Blk} {a : Int} (h8 : o ≤ 8) (h0 : 0 ≤ a) (h : a < wordsI o) {j : Nat} (hj : topO o xs a o.toNat = j) : scanF o xs 512 a = (if clearB o xs ⟨a, (j : Int)⟩ then [⟨a, (j : Int)⟩] else []) ++ scanF o xs 512 (a + wordsI (j : Int)) := by
  subst hj
  have hw := wordsI_bd o
  have hb : ∀ j, topO o xs a j ≤ j := by
    intro j
    induction j with
    | zero => exact Nat.le_refl _
    | succ j ih => unfold topO; split <;> omega
  have hj := hb o.toNat
  by_cases ho : 0 ≤ o
  · have := wordsI_pos (o := (topO o xs a o.toNat : Int)) (by omega) (by omega)
    conv => lhs; unfold scanF
    rw [if_pos h]
    simp only
    rw [scanF_fuel h8 511 512 _ (by omega) (by omega)]
  · have : wordsI o = 0 := by unfold wordsI; rw [if_pos (by omega)]
    omega
theorem scan_end {o : Int} {xs : List Blk} {a : Int} (h : ¬ a < wordsI o) : scanF o xs 512 a = [] := by unfold scanF; rw [if_neg h]
def HpW (rh : RHeap) (ros : List RObj) (h : Heap) : Atom where
  ok S w := (rh.order = h.order ∧ rh.next = h.next ∧ [rh.t0, rh.t1, rh.t2, rh.t3] = h.tops ∧ rh.objs.n ≤ 140737488351232 ∧ rh.free.n ≤ 140737488351232) ∧ (RowA 136 5 rh.objs.a rh.objs.n rh.objs.c (robjs ros)).ok S w ∧ (ObjsA ros h.objs).ok S w ∧ (RowA 133 2 rh.free.a rh.free.n rh.free.c (blks h.free)).ok S w
  mono h1 h2 := ⟨h2.1, (RowA 136 5 rh.objs.a rh.objs.n rh.objs.c (robjs ros)).mono h1 h2.2.1, (ObjsA ros h.objs).mono h1 h2.2.2.1, (RowA 133 2 rh.free.a rh.free.n rh.free.c (blks h.free)).mono h1 h2.2.2.2⟩
  st ch hT h1 := ⟨h1.1, (RowA 136 5 rh.objs.a rh.objs.n rh.objs.c (robjs ros)).st ch hT h1.2.1, (ObjsA ros h.objs).st ch hT h1.2.2.1, (RowA 133 2 rh.free.a rh.free.n rh.free.c (blks h.free)).st ch hT h1.2.2.2⟩
theorem HpW.hr {rh : RHeap} {ros : List RObj} {h : Heap} {S : Nat → Prop} {w : World} (H : (HpW rh ros h).ok S w) : HeapR w w.heap.size rh ros h := by
  obtain ⟨⟨h1, h2, h3, h4, h5⟩, h6, h7, h8⟩ := H
  have l6 := h6.1.len
  have l8 := h8.1.len
  rw [robjs_length] at l6
  rw [blks_length] at l8
  exact ⟨h1, h2, h3, ⟨h7.1, l6.symm, h4, h6.1.rd, fun i ro o hr ho => ObjA.r (h7.2 i ro o hr ho)⟩, l8.symm, h5, h8.1.rd⟩
theorem Sp.hpWR {w : World} {l : List Atom} {i : Nat} {rh : RHeap} {ros : List RObj} {hh : Heap} (h : Sp l w) (hi : l[i]? = some (HpW rh ros hh)) : HeapR w w.heap.size rh ros hh := by
  obtain ⟨S, h1⟩ := h.get hi
  exact HpW.hr h1
theorem Sp.hpMk {w : World} {l : List Atom} {rh : RHeap} {ros : List RObj} {hh : Heap} (h : Sp (RowA 136 5 rh.objs.a rh.objs.n rh.objs.c (robjs ros) :: ObjsA ros hh.objs :: RowA 133 2 rh.free.a rh.free.n rh.free.c (blks hh.free) :: l) w)
    (hh1 : rh.order = hh.order ∧ rh.next = hh.next ∧ [rh.t0, rh.t1, rh.t2, rh.t3] = hh.tops ∧ rh.objs.n ≤ 140737488351232 ∧ rh.free.n ≤ 140737488351232) : Sp (HpW rh ros hh :: l) w :=
  h.merge3 fun S T U q1 q2 q3 => ⟨hh1, (RowA 136 5 rh.objs.a rh.objs.n rh.objs.c (robjs ros)).mono (fun b hb => .inl (.inl hb)) q1, (ObjsA ros hh.objs).mono (fun b hb => .inl (.inr hb)) q2, (RowA 133 2 rh.free.a rh.free.n rh.free.c (blks hh.free)).mono (fun b hb => .inr hb) q3⟩
def StW (rs : RState) (ros : List RObj) (s : State) : Atom where
  ok S w := rs.rows.n ≤ 140737488351232 ∧ (HpW rs.heap ros s.heap).ok S w ∧ (RowA 123 4 rs.rows.a rs.rows.n rs.rows.c (rows s.rows)).ok S w
  mono h1 h2 := ⟨h2.1, (HpW rs.heap ros s.heap).mono h1 h2.2.1, (RowA 123 4 rs.rows.a rs.rows.n rs.rows.c (rows s.rows)).mono h1 h2.2.2⟩
  st ch hT h1 := ⟨h1.1, (HpW rs.heap ros s.heap).st ch hT h1.2.1, (RowA 123 4 rs.rows.a rs.rows.n rs.rows.c (rows s.rows)).st ch hT h1.2.2⟩
theorem Sp.stWR {w : World} {l : List Atom} {i : Nat} {rs : RState} {ros : List RObj} {s : State} (h : Sp l w) (hi : l[i]? = some (StW rs ros s)) : StateR w w.heap.size rs ros s := by
  obtain ⟨S, h1, h2, h3⟩ := h.get hi
  have l3 := h3.1.len
  rw [rows_length] at l3
  exact ⟨HpW.hr h2, l3.symm, h1, h3.1.rd⟩
theorem Sp.stMk {w : World} {l : List Atom} {rs : RState} {ros : List RObj} {s : State} (h : Sp (HpW rs.heap ros s.heap :: RowA 123 4 rs.rows.a rs.rows.n rs.rows.c (rows s.rows) :: l) w) (hn : rs.rows.n ≤ 140737488351232) : Sp (StW rs ros s :: l) w :=
  h.merge fun S T q1 q2 => ⟨hn, (HpW rs.heap ros s.heap).mono (fun b hb => .inl hb) q1, (RowA 123 4 rs.rows.a rs.rows.n rs.rows.c (rows s.rows)).mono (fun b hb => .inr hb) q2⟩
end Go.Eng
namespace Go.Proofs.YtfokljnhllflbaaGreat
open Go Go.Eng Go.RowKit
set_option maxHeartbeats 1000000 in
set_option maxRecDepth 20000 in
theorem clear_ (w : World) (B : Nat) (o : Int) (b : Blk) (ros : List RObj) (A : Option Addr) (n c : Nat) (hr : Rd w B 5 A (robjs ros)) (hn : n = ros.length) (hB : B ≤ w.heap.size) (hm : n ≤ 1000000) (ho : 0 ≤ o ∧ o ≤ 8) (hb1 : 0 ≤ b.ord ∧ b.ord ≤ 8) (hb2 : 0 ≤ b.at_ ∧ b.at_ ≤ 2147483647) (hx : (∀ x ∈ ros, (0 ≤ x.blk.ord ∧ x.blk.ord ≤ 8) ∧ 0 ≤ x.blk.at_ ∧ x.blk.at_ ≤ 2147483647)) : Ret Tryz.prog 268 [(.int .i64 o), (.agg (b.cells).toArray), (.slice A n c)] w (fun v w' => v = .bool (clearB o (ros.map RObj.blk) b) ∧ w.grownBy w' none) := by
  have H0 : Sp [Fix w NoB] w := Sp.start w
  refine Ret.body Tryz.func268 rfl rfl rfl ?_
  refine CW.seq (CW.region (RL.bx (cs := b.cells) rfl rfl rfl ?_))
  intro w1 b2 hb3 hz4 g5 o6
  have H7 := H0.newB g5 o6 (by omega)
  have z8 := g5.size
  refine za (.bool false) rfl (RL.nil (thn.n (CW.seq (CW.seq (CW.region (za (.int .i64 0) rfl (RL.nil (thn.n (CW.block ?_)))))))))
  refine CW.loop (fun t => (Nat.ble 6 t && Nat.ble t 20)) (fun nL ρ wl => ∃ (i : Nat), ρ 7 = (.int .i64 (i : Int)) ∧ nL = n - i ∧ Sp [BlkA b2 133 b.cells, Fix w NoB] wl ∧ i ≤ n ∧ ∀ (j : Nat) (x : RObj), j < i → ros[j]? = some x → meetB b x.blk = false) (n) ?aa0 ?bb0
  case aa0 =>
   exact ⟨0, rfl, rfl, H7, Nat.zero_le _, fun j x hj => by omega⟩
  case bb0 =>
   rintro n10 ρ0 w9 ho11 ⟨i, hs0_7, hn0, H12, hi, hO⟩
   obtain ⟨j0, rfl⟩ := ho11.shape1 hs0_7
   clear ho11 hs0_7
   subst hn0
   have z13 := (H12.fix (i := 1) rfl).size
   refine CW.seq (CW.seq (CW.region (zm (.int .i64 (i : Int)) rfl (zm (.slice A n c) rfl (zg rfl (Ex.len Tryz.underlying43 rfl) ?_)))))
   refine RL.br (p := ((i : Int) : Int) < ((n : Nat) : Int)) rfl rfl rfl (fun r hr => Ex.lt rfl rfl hr) (fun h14 => ?_) (fun h14 => ?_)
   ·skip
    refine RL.nil (thn.n (CW.condT rfl (CW.skip (thn.n (CW.seq (CW.block (CW.seq (CW.held (fun wq => Sp [BlkA b2 133 b.cells, Fix w NoB] wq) Tryz.mixed rfl ?_))))))))
    intro w15 g16
    have H17 := H12.grow g16
    have z18 := g16.size
    refine RA.tk 1 0 2 rfl rfl rfl (by kernel_rfl) (fun wq hq => Ex.mv (v := (.slice A n c)) rfl) H17 (RA.tk 2 2 6 rfl rfl rfl (by kernel_rfl) (fun wq hq => Ex.mv (v := (.int .i64 (i : Int))) rfl) H17 (RA.tk 0 6 7 rfl rfl rfl (by kernel_rfl) (fun wq hq => Ex.ldv rfl (loadCN (cs := b.cells) wh133 (hq.ob (i := 0) rfl).cl)) H17 ?_))
    obtain ⟨e19, he20⟩ : ∃ e, (ros)[i]? = some e := ⟨_, List.getElem?_eq_getElem (by omega)⟩
    obtain ⟨ad21, hA22⟩ := Rd.sm (hr.st0 (H17.fix (i := 1) rfl)) (robjs_get he20)
    have hl23 := Eng.lt_len (robjs_get he20)
    refine RA.tk 3 7 15 rfl rfl rfl (by kernel_rfl) (fun wq hq => Ex.ix (b := (ad21.add (i * 5))) (i := i) Tryz.underlying43 Tryz.sizeOf136 (by rw [← hA22]; rfl) rfl (by omega) (by omega) rfl) H17 (RA.tk 4 15 31 rfl rfl rfl (by kernel_rfl) (fun wq hq => fa136_1 (b := (((ad21.add (i * 5))).add 1)) rfl rfl) H17 (RA.tk 5 31 63 rfl rfl rfl (by kernel_rfl) (fun wq hq => Ex.ldv rfl (loadCN (cs := [(.int .i64 e19.blk.at_), (.int .i64 e19.blk.ord)]) wh133 ((Rd.cl (hr.st0 (hq.fix (i := 1) rfl)) hA22 (robjs_get he20)).sub 1 2))) H17 (RA.one (i := 6) (by kernel_rfl) ?_)))
    refine ⟨_, 127, rfl, by kernel_rfl, ?_⟩
    have hxe := hx e19 (List.mem_of_getElem? he20)
    refine RL.call Tryz.call227 (meet_ _ b e19.blk (by first | assumption | (constructor <;> (first | omega | (show _ ≤ _; omega)))) (by first | assumption | (constructor <;> (first | omega | (show _ ≤ _; omega)))) (by first | assumption | (constructor <;> (first | omega | (show _ ≤ _; omega)))) (by first | assumption | (constructor <;> (first | omega | (show _ ≤ _; omega))))) rfl rfl rfl ?_
    rintro _ w24 ⟨rfl, g25⟩
    have H26 := H17.grow g25
    have z27 := g25.size
    rcases hb28 : (meetB b e19.blk) with _ | _
    ·skip
     refine RL.nil ?_
     refine ⟨H26, ?_⟩
     refine RA.done (by kernel_rfl) (thn.n (CW.condF rfl (CW.skip (inB.n (thn.n (CW.region (zm (.int .i64 (i : Int)) rfl (zg rfl (Ex.add (r := (i : Int) + 1) rfl rfl (w64 (by omega) (by omega))) (za (.int .i64 ((i : Int) + 1)) rfl (RL.nil (thn.n ?_)))))))))))
     refine ⟨(by repeat (first | exact Out.mix _ _ | exact Out.refl _ _ | refine Out.up ?_ rfl _)), _, ?_, i + 1, rfl, rfl, H26, by omega, upto_go (p := fun _ (x : RObj) => meetB b x.blk = false) hO he20 hb28⟩
     omega
    ·skip
     refine RL.nil ?_
     refine ⟨H26, ?_⟩
     refine RA.done (by kernel_rfl) (thn.n (CW.condT rfl (CW.seq (CW.region (za (.bool false) rfl (RL.nil (thn.n (CW.ret (inB.r (thn.r (thn.r (inB.r (thn.r (finQ.r (v := (.bool false)) (res1 rfl rfl) ?_))))))))))))))
     exact ⟨ret_bool (clear_f he20 hb28).symm, (H26.fix (i := 1) rfl)⟩
   ·skip
    refine RL.nil (thn.n (CW.condF rfl (CW.exit (thn.x (thn.x (inB.hit (thn.n (CW.seq (CW.region (zm (.int .i64 o) rfl (zg rfl (Ex.ldv rfl (loadCN (cs := b.cells) wh133 (H12.ob (i := 0) rfl).cl)) (RL.call Tryz.call224 (mayR_ _ o b (by omega) (by omega)) rfl rfl rfl ?_))))))))))))
    rintro _ w29 ⟨rfl, g30⟩
    have H31 := H12.grow g30
    have z32 := g30.size
    rcases hb33 : (mayR o b) with _ | _
    ·skip
     refine za (.bool false) rfl (RL.nil (thn.n (CW.ret (finQ.r (v := (.bool false)) (res1 rfl rfl) ?_))))
     exact ⟨ret_bool (by rw [clear_m (n := i) (by omega) hO, hb33]), (H31.fix (i := 1) rfl)⟩
    ·have hmt := mayR_bd hb33 (by omega)
     refine za (.bool true) rfl (RL.nil (thn.n (CW.ret (finQ.r (v := (.bool true)) (res1 rfl rfl) ?_))))
     exact ⟨ret_bool (by rw [clear_m (n := i) (by omega) hO, hb33]), (H31.fix (i := 1) rfl)⟩
set_option maxHeartbeats 2000000 in
set_option maxRecDepth 20000 in
theorem freeR_ (w : World) (B : Nat) (o : Int) (ros : List RObj) (A : Option Addr) (n c : Nat) (hr : Rd w B 5 A (robjs ros)) (hn : n = ros.length) (hB : B ≤ w.heap.size) (hm : n ≤ 1000000) (ho : 0 ≤ o ∧ o ≤ 8) (hx : (∀ x ∈ ros, (0 ≤ x.blk.ord ∧ x.blk.ord ≤ 8) ∧ 0 ≤ x.blk.at_ ∧ x.blk.at_ ≤ 2147483647)) : Ret Tryz.prog 246 [(.int .i64 o), (.slice A n c)] w (fun v w' => ∃ (A' : Option Addr) (n' c' : Nat), v = .slice A' n' c' ∧ Sp ([RowA 133 2 A' n' c' (blks (leftL (wordsI o) (ros.map RObj.blk) [⟨0, o⟩]))] ++ [Fix w NoB]) w' ∧ n' ≤ 600) := by
  have hwo := wordsI_bd o
  obtain ⟨ot, hot⟩ : ∃ ot : Nat, o = (ot : Int) := ⟨o.toNat, by omega⟩
  have H0 : Sp [Fix w NoB] w := Sp.start w
  refine Ret.body Tryz.func246 rfl rfl rfl ?_
  refine CW.seq (CW.region (za (.slice none 0 0) rfl (RL.nil (thn.n (CW.seq (CW.region (za (.slice none 0 0) rfl (RL.nil (thn.n (CW.seq (CW.region (za (.int .i64 0) rfl (RL.nil (thn.n (CW.seq (CW.block ?_))))))))))))))))
  have H1 := H0.nil_ 133 2
  refine CW.loop (fun t => (Nat.ble 5 t && Nat.ble t 41)) (fun nL ρ wl => ∃ (a : Int) (n1 c1 : Nat) (A1 : Option Addr) (bs1 : List Blk), ρ 6 = (.int .i64 a) ∧ ρ 5 = (.slice A1 n1 c1) ∧ nL = (wordsI o - a).toNat ∧ Sp [RowA 133 2 A1 n1 c1 (blks bs1), Fix w NoB] wl ∧ 0 ≤ a ∧ a ≤ 512 ∧ bs1 ++ scanF o (ros.map RObj.blk) 512 a = scanF o (ros.map RObj.blk) 512 0 ∧ (n1 : Int) ≤ a) ((wordsI o).toNat) ?aa0 ?bb0
  case aa0 =>
   exact ⟨0, 0, 0, none, [], rfl, rfl, (by simp), H1, Int.le_refl _, by omega, rfl, Int.le_refl _⟩
  case bb0 =>
   rintro n3 ρ0 w2 ho4 ⟨a, n1, c1, A1, bs1, hs0_6, hs0_5, hn0, H5, ha0, ha1, hsc, hn1⟩
   obtain ⟨j0, rfl⟩ := ho4.shape2 hs0_6 hs0_5
   clear ho4 hs0_6 hs0_5
   subst hn0
   have z6 := (H5.fix (i := 1) rfl).size
   refine CW.seq (CW.seq (CW.region (zm (.int .i64 a) rfl (zm (.int .i64 o) rfl ?_))))
   have hz7 := wordsI_bd o
   have hz8 := wordsI_pos (o := o) (by omega) (by omega)
   refine RL.call Tryz.call229 (sz_ _ o (by omega) (by omega)) rfl rfl rfl ?_
   rintro _ w9 ⟨rfl, g10⟩
   have H11 := H5.grow g10
   have z12 := g10.size
   refine RL.br (p := (a : Int) < ((wordsI o) : Int)) rfl rfl rfl (fun r hr => Ex.lt rfl rfl hr) (fun h13 => ?_) (fun h13 => ?_)
   ·skip
    refine RL.nil (thn.n (CW.condT rfl (CW.skip (thn.n (CW.block (CW.seq (CW.region ?_)))))))
    have hlt : a < wordsI o := h13
    have hao : a ≤ 256 := by omega
    refine zm (.int .i64 a) rfl (zm (.int .i64 o) rfl (zg rfl (Ex.bd (cs := [(.int .i64 a), (.int .i64 o)]) bd133 rfl) (RL.al (cs := [(.int .i64 0), (.int .i64 0)]) Tryz.zeroValue133 rfl rfl rfl ?_)))
    intro w14 b15 hb16 hz17 g18 o19
    have H20 := H11.newB g18 o19 (by omega)
    have z21 := g18.size
    refine RL.st (vs := [(.int .i64 a), (.int .i64 o)]) (cs' := [(.int .i64 a), (.int .i64 o)]) Tryz.sizeOf133 (H20.ob (i := 0) rfl) rfl rfl rfl rfl rfl rfl ?_
    intro w22 hz23 g24 o25
    have H26 : Sp [BlkA b15 133 [(.int .i64 a), (.int .i64 o)], RowA 133 2 A1 n1 c1 (blks bs1), Fix w NoB] w22 := H20.setB (i := 0) rfl g24 o25 rfl
    have z27 := g24.size
    refine RL.nil (thn.n (CW.seq (CW.block ?_)))
    rw [hot] at H26
    refine CW.loop (fun t => (Nat.ble 15 t && Nat.ble t 28)) (fun nL ρ wl => ∃ (j : Nat), nL = 0 + j ∧ Sp [BlkA b15 133 [(.int .i64 a), (.int .i64 (j : Int))], RowA 133 2 A1 n1 c1 (blks bs1), Fix w NoB] wl ∧ (j : Int) ≤ o ∧ ∀ i3 : Nat, j < i3 → i3 ≤ o.toNat → clearB o (ros.map RObj.blk) ⟨a, (i3 : Int)⟩ = false) (0 + ot) ?aa1 ?bb1
    case aa1 =>
     exact ⟨ot, rfl, H26, by omega, fun i3 h1 h2 => by omega⟩
    case bb1 =>
     rintro n29 ρ1 w28 ho30 ⟨j, hn1, H31, hj, hnc⟩
     obtain ⟨j1, rfl⟩ := ho30.shape0
     clear ho30
     subst hn1
     have z32 := (H31.fix (i := 2) rfl).size
     refine CW.seq (CW.seq (CW.region (zg rfl (fa133_1 (b := ⟨b15, 1, none⟩) rfl rfl) (zl (.int .i64 (j : Int)) lo3 (H31.ob (i := 0) rfl) rfl ?_))))
     refine RL.br (p := (0 : Int) < ((j : Int) : Int)) rfl rfl rfl (fun r hr => Ex.gt rfl rfl hr) (fun h33 => ?_) (fun h33 => ?_)
     ·skip
      refine zm (.bool true) rfl (zm (.int .i64 o) rfl (zg rfl (Ex.ldv rfl (loadCN (cs := [(.int .i64 a), (.int .i64 (j : Int))]) wh133 (H31.ob (i := 0) rfl).cl)) (zm (.slice A n c) rfl (RL.call Tryz.call268 (clear_ _ w28.heap.size o (⟨a, (j : Int)⟩ : Blk) ros A n c ((hr.st0 (H31.fix (i := 2) rfl)).more (by omega)) (by first | assumption | omega) (Nat.le_refl _) (by omega) (by first | assumption | omega) (by first | assumption | omega | (dsimp only; omega)) (by first | assumption | omega | (dsimp only; omega)) hx) rfl rfl rfl ?_))))
      rintro _ w34 ⟨rfl, g35⟩
      have H36 := H31.grow g35
      have z37 := g35.size
      rcases hb38 : (clearB o (ros.map RObj.blk) (⟨a, (j : Int)⟩ : Blk)) with _ | _
      ·skip
       refine zg rfl (Ex.not (b := false) rfl) (zT (.bool true) rfl (RL.nil (thn.n (CW.condT rfl (CW.skip (thn.n (CW.block (CW.region (zg rfl (fa133_1 (b := ⟨b15, 1, none⟩) rfl rfl) (zl (.int .i64 (j : Int)) lo3 (H36.ob (i := 0) rfl) rfl (zg rfl (Ex.sub_ (r := ((j - 1 : Nat) : Int)) rfl rfl (by rw [w64 (by omega) (by omega)]; omega)) (zg rfl (fa133_1 (b := ⟨b15, 1, none⟩) rfl rfl) (RL.st (vs := [(.int .i64 ((j - 1 : Nat) : Int))]) (cs' := [(.int .i64 a), (.int .i64 ((j - 1 : Nat) : Int))]) Tryz.sizeOf3 (H36.ob (i := 0) rfl) rfl rfl rfl rfl rfl rfl ?_)))))))))))))
       intro w39 hz40 g41 o42
       have H43 : Sp [BlkA b15 133 [(.int .i64 a), (.int .i64 ((j - 1 : Nat) : Int))], RowA 133 2 A1 n1 c1 (blks bs1), Fix w NoB] w39 := H36.setB (i := 0) rfl g41 o42 rfl
       have z44 := g41.size
       refine RL.nil (inB.n (thn.n ?_))
       refine ⟨(by repeat (first | exact Out.mix _ _ | exact Out.refl _ _ | refine Out.up ?_ rfl _ | refine Out.mixIn ?_ (by intro t ht; simp only [Bool.or_eq_false_iff, Bool.and_eq_false_iff, ble_f, beq_f] at ht ⊢; omega))), _, ?_, j - 1, rfl, H43, by omega, fun i3 h1 h2 => (Nat.lt_or_ge j i3).elim (fun h => hnc i3 h h2) (fun h => by rw [show i3 = j by omega]; exact hb38)⟩
       omega
      ·skip
       refine zg rfl (Ex.not (b := true) rfl) (zT (.bool false) rfl (RL.nil (thn.n (CW.condF rfl (CW.exit (thn.x (thn.x (inB.hit (thn.n (CW.seq (CW.seq ?_)))))))))))
       have htop : topO o (ros.map RObj.blk) a o.toNat = j := topO_is (by omega) hnc (by first | exact .inl (by omega) | exact .inr hb38)
       have hwj := wordsI_pos (o := (j : Int)) (by omega) (by omega)
       have hwj2 := wordsI_bd (j : Int)
       refine CW.region (zm (.int .i64 o) rfl (zg rfl (Ex.ldv rfl (loadCN (cs := [(.int .i64 a), (.int .i64 (j : Int))]) wh133 (H36.ob (i := 0) rfl).cl)) (zm (.slice A n c) rfl (RL.call Tryz.call268 (clear_ _ w34.heap.size o (⟨a, (j : Int)⟩ : Blk) ros A n c ((hr.st0 (H36.fix (i := 2) rfl)).more (by omega)) (by first | assumption | omega) (Nat.le_refl _) (by omega) (by first | assumption | omega) (by first | assumption | omega | (dsimp only; omega)) (by first | assumption | omega | (dsimp only; omega)) hx) rfl rfl rfl ?_))))
       rintro _ w45 ⟨rfl, g46⟩
       have H47 := H36.grow g46
       have z48 := g46.size
       rcases hb49 : (clearB o (ros.map RObj.blk) (⟨a, (j : Int)⟩ : Blk)) with _ | _
       ·skip
        refine RL.nil (thn.n (CW.condF rfl (CW.skip (thn.n (CW.region (zm (.int .i64 a) rfl (zg rfl (fa133_1 (b := ⟨b15, 1, none⟩) rfl rfl) (zl (.int .i64 (j : Int)) lo3 (H47.ob (i := 0) rfl) rfl ?_))))))))
        have hz50 := wordsI_bd ((j : Int) : Int)
        have hz51 := wordsI_pos (o := ((j : Int) : Int)) (by omega) (by omega)
        refine RL.call Tryz.call229 (sz_ _ ((j : Int) : Int) (by omega) (by omega)) rfl rfl rfl ?_
        rintro _ w52 ⟨rfl, g53⟩
        have H54 := H47.grow g53
        have z55 := g53.size
        refine zg rfl (Ex.add (r := a + (wordsI ((j : Int) : Int))) rfl rfl (w64 (by omega) (by omega))) (za (.int .i64 (a + (wordsI ((j : Int) : Int)))) rfl (RL.nil (inB.n (thn.n ?_))))
        refine ⟨(by repeat (first | exact Out.mix _ _ | exact Out.refl _ _ | refine Out.up ?_ rfl _ | refine Out.mixIn ?_ (by intro t ht; simp only [Bool.or_eq_false_iff, Bool.and_eq_false_iff, ble_f, beq_f] at ht ⊢; omega))), _, ?_, a + wordsI (j : Int), n1, c1, A1, bs1, rfl, rfl, rfl, (H54.sel [1, 2] (by decide) rfl), by omega, by omega, by rw [← hsc, scan_step (by omega) ha0 hlt htop, if_neg (by rw [hb49]; decide), List.nil_append], by omega⟩
        omega
       ·skip
        refine RL.nil (thn.n (CW.condT rfl (CW.region (zm (.slice A1 n1 c1) rfl (zg rfl (Ex.ldv rfl (loadCN (cs := [(.int .i64 a), (.int .i64 (j : Int))]) wh133 (H47.ob (i := 0) rfl).cl)) (RL.bs (cs := [(.int .i64 a), (.int .i64 (j : Int))]) Tryz.underlying45 Tryz.sizeOf133 ze45 rfl rfl rfl (by decide) rfl rfl rfl ?_))))))
        intro w56 b57 hb58 hz59 g60 o61
        have H62 := H47.newB g60 o61 (by omega)
        have z63 := g60.size
        refine RL.apW (base := 0) (xss := (blks bs1)) (yss := (blks ([⟨a, (j : Int)⟩]))) el45 (H62.wr (i := 2) rfl) rfl (Ob.rd1 (H62.ob (i := 0) rfl) rfl) rfl (by simp only [bcs_length, ics_length, rows_length, blks_length, robjs_length, ents_length, List.length_append, List.length_cons, List.length_nil, List.length_take, List.length_drop, List.length_map, enc4, enc8, encN_len, encW_len, recsE_length]; try omega) (blks_one _) (by omega) (by omega) (by omega) rfl rfl ?_
        intro w65 A66 c67 g68 ow69 nx70
        have H71 : Sp [BlkA b57 133 [(.int .i64 a), (.int .i64 (j : Int))], BlkA b15 133 [(.int .i64 a), (.int .i64 (j : Int))], RowA 133 2 A66 (n1 + 1) c67 (blks (bs1 ++ [⟨a, (j : Int)⟩])), Fix w NoB] w65 := H62.setR (i := 2) rfl g68 ((blks_app _ _).symm ▸ ow69) nx70 rfl
        have z72 := g68.size
        refine za (.slice A66 (n1 + 1) c67) rfl (RL.nil (thn.n (CW.region (zm (.int .i64 a) rfl (zg rfl (fa133_1 (b := ⟨b15, 1, none⟩) rfl rfl) (zl (.int .i64 (j : Int)) lo3 (H71.ob (i := 1) rfl) rfl ?_))))))
        have hz73 := wordsI_bd ((j : Int) : Int)
        have hz74 := wordsI_pos (o := ((j : Int) : Int)) (by omega) (by omega)
        refine RL.call Tryz.call229 (sz_ _ ((j : Int) : Int) (by omega) (by omega)) rfl rfl rfl ?_
        rintro _ w75 ⟨rfl, g76⟩
        have H77 := H71.grow g76
        have z78 := g76.size
        refine zg rfl (Ex.add (r := a + (wordsI ((j : Int) : Int))) rfl rfl (w64 (by omega) (by omega))) (za (.int .i64 (a + (wordsI ((j : Int) : Int)))) rfl (RL.nil (inB.n (thn.n ?_))))
        refine ⟨(by repeat (first | exact Out.mix _ _ | exact Out.refl _ _ | refine Out.up ?_ rfl _ | refine Out.mixIn ?_ (by intro t ht; simp only [Bool.or_eq_false_iff, Bool.and_eq_false_iff, ble_f, beq_f] at ht ⊢; omega))), _, ?_, a + wordsI (j : Int), n1 + 1, c67, A66, bs1 ++ [⟨a, (j : Int)⟩], rfl, rfl, rfl, (H77.sel [2, 3] (by decide) rfl), by omega, by omega, by rw [← hsc, scan_step (by omega) ha0 hlt htop, if_pos hb49, List.append_assoc], by omega⟩
        omega
     ·skip
      refine zm (.bool false) rfl (zo rfl (zo rfl (zo rfl (zo rfl (zo rfl (zF (.bool false) rfl (RL.nil (thn.n (CW.condF rfl (CW.exit (thn.x (thn.x (inB.hit (thn.n (CW.seq (CW.seq ?_))))))))))))))))
      have htop : topO o (ros.map RObj.blk) a o.toNat = j := topO_is (by omega) hnc (by first | exact .inl (by omega) | exact .inr h33)
      have hwj := wordsI_pos (o := (j : Int)) (by omega) (by omega)
      have hwj2 := wordsI_bd (j : Int)
      refine CW.region (zm (.int .i64 o) rfl (zg rfl (Ex.ldv rfl (loadCN (cs := [(.int .i64 a), (.int .i64 (j : Int))]) wh133 (H31.ob (i := 0) rfl).cl)) (zm (.slice A n c) rfl (RL.call Tryz.call268 (clear_ _ w28.heap.size o (⟨a, (j : Int)⟩ : Blk) ros A n c ((hr.st0 (H31.fix (i := 2) rfl)).more (by omega)) (by first | assumption | omega) (Nat.le_refl _) (by omega) (by first | assumption | omega) (by first | assumption | omega | (dsimp only; omega)) (by first | assumption | omega | (dsimp only; omega)) hx) rfl rfl rfl ?_))))
      rintro _ w79 ⟨rfl, g80⟩
      have H81 := H31.grow g80
      have z82 := g80.size
      rcases hb83 : (clearB o (ros.map RObj.blk) (⟨a, (j : Int)⟩ : Blk)) with _ | _
      ·skip
       refine RL.nil (thn.n (CW.condF rfl (CW.skip (thn.n (CW.region (zm (.int .i64 a) rfl (zg rfl (fa133_1 (b := ⟨b15, 1, none⟩) rfl rfl) (zl (.int .i64 (j : Int)) lo3 (H81.ob (i := 0) rfl) rfl ?_))))))))
       have hz84 := wordsI_bd ((j : Int) : Int)
       have hz85 := wordsI_pos (o := ((j : Int) : Int)) (by omega) (by omega)
       refine RL.call Tryz.call229 (sz_ _ ((j : Int) : Int) (by omega) (by omega)) rfl rfl rfl ?_
       rintro _ w86 ⟨rfl, g87⟩
       have H88 := H81.grow g87
       have z89 := g87.size
       refine zg rfl (Ex.add (r := a + (wordsI ((j : Int) : Int))) rfl rfl (w64 (by omega) (by omega))) (za (.int .i64 (a + (wordsI ((j : Int) : Int)))) rfl (RL.nil (inB.n (thn.n ?_))))
       refine ⟨(by repeat (first | exact Out.mix _ _ | exact Out.refl _ _ | refine Out.up ?_ rfl _ | refine Out.mixIn ?_ (by intro t ht; simp only [Bool.or_eq_false_iff, Bool.and_eq_false_iff, ble_f, beq_f] at ht ⊢; omega))), _, ?_, a + wordsI (j : Int), n1, c1, A1, bs1, rfl, rfl, rfl, (H88.sel [1, 2] (by decide) rfl), by omega, by omega, by rw [← hsc, scan_step (by omega) ha0 hlt htop, if_neg (by rw [hb83]; decide), List.nil_append], by omega⟩
       omega
      ·skip
       refine RL.nil (thn.n (CW.condT rfl (CW.region (zm (.slice A1 n1 c1) rfl (zg rfl (Ex.ldv rfl (loadCN (cs := [(.int .i64 a), (.int .i64 (j : Int))]) wh133 (H81.ob (i := 0) rfl).cl)) (RL.bs (cs := [(.int .i64 a), (.int .i64 (j : Int))]) Tryz.underlying45 Tryz.sizeOf133 ze45 rfl rfl rfl (by decide) rfl rfl rfl ?_))))))
       intro w90 b91 hb92 hz93 g94 o95
       have H96 := H81.newB g94 o95 (by omega)
       have z97 := g94.size
       refine RL.apW (base := 0) (xss := (blks bs1)) (yss := (blks ([⟨a, (j : Int)⟩]))) el45 (H96.wr (i := 2) rfl) rfl (Ob.rd1 (H96.ob (i := 0) rfl) rfl) rfl (by simp only [bcs_length, ics_length, rows_length, blks_length, robjs_length, ents_length, List.length_append, List.length_cons, List.length_nil, List.length_take, List.length_drop, List.length_map, enc4, enc8, encN_len, encW_len, recsE_length]; try omega) (blks_one _) (by omega) (by omega) (by omega) rfl rfl ?_
       intro w98 A99 c100 g101 ow102 nx103
       have H104 : Sp [BlkA b91 133 [(.int .i64 a), (.int .i64 (j : Int))], BlkA b15 133 [(.int .i64 a), (.int .i64 (j : Int))], RowA 133 2 A99 (n1 + 1) c100 (blks (bs1 ++ [⟨a, (j : Int)⟩])), Fix w NoB] w98 := H96.setR (i := 2) rfl g101 ((blks_app _ _).symm ▸ ow102) nx103 rfl
       have z105 := g101.size
       refine za (.slice A99 (n1 + 1) c100) rfl (RL.nil (thn.n (CW.region (zm (.int .i64 a) rfl (zg rfl (fa133_1 (b := ⟨b15, 1, none⟩) rfl rfl) (zl (.int .i64 (j : Int)) lo3 (H104.ob (i := 1) rfl) rfl ?_))))))
       have hz106 := wordsI_bd ((j : Int) : Int)
       have hz107 := wordsI_pos (o := ((j : Int) : Int)) (by omega) (by omega)
       refine RL.call Tryz.call229 (sz_ _ ((j : Int) : Int) (by omega) (by omega)) rfl rfl rfl ?_
       rintro _ w108 ⟨rfl, g109⟩
       have H110 := H104.grow g109
       have z111 := g109.size
       refine zg rfl (Ex.add (r := a + (wordsI ((j : Int) : Int))) rfl rfl (w64 (by omega) (by omega))) (za (.int .i64 (a + (wordsI ((j : Int) : Int)))) rfl (RL.nil (inB.n (thn.n ?_))))
       refine ⟨(by repeat (first | exact Out.mix _ _ | exact Out.refl _ _ | refine Out.up ?_ rfl _ | refine Out.mixIn ?_ (by intro t ht; simp only [Bool.or_eq_false_iff, Bool.and_eq_false_iff, ble_f, beq_f] at ht ⊢; omega))), _, ?_, a + wordsI (j : Int), n1 + 1, c100, A99, bs1 ++ [⟨a, (j : Int)⟩], rfl, rfl, rfl, (H110.sel [2, 3] (by decide) rfl), by omega, by omega, by rw [← hsc, scan_step (by omega) ha0 hlt htop, if_pos hb83, List.append_assoc], by omega⟩
       omega
   ·skip
    refine RL.nil (thn.n (CW.condF rfl (CW.exit (thn.x (thn.x (inB.hit (thn.n (CW.seq (CW.region (zm (.slice A1 n1 c1) rfl (za (.slice A1 n1 c1) rfl (RL.nil (thn.n (CW.ret (finQ.r (v := (.slice A1 n1 c1)) (res1 rfl rfl) ?_)))))))))))))))
    have hfin : bs1 = leftL (wordsI o) (ros.map RObj.blk) [⟨0, o⟩] := by rw [← scan_is ho.1 ho.2 512 (by omega), ← hsc, scan_end (by omega), List.append_nil]
    rw [hfin] at H11
    exact ⟨_, _, _, rfl, (H11.sel [0, 1] (by decide) rfl), by have := wordsI_bd o; omega⟩
end Go.Proofs.YtfokljnhllflbaaGreat
namespace Go.Eng
open Go Go.RowKit
theorem robjs_app (l m : List RObj) : robjs (l ++ m) = robjs l ++ robjs m := by simp [robjs]
theorem map_blk {ros : List RObj} {os : List Obj} {w : World} {B : Nat} (h1 : ros.length = os.length ∧ ∀ (i : Nat) (ro : RObj) (o : Obj), ros[i]? = some ro → os[i]? = some o → ObjR w B ro o) : ros.map RObj.blk = os.map Obj.blk := by
  apply List.ext_getElem?
  intro i
  simp only [List.getElem?_map]
  cases e1 : ros[i]? with
  | none =>
    rw [List.getElem?_eq_none_iff] at e1
    rw [List.getElem?_eq_none (by rw [← h1.1]; exact e1)]; rfl
  | some ro =>
    have hi : i < os.length := by rw [← h1.1]; exact lt_len e1
    have e2 := List.getElem?_eq_getElem hi
    rw [e2]
    simp only [Option.map_some]
    rw [(h1.2 i ro _ e1 e2).b]
theorem obs_bd {ros : List RObj} {os : List Obj} (h : ros.map RObj.blk = os.map Obj.blk) (ho : ∀ o ∈ os, (0 ≤ o.blk.ord ∧ o.blk.ord ≤ 6) ∧ 0 ≤ o.blk.at_ ∧ o.blk.at_ ≤ 2147483647) : ∀ x ∈ ros, (0 ≤ x.blk.ord ∧ x.blk.ord ≤ 8) ∧ 0 ≤ x.blk.at_ ∧ x.blk.at_ ≤ 2147483647 := fun x hx => by
  have : x.blk ∈ ros.map RObj.blk := List.mem_map.2 ⟨x, hx, rfl⟩
  rw [h] at this
  obtain ⟨o, h1, e⟩ := List.mem_map.1 this
  have := ho o h1
  rw [e] at this
  omega
theorem rdT_ok {bs : List UInt8} {x : Nat} (h : rdN bs = some ((x : Int), bs.drop 4)) (h1 : x ≤ 65536) (h2 : x + 4 ≤ bs.length) : rdT bs = some ((bs.drop 4).take x, bs.drop (4 + x)) := by
  unfold rdT
  simp only [h]
  rw [if_neg (by omega), if_neg (by rw [List.length_drop]; omega), Int.toNat_natCast, List.drop_drop]
theorem rdT_no1 {bs : List UInt8} (h : rdN bs = none) : rdT bs = none := by unfold rdT; simp only [h]
theorem rdT_no2 {bs r : List UInt8} {x : Int} (h : rdN bs = some (x, r)) (h1 : 65536 < x) : rdT bs = none := by unfold rdT; simp only [h]; rw [if_pos h1]
theorem rdT_no3 {bs : List UInt8} {x : Int} (h : rdN bs = some (x, bs.drop 4)) (h1 : (bs.length : Int) - 4 < x) (h2 : 4 ≤ bs.length) : rdT bs = none := by
  unfold rdT
  simp only [h]
  split
  · rfl
  · rw [if_pos (by rw [List.length_drop]; omega)]
theorem rowF_mk {s s1 s2 s3 s4 : SB} {c q d v : Int} (h1 : numF s = (c, s1)) (h2 : numF s1 = (q, s2)) (h3 : numF s2 = (d, s3)) (h4 : intF s3 = (v, s4)) : rowF s = (⟨c, q, d, v⟩, s4) := by
  unfold rowF
  simp only [h1, h2, h3, h4]
end Go.Eng
namespace Go.Proofs.YtfokljnhllflbaaGreat
open Go Go.Eng Go.RowKit
set_option maxHeartbeats 1000000 in
set_option maxRecDepth 20000 in
theorem rdTxt_ (w : World) (B : Nat) (bs : List UInt8) (A : Option Addr) (n c : Nat) (hr : Rd w B 1 A (bcs bs)) (hn : n = bs.length) (hc : n ≤ c) (hm : n ≤ 140737488351232) : Ret Tryz.prog 185 [(.slice A n c)] w (fun v w' => (∃ (t : List UInt8) (k : Nat), v = .tuple #[.string (tx t), .int .i64 (k : Int), .int .i64 0] ∧ w.grownBy w' none ∧ rdT bs = some (t, bs.drop k) ∧ k ≤ n ∧ t.length ≤ 65536) ∨ (∃ e : Int, v = .tuple #[.string (tx []), .int .i64 0, .int .i64 e] ∧ w.grownBy w' none ∧ rdT bs = none ∧ e ≠ 0)) := by
  have H0 : Sp [Fix w NoB] w := Sp.start w
  refine Ret.body Tryz.func185 rfl rfl rfl ?_
  refine CW.seq (CW.region (za (.string (⟨#[]⟩)) rfl (za (.int .i64 0) rfl (za (.int .i64 0) rfl (RL.nil (thn.n (CW.seq (CW.region (zm (.slice A n c) rfl (RL.call Tryz.call244 (rdNum_ _ _ bs A n c hr (by first | assumption | omega) (by omega)) rfl rfl rfl ?_))))))))))
  rintro _ w8 (⟨x1, rfl, g9, hrn3, hge4, hle5⟩ | ⟨e2, rfl, g10, hrn6, hne7⟩)
  ·skip
   have H11 := H0.grow g9
   have z12 := g9.size
   refine zm (.tuple #[(.int .i64 (x1 : Int)), (.int .i64 4), (.int .i64 0)]) rfl (zx (.int .i64 (x1 : Int)) rfl (zx (.int .i64 4) rfl (zx (.int .i64 0) rfl (za (.int .i64 (x1 : Int)) rfl (za (.int .i64 4) rfl (za (.int .i64 0) rfl (RL.nil (thn.n (CW.seq (CW.seq (CW.region (zm (.int .i64 0) rfl (zg rfl (Ex.neD (r := false) rfl rfl (by decide)) (RL.nil (thn.n (CW.condF rfl (CW.skip (thn.n (CW.seq (CW.seq (CW.region ?_)))))))))))))))))))))
   refine zm (.int .i64 (x1 : Int)) rfl ?_
   refine RL.br (p := (65536 : Int) < ((x1 : Int) : Int)) rfl rfl rfl (fun r hr => Ex.gt rfl rfl hr) (fun h13 => ?_) (fun h13 => ?_)
   ·skip
    refine RL.nil (thn.n (CW.condT rfl (CW.seq (CW.region (za (.string (⟨#[]⟩)) rfl (za (.int .i64 0) rfl (za (.int .i64 11) rfl (RL.nil (thn.n (CW.ret (thn.r (finQ.r (v := (.tuple #[(.string (⟨#[]⟩)), (.int .i64 0), (.int .i64 11)])) (res3 rfl rfl rfl rfl) ?_))))))))))))
    exact .inr ⟨_, rfl, (H11.fix (i := 0) rfl), by first | exact rdT_no2 hrn3 (by omega) | exact rdT_no3 hrn3 (by omega) (by omega), by decide⟩
   ·skip
    refine RL.nil (thn.n (CW.condF rfl (CW.skip (thn.n (CW.seq (CW.seq (CW.region (zm (.slice A n c) rfl (zg rfl (Ex.len Tryz.underlying97 rfl) (zm (.int .i64 4) rfl (zg rfl (Ex.sub_ (r := (n : Nat) - 4) rfl rfl (w64 (by omega) (by omega))) (zm (.int .i64 (x1 : Int)) rfl ?_))))))))))))
    refine RL.br (p := ((n : Nat) - 4 : Int) < ((x1 : Int) : Int)) rfl rfl rfl (fun r hr => Ex.lt rfl rfl hr) (fun h14 => ?_) (fun h14 => ?_)
    ·skip
     refine RL.nil (thn.n (CW.condT rfl (CW.seq (CW.region (za (.string (⟨#[]⟩)) rfl (za (.int .i64 0) rfl (za (.int .i64 10) rfl (RL.nil (thn.n (CW.ret (thn.r (finQ.r (v := (.tuple #[(.string (⟨#[]⟩)), (.int .i64 0), (.int .i64 10)])) (res3 rfl rfl rfl rfl) ?_))))))))))))
     exact .inr ⟨_, rfl, (H11.fix (i := 0) rfl), by first | exact rdT_no2 hrn3 (by omega) | exact rdT_no3 hrn3 (by omega) (by omega), by decide⟩
    ·skip
     refine RL.nil (thn.n (CW.condF rfl (CW.skip (thn.n (CW.seq (CW.region (zm (.slice A n c) rfl (zm (.int .i64 4) rfl (zm (.int .i64 4) rfl (zm (.int .i64 (x1 : Int)) rfl (zg rfl (Ex.add (r := 4 + (x1 : Int)) rfl rfl (w64 (by omega) (by omega))) ?_)))))))))))
     have hl4 : (bs.drop 4).length = bs.length - 4 := List.length_drop
     have hr4 := (RB.drop (k := 4) ⟨hr, hn, hc, hm⟩ (by omega)).1
     refine zg rfl (Ex.slLH (i := 4) (j := 4 + x1) (v := .slice (dropA A c 4 1) x1 (c - 4)) Tryz.underlying97 Tryz.sizeOf5 rfl rfl rfl (by omega) (by omega) (by omega) (by omega) (by rw [Nat.add_sub_cancel_left]; rfl)) (zg rfl (Ex.b2s (bs := (bs.drop 4)) Tryz.underlying97 Tryz.underlying5 Tryz.underlying9 rfl (hr4.st0 (H11.fix (i := 0) rfl)) (by omega)) (zm (.int .i64 4) rfl (zm (.int .i64 (x1 : Int)) rfl (zg rfl (Ex.add (r := 4 + (x1 : Int)) rfl rfl (w64 (by omega) (by omega))) (za (.string (tx (((bs.drop 4)).take x1))) rfl (za (.int .i64 (4 + (x1 : Int))) rfl (za (.int .i64 0) rfl (RL.nil (thn.n (CW.ret (finQ.r (v := (.tuple #[(.string (tx (((bs.drop 4)).take x1))), (.int .i64 (4 + (x1 : Int))), (.int .i64 0)])) (res3 rfl rfl rfl rfl) ?_)))))))))))
     exact .inl ⟨(bs.drop 4).take x1, 4 + x1, rfl, (H11.fix (i := 0) rfl), rdT_ok hrn3 (by omega) (by omega), by omega, by rw [List.length_take]; omega⟩
  ·skip
   have H15 := H0.grow g10
   have z16 := g10.size
   refine zm (.tuple #[(.int .i64 0), (.int .i64 0), (.int .i64 e2)]) rfl (zx (.int .i64 0) rfl (zx (.int .i64 0) rfl (zx (.int .i64 e2) rfl (za (.int .i64 0) rfl (za (.int .i64 0) rfl (za (.int .i64 e2) rfl (RL.nil (thn.n (CW.seq (CW.seq (CW.region (zm (.int .i64 e2) rfl (zg rfl (Ex.neD (r := true) rfl rfl (decide_eq_true (by omega))) (RL.nil (thn.n (CW.condT rfl (CW.seq (CW.region ?_))))))))))))))))))
   refine zm (.int .i64 e2) rfl (za (.string (⟨#[]⟩)) rfl (za (.int .i64 0) rfl (za (.int .i64 e2) rfl (RL.nil (thn.n (CW.ret (thn.r (finQ.r (v := (.tuple #[(.string (⟨#[]⟩)), (.int .i64 0), (.int .i64 e2)])) (res3 rfl rfl rfl rfl) ?_))))))))
   exact .inr ⟨_, rfl, (H15.fix (i := 0) rfl), rdT_no1 hrn6, by first | assumption | decide⟩
set_option maxHeartbeats 4000000 in
set_option maxRecDepth 20000 in
theorem getHeapR_ (w : World) (B : Nat) (bs : List UInt8) (A : Option Addr) (n c : Nat) (hr : RB w B A n c bs) (hB : B ≤ w.heap.size) : Ret Tryz.prog 186 [(.slice A n c)] w (fun v w' => (∃ (rh : RHeap) (ros : List RObj) (hh : Eng.Heap), v = .tuple #[.agg rh.cells.toArray, .int .i64 0] ∧ Sp ([HpW rh ros hh] ++ [Fix w NoB]) w' ∧ getHeap bs = some hh ∧ heapB hh = true) ∨ (v = .tuple #[.agg zHeap.toArray, .int .i64 60] ∧ w.grownBy w' none ∧ getHeap bs = none)) := by
  have H0 : Sp [Fix w NoB] w := Sp.start w
  refine Ret.body Tryz.func186 rfl rfl rfl ?_
  refine CW.seq (CW.region (RL.al (cs := zHeap) Tryz.zeroValue47 rfl rfl rfl ?_))
  intro w1 b2 hb3 hz4 g5 o6
  have H7 := H0.newB g5 o6 (by omega)
  have z8 := g5.size
  refine za (.int .i64 0) rfl (RL.nil (thn.n (CW.seq (CW.region (zm (.slice A n c) rfl (zg rfl (Ex.bd (cs := [(.slice A n c), (.bool false)]) bd213 rfl) (RL.bx (cs := [(.slice A n c), (.bool false)]) rfl rfl rfl ?_)))))))
  intro w9 b10 hb11 hz12 g13 o14
  have H15 := H7.newB g13 o14 (by omega)
  have z16 := g13.size
  refine za (.pointer (some ⟨b10, 0, none⟩)) rfl (RL.nil (thn.n (CW.seq (CW.region (zg rfl (Ex.bd (cs := zHeap) bd47 rfl) (RL.al (cs := zHeap) Tryz.zeroValue47 rfl rfl rfl ?_))))))
  intro w17 b18 hb19 hz20 g21 o22
  have H23 := H15.newB g21 o22 (by omega)
  have z24 := g21.size
  refine RL.st (vs := zHeap) (cs' := zHeap) Tryz.sizeOf47 (H23.ob (i := 0) rfl) rfl rfl rfl rfl rfl rfl ?_
  intro w25 hz26 g27 o28
  have H29 : Sp [BlkA b18 47 zHeap, BlkA b10 213 [(.slice A n c), (.bool false)], BlkA b2 47 zHeap, Fix w NoB] w25 := H23.setB (i := 0) rfl g27 o28 rfl
  have z30 := g27.size
  refine RL.nil (thn.n (CW.seq (CW.region (zm (.pointer (some ⟨b10, 0, none⟩)) rfl ?_))))
  obtain ⟨S41, hS42, hO43, K44⟩ := Sp.takeL (l1 := [BlkA b10 213 [(.slice A n c), (.bool false)]]) (l2 := [BlkA b18 47 zHeap, BlkA b2 47 zHeap, Fix w NoB]) (w := w25) (H29.sel [1, 0, 2, 3] (by decide) rfl)
  refine RL.call Tryz.call187 (rnum_ _ S41 b10 A n c bs false hS42 ⟨(RdN.of_fix hO43 (j := 2) rfl hr.1 (by omega)), hr.2⟩) rfl rfl rfl ?_
  rintro _ w45 ⟨x31, A32, n33, c34, bs35, bq36, rfl, g46, hnum37, hind38, hxle39⟩
  have H47 : Sp [BlkA b10 213 [.slice A32 n33 c34, .bool bq36], BlkA b18 47 zHeap, BlkA b2 47 zHeap, Fix w NoB] w45 := K44 _ _ g46
  have z48 := (H47.fix (i := 3) rfl).size
  have hq40 := hind38.r _ _ hr
  refine zg rfl (fa47_0 (b := ⟨b18, 0, none⟩) rfl rfl) (RL.st (vs := [(.int .i64 (x31 : Int))]) (cs' := [(.int .i64 (x31 : Int)), (.slice none 0 0), (.int .i64 0), (.int .i64 0), (.int .i64 0), (.int .i64 0), (.int .i64 0), (.slice none 0 0)]) Tryz.sizeOf3 (H47.ob (i := 1) rfl) rfl rfl rfl rfl rfl rfl ?_)
  intro w49 hz50 g51 o52
  have H53 : Sp [BlkA b10 213 [.slice A32 n33 c34, .bool bq36], BlkA b18 47 [(.int .i64 (x31 : Int)), (.slice none 0 0), (.int .i64 0), (.int .i64 0), (.int .i64 0), (.int .i64 0), (.int .i64 0), (.slice none 0 0)], BlkA b2 47 zHeap, Fix w NoB] w49 := H47.setB (i := 1) rfl g51 o52 rfl
  have z54 := g51.size
  refine RL.nil (thn.n (CW.seq (CW.region (zm (.pointer (some ⟨b10, 0, none⟩)) rfl ?_))))
  obtain ⟨S66, hS67, hO68, K69⟩ := H53.takeN 1
  refine RL.call Tryz.call187 (rnum_ _ S66 b10 A32 n33 c34 bs35 bq36 hS67 ⟨(RdN.of_fix hO68 (j := 2) rfl hq40.1 (by omega)), hq40.2⟩) rfl rfl rfl ?_
  rintro _ w70 ⟨x55, A56, n57, c58, bs59, bq60, rfl, g71, hnum61, hind62, hxle63⟩
  have H72 : Sp [BlkA b10 213 [.slice A56 n57 c58, .bool bq60], BlkA b18 47 [(.int .i64 (x31 : Int)), (.slice none 0 0), (.int .i64 0), (.int .i64 0), (.int .i64 0), (.int .i64 0), (.int .i64 0), (.slice none 0 0)], BlkA b2 47 zHeap, Fix w NoB] w70 := K69 _ _ g71
  have z73 := (H72.fix (i := 3) rfl).size
  have hq65 := hind62.r _ _ hq40
  refine zg rfl (fa47_2 (b := ⟨b18, 2, none⟩) rfl rfl) (RL.st (vs := [(.int .i64 (x55 : Int))]) (cs' := [(.int .i64 (x31 : Int)), (.slice none 0 0), (.int .i64 (x55 : Int)), (.int .i64 0), (.int .i64 0), (.int .i64 0), (.int .i64 0), (.slice none 0 0)]) Tryz.sizeOf3 (H72.ob (i := 1) rfl) rfl rfl rfl rfl rfl rfl ?_)
  intro w74 hz75 g76 o77
  have H78 : Sp [BlkA b10 213 [.slice A56 n57 c58, .bool bq60], BlkA b18 47 [(.int .i64 (x31 : Int)), (.slice none 0 0), (.int .i64 (x55 : Int)), (.int .i64 0), (.int .i64 0), (.int .i64 0), (.int .i64 0), (.slice none 0 0)], BlkA b2 47 zHeap, Fix w NoB] w74 := H72.setB (i := 1) rfl g76 o77 rfl
  have z79 := g76.size
  refine RL.nil (thn.n (CW.seq (CW.seq (CW.region (za (.int .i64 0) rfl (RL.nil (thn.n (CW.block (CW.unroll (CL.step (CW.seq (CW.seq (CW.region (zm (.int .i64 0) rfl (zg rfl (Ex.lt (r := true) rfl rfl (by decide)) (RL.nil (thn.n (CW.condT rfl (CW.skip (thn.n (CW.seq (CW.block (CW.region (zm (.int .i64 0) rfl ?_))))))))))))))))))))))))
  refine zm (.pointer (some ⟨b10, 0, none⟩)) rfl ?_
  obtain ⟨S90, hS91, hO92, K93⟩ := H78.takeN 1
  refine RL.call Tryz.call187 (rnum_ _ S90 b10 A56 n57 c58 bs59 bq60 hS91 ⟨(RdN.of_fix hO92 (j := 2) rfl hq65.1 (by omega)), hq65.2⟩) rfl rfl rfl ?_
  rintro _ w94 ⟨x80, A81, n82, c83, bs84, bq85, rfl, g95, hnum86, hind87, hxle88⟩
  have H96 : Sp [BlkA b10 213 [.slice A81 n82 c83, .bool bq85], BlkA b18 47 [(.int .i64 (x31 : Int)), (.slice none 0 0), (.int .i64 (x55 : Int)), (.int .i64 0), (.int .i64 0), (.int .i64 0), (.int .i64 0), (.slice none 0 0)], BlkA b2 47 zHeap, Fix w NoB] w94 := K93 _ _ g95
  have z97 := (H96.fix (i := 3) rfl).size
  have hq89 := hind87.r _ _ hq65
  refine zg rfl (fa47_3 (b := ⟨b18, 3, none⟩) rfl rfl) (zg rfl (Ex.ixA (b := ⟨b18, 3, none⟩) (i := 0) Tryz.underlying44 Tryz.sizeOf3 rfl rfl rfl rfl rfl) (RL.st (vs := [(.int .i64 (x80 : Int))]) (cs' := [(.int .i64 (x31 : Int)), (.slice none 0 0), (.int .i64 (x55 : Int)), (.int .i64 (x80 : Int)), (.int .i64 0), (.int .i64 0), (.int .i64 0), (.slice none 0 0)]) Tryz.sizeOf3 (H96.ob (i := 1) rfl) rfl rfl rfl rfl rfl rfl ?_))
  intro w98 hz99 g100 o101
  have H102 : Sp [BlkA b10 213 [.slice A81 n82 c83, .bool bq85], BlkA b18 47 [(.int .i64 (x31 : Int)), (.slice none 0 0), (.int .i64 (x55 : Int)), (.int .i64 (x80 : Int)), (.int .i64 0), (.int .i64 0), (.int .i64 0), (.slice none 0 0)], BlkA b2 47 zHeap, Fix w NoB] w98 := H96.setB (i := 1) rfl g100 o101 rfl
  have z103 := g100.size
  refine RL.nil (inB.n (thn.n (CW.region (zm (.int .i64 0) rfl (zg rfl (Ex.add (r := 1) rfl rfl rfl) (za (.int .i64 1) rfl (RL.nil (thn.n (CL.step (CW.seq (CW.seq (CW.region (zm (.int .i64 1) rfl (zg rfl (Ex.lt (r := true) rfl rfl (by decide)) (RL.nil (thn.n (CW.condT rfl (CW.skip (thn.n (CW.seq (CW.block (CW.region ?_))))))))))))))))))))))
  refine zm (.int .i64 1) rfl (zm (.pointer (some ⟨b10, 0, none⟩)) rfl ?_)
  obtain ⟨S114, hS115, hO116, K117⟩ := H102.takeN 1
  refine RL.call Tryz.call187 (rnum_ _ S114 b10 A81 n82 c83 bs84 bq85 hS115 ⟨(RdN.of_fix hO116 (j := 2) rfl hq89.1 (by omega)), hq89.2⟩) rfl rfl rfl ?_
  rintro _ w118 ⟨x104, A105, n106, c107, bs108, bq109, rfl, g119, hnum110, hind111, hxle112⟩
  have H120 : Sp [BlkA b10 213 [.slice A105 n106 c107, .bool bq109], BlkA b18 47 [(.int .i64 (x31 : Int)), (.slice none 0 0), (.int .i64 (x55 : Int)), (.int .i64 (x80 : Int)), (.int .i64 0), (.int .i64 0), (.int .i64 0), (.slice none 0 0)], BlkA b2 47 zHeap, Fix w NoB] w118 := K117 _ _ g119
  have z121 := (H120.fix (i := 3) rfl).size
  have hq113 := hind111.r _ _ hq89
  refine zg rfl (fa47_3 (b := ⟨b18, 3, none⟩) rfl rfl) (zg rfl (Ex.ixA (b := ⟨b18, 4, none⟩) (i := 1) Tryz.underlying44 Tryz.sizeOf3 rfl rfl rfl rfl rfl) (RL.st (vs := [(.int .i64 (x104 : Int))]) (cs' := [(.int .i64 (x31 : Int)), (.slice none 0 0), (.int .i64 (x55 : Int)), (.int .i64 (x80 : Int)), (.int .i64 (x104 : Int)), (.int .i64 0), (.int .i64 0), (.slice none 0 0)]) Tryz.sizeOf3 (H120.ob (i := 1) rfl) rfl rfl rfl rfl rfl rfl ?_))
  intro w122 hz123 g124 o125
  have H126 : Sp [BlkA b10 213 [.slice A105 n106 c107, .bool bq109], BlkA b18 47 [(.int .i64 (x31 : Int)), (.slice none 0 0), (.int .i64 (x55 : Int)), (.int .i64 (x80 : Int)), (.int .i64 (x104 : Int)), (.int .i64 0), (.int .i64 0), (.slice none 0 0)], BlkA b2 47 zHeap, Fix w NoB] w122 := H120.setB (i := 1) rfl g124 o125 rfl
  have z127 := g124.size
  refine RL.nil (inB.n (thn.n (CW.region (zm (.int .i64 1) rfl (zg rfl (Ex.add (r := 2) rfl rfl rfl) (za (.int .i64 2) rfl (RL.nil (thn.n (CL.step (CW.seq (CW.seq (CW.region (zm (.int .i64 2) rfl (zg rfl (Ex.lt (r := true) rfl rfl (by decide)) (RL.nil (thn.n (CW.condT rfl (CW.skip (thn.n (CW.seq (CW.block (CW.region ?_))))))))))))))))))))))
  refine zm (.int .i64 2) rfl (zm (.pointer (some ⟨b10, 0, none⟩)) rfl ?_)
  obtain ⟨S138, hS139, hO140, K141⟩ := H126.takeN 1
  refine RL.call Tryz.call187 (rnum_ _ S138 b10 A105 n106 c107 bs108 bq109 hS139 ⟨(RdN.of_fix hO140 (j := 2) rfl hq113.1 (by omega)), hq113.2⟩) rfl rfl rfl ?_
  rintro _ w142 ⟨x128, A129, n130, c131, bs132, bq133, rfl, g143, hnum134, hind135, hxle136⟩
  have H144 : Sp [BlkA b10 213 [.slice A129 n130 c131, .bool bq133], BlkA b18 47 [(.int .i64 (x31 : Int)), (.slice none 0 0), (.int .i64 (x55 : Int)), (.int .i64 (x80 : Int)), (.int .i64 (x104 : Int)), (.int .i64 0), (.int .i64 0), (.slice none 0 0)], BlkA b2 47 zHeap, Fix w NoB] w142 := K141 _ _ g143
  have z145 := (H144.fix (i := 3) rfl).size
  have hq137 := hind135.r _ _ hq113
  refine zg rfl (fa47_3 (b := ⟨b18, 3, none⟩) rfl rfl) (zg rfl (Ex.ixA (b := ⟨b18, 5, none⟩) (i := 2) Tryz.underlying44 Tryz.sizeOf3 rfl rfl rfl rfl rfl) (RL.st (vs := [(.int .i64 (x128 : Int))]) (cs' := [(.int .i64 (x31 : Int)), (.slice none 0 0), (.int .i64 (x55 : Int)), (.int .i64 (x80 : Int)), (.int .i64 (x104 : Int)), (.int .i64 (x128 : Int)), (.int .i64 0), (.slice none 0 0)]) Tryz.sizeOf3 (H144.ob (i := 1) rfl) rfl rfl rfl rfl rfl rfl ?_))
  intro w146 hz147 g148 o149
  have H150 : Sp [BlkA b10 213 [.slice A129 n130 c131, .bool bq133], BlkA b18 47 [(.int .i64 (x31 : Int)), (.slice none 0 0), (.int .i64 (x55 : Int)), (.int .i64 (x80 : Int)), (.int .i64 (x104 : Int)), (.int .i64 (x128 : Int)), (.int .i64 0), (.slice none 0 0)], BlkA b2 47 zHeap, Fix w NoB] w146 := H144.setB (i := 1) rfl g148 o149 rfl
  have z151 := g148.size
  refine RL.nil (inB.n (thn.n (CW.region (zm (.int .i64 2) rfl (zg rfl (Ex.add (r := 3) rfl rfl rfl) (za (.int .i64 3) rfl (RL.nil (thn.n (CL.step (CW.seq (CW.seq (CW.region (zm (.int .i64 3) rfl (zg rfl (Ex.lt (r := true) rfl rfl (by decide)) (RL.nil (thn.n (CW.condT rfl (CW.skip (thn.n (CW.seq (CW.block (CW.region ?_))))))))))))))))))))))
  refine zm (.int .i64 3) rfl (zm (.pointer (some ⟨b10, 0, none⟩)) rfl ?_)
  obtain ⟨S162, hS163, hO164, K165⟩ := H150.takeN 1
  refine RL.call Tryz.call187 (rnum_ _ S162 b10 A129 n130 c131 bs132 bq133 hS163 ⟨(RdN.of_fix hO164 (j := 2) rfl hq137.1 (by omega)), hq137.2⟩) rfl rfl rfl ?_
  rintro _ w166 ⟨x152, A153, n154, c155, bs156, bq157, rfl, g167, hnum158, hind159, hxle160⟩
  have H168 : Sp [BlkA b10 213 [.slice A153 n154 c155, .bool bq157], BlkA b18 47 [(.int .i64 (x31 : Int)), (.slice none 0 0), (.int .i64 (x55 : Int)), (.int .i64 (x80 : Int)), (.int .i64 (x104 : Int)), (.int .i64 (x128 : Int)), (.int .i64 0), (.slice none 0 0)], BlkA b2 47 zHeap, Fix w NoB] w166 := K165 _ _ g167
  have z169 := (H168.fix (i := 3) rfl).size
  have hq161 := hind159.r _ _ hq137
  refine zg rfl (fa47_3 (b := ⟨b18, 3, none⟩) rfl rfl) (zg rfl (Ex.ixA (b := ⟨b18, 6, none⟩) (i := 3) Tryz.underlying44 Tryz.sizeOf3 rfl rfl rfl rfl rfl) (RL.st (vs := [(.int .i64 (x152 : Int))]) (cs' := [(.int .i64 (x31 : Int)), (.slice none 0 0), (.int .i64 (x55 : Int)), (.int .i64 (x80 : Int)), (.int .i64 (x104 : Int)), (.int .i64 (x128 : Int)), (.int .i64 (x152 : Int)), (.slice none 0 0)]) Tryz.sizeOf3 (H168.ob (i := 1) rfl) rfl rfl rfl rfl rfl rfl ?_))
  intro w170 hz171 g172 o173
  have H174 : Sp [BlkA b10 213 [.slice A153 n154 c155, .bool bq157], BlkA b18 47 [(.int .i64 (x31 : Int)), (.slice none 0 0), (.int .i64 (x55 : Int)), (.int .i64 (x80 : Int)), (.int .i64 (x104 : Int)), (.int .i64 (x128 : Int)), (.int .i64 (x152 : Int)), (.slice none 0 0)], BlkA b2 47 zHeap, Fix w NoB] w170 := H168.setB (i := 1) rfl g172 o173 rfl
  have z175 := g172.size
  refine RL.nil (inB.n (thn.n (CW.region (zm (.int .i64 3) rfl (zg rfl (Ex.add (r := 4) rfl rfl rfl) (za (.int .i64 4) rfl (RL.nil (thn.n (CL.step (CW.seq (CW.seq (CW.region (zm (.int .i64 4) rfl (zg rfl (Ex.lt (r := false) rfl rfl (by decide)) (RL.nil (thn.n (CW.condF rfl (CW.exit (thn.x (thn.x (inB.hit (thn.n (CW.seq (CW.region ?_))))))))))))))))))))))))
  refine zm (.pointer (some ⟨b10, 0, none⟩)) rfl ?_
  obtain ⟨S186, hS187, hO188, K189⟩ := H174.takeN 1
  refine RL.call Tryz.call187 (rnum_ _ S186 b10 A153 n154 c155 bs156 bq157 hS187 ⟨(RdN.of_fix hO188 (j := 2) rfl hq161.1 (by omega)), hq161.2⟩) rfl rfl rfl ?_
  rintro _ w190 ⟨x176, A177, n178, c179, bs180, bq181, rfl, g191, hnum182, hind183, hxle184⟩
  have H192 : Sp [BlkA b10 213 [.slice A177 n178 c179, .bool bq181], BlkA b18 47 [(.int .i64 (x31 : Int)), (.slice none 0 0), (.int .i64 (x55 : Int)), (.int .i64 (x80 : Int)), (.int .i64 (x104 : Int)), (.int .i64 (x128 : Int)), (.int .i64 (x152 : Int)), (.slice none 0 0)], BlkA b2 47 zHeap, Fix w NoB] w190 := K189 _ _ g191
  have z193 := (H192.fix (i := 3) rfl).size
  have hq185 := hind183.r _ _ hq161
  refine za (.int .i64 (x176 : Int)) rfl (RL.nil (thn.n (CW.seq (CW.seq (CW.region (za (.int .i64 0) rfl (RL.nil (thn.n (CW.block ?_)))))))))
  have H194 := H192.nil_ 136 5
  have H195 : Sp [ObjsA ([]) ([]), RowA 136 5 none 0 0 (robjs ([])), BlkA b10 213 [.slice A177 n178 c179, .bool bq181], BlkA b18 47 [(.int .i64 (x31 : Int)), (.slice none 0 0), (.int .i64 (x55 : Int)), (.int .i64 (x80 : Int)), (.int .i64 (x104 : Int)), (.int .i64 (x128 : Int)), (.int .i64 (x152 : Int)), (.slice none 0 0)], BlkA b2 47 zHeap, Fix w NoB] w190 := H194.obNil
  refine CW.loop (fun t => (Nat.ble 8 t && Nat.ble t 9) || (Nat.ble 31 t && Nat.ble t 54)) (fun nL ρ wl => ∃ (k n1 c1 no co : Nat) (A1 Ao : Option Addr) (ros : List RObj) (os : List Eng.Obj) (bs1 : List UInt8) (b1 : Bool), ρ 8 = (.int .i64 (k : Int)) ∧ nL = 257 - k ∧ Sp [ObjsA ros os, RowA 136 5 Ao no co (robjs ros), BlkA b10 213 [.slice A1 n1 c1, .bool b1], BlkA b18 47 [(.int .i64 (x31 : Int)), (.slice Ao no co), (.int .i64 (x55 : Int)), (.int .i64 (x80 : Int)), (.int .i64 (x104 : Int)), (.int .i64 (x128 : Int)), (.int .i64 (x152 : Int)), (.slice none 0 0)], BlkA b2 47 zHeap, Fix w NoB] wl ∧ k ≤ x176 ∧ k ≤ 257 ∧ manyF objF k (bs180, bq181) = (os, (bs1, b1)) ∧ no = k ∧ InD A177 n178 c179 bs180 A1 n1 c1 bs1) (257) ?aa1 ?bb1
  case aa1 =>
   exact ⟨0, n178, c179, 0, 0, A177, none, [], [], bs180, bq181, rfl, rfl, H195, Nat.zero_le _, by omega, rfl, rfl, InD.refl _ _ _ _⟩
  case bb1 =>
   rintro n197 ρ1 w196 ho198 ⟨k, n1, c1, no, co, A1, Ao, ros, os, bs1, b1, hs1_8, hn1, H199, hk1, hk2, hmy, hno, hin1⟩
   obtain ⟨j1, rfl⟩ := ho198.shape1 hs1_8
   clear ho198 hs1_8
   subst hn1
   have z200 := (H199.fix (i := 5) rfl).size
   have hq1 := hin1.r _ _ hq185
   refine CW.seq (CW.seq (CW.region (zm (.int .i64 (k : Int)) rfl (zm (.int .i64 (x176 : Int)) rfl ?_))))
   refine RL.br (p := ((k : Int) : Int) < ((x176 : Int) : Int)) rfl rfl rfl (fun r hr => Ex.lt rfl rfl hr) (fun h201 => ?_) (fun h201 => ?_)
   ·skip
    refine zm (.bool true) rfl (zm (.int .i64 (k : Int)) rfl ?_)
    refine RL.br (p := ((k : Int) : Int) ≤ (256 : Int)) rfl rfl rfl (fun r hr => Ex.le rfl rfl hr) (fun h202 => ?_) (fun h202 => ?_)
    ·skip
     refine zT (.bool true) rfl (zm (.bool true) rfl (zm (.pointer (some ⟨b10, 0, none⟩)) rfl (zg rfl (Ex.nck rfl) (zg rfl (fa213_1 (b := ⟨b10, 1, none⟩) rfl rfl) (zl (.bool b1) lo4 (H199.ob (i := 2) rfl) rfl ?_)))))
     rcases b1 with _ | _
     ·skip
      refine zg rfl (Ex.not (b := false) rfl) (zT (.bool true) rfl (RL.nil (thn.n (CW.condT rfl (CW.skip (thn.n (CW.seq (CW.block (CW.seq (CW.region (zm (.pointer (some ⟨b10, 0, none⟩)) rfl ?_)))))))))))
      obtain ⟨S220, hS221, hO222, K223⟩ := Sp.takeL (l1 := [BlkA b10 213 [.slice A1 n1 c1, .bool false]]) (l2 := [ObjsA ros os, RowA 136 5 Ao no co (robjs ros), BlkA b18 47 [(.int .i64 (x31 : Int)), (.slice Ao no co), (.int .i64 (x55 : Int)), (.int .i64 (x80 : Int)), (.int .i64 (x104 : Int)), (.int .i64 (x128 : Int)), (.int .i64 (x152 : Int)), (.slice none 0 0)], BlkA b2 47 zHeap, Fix w NoB]) (w := w196) (H199.sel [2, 0, 1, 3, 4, 5] (by decide) rfl)
      refine RL.call Tryz.call245 (robj_ _ S220 b10 A1 n1 c1 bs1 false hS221 ⟨(RdN.of_fix hO222 (j := 4) rfl hq1.1 (by omega)), hq1.2⟩) rfl rfl rfl ?_
      rintro _ w224 ⟨o203, A204, n205, c206, A207, n208, c209, A210, n211, c212, bs213, bq214, rfl, g225, hob215, hind216, hnw217, hnl218⟩
      have H226 : Sp [BlkA b10 213 [.slice A210 n211 c212, .bool bq214], RowA 3 1 A204 n205 c206 (ics o203.words), RowA 3 1 A207 n208 c209 (ics o203.links), ObjsA ros os, RowA 136 5 Ao no co (robjs ros), BlkA b18 47 [(.int .i64 (x31 : Int)), (.slice Ao no co), (.int .i64 (x55 : Int)), (.int .i64 (x80 : Int)), (.int .i64 (x104 : Int)), (.int .i64 (x128 : Int)), (.int .i64 (x152 : Int)), (.slice none 0 0)], BlkA b2 47 zHeap, Fix w NoB] w224 := K223 _ _ g225
      have z227 := (H226.fix (i := 7) rfl).size
      have hq219 := hind216.r _ _ hq1
      refine RL.al (cs := [(.int .i64 0), (.int .i64 0), (.int .i64 0), (.slice none 0 0), (.slice none 0 0)]) Tryz.zeroValue136 rfl rfl rfl ?_
      intro w228 b229 hb230 hz231 g232 o233
      have H234 := H226.newB g232 o233 (by omega)
      have z235 := g232.size
      refine RL.st (vs := [(.int .i64 o203.handle), (.int .i64 o203.blk.at_), (.int .i64 o203.blk.ord), (.slice A204 n205 c206), (.slice A207 n208 c209)]) (cs' := [(.int .i64 o203.handle), (.int .i64 o203.blk.at_), (.int .i64 o203.blk.ord), (.slice A204 n205 c206), (.slice A207 n208 c209)]) Tryz.sizeOf136 (H234.ob (i := 0) rfl) rfl rfl rfl rfl rfl rfl ?_
      intro w236 hz237 g238 o239
      have H240 : Sp [BlkA b229 136 [(.int .i64 o203.handle), (.int .i64 o203.blk.at_), (.int .i64 o203.blk.ord), (.slice A204 n205 c206), (.slice A207 n208 c209)], BlkA b10 213 [.slice A210 n211 c212, .bool bq214], RowA 3 1 A204 n205 c206 (ics o203.words), RowA 3 1 A207 n208 c209 (ics o203.links), ObjsA ros os, RowA 136 5 Ao no co (robjs ros), BlkA b18 47 [(.int .i64 (x31 : Int)), (.slice Ao no co), (.int .i64 (x55 : Int)), (.int .i64 (x80 : Int)), (.int .i64 (x104 : Int)), (.int .i64 (x128 : Int)), (.int .i64 (x152 : Int)), (.slice none 0 0)], BlkA b2 47 zHeap, Fix w NoB] w236 := H234.setB (i := 0) rfl g238 o239 rfl
      have z241 := g238.size
      refine RL.nil (thn.n (CW.region (zg rfl (fa47_1 (b := ⟨b18, 1, none⟩) rfl rfl) (zl (.slice Ao no co) lo43 (H240.ob (i := 6) rfl) rfl (zg rfl (Ex.ldv rfl (loadCN (cs := [(.int .i64 o203.handle), (.int .i64 o203.blk.at_), (.int .i64 o203.blk.ord), (.slice A204 n205 c206), (.slice A207 n208 c209)]) wh136 (H240.ob (i := 0) rfl).cl)) (RL.bs (cs := [(.int .i64 o203.handle), (.int .i64 o203.blk.at_), (.int .i64 o203.blk.ord), (.slice A204 n205 c206), (.slice A207 n208 c209)]) Tryz.underlying43 Tryz.sizeOf136 ze43 rfl rfl rfl (by decide) rfl rfl rfl ?_))))))
      intro w242 b243 hb244 hz245 g246 o247
      have H248 := H240.newB g246 o247 (by omega)
      have z249 := g246.size
      refine RL.apW (base := 0) (xss := (robjs ros)) (yss := (robjs ([(⟨o203.handle, o203.blk, ⟨A204, n205, c206⟩, ⟨A207, n208, c209⟩⟩ : RObj)]))) el43 (H248.wr (i := 6) rfl) rfl (Ob.rd1 (H248.ob (i := 0) rfl) rfl) rfl (by simp only [bcs_length, ics_length, rows_length, blks_length, robjs_length, ents_length, List.length_append, List.length_cons, List.length_nil, List.length_take, List.length_drop, List.length_map, enc4, enc8, encN_len, encW_len, recsE_length]; try omega) (robjs_one _) (by omega) (by omega) (by omega) rfl rfl ?_
      intro w250 A251 c252 g253 ow254 nx255
      have H256 : Sp [BlkA b243 136 [(.int .i64 o203.handle), (.int .i64 o203.blk.at_), (.int .i64 o203.blk.ord), (.slice A204 n205 c206), (.slice A207 n208 c209)], BlkA b229 136 [(.int .i64 o203.handle), (.int .i64 o203.blk.at_), (.int .i64 o203.blk.ord), (.slice A204 n205 c206), (.slice A207 n208 c209)], BlkA b10 213 [.slice A210 n211 c212, .bool bq214], RowA 3 1 A204 n205 c206 (ics o203.words), RowA 3 1 A207 n208 c209 (ics o203.links), ObjsA ros os, RowA 136 5 A251 (no + 1) c252 (robjs (ros ++ [(⟨o203.handle, o203.blk, ⟨A204, n205, c206⟩, ⟨A207, n208, c209⟩⟩ : RObj)])), BlkA b18 47 [(.int .i64 (x31 : Int)), (.slice Ao no co), (.int .i64 (x55 : Int)), (.int .i64 (x80 : Int)), (.int .i64 (x104 : Int)), (.int .i64 (x128 : Int)), (.int .i64 (x152 : Int)), (.slice none 0 0)], BlkA b2 47 zHeap, Fix w NoB] w250 := H248.setR (i := 6) rfl g253 ((robjs_app _ _).symm ▸ ow254) nx255 rfl
      have z257 := g253.size
      refine zg rfl (fa47_1 (b := ⟨b18, 1, none⟩) rfl rfl) (RL.st (vs := [(.slice A251 (no + 1) c252)]) (cs' := [(.int .i64 (x31 : Int)), (.slice A251 (no + 1) c252), (.int .i64 (x55 : Int)), (.int .i64 (x80 : Int)), (.int .i64 (x104 : Int)), (.int .i64 (x128 : Int)), (.int .i64 (x152 : Int)), (.slice none 0 0)]) Tryz.sizeOf43 (H256.ob (i := 7) rfl) rfl rfl rfl rfl rfl rfl ?_)
      intro w258 hz259 g260 o261
      have H262 : Sp [BlkA b243 136 [(.int .i64 o203.handle), (.int .i64 o203.blk.at_), (.int .i64 o203.blk.ord), (.slice A204 n205 c206), (.slice A207 n208 c209)], BlkA b229 136 [(.int .i64 o203.handle), (.int .i64 o203.blk.at_), (.int .i64 o203.blk.ord), (.slice A204 n205 c206), (.slice A207 n208 c209)], BlkA b10 213 [.slice A210 n211 c212, .bool bq214], RowA 3 1 A204 n205 c206 (ics o203.words), RowA 3 1 A207 n208 c209 (ics o203.links), ObjsA ros os, RowA 136 5 A251 (no + 1) c252 (robjs (ros ++ [(⟨o203.handle, o203.blk, ⟨A204, n205, c206⟩, ⟨A207, n208, c209⟩⟩ : RObj)])), BlkA b18 47 [(.int .i64 (x31 : Int)), (.slice A251 (no + 1) c252), (.int .i64 (x55 : Int)), (.int .i64 (x80 : Int)), (.int .i64 (x104 : Int)), (.int .i64 (x128 : Int)), (.int .i64 (x152 : Int)), (.slice none 0 0)], BlkA b2 47 zHeap, Fix w NoB] w258 := H256.setB (i := 7) rfl g260 o261 rfl
      have z263 := g260.size
      refine RL.nil (inB.n (thn.n (CW.region (zm (.int .i64 (k : Int)) rfl (zg rfl (Ex.add (r := (k : Int) + 1) rfl rfl (w64 (by omega) (by omega))) (za (.int .i64 ((k : Int) + 1)) rfl (RL.nil (thn.n ?_))))))))
      have H264 : Sp [ObjsA (ros ++ [(⟨o203.handle, o203.blk, ⟨A204, n205, c206⟩, ⟨A207, n208, c209⟩⟩ : RObj)]) (os ++ [o203]), BlkA b243 136 [(.int .i64 o203.handle), (.int .i64 o203.blk.at_), (.int .i64 o203.blk.ord), (.slice A204 n205 c206), (.slice A207 n208 c209)], BlkA b229 136 [(.int .i64 o203.handle), (.int .i64 o203.blk.at_), (.int .i64 o203.blk.ord), (.slice A204 n205 c206), (.slice A207 n208 c209)], BlkA b10 213 [.slice A210 n211 c212, .bool bq214], RowA 136 5 A251 (no + 1) c252 (robjs (ros ++ [(⟨o203.handle, o203.blk, ⟨A204, n205, c206⟩, ⟨A207, n208, c209⟩⟩ : RObj)])), BlkA b18 47 [(.int .i64 (x31 : Int)), (.slice A251 (no + 1) c252), (.int .i64 (x55 : Int)), (.int .i64 (x80 : Int)), (.int .i64 (x104 : Int)), (.int .i64 (x128 : Int)), (.int .i64 (x152 : Int)), (.slice none 0 0)], BlkA b2 47 zHeap, Fix w NoB] w258 := (Sp.obSnoc (ros := ros) (os := os) (o := o203) (H262.sel [5, 3, 4, 0, 1, 2, 6, 7, 8, 9] (by decide) rfl) (by omega) (by omega))
      refine ⟨(by repeat (first | exact Out.mix _ _ | exact Out.refl _ _ | refine Out.up ?_ rfl _ | refine Out.mixIn ?_ (by intro t ht; simp only [Bool.or_eq_false_iff, Bool.and_eq_false_iff, ble_f, beq_f] at ht ⊢; omega))), _, ?_, k + 1, n211, c212, no + 1, c252, A210, A251, ros ++ [(⟨o203.handle, o203.blk, ⟨A204, n205, c206⟩, ⟨A207, n208, c209⟩⟩ : RObj)], os ++ [o203], bs213, bq214, rfl, rfl, (H264.sel [0, 4, 3, 5, 6, 7] (by decide) rfl), by omega, by omega, manyF_go hmy hob215, by omega, hin1.trans hind216⟩
      omega
     ·skip
      refine zg rfl (Ex.not (b := true) rfl) (zT (.bool false) rfl (RL.nil (thn.n (CW.condF rfl (CW.exit (thn.x (thn.x (inB.hit (thn.n (CW.seq (CW.seq ?_)))))))))))
      have hgh := getHeap_ref hnum37 hnum61 hnum86 hnum110 hnum134 hnum158 hnum182 hmy (by omega) (by first | exact .inl (by omega) | exact .inr (.inl (by omega)) | exact .inr (.inr rfl))
      have hob := H199.obR (i := 0) rfl
      have hobl := hob.1
      have hrl := H199.len (i := 1) rfl
      rw [robjs_length] at hrl
      have hmb := map_blk hob
      have hq1l := hq1.2.1
      refine CW.region (zm (.pointer (some ⟨b10, 0, none⟩)) rfl (zg rfl (Ex.nck rfl) (zg rfl (fa213_1 (b := ⟨b10, 1, none⟩) rfl rfl) (zl (.bool true) lo4 (H199.ob (i := 2) rfl) rfl (zm (.bool true) rfl (zo rfl (zo rfl (zo rfl (zo rfl (zo rfl ?_))))))))))
      refine zo rfl (zT (.bool true) rfl (zm (.bool true) rfl (zo rfl (zo rfl (zo rfl (zo rfl (zT (.bool true) rfl (zm (.bool true) rfl (zo rfl (zo rfl ?_))))))))))
      refine zo rfl (zo rfl (zo rfl (zT (.bool true) rfl (RL.nil (thn.n (CW.condT rfl (CW.seq (CW.region (zg rfl (Ex.bd (cs := zHeap) bd47 rfl) (RL.st (vs := zHeap) (cs' := zHeap) Tryz.sizeOf47 (H199.ob (i := 4) rfl) rfl rfl rfl rfl rfl rfl ?_))))))))))
      intro w265 hz266 g267 o268
      have H269 : Sp [ObjsA ros os, RowA 136 5 Ao no co (robjs ros), BlkA b10 213 [.slice A1 n1 c1, .bool true], BlkA b18 47 [(.int .i64 (x31 : Int)), (.slice Ao no co), (.int .i64 (x55 : Int)), (.int .i64 (x80 : Int)), (.int .i64 (x104 : Int)), (.int .i64 (x128 : Int)), (.int .i64 (x152 : Int)), (.slice none 0 0)], BlkA b2 47 zHeap, Fix w NoB] w265 := H199.setB (i := 4) rfl g267 o268 rfl
      have z270 := g267.size
      refine za (.int .i64 60) rfl (RL.nil (thn.n (CW.ret (thn.r (finQ.r (v := (.tuple #[(.agg (zHeap).toArray), (.int .i64 60)])) (resv2 rfl (Rv.cell rfl (loadCN (cs := zHeap) wh47 (H269.ob (i := 4) rfl).cl)) (Rv.tmp rfl)) ?_)))))
      exact .inr ⟨rfl, (H269.fix (i := 5) rfl), by rw [hgh, if_neg (fun ⟨q1, q2, q3, q4, q5⟩ => by first | (cases q1; done) | (rw [q2] at hq1l; simp only [List.length_nil] at hq1l; omega) | omega)]⟩
    ·skip
     refine zT (.bool false) rfl (zm (.bool false) rfl (zo rfl (zo rfl (zo rfl (zo rfl (zo rfl (zF (.bool false) rfl (RL.nil (thn.n (CW.condF rfl (CW.exit (thn.x (thn.x (inB.hit (thn.n (CW.seq (CW.seq ?_)))))))))))))))))
     have hgh := getHeap_ref hnum37 hnum61 hnum86 hnum110 hnum134 hnum158 hnum182 hmy (by omega) (by first | exact .inl (by omega) | exact .inr (.inl (by omega)) | exact .inr (.inr rfl))
     have hob := H199.obR (i := 0) rfl
     have hobl := hob.1
     have hrl := H199.len (i := 1) rfl
     rw [robjs_length] at hrl
     have hmb := map_blk hob
     have hq1l := hq1.2.1
     refine CW.region (zm (.pointer (some ⟨b10, 0, none⟩)) rfl (zg rfl (Ex.nck rfl) (zg rfl (fa213_1 (b := ⟨b10, 1, none⟩) rfl rfl) (zl (.bool b1) lo4 (H199.ob (i := 2) rfl) rfl ?_))))
     rcases b1 with _ | _
     ·skip
      refine zm (.bool false) rfl (zm (.pointer (some ⟨b10, 0, none⟩)) rfl (zg rfl (Ex.nck rfl) (zg rfl (fa213_0 (b := ⟨b10, 0, none⟩) rfl rfl) (zl (.slice A1 n1 c1) lo97 (H199.ob (i := 2) rfl) rfl (zg rfl (Ex.len Tryz.underlying97 rfl) ?_)))))
      refine RL.br (p := (0 : Int) < ((n1 : Nat) : Int)) rfl rfl rfl (fun r hr => Ex.gt rfl rfl hr) (fun h271 => ?_) (fun h271 => ?_)
      ·skip
       refine zF (.bool true) rfl (zm (.bool true) rfl (zo rfl (zo rfl (zo rfl (zo rfl (zT (.bool true) rfl (zm (.bool true) rfl (zo rfl (zo rfl (zo rfl ?_))))))))))
       refine zo rfl (zo rfl (zT (.bool true) rfl (RL.nil (thn.n (CW.condT rfl (CW.seq (CW.region (zg rfl (Ex.bd (cs := zHeap) bd47 rfl) (RL.st (vs := zHeap) (cs' := zHeap) Tryz.sizeOf47 (H199.ob (i := 4) rfl) rfl rfl rfl rfl rfl rfl ?_)))))))))
       intro w272 hz273 g274 o275
       have H276 : Sp [ObjsA ros os, RowA 136 5 Ao no co (robjs ros), BlkA b10 213 [.slice A1 n1 c1, .bool false], BlkA b18 47 [(.int .i64 (x31 : Int)), (.slice Ao no co), (.int .i64 (x55 : Int)), (.int .i64 (x80 : Int)), (.int .i64 (x104 : Int)), (.int .i64 (x128 : Int)), (.int .i64 (x152 : Int)), (.slice none 0 0)], BlkA b2 47 zHeap, Fix w NoB] w272 := H199.setB (i := 4) rfl g274 o275 rfl
       have z277 := g274.size
       refine za (.int .i64 60) rfl (RL.nil (thn.n (CW.ret (thn.r (finQ.r (v := (.tuple #[(.agg (zHeap).toArray), (.int .i64 60)])) (resv2 rfl (Rv.cell rfl (loadCN (cs := zHeap) wh47 (H276.ob (i := 4) rfl).cl)) (Rv.tmp rfl)) ?_)))))
       exact .inr ⟨rfl, (H276.fix (i := 5) rfl), by rw [hgh, if_neg (fun ⟨q1, q2, q3, q4, q5⟩ => by first | (cases q1; done) | (rw [q2] at hq1l; simp only [List.length_nil] at hq1l; omega) | omega)]⟩
      ·skip
       refine zF (.bool false) rfl (zm (.bool false) rfl (zg rfl (fa47_0 (b := ⟨b18, 0, none⟩) rfl rfl) (zl (.int .i64 (x31 : Int)) lo3 (H199.ob (i := 3) rfl) rfl (RL.call Tryz.call235 (reg_ _ (x31 : Int)) rfl rfl rfl ?_))))
       rintro _ w278 ⟨rfl, g279⟩
       have H280 := H199.grow g279
       have z281 := g279.size
       rcases hb282 : (withinB (x31 : Int) 3 8) with _ | _
       ·have hwf := withinB_f hb282
        refine zg rfl (Ex.not (b := false) rfl) (zF (.bool true) rfl (zm (.bool true) rfl (zo rfl (zo rfl (zo rfl (zo rfl (zo rfl (zT (.bool true) rfl (RL.nil (thn.n (CW.condT rfl (CW.seq (CW.region (zg rfl (Ex.bd (cs := zHeap) bd47 rfl) ?_))))))))))))))
        refine RL.st (vs := zHeap) (cs' := zHeap) Tryz.sizeOf47 (H280.ob (i := 4) rfl) rfl rfl rfl rfl rfl rfl ?_
        intro w283 hz284 g285 o286
        have H287 : Sp [ObjsA ros os, RowA 136 5 Ao no co (robjs ros), BlkA b10 213 [.slice A1 n1 c1, .bool false], BlkA b18 47 [(.int .i64 (x31 : Int)), (.slice Ao no co), (.int .i64 (x55 : Int)), (.int .i64 (x80 : Int)), (.int .i64 (x104 : Int)), (.int .i64 (x128 : Int)), (.int .i64 (x152 : Int)), (.slice none 0 0)], BlkA b2 47 zHeap, Fix w NoB] w283 := H280.setB (i := 4) rfl g285 o286 rfl
        have z288 := g285.size
        refine za (.int .i64 60) rfl (RL.nil (thn.n (CW.ret (thn.r (finQ.r (v := (.tuple #[(.agg (zHeap).toArray), (.int .i64 60)])) (resv2 rfl (Rv.cell rfl (loadCN (cs := zHeap) wh47 (H287.ob (i := 4) rfl).cl)) (Rv.tmp rfl)) ?_)))))
        exact .inr ⟨rfl, (H287.fix (i := 5) rfl), by rw [hgh, if_neg (fun ⟨q1, q2, q3, q4, q5⟩ => by first | (cases q1; done) | (rw [q2] at hq1l; simp only [List.length_nil] at hq1l; omega) | (rw [hb282] at q3; cases q3) | (rw [hb282] at q5; cases q5) | omega)]⟩
       ·have hwt := withinB_t hb282
        refine zg rfl (Ex.not (b := true) rfl) (zF (.bool false) rfl (zm (.bool false) rfl (zm (.int .i64 (x176 : Int)) rfl (zg rfl (fa47_1 (b := ⟨b18, 1, none⟩) rfl rfl) (zl (.slice Ao no co) lo43 (H280.ob (i := 3) rfl) rfl (zg rfl (Ex.len Tryz.underlying43 rfl) ?_))))))
        refine RL.br (p := ((x176 : Int) : Int) ≠ ((no : Nat) : Int)) rfl rfl rfl (fun r hr => Ex.neD rfl rfl hr) (fun h289 => ?_) (fun h289 => ?_)
        ·skip
         refine zF (.bool true) rfl (RL.nil (thn.n (CW.condT rfl (CW.seq (CW.region (zg rfl (Ex.bd (cs := zHeap) bd47 rfl) (RL.st (vs := zHeap) (cs' := zHeap) Tryz.sizeOf47 (H280.ob (i := 4) rfl) rfl rfl rfl rfl rfl rfl ?_)))))))
         intro w290 hz291 g292 o293
         have H294 : Sp [ObjsA ros os, RowA 136 5 Ao no co (robjs ros), BlkA b10 213 [.slice A1 n1 c1, .bool false], BlkA b18 47 [(.int .i64 (x31 : Int)), (.slice Ao no co), (.int .i64 (x55 : Int)), (.int .i64 (x80 : Int)), (.int .i64 (x104 : Int)), (.int .i64 (x128 : Int)), (.int .i64 (x152 : Int)), (.slice none 0 0)], BlkA b2 47 zHeap, Fix w NoB] w290 := H280.setB (i := 4) rfl g292 o293 rfl
         have z295 := g292.size
         refine za (.int .i64 60) rfl (RL.nil (thn.n (CW.ret (thn.r (finQ.r (v := (.tuple #[(.agg (zHeap).toArray), (.int .i64 60)])) (resv2 rfl (Rv.cell rfl (loadCN (cs := zHeap) wh47 (H294.ob (i := 4) rfl).cl)) (Rv.tmp rfl)) ?_)))))
         exact .inr ⟨rfl, (H294.fix (i := 5) rfl), by rw [hgh, if_neg (fun ⟨q1, q2, q3, q4, q5⟩ => by first | (cases q1; done) | (rw [q2] at hq1l; simp only [List.length_nil] at hq1l; omega) | (rw [hb282] at q3; cases q3) | (rw [hb282] at q5; cases q5) | omega)]⟩
        ·skip
         refine zF (.bool false) rfl (RL.nil (thn.n (CW.condF rfl (CW.skip (thn.n (CW.seq ?_))))))
         have hxb := obs_bd hmb (many_ok hmy)
         refine CW.region (zg rfl (fa47_0 (b := ⟨b18, 0, none⟩) rfl rfl) (zl (.int .i64 (x31 : Int)) lo3 (H280.ob (i := 3) rfl) rfl (zg rfl (fa47_1 (b := ⟨b18, 1, none⟩) rfl rfl) (zl (.slice Ao no co) lo43 (H280.ob (i := 3) rfl) rfl (RL.call Tryz.call246 (freeR_ _ w278.heap.size (x31 : Int) ros Ao no co ((H280.rowrd (i := 1) rfl).more (Nat.le_refl _)) (by first | assumption | omega) (Nat.le_refl _) (by omega) (by first | assumption | omega) hxb) rfl rfl rfl ?_)))))
         rintro _ w300 ⟨A296, n297, c298, rfl, g301, hn6299⟩
         have g302 := g301.fix (i := 1) rfl
         have H303 : Sp [RowA 133 2 A296 n297 c298 (blks ((leftL (wordsI (x31 : Int)) (ros.map RObj.blk) [⟨0, (x31 : Int)⟩]))), ObjsA ros os, RowA 136 5 Ao no co (robjs ros), BlkA b10 213 [.slice A1 n1 c1, .bool false], BlkA b18 47 [(.int .i64 (x31 : Int)), (.slice Ao no co), (.int .i64 (x55 : Int)), (.int .i64 (x80 : Int)), (.int .i64 (x104 : Int)), (.int .i64 (x128 : Int)), (.int .i64 (x152 : Int)), (.slice none 0 0)], BlkA b2 47 zHeap, Fix w NoB] w300 := H280.join (m := [RowA 133 2 A296 n297 c298 (blks ((leftL (wordsI (x31 : Int)) (ros.map RObj.blk) [⟨0, (x31 : Int)⟩])))]) g301
         have z304 := g302.size
         refine zg rfl (fa47_4 (b := ⟨b18, 7, none⟩) rfl rfl) (RL.st (vs := [(.slice A296 n297 c298)]) (cs' := [(.int .i64 (x31 : Int)), (.slice Ao no co), (.int .i64 (x55 : Int)), (.int .i64 (x80 : Int)), (.int .i64 (x104 : Int)), (.int .i64 (x128 : Int)), (.int .i64 (x152 : Int)), (.slice A296 n297 c298)]) Tryz.sizeOf45 (H303.ob (i := 4) rfl) rfl rfl rfl rfl rfl rfl ?_)
         intro w305 hz306 g307 o308
         have H309 : Sp [RowA 133 2 A296 n297 c298 (blks ((leftL (wordsI (x31 : Int)) (ros.map RObj.blk) [⟨0, (x31 : Int)⟩]))), ObjsA ros os, RowA 136 5 Ao no co (robjs ros), BlkA b10 213 [.slice A1 n1 c1, .bool false], BlkA b18 47 [(.int .i64 (x31 : Int)), (.slice Ao no co), (.int .i64 (x55 : Int)), (.int .i64 (x80 : Int)), (.int .i64 (x104 : Int)), (.int .i64 (x128 : Int)), (.int .i64 (x152 : Int)), (.slice A296 n297 c298)], BlkA b2 47 zHeap, Fix w NoB] w305 := H303.setB (i := 4) rfl g307 o308 rfl
         have z310 := g307.size
         refine RL.nil (thn.n (CW.seq (CW.seq ?_)))
         rw [hmb] at H309
         have H311 : Sp [HpW (⟨(x31 : Int), ⟨Ao, no, co⟩, (x55 : Int), (x80 : Int), (x104 : Int), (x128 : Int), (x152 : Int), ⟨A296, n297, c298⟩⟩ : RHeap) ros (⟨(x31 : Int), os, (x55 : Int), (x80 : Int), (x104 : Int), (x128 : Int), (x152 : Int), (leftL (wordsI (x31 : Int)) (os.map Obj.blk) [⟨0, (x31 : Int)⟩])⟩ : Eng.Heap), BlkA b10 213 [.slice A1 n1 c1, .bool false], BlkA b18 47 [(.int .i64 (x31 : Int)), (.slice Ao no co), (.int .i64 (x55 : Int)), (.int .i64 (x80 : Int)), (.int .i64 (x104 : Int)), (.int .i64 (x128 : Int)), (.int .i64 (x152 : Int)), (.slice A296 n297 c298)], BlkA b2 47 zHeap, Fix w NoB] w305 := (Sp.hpMk (rh := (⟨(x31 : Int), ⟨Ao, no, co⟩, (x55 : Int), (x80 : Int), (x104 : Int), (x128 : Int), (x152 : Int), ⟨A296, n297, c298⟩⟩ : RHeap)) (ros := ros) (hh := (⟨(x31 : Int), os, (x55 : Int), (x80 : Int), (x104 : Int), (x128 : Int), (x152 : Int), (leftL (wordsI (x31 : Int)) (os.map Obj.blk) [⟨0, (x31 : Int)⟩])⟩ : Eng.Heap)) (H309.sel [2, 1, 0, 3, 4, 5, 6] (by decide) rfl) ⟨rfl, rfl, rfl, by show no ≤ _; omega, by show n297 ≤ _; omega⟩)
         refine CW.region (zg rfl (Ex.ldv rfl (loadCN (cs := [(.int .i64 (x31 : Int)), (.slice Ao no co), (.int .i64 (x55 : Int)), (.int .i64 (x80 : Int)), (.int .i64 (x104 : Int)), (.int .i64 (x128 : Int)), (.int .i64 (x152 : Int)), (.slice A296 n297 c298)]) wh47 (H311.ob (i := 2) rfl).cl)) (RL.call Tryz.call167 (right05_ _ _ (⟨(x31 : Int), ⟨Ao, no, co⟩, (x55 : Int), (x80 : Int), (x104 : Int), (x128 : Int), (x152 : Int), ⟨A296, n297, c298⟩⟩ : RHeap) _ _ (H311.hpWR (i := 0) rfl) (Nat.le_refl _) (by first | assumption | omega | (dsimp only; omega))) rfl rfl rfl ?_))
         rintro _ w312 ⟨rfl, g313⟩
         have H314 := H311.grow g313
         have z315 := g313.size
         rcases hb316 : (heapB ((⟨(x31 : Int), os, (x55 : Int), (x80 : Int), (x104 : Int), (x128 : Int), (x152 : Int), (leftL (wordsI (x31 : Int)) (os.map Obj.blk) [⟨0, (x31 : Int)⟩])⟩ : Eng.Heap))) with _ | _
         ·skip
          refine zg rfl (Ex.not (b := false) rfl) (RL.nil (thn.n (CW.condT rfl (CW.seq (CW.region (zg rfl (Ex.bd (cs := zHeap) bd47 rfl) (RL.st (vs := zHeap) (cs' := zHeap) Tryz.sizeOf47 (H314.ob (i := 3) rfl) rfl rfl rfl rfl rfl rfl ?_)))))))
          intro w317 hz318 g319 o320
          have H321 : Sp [HpW (⟨(x31 : Int), ⟨Ao, no, co⟩, (x55 : Int), (x80 : Int), (x104 : Int), (x128 : Int), (x152 : Int), ⟨A296, n297, c298⟩⟩ : RHeap) ros (⟨(x31 : Int), os, (x55 : Int), (x80 : Int), (x104 : Int), (x128 : Int), (x152 : Int), (leftL (wordsI (x31 : Int)) (os.map Obj.blk) [⟨0, (x31 : Int)⟩])⟩ : Eng.Heap), BlkA b10 213 [.slice A1 n1 c1, .bool false], BlkA b18 47 [(.int .i64 (x31 : Int)), (.slice Ao no co), (.int .i64 (x55 : Int)), (.int .i64 (x80 : Int)), (.int .i64 (x104 : Int)), (.int .i64 (x128 : Int)), (.int .i64 (x152 : Int)), (.slice A296 n297 c298)], BlkA b2 47 zHeap, Fix w NoB] w317 := H314.setB (i := 3) rfl g319 o320 rfl
          have z322 := g319.size
          refine za (.int .i64 60) rfl (RL.nil (thn.n (CW.ret (thn.r (finQ.r (v := (.tuple #[(.agg (zHeap).toArray), (.int .i64 60)])) (resv2 rfl (Rv.cell rfl (loadCN (cs := zHeap) wh47 (H321.ob (i := 3) rfl).cl)) (Rv.tmp rfl)) ?_)))))
          exact .inr ⟨rfl, (H321.fix (i := 4) rfl), by rw [hgh, if_neg (fun ⟨q1, q2, q3, q4, q5⟩ => by first | (cases q1; done) | (rw [q2] at hq1l; simp only [List.length_nil] at hq1l; omega) | (rw [hb316] at q3; cases q3) | (rw [hb316] at q5; cases q5) | omega)]⟩
         ·skip
          refine zg rfl (Ex.not (b := true) rfl) (RL.nil (thn.n (CW.condF rfl (CW.skip (thn.n (CW.seq (CW.region (zg rfl (Ex.ldv rfl (loadCN (cs := [(.int .i64 (x31 : Int)), (.slice Ao no co), (.int .i64 (x55 : Int)), (.int .i64 (x80 : Int)), (.int .i64 (x104 : Int)), (.int .i64 (x128 : Int)), (.int .i64 (x152 : Int)), (.slice A296 n297 c298)]) wh47 (H314.ob (i := 2) rfl).cl)) (RL.st (vs := [(.int .i64 (x31 : Int)), (.slice Ao no co), (.int .i64 (x55 : Int)), (.int .i64 (x80 : Int)), (.int .i64 (x104 : Int)), (.int .i64 (x128 : Int)), (.int .i64 (x152 : Int)), (.slice A296 n297 c298)]) (cs' := [(.int .i64 (x31 : Int)), (.slice Ao no co), (.int .i64 (x55 : Int)), (.int .i64 (x80 : Int)), (.int .i64 (x104 : Int)), (.int .i64 (x128 : Int)), (.int .i64 (x152 : Int)), (.slice A296 n297 c298)]) Tryz.sizeOf47 (H314.ob (i := 3) rfl) rfl rfl rfl rfl rfl rfl ?_)))))))))
          intro w323 hz324 g325 o326
          have H327 : Sp [HpW (⟨(x31 : Int), ⟨Ao, no, co⟩, (x55 : Int), (x80 : Int), (x104 : Int), (x128 : Int), (x152 : Int), ⟨A296, n297, c298⟩⟩ : RHeap) ros (⟨(x31 : Int), os, (x55 : Int), (x80 : Int), (x104 : Int), (x128 : Int), (x152 : Int), (leftL (wordsI (x31 : Int)) (os.map Obj.blk) [⟨0, (x31 : Int)⟩])⟩ : Eng.Heap), BlkA b10 213 [.slice A1 n1 c1, .bool false], BlkA b18 47 [(.int .i64 (x31 : Int)), (.slice Ao no co), (.int .i64 (x55 : Int)), (.int .i64 (x80 : Int)), (.int .i64 (x104 : Int)), (.int .i64 (x128 : Int)), (.int .i64 (x152 : Int)), (.slice A296 n297 c298)], BlkA b2 47 [(.int .i64 (x31 : Int)), (.slice Ao no co), (.int .i64 (x55 : Int)), (.int .i64 (x80 : Int)), (.int .i64 (x104 : Int)), (.int .i64 (x128 : Int)), (.int .i64 (x152 : Int)), (.slice A296 n297 c298)], Fix w NoB] w323 := H314.setB (i := 3) rfl g325 o326 rfl
          have z328 := g325.size
          refine za (.int .i64 0) rfl (RL.nil (thn.n (CW.ret (finQ.r (v := (.tuple #[(.agg ([(.int .i64 (x31 : Int)), (.slice Ao no co), (.int .i64 (x55 : Int)), (.int .i64 (x80 : Int)), (.int .i64 (x104 : Int)), (.int .i64 (x128 : Int)), (.int .i64 (x152 : Int)), (.slice A296 n297 c298)]).toArray), (.int .i64 0)])) (resv2 rfl (Rv.cell rfl (loadCN (cs := [(.int .i64 (x31 : Int)), (.slice Ao no co), (.int .i64 (x55 : Int)), (.int .i64 (x80 : Int)), (.int .i64 (x104 : Int)), (.int .i64 (x128 : Int)), (.int .i64 (x152 : Int)), (.slice A296 n297 c298)]) wh47 (H327.ob (i := 3) rfl).cl)) (Rv.tmp rfl)) ?_))))
          exact .inl ⟨(⟨(x31 : Int), ⟨Ao, no, co⟩, (x55 : Int), (x80 : Int), (x104 : Int), (x128 : Int), (x152 : Int), ⟨A296, n297, c298⟩⟩ : RHeap), ros, _, rfl, (H327.sel [0, 4] (by decide) rfl), by rw [hgh, if_pos ⟨rfl, List.eq_nil_of_length_eq_zero (by omega), hb282, by omega, hb316⟩], hb316⟩
     ·skip
      refine zm (.bool true) rfl (zo rfl (zo rfl (zo rfl (zo rfl (zo rfl (zo rfl (zT (.bool true) rfl (zm (.bool true) rfl (zo rfl (zo rfl ?_))))))))))
      refine zo rfl (zo rfl (zT (.bool true) rfl (zm (.bool true) rfl (zo rfl (zo rfl (zo rfl (zo rfl (zo rfl (zT (.bool true) rfl (RL.nil (thn.n (CW.condT rfl (CW.seq (CW.region ?_))))))))))))))
      refine zg rfl (Ex.bd (cs := zHeap) bd47 rfl) (RL.st (vs := zHeap) (cs' := zHeap) Tryz.sizeOf47 (H199.ob (i := 4) rfl) rfl rfl rfl rfl rfl rfl ?_)
      intro w329 hz330 g331 o332
      have H333 : Sp [ObjsA ros os, RowA 136 5 Ao no co (robjs ros), BlkA b10 213 [.slice A1 n1 c1, .bool true], BlkA b18 47 [(.int .i64 (x31 : Int)), (.slice Ao no co), (.int .i64 (x55 : Int)), (.int .i64 (x80 : Int)), (.int .i64 (x104 : Int)), (.int .i64 (x128 : Int)), (.int .i64 (x152 : Int)), (.slice none 0 0)], BlkA b2 47 zHeap, Fix w NoB] w329 := H199.setB (i := 4) rfl g331 o332 rfl
      have z334 := g331.size
      refine za (.int .i64 60) rfl (RL.nil (thn.n (CW.ret (thn.r (finQ.r (v := (.tuple #[(.agg (zHeap).toArray), (.int .i64 60)])) (resv2 rfl (Rv.cell rfl (loadCN (cs := zHeap) wh47 (H333.ob (i := 4) rfl).cl)) (Rv.tmp rfl)) ?_)))))
      exact .inr ⟨rfl, (H333.fix (i := 5) rfl), by rw [hgh, if_neg (fun ⟨q1, q2, q3, q4, q5⟩ => by first | (cases q1; done) | (rw [q2] at hq1l; simp only [List.length_nil] at hq1l; omega) | omega)]⟩
   ·skip
    refine zm (.bool false) rfl (zo rfl (zo rfl (zF (.bool false) rfl (zm (.bool false) rfl (zo rfl (zo rfl (zo rfl (zo rfl (zo rfl (zF (.bool false) rfl ?_))))))))))
    refine RL.nil (thn.n (CW.condF rfl (CW.exit (thn.x (thn.x (inB.hit (thn.n (CW.seq (CW.seq ?_)))))))))
    have hgh := getHeap_ref hnum37 hnum61 hnum86 hnum110 hnum134 hnum158 hnum182 hmy (by omega) (by first | exact .inl (by omega) | exact .inr (.inl (by omega)) | exact .inr (.inr rfl))
    have hob := H199.obR (i := 0) rfl
    have hobl := hob.1
    have hrl := H199.len (i := 1) rfl
    rw [robjs_length] at hrl
    have hmb := map_blk hob
    have hq1l := hq1.2.1
    refine CW.region (zm (.pointer (some ⟨b10, 0, none⟩)) rfl (zg rfl (Ex.nck rfl) (zg rfl (fa213_1 (b := ⟨b10, 1, none⟩) rfl rfl) (zl (.bool b1) lo4 (H199.ob (i := 2) rfl) rfl ?_))))
    rcases b1 with _ | _
    ·skip
     refine zm (.bool false) rfl (zm (.pointer (some ⟨b10, 0, none⟩)) rfl (zg rfl (Ex.nck rfl) (zg rfl (fa213_0 (b := ⟨b10, 0, none⟩) rfl rfl) (zl (.slice A1 n1 c1) lo97 (H199.ob (i := 2) rfl) rfl (zg rfl (Ex.len Tryz.underlying97 rfl) ?_)))))
     refine RL.br (p := (0 : Int) < ((n1 : Nat) : Int)) rfl rfl rfl (fun r hr => Ex.gt rfl rfl hr) (fun h335 => ?_) (fun h335 => ?_)
     ·skip
      refine zF (.bool true) rfl (zm (.bool true) rfl (zo rfl (zo rfl (zo rfl (zo rfl (zT (.bool true) rfl (zm (.bool true) rfl (zo rfl (zo rfl (zo rfl ?_))))))))))
      refine zo rfl (zo rfl (zT (.bool true) rfl (RL.nil (thn.n (CW.condT rfl (CW.seq (CW.region (zg rfl (Ex.bd (cs := zHeap) bd47 rfl) (RL.st (vs := zHeap) (cs' := zHeap) Tryz.sizeOf47 (H199.ob (i := 4) rfl) rfl rfl rfl rfl rfl rfl ?_)))))))))
      intro w336 hz337 g338 o339
      have H340 : Sp [ObjsA ros os, RowA 136 5 Ao no co (robjs ros), BlkA b10 213 [.slice A1 n1 c1, .bool false], BlkA b18 47 [(.int .i64 (x31 : Int)), (.slice Ao no co), (.int .i64 (x55 : Int)), (.int .i64 (x80 : Int)), (.int .i64 (x104 : Int)), (.int .i64 (x128 : Int)), (.int .i64 (x152 : Int)), (.slice none 0 0)], BlkA b2 47 zHeap, Fix w NoB] w336 := H199.setB (i := 4) rfl g338 o339 rfl
      have z341 := g338.size
      refine za (.int .i64 60) rfl (RL.nil (thn.n (CW.ret (thn.r (finQ.r (v := (.tuple #[(.agg (zHeap).toArray), (.int .i64 60)])) (resv2 rfl (Rv.cell rfl (loadCN (cs := zHeap) wh47 (H340.ob (i := 4) rfl).cl)) (Rv.tmp rfl)) ?_)))))
      exact .inr ⟨rfl, (H340.fix (i := 5) rfl), by rw [hgh, if_neg (fun ⟨q1, q2, q3, q4, q5⟩ => by first | (cases q1; done) | (rw [q2] at hq1l; simp only [List.length_nil] at hq1l; omega) | omega)]⟩
     ·skip
      refine zF (.bool false) rfl (zm (.bool false) rfl (zg rfl (fa47_0 (b := ⟨b18, 0, none⟩) rfl rfl) (zl (.int .i64 (x31 : Int)) lo3 (H199.ob (i := 3) rfl) rfl (RL.call Tryz.call235 (reg_ _ (x31 : Int)) rfl rfl rfl ?_))))
      rintro _ w342 ⟨rfl, g343⟩
      have H344 := H199.grow g343
      have z345 := g343.size
      rcases hb346 : (withinB (x31 : Int) 3 8) with _ | _
      ·have hwf := withinB_f hb346
       refine zg rfl (Ex.not (b := false) rfl) (zF (.bool true) rfl (zm (.bool true) rfl (zo rfl (zo rfl (zo rfl (zo rfl (zo rfl (zT (.bool true) rfl (RL.nil (thn.n (CW.condT rfl (CW.seq (CW.region (zg rfl (Ex.bd (cs := zHeap) bd47 rfl) ?_))))))))))))))
       refine RL.st (vs := zHeap) (cs' := zHeap) Tryz.sizeOf47 (H344.ob (i := 4) rfl) rfl rfl rfl rfl rfl rfl ?_
       intro w347 hz348 g349 o350
       have H351 : Sp [ObjsA ros os, RowA 136 5 Ao no co (robjs ros), BlkA b10 213 [.slice A1 n1 c1, .bool false], BlkA b18 47 [(.int .i64 (x31 : Int)), (.slice Ao no co), (.int .i64 (x55 : Int)), (.int .i64 (x80 : Int)), (.int .i64 (x104 : Int)), (.int .i64 (x128 : Int)), (.int .i64 (x152 : Int)), (.slice none 0 0)], BlkA b2 47 zHeap, Fix w NoB] w347 := H344.setB (i := 4) rfl g349 o350 rfl
       have z352 := g349.size
       refine za (.int .i64 60) rfl (RL.nil (thn.n (CW.ret (thn.r (finQ.r (v := (.tuple #[(.agg (zHeap).toArray), (.int .i64 60)])) (resv2 rfl (Rv.cell rfl (loadCN (cs := zHeap) wh47 (H351.ob (i := 4) rfl).cl)) (Rv.tmp rfl)) ?_)))))
       exact .inr ⟨rfl, (H351.fix (i := 5) rfl), by rw [hgh, if_neg (fun ⟨q1, q2, q3, q4, q5⟩ => by first | (cases q1; done) | (rw [q2] at hq1l; simp only [List.length_nil] at hq1l; omega) | (rw [hb346] at q3; cases q3) | (rw [hb346] at q5; cases q5) | omega)]⟩
      ·have hwt := withinB_t hb346
       refine zg rfl (Ex.not (b := true) rfl) (zF (.bool false) rfl (zm (.bool false) rfl (zm (.int .i64 (x176 : Int)) rfl (zg rfl (fa47_1 (b := ⟨b18, 1, none⟩) rfl rfl) (zl (.slice Ao no co) lo43 (H344.ob (i := 3) rfl) rfl (zg rfl (Ex.len Tryz.underlying43 rfl) ?_))))))
       refine RL.br (p := ((x176 : Int) : Int) ≠ ((no : Nat) : Int)) rfl rfl rfl (fun r hr => Ex.neD rfl rfl hr) (fun h353 => ?_) (fun h353 => ?_)
       ·skip
        refine zF (.bool true) rfl (RL.nil (thn.n (CW.condT rfl (CW.seq (CW.region (zg rfl (Ex.bd (cs := zHeap) bd47 rfl) (RL.st (vs := zHeap) (cs' := zHeap) Tryz.sizeOf47 (H344.ob (i := 4) rfl) rfl rfl rfl rfl rfl rfl ?_)))))))
        intro w354 hz355 g356 o357
        have H358 : Sp [ObjsA ros os, RowA 136 5 Ao no co (robjs ros), BlkA b10 213 [.slice A1 n1 c1, .bool false], BlkA b18 47 [(.int .i64 (x31 : Int)), (.slice Ao no co), (.int .i64 (x55 : Int)), (.int .i64 (x80 : Int)), (.int .i64 (x104 : Int)), (.int .i64 (x128 : Int)), (.int .i64 (x152 : Int)), (.slice none 0 0)], BlkA b2 47 zHeap, Fix w NoB] w354 := H344.setB (i := 4) rfl g356 o357 rfl
        have z359 := g356.size
        refine za (.int .i64 60) rfl (RL.nil (thn.n (CW.ret (thn.r (finQ.r (v := (.tuple #[(.agg (zHeap).toArray), (.int .i64 60)])) (resv2 rfl (Rv.cell rfl (loadCN (cs := zHeap) wh47 (H358.ob (i := 4) rfl).cl)) (Rv.tmp rfl)) ?_)))))
        exact .inr ⟨rfl, (H358.fix (i := 5) rfl), by rw [hgh, if_neg (fun ⟨q1, q2, q3, q4, q5⟩ => by first | (cases q1; done) | (rw [q2] at hq1l; simp only [List.length_nil] at hq1l; omega) | (rw [hb346] at q3; cases q3) | (rw [hb346] at q5; cases q5) | omega)]⟩
       ·skip
        refine zF (.bool false) rfl (RL.nil (thn.n (CW.condF rfl (CW.skip (thn.n (CW.seq ?_))))))
        have hxb := obs_bd hmb (many_ok hmy)
        refine CW.region (zg rfl (fa47_0 (b := ⟨b18, 0, none⟩) rfl rfl) (zl (.int .i64 (x31 : Int)) lo3 (H344.ob (i := 3) rfl) rfl (zg rfl (fa47_1 (b := ⟨b18, 1, none⟩) rfl rfl) (zl (.slice Ao no co) lo43 (H344.ob (i := 3) rfl) rfl (RL.call Tryz.call246 (freeR_ _ w342.heap.size (x31 : Int) ros Ao no co ((H344.rowrd (i := 1) rfl).more (Nat.le_refl _)) (by first | assumption | omega) (Nat.le_refl _) (by omega) (by first | assumption | omega) hxb) rfl rfl rfl ?_)))))
        rintro _ w364 ⟨A360, n361, c362, rfl, g365, hn6363⟩
        have g366 := g365.fix (i := 1) rfl
        have H367 : Sp [RowA 133 2 A360 n361 c362 (blks ((leftL (wordsI (x31 : Int)) (ros.map RObj.blk) [⟨0, (x31 : Int)⟩]))), ObjsA ros os, RowA 136 5 Ao no co (robjs ros), BlkA b10 213 [.slice A1 n1 c1, .bool false], BlkA b18 47 [(.int .i64 (x31 : Int)), (.slice Ao no co), (.int .i64 (x55 : Int)), (.int .i64 (x80 : Int)), (.int .i64 (x104 : Int)), (.int .i64 (x128 : Int)), (.int .i64 (x152 : Int)), (.slice none 0 0)], BlkA b2 47 zHeap, Fix w NoB] w364 := H344.join (m := [RowA 133 2 A360 n361 c362 (blks ((leftL (wordsI (x31 : Int)) (ros.map RObj.blk) [⟨0, (x31 : Int)⟩])))]) g365
        have z368 := g366.size
        refine zg rfl (fa47_4 (b := ⟨b18, 7, none⟩) rfl rfl) (RL.st (vs := [(.slice A360 n361 c362)]) (cs' := [(.int .i64 (x31 : Int)), (.slice Ao no co), (.int .i64 (x55 : Int)), (.int .i64 (x80 : Int)), (.int .i64 (x104 : Int)), (.int .i64 (x128 : Int)), (.int .i64 (x152 : Int)), (.slice A360 n361 c362)]) Tryz.sizeOf45 (H367.ob (i := 4) rfl) rfl rfl rfl rfl rfl rfl ?_)
        intro w369 hz370 g371 o372
        have H373 : Sp [RowA 133 2 A360 n361 c362 (blks ((leftL (wordsI (x31 : Int)) (ros.map RObj.blk) [⟨0, (x31 : Int)⟩]))), ObjsA ros os, RowA 136 5 Ao no co (robjs ros), BlkA b10 213 [.slice A1 n1 c1, .bool false], BlkA b18 47 [(.int .i64 (x31 : Int)), (.slice Ao no co), (.int .i64 (x55 : Int)), (.int .i64 (x80 : Int)), (.int .i64 (x104 : Int)), (.int .i64 (x128 : Int)), (.int .i64 (x152 : Int)), (.slice A360 n361 c362)], BlkA b2 47 zHeap, Fix w NoB] w369 := H367.setB (i := 4) rfl g371 o372 rfl
        have z374 := g371.size
        refine RL.nil (thn.n (CW.seq (CW.seq ?_)))
        rw [hmb] at H373
        have H375 : Sp [HpW (⟨(x31 : Int), ⟨Ao, no, co⟩, (x55 : Int), (x80 : Int), (x104 : Int), (x128 : Int), (x152 : Int), ⟨A360, n361, c362⟩⟩ : RHeap) ros (⟨(x31 : Int), os, (x55 : Int), (x80 : Int), (x104 : Int), (x128 : Int), (x152 : Int), (leftL (wordsI (x31 : Int)) (os.map Obj.blk) [⟨0, (x31 : Int)⟩])⟩ : Eng.Heap), BlkA b10 213 [.slice A1 n1 c1, .bool false], BlkA b18 47 [(.int .i64 (x31 : Int)), (.slice Ao no co), (.int .i64 (x55 : Int)), (.int .i64 (x80 : Int)), (.int .i64 (x104 : Int)), (.int .i64 (x128 : Int)), (.int .i64 (x152 : Int)), (.slice A360 n361 c362)], BlkA b2 47 zHeap, Fix w NoB] w369 := (Sp.hpMk (rh := (⟨(x31 : Int), ⟨Ao, no, co⟩, (x55 : Int), (x80 : Int), (x104 : Int), (x128 : Int), (x152 : Int), ⟨A360, n361, c362⟩⟩ : RHeap)) (ros := ros) (hh := (⟨(x31 : Int), os, (x55 : Int), (x80 : Int), (x104 : Int), (x128 : Int), (x152 : Int), (leftL (wordsI (x31 : Int)) (os.map Obj.blk) [⟨0, (x31 : Int)⟩])⟩ : Eng.Heap)) (H373.sel [2, 1, 0, 3, 4, 5, 6] (by decide) rfl) ⟨rfl, rfl, rfl, by show no ≤ _; omega, by show n361 ≤ _; omega⟩)
        refine CW.region (zg rfl (Ex.ldv rfl (loadCN (cs := [(.int .i64 (x31 : Int)), (.slice Ao no co), (.int .i64 (x55 : Int)), (.int .i64 (x80 : Int)), (.int .i64 (x104 : Int)), (.int .i64 (x128 : Int)), (.int .i64 (x152 : Int)), (.slice A360 n361 c362)]) wh47 (H375.ob (i := 2) rfl).cl)) (RL.call Tryz.call167 (right05_ _ _ (⟨(x31 : Int), ⟨Ao, no, co⟩, (x55 : Int), (x80 : Int), (x104 : Int), (x128 : Int), (x152 : Int), ⟨A360, n361, c362⟩⟩ : RHeap) _ _ (H375.hpWR (i := 0) rfl) (Nat.le_refl _) (by first | assumption | omega | (dsimp only; omega))) rfl rfl rfl ?_))
        rintro _ w376 ⟨rfl, g377⟩
        have H378 := H375.grow g377
        have z379 := g377.size
        rcases hb380 : (heapB ((⟨(x31 : Int), os, (x55 : Int), (x80 : Int), (x104 : Int), (x128 : Int), (x152 : Int), (leftL (wordsI (x31 : Int)) (os.map Obj.blk) [⟨0, (x31 : Int)⟩])⟩ : Eng.Heap))) with _ | _
        ·skip
         refine zg rfl (Ex.not (b := false) rfl) (RL.nil (thn.n (CW.condT rfl (CW.seq (CW.region (zg rfl (Ex.bd (cs := zHeap) bd47 rfl) (RL.st (vs := zHeap) (cs' := zHeap) Tryz.sizeOf47 (H378.ob (i := 3) rfl) rfl rfl rfl rfl rfl rfl ?_)))))))
         intro w381 hz382 g383 o384
         have H385 : Sp [HpW (⟨(x31 : Int), ⟨Ao, no, co⟩, (x55 : Int), (x80 : Int), (x104 : Int), (x128 : Int), (x152 : Int), ⟨A360, n361, c362⟩⟩ : RHeap) ros (⟨(x31 : Int), os, (x55 : Int), (x80 : Int), (x104 : Int), (x128 : Int), (x152 : Int), (leftL (wordsI (x31 : Int)) (os.map Obj.blk) [⟨0, (x31 : Int)⟩])⟩ : Eng.Heap), BlkA b10 213 [.slice A1 n1 c1, .bool false], BlkA b18 47 [(.int .i64 (x31 : Int)), (.slice Ao no co), (.int .i64 (x55 : Int)), (.int .i64 (x80 : Int)), (.int .i64 (x104 : Int)), (.int .i64 (x128 : Int)), (.int .i64 (x152 : Int)), (.slice A360 n361 c362)], BlkA b2 47 zHeap, Fix w NoB] w381 := H378.setB (i := 3) rfl g383 o384 rfl
         have z386 := g383.size
         refine za (.int .i64 60) rfl (RL.nil (thn.n (CW.ret (thn.r (finQ.r (v := (.tuple #[(.agg (zHeap).toArray), (.int .i64 60)])) (resv2 rfl (Rv.cell rfl (loadCN (cs := zHeap) wh47 (H385.ob (i := 3) rfl).cl)) (Rv.tmp rfl)) ?_)))))
         exact .inr ⟨rfl, (H385.fix (i := 4) rfl), by rw [hgh, if_neg (fun ⟨q1, q2, q3, q4, q5⟩ => by first | (cases q1; done) | (rw [q2] at hq1l; simp only [List.length_nil] at hq1l; omega) | (rw [hb380] at q3; cases q3) | (rw [hb380] at q5; cases q5) | omega)]⟩
        ·skip
         refine zg rfl (Ex.not (b := true) rfl) (RL.nil (thn.n (CW.condF rfl (CW.skip (thn.n (CW.seq (CW.region (zg rfl (Ex.ldv rfl (loadCN (cs := [(.int .i64 (x31 : Int)), (.slice Ao no co), (.int .i64 (x55 : Int)), (.int .i64 (x80 : Int)), (.int .i64 (x104 : Int)), (.int .i64 (x128 : Int)), (.int .i64 (x152 : Int)), (.slice A360 n361 c362)]) wh47 (H378.ob (i := 2) rfl).cl)) (RL.st (vs := [(.int .i64 (x31 : Int)), (.slice Ao no co), (.int .i64 (x55 : Int)), (.int .i64 (x80 : Int)), (.int .i64 (x104 : Int)), (.int .i64 (x128 : Int)), (.int .i64 (x152 : Int)), (.slice A360 n361 c362)]) (cs' := [(.int .i64 (x31 : Int)), (.slice Ao no co), (.int .i64 (x55 : Int)), (.int .i64 (x80 : Int)), (.int .i64 (x104 : Int)), (.int .i64 (x128 : Int)), (.int .i64 (x152 : Int)), (.slice A360 n361 c362)]) Tryz.sizeOf47 (H378.ob (i := 3) rfl) rfl rfl rfl rfl rfl rfl ?_)))))))))
         intro w387 hz388 g389 o390
         have H391 : Sp [HpW (⟨(x31 : Int), ⟨Ao, no, co⟩, (x55 : Int), (x80 : Int), (x104 : Int), (x128 : Int), (x152 : Int), ⟨A360, n361, c362⟩⟩ : RHeap) ros (⟨(x31 : Int), os, (x55 : Int), (x80 : Int), (x104 : Int), (x128 : Int), (x152 : Int), (leftL (wordsI (x31 : Int)) (os.map Obj.blk) [⟨0, (x31 : Int)⟩])⟩ : Eng.Heap), BlkA b10 213 [.slice A1 n1 c1, .bool false], BlkA b18 47 [(.int .i64 (x31 : Int)), (.slice Ao no co), (.int .i64 (x55 : Int)), (.int .i64 (x80 : Int)), (.int .i64 (x104 : Int)), (.int .i64 (x128 : Int)), (.int .i64 (x152 : Int)), (.slice A360 n361 c362)], BlkA b2 47 [(.int .i64 (x31 : Int)), (.slice Ao no co), (.int .i64 (x55 : Int)), (.int .i64 (x80 : Int)), (.int .i64 (x104 : Int)), (.int .i64 (x128 : Int)), (.int .i64 (x152 : Int)), (.slice A360 n361 c362)], Fix w NoB] w387 := H378.setB (i := 3) rfl g389 o390 rfl
         have z392 := g389.size
         refine za (.int .i64 0) rfl (RL.nil (thn.n (CW.ret (finQ.r (v := (.tuple #[(.agg ([(.int .i64 (x31 : Int)), (.slice Ao no co), (.int .i64 (x55 : Int)), (.int .i64 (x80 : Int)), (.int .i64 (x104 : Int)), (.int .i64 (x128 : Int)), (.int .i64 (x152 : Int)), (.slice A360 n361 c362)]).toArray), (.int .i64 0)])) (resv2 rfl (Rv.cell rfl (loadCN (cs := [(.int .i64 (x31 : Int)), (.slice Ao no co), (.int .i64 (x55 : Int)), (.int .i64 (x80 : Int)), (.int .i64 (x104 : Int)), (.int .i64 (x128 : Int)), (.int .i64 (x152 : Int)), (.slice A360 n361 c362)]) wh47 (H391.ob (i := 3) rfl).cl)) (Rv.tmp rfl)) ?_))))
         exact .inl ⟨(⟨(x31 : Int), ⟨Ao, no, co⟩, (x55 : Int), (x80 : Int), (x104 : Int), (x128 : Int), (x152 : Int), ⟨A360, n361, c362⟩⟩ : RHeap), ros, _, rfl, (H391.sel [0, 4] (by decide) rfl), by rw [hgh, if_pos ⟨rfl, List.eq_nil_of_length_eq_zero (by omega), hb346, by omega, hb380⟩], hb380⟩
    ·skip
     refine zm (.bool true) rfl (zo rfl (zo rfl (zo rfl (zo rfl (zo rfl (zo rfl (zT (.bool true) rfl (zm (.bool true) rfl (zo rfl (zo rfl ?_))))))))))
     refine zo rfl (zo rfl (zT (.bool true) rfl (zm (.bool true) rfl (zo rfl (zo rfl (zo rfl (zo rfl (zo rfl (zT (.bool true) rfl (RL.nil (thn.n (CW.condT rfl (CW.seq (CW.region ?_))))))))))))))
     refine zg rfl (Ex.bd (cs := zHeap) bd47 rfl) (RL.st (vs := zHeap) (cs' := zHeap) Tryz.sizeOf47 (H199.ob (i := 4) rfl) rfl rfl rfl rfl rfl rfl ?_)
     intro w393 hz394 g395 o396
     have H397 : Sp [ObjsA ros os, RowA 136 5 Ao no co (robjs ros), BlkA b10 213 [.slice A1 n1 c1, .bool true], BlkA b18 47 [(.int .i64 (x31 : Int)), (.slice Ao no co), (.int .i64 (x55 : Int)), (.int .i64 (x80 : Int)), (.int .i64 (x104 : Int)), (.int .i64 (x128 : Int)), (.int .i64 (x152 : Int)), (.slice none 0 0)], BlkA b2 47 zHeap, Fix w NoB] w393 := H199.setB (i := 4) rfl g395 o396 rfl
     have z398 := g395.size
     refine za (.int .i64 60) rfl (RL.nil (thn.n (CW.ret (thn.r (finQ.r (v := (.tuple #[(.agg (zHeap).toArray), (.int .i64 60)])) (resv2 rfl (Rv.cell rfl (loadCN (cs := zHeap) wh47 (H397.ob (i := 4) rfl).cl)) (Rv.tmp rfl)) ?_)))))
     exact .inr ⟨rfl, (H397.fix (i := 5) rfl), by rw [hgh, if_neg (fun ⟨q1, q2, q3, q4, q5⟩ => by first | (cases q1; done) | (rw [q2] at hq1l; simp only [List.length_nil] at hq1l; omega) | omega)]⟩
end Go.Proofs.YtfokljnhllflbaaGreat
namespace Go.Eng
open Go Go.RowKit
theorem rows_app (l m : List Row) : rows (l ++ m) = rows l ++ rows m := by simp [rows]
def mayRow (x : Row) : Bool := withinB x.client 1 4 && withinB x.seq 1 1000000 && withinB x.code 0 65535
theorem mayRow_t {x : Row} (h : mayRow x = true) : (1 ≤ x.client ∧ x.client ≤ 4) ∧ (1 ≤ x.seq ∧ x.seq ≤ 1000000) ∧ (0 ≤ x.code ∧ x.code ≤ 65535) := by
  unfold mayRow at h
  simp only [Bool.and_eq_true] at h
  exact ⟨withinB_t h.1.1, withinB_t h.1.2, withinB_t h.2⟩
def rowOK (l : List Row) (i : Nat) (x : Row) : Prop := mayRow x = true ∧ ∀ y : Row, 0 < i → l[i - 1]? = some y → y.client < x.client
theorem rowsB_of {l : List Row} {n : Nat} (hn : l.length ≤ n) (h : ∀ (j : Nat) (x : Row), j < n → l[j]? = some x → rowOK l j x) : rowsB 0 l = true :=
  rows_right.2 fun i x hx => by
    obtain ⟨h1, h2⟩ := h i x (by have := lt_len hx; omega) hx
    have h3 := mayRow_t h1
    exact ⟨by omega, by omega, h3.2.1, h3.2.2, h2⟩
theorem rowsB_no {l : List Row} {i : Nat} {x : Row} (hx : l[i]? = some x) (h : ¬ rowOK l i x) : rowsB 0 l = false := by
  cases e : rowsB 0 l with
  | false => rfl
  | true =>
    exfalso
    obtain ⟨h1, h2, h3, h4, h5⟩ := rows_right.1 e i x hx
    refine h ⟨?_, h5⟩
    unfold mayRow withinB
    simp only [Bool.and_eq_true, decide_eq_true_eq]
    exact ⟨⟨⟨by omega, h2⟩, h3⟩, h4⟩
theorem stateB_no1 {s : State} (h : rowsB 0 s.rows = false) : stateB s = false := by unfold stateB; rw [h, Bool.and_false]
theorem stateB_rows {s : State} (h : rowsB 0 s.rows = true) : stateB s = heapB s.heap := by unfold stateB; rw [h, Bool.and_true]
def entOK (nm : Int) (l : List Entry) (i : Nat) (e : Entry) : Prop := mayE e = true ∧ e.view ≤ nm ∧ ∀ y : Entry, 0 < i → l[i - 1]? = some y → y.view ≤ e.view
theorem mayE_view {e : Entry} (h : mayE e = true) : 0 ≤ e.view := by
  unfold mayE at h
  simp only [Bool.and_eq_true] at h
  exact (withinB_t h.1.2).1
theorem entsB_iff {nm : Int} : ∀ {l : List Entry} {v : Int}, entsB nm v l = true ↔ ∀ (i : Nat) (e : Entry), l[i]? = some e → mayE e = true ∧ v ≤ e.view ∧ e.view ≤ nm ∧ ∀ y : Entry, 0 < i → l[i - 1]? = some y → y.view ≤ e.view
  | [], v => by simp [entsB]
  | r :: l, v => by
    unfold entsB
    simp only [Bool.and_eq_true]
    rw [entsB_iff (l := l)]
    constructor
    · rintro ⟨⟨h1, h2⟩, h7⟩ i x hx
      have h2 := withinB_t h2
      cases i with
      | zero => simp at hx; subst hx; exact ⟨h1, h2.1, h2.2, fun y hy => by omega⟩
      | succ i =>
        simp at hx
        obtain ⟨a1, a2, a3, a4⟩ := h7 i x hx
        refine ⟨a1, by omega, a3, fun y _ hy => ?_⟩
        cases i with
        | zero => simp at hy; subst hy; exact a2
        | succ i => simp at hy; exact a4 y (by omega) (by simpa using hy)
    · intro h
      obtain ⟨a1, a2, a3, _⟩ := h 0 r rfl
      refine ⟨⟨a1, by simp [withinB]; omega⟩, fun i x hx => ?_⟩
      obtain ⟨b1, b2, b3, b4⟩ := h (i + 1) x (by simpa using hx)
      have key : ∀ (i : Nat) (x : Entry), l[i]? = some x → r.view ≤ x.view := by
        intro i
        induction i with
        | zero => intro x hx; exact (h 1 x (by simpa using hx)).2.2.2 r (by omega) rfl
        | succ i ih =>
          intro x hx
          have hlt : i < l.length := by have := lt_len hx; omega
          have h1 := ih _ (List.getElem?_eq_getElem hlt)
          have h2 := (h (i + 2) x (by simpa using hx)).2.2.2 l[i] (by omega) (by show l[i]? = some _; exact List.getElem?_eq_getElem hlt)
          omega
      refine ⟨b1, key i x hx, b3, fun y hi hy => b4 y (by omega) ?_⟩
      cases i with
      | zero => omega
      | succ i => simpa using hy
theorem entsB_of {nm : Int} {l : List Entry} {n : Nat} (hn : l.length ≤ n) (h : ∀ (j : Nat) (x : Entry), j < n → l[j]? = some x → entOK nm l j x) : entsB nm 0 l = true :=
  entsB_iff.2 fun i x hx => by
    obtain ⟨h1, h2, h3⟩ := h i x (by have := lt_len hx; omega) hx
    exact ⟨h1, mayE_view h1, h2, h3⟩
theorem entsB_bad {nm : Int} {l : List Entry} {i : Nat} {x : Entry} (hx : l[i]? = some x) (h : ¬ entOK nm l i x) : entsB nm 0 l = false := by
  cases e : entsB nm 0 l with
  | false => rfl
  | true =>
    obtain ⟨h1, h2, h3, h4⟩ := entsB_iff.1 e i x hx
    exact absurd ⟨h1, h3, h4⟩ h
theorem keptB_no {k : Kept} (h : ¬ (0 ≤ k.view ∧ k.view ≤ 900000000 ∧ 0 ≤ k.normal ∧ k.normal ≤ k.view ∧ 0 ≤ k.base ∧ k.base ≤ 900000000 ∧ k.ents.length ≤ 4000 ∧ follB k.ents k.base = true ∧ entsB k.normal 0 k.ents = true ∧ (getState k.image).isSome = true)) : keptB k = false := by
  cases e : keptB k with
  | false => rfl
  | true => exact absurd (keptB_t e) h
theorem keptB_yes {k : Kept} (h : 0 ≤ k.view ∧ k.view ≤ 900000000 ∧ 0 ≤ k.normal ∧ k.normal ≤ k.view ∧ 0 ≤ k.base ∧ k.base ≤ 900000000 ∧ k.ents.length ≤ 4000 ∧ follB k.ents k.base = true ∧ entsB k.normal 0 k.ents = true ∧ (getState k.image).isSome = true) : keptB k = true := by
  obtain ⟨h1, h2, h3, h4, h5, h6, h7, h8, h9, h10⟩ := h
  unfold keptB
  rw [h8, h9, h10]
  simp only [withinB, Bool.and_true, Bool.and_eq_true, decide_eq_true_eq]
  exact ⟨⟨⟨⟨h1, h2⟩, ⟨h3, h4⟩⟩, ⟨h5, h6⟩⟩, h7⟩
end Go.Eng
namespace Go.Proofs.YtfokljnhllflbaaGreat
open Go Go.Eng Go.RowKit
set_option maxHeartbeats 400000 in
set_option maxRecDepth 20000 in
theorem mayRow_ (w : World) (x : Row) : Ret Tryz.prog 166 [(.agg (x.cells).toArray)] w (fun v w' => v = .bool (mayRow x) ∧ w.grownBy w' none) := by
  have H0 : Sp [Fix w NoB] w := Sp.start w
  refine Ret.body Tryz.func166 rfl rfl rfl ?_
  refine CW.seq (CW.region (RL.bx (cs := x.cells) rfl rfl rfl ?_))
  intro w1 b2 hb3 hz4 g5 o6
  have H7 := H0.newB g5 o6 (by omega)
  have z8 := g5.size
  refine za (.bool false) rfl (RL.nil (thn.n (CW.seq (CW.region (zg rfl (fa123_0 (b := ⟨b2, 0, none⟩) rfl rfl) (zl (.int .i64 x.client) lo3 (H7.ob (i := 0) rfl) rfl (RL.call Tryz.call221 (within_tumulusref06 _ x.client 1 4) rfl rfl rfl ?_)))))))
  rintro _ _ ⟨rfl, rfl⟩
  rcases hb12 : (withinB x.client 1 4) with _ | _
  ·skip
   refine zm (.bool false) rfl (zo rfl (zo rfl (zo rfl (zF (.bool false) rfl (zm (.bool false) rfl (zo rfl (zo rfl (zo rfl (zo rfl (zF (.bool false) rfl ?_))))))))))
   refine za (.bool false) rfl (RL.nil (thn.n (CW.ret (finQ.r (v := (.bool false)) (res1 rfl rfl) ?_))))
   exact ⟨ret_bool (by unfold mayRow; simp [hb12]), (H7.fix (i := 1) rfl)⟩
  ·have hw9 := withinB_t hb12
   refine zm (.bool true) rfl (zg rfl (fa123_1 (b := ⟨b2, 1, none⟩) rfl rfl) (zl (.int .i64 x.seq) lo3 (H7.ob (i := 0) rfl) rfl (RL.call Tryz.call221 (within_tumulusref06 _ x.seq 1 1000000) rfl rfl rfl ?_)))
   rintro _ _ ⟨rfl, rfl⟩
   rcases hb16 : (withinB x.seq 1 1000000) with _ | _
   ·skip
    refine zT (.bool false) rfl (zm (.bool false) rfl (zo rfl (zo rfl (zo rfl (zo rfl (zF (.bool false) rfl (za (.bool false) rfl (RL.nil (thn.n (CW.ret (finQ.r (v := (.bool false)) (res1 rfl rfl) ?_)))))))))))
    exact ⟨ret_bool (by unfold mayRow; simp [hb12, hb16]), (H7.fix (i := 1) rfl)⟩
   ·have hw13 := withinB_t hb16
    refine zT (.bool true) rfl (zm (.bool true) rfl (zg rfl (fa123_2 (b := ⟨b2, 2, none⟩) rfl rfl) (zg rfl (fa55_0 (b := ⟨b2, 2, none⟩) rfl rfl) (zl (.int .i64 x.code) lo53 (H7.ob (i := 0) rfl) rfl (RL.call Tryz.call221 (within_tumulusref06 _ x.code 0 65535) rfl rfl rfl ?_)))))
    rintro _ _ ⟨rfl, rfl⟩
    rcases hb20 : (withinB x.code 0 65535) with _ | _
    ·skip
     refine zT (.bool false) rfl (za (.bool false) rfl (RL.nil (thn.n (CW.ret (finQ.r (v := (.bool false)) (res1 rfl rfl) ?_)))))
     exact ⟨ret_bool (by unfold mayRow; simp [hb12, hb16, hb20]), (H7.fix (i := 1) rfl)⟩
    ·have hw17 := withinB_t hb20
     refine zT (.bool true) rfl (za (.bool true) rfl (RL.nil (thn.n (CW.ret (finQ.r (v := (.bool true)) (res1 rfl rfl) ?_)))))
     exact ⟨ret_bool (by unfold mayRow; simp [hb12, hb16, hb20]), (H7.fix (i := 1) rfl)⟩
set_option maxHeartbeats 1000000 in
set_option maxRecDepth 20000 in
theorem rightS_ (w : World) (B : Nat) (rs : RState) (ros : List RObj) (s : State) (H : StateR w B rs ros s) (hB : B ≤ w.heap.size) (hxr : s.heap.next ≤ 9223372036854775807) : Ret Tryz.prog 104 [(.agg (rs.cells).toArray)] w (fun v w' => v = .bool (stateB s) ∧ w.grownBy w' none) := by
  have hrn := H.rn
  have hrm := H.rm
  have H0 : Sp [Fix w NoB] w := Sp.start w
  refine Ret.body Tryz.func104 rfl rfl rfl ?_
  refine CW.seq (CW.region (RL.bx (cs := rs.cells) rfl rfl rfl ?_))
  intro w1 b2 hb3 hz4 g5 o6
  have H7 := H0.newB g5 o6 (by omega)
  have z8 := g5.size
  refine za (.bool false) rfl (RL.nil (thn.n (CW.seq (CW.seq (CW.region (za (.int .i64 0) rfl (RL.nil (thn.n (CW.block ?_)))))))))
  refine CW.loop (fun t => (Nat.ble 2 t && Nat.ble t 37)) (fun nL ρ wl => ∃ (i : Nat), ρ 3 = (.int .i64 (i : Int)) ∧ nL = rs.rows.n - i ∧ Sp [BlkA b2 50 rs.cells, Fix w NoB] wl ∧ i ≤ rs.rows.n ∧ ∀ (j : Nat) (x : Row), j < i → s.rows[j]? = some x → rowOK s.rows j x) (rs.rows.n) ?aa0 ?bb0
  case aa0 =>
   exact ⟨0, rfl, rfl, H7, Nat.zero_le _, fun j x hj => by omega⟩
  case bb0 =>
   rintro n10 ρ0 w9 ho11 ⟨i, hs0_3, hn0, H12, hi, hO⟩
   obtain ⟨j0, rfl⟩ := ho11.shape1 hs0_3
   clear ho11 hs0_3
   subst hn0
   have z13 := (H12.fix (i := 1) rfl).size
   refine CW.seq (CW.seq (CW.region (zm (.int .i64 (i : Int)) rfl (zg rfl (fa50_1 (b := ⟨b2, 8, none⟩) rfl rfl) (zl (.slice rs.rows.a rs.rows.n rs.rows.c) lo48 (H12.ob (i := 0) rfl) rfl (zg rfl (Ex.len Tryz.underlying48 rfl) ?_))))))
   refine RL.br (p := ((i : Int) : Int) < ((rs.rows.n : Nat) : Int)) rfl rfl rfl (fun r hr => Ex.lt rfl rfl hr) (fun h14 => ?_) (fun h14 => ?_)
   ·skip
    refine RL.nil (thn.n (CW.condT rfl (CW.skip (thn.n (CW.seq (CW.block (CW.seq (CW.held (fun wq => Sp [BlkA b2 50 rs.cells, Fix w NoB] wq) Tryz.mixed rfl ?_))))))))
    intro w15 g16
    have H17 := H12.grow g16
    have z18 := g16.size
    refine RA.tk 0 0 1 rfl rfl rfl (by kernel_rfl) (fun wq hq => fa50_1 (b := ⟨b2, 8, none⟩) rfl rfl) H17 (RA.tk 2 1 5 rfl rfl rfl (by kernel_rfl) (fun wq hq => Ex.mv (v := (.int .i64 (i : Int))) rfl) H17 (RA.tk 1 5 7 rfl rfl rfl (by kernel_rfl) (fun wq hq => Ex.ldv rfl (loadC1 lo48 (Ob.cell (v := (.slice rs.rows.a rs.rows.n rs.rows.c)) (hq.ob (i := 0) rfl) rfl))) H17 ?_))
    obtain ⟨e19, he20⟩ : ∃ e, (s.rows)[i]? = some e := ⟨_, List.getElem?_eq_getElem (by omega)⟩
    obtain ⟨ad21, hA22⟩ := Rd.sm (H.rr.st0 (H17.fix (i := 1) rfl)) (rows_get he20)
    have hl23 := Eng.lt_len (rows_get he20)
    refine RA.tk 3 7 15 rfl rfl rfl (by kernel_rfl) (fun wq hq => Ex.ix (b := (ad21.add (i * 4))) (i := i) Tryz.underlying48 Tryz.sizeOf123 (by rw [← hA22]; rfl) rfl (by omega) (by omega) rfl) H17 (RA.tk 4 15 31 rfl rfl rfl (by kernel_rfl) (fun wq hq => Ex.ldv rfl (loadCN (cs := e19.cells) wh123 (Rd.cl (H.rr.st0 (hq.fix (i := 1) rfl)) hA22 (rows_get he20)))) H17 (RA.one (i := 5) (by kernel_rfl) ?_))
    refine ⟨_, 63, rfl, by kernel_rfl, ?_⟩
    refine RL.call Tryz.call166 (mayRow_ _ e19) rfl rfl rfl ?_
    rintro _ w24 ⟨rfl, g25⟩
    have H26 := H17.grow g25
    have z27 := g25.size
    rcases hb28 : (mayRow e19) with _ | _
    ·skip
     refine RL.nil ?_
     refine ⟨H26, ?_⟩
     refine RA.tk 6 63 127 rfl rfl rfl (by kernel_rfl) (fun wq hq => Ex.not (b := false) rfl) H26 (RA.tk 7 127 255 rfl rfl rfl (by kernel_rfl) (fun wq hq => Ex.mv (v := (.bool true)) rfl) H26 (RA.out (i := 8) (m := 255) (m' := 511) rfl rfl rfl (by kernel_rfl) (fun _ _ _ _ h => h) rfl H26 (RA.out (i := 9) (m := 511) (m' := 1023) rfl rfl rfl (by kernel_rfl) (fun _ _ _ _ h => h) rfl H26 (RA.out (i := 10) (m := 1023) (m' := 2047) rfl rfl rfl (by kernel_rfl) (fun _ _ _ _ h => h) rfl H26 (RA.out (i := 11) (m := 2047) (m' := 4095) rfl rfl rfl (by kernel_rfl) (fun _ _ _ _ h => h) rfl H26 (RA.out (i := 13) (m := 4095) (m' := 12287) rfl rfl rfl (by kernel_rfl) (fun _ _ _ _ h => h) rfl H26 (RA.out (i := 14) (m := 12287) (m' := 28671) rfl rfl rfl (by kernel_rfl) (fun _ _ _ _ h => h) rfl H26 (RA.out (i := 18) (m := 28671) (m' := 290815) rfl rfl rfl (by kernel_rfl) (fun _ _ _ _ h => h) rfl H26 ?_))))))))
     refine RA.out (i := 20) (m := 290815) (m' := 1339391) rfl rfl rfl (by kernel_rfl) (fun _ _ _ _ h => h) rfl H26 (RA.out (i := 12) (m := 1339391) (m' := 1343487) rfl rfl rfl (by kernel_rfl) (fun _ _ _ _ h => h) rfl H26 (RA.out (i := 15) (m := 1343487) (m' := 1376255) rfl rfl rfl (by kernel_rfl) (fun _ _ _ _ h => h) rfl H26 (RA.out (i := 16) (m := 1376255) (m' := 1441791) rfl rfl rfl (by kernel_rfl) (fun _ _ _ _ h => h) rfl H26 (RA.out (i := 17) (m := 1441791) (m' := 1572863) rfl rfl rfl (by kernel_rfl) (fun _ _ _ _ h => h) rfl H26 (RA.out (i := 19) (m := 1572863) (m' := 2097151) rfl rfl rfl (by kernel_rfl) (fun _ _ _ _ h => h) rfl H26 (RA.out (i := 21) (m := 2097151) (m' := 4194303) rfl rfl rfl (by kernel_rfl) (fun _ _ _ _ h => h) rfl H26 (RA.out (i := 22) (m := 4194303) (m' := 8388607) rfl rfl rfl (by kernel_rfl) (fun _ _ _ _ h => h) rfl H26 (RA.out (i := 23) (m := 8388607) (m' := 16777215) rfl rfl rfl (by kernel_rfl) (fun _ _ _ _ h => h) rfl H26 ?_))))))))
     refine RA.out (i := 24) (m := 16777215) (m' := 33554431) rfl rfl rfl (by kernel_rfl) (fun _ _ _ _ h => h) rfl H26 (RA.out (i := 25) (m := 33554431) (m' := 67108863) rfl rfl rfl (by kernel_rfl) (fun _ _ _ _ h => h) rfl H26 (RA.tk 26 67108863 134217727 rfl rfl rfl (by kernel_rfl) (fun wq hq => Ex.pkT (v := (.bool true)) rfl rfl) H26 (RA.done (by kernel_rfl) (thn.n (CW.condT rfl (CW.seq (CW.region (za (.bool false) rfl (RL.nil (thn.n (CW.ret (inB.r (thn.r (thn.r (inB.r (thn.r (finQ.r (v := (.bool false)) (res1 rfl rfl) ?_)))))))))))))))))
     exact ⟨ret_bool (stateB_no1 (rowsB_no he20 (fun ⟨q1, q2⟩ => by first | (rw [hb28] at q1; cases q1; done)))).symm, (H26.fix (i := 1) rfl)⟩
    ·skip
     refine RL.nil ?_
     refine ⟨H26, ?_⟩
     refine RA.tk 6 63 127 rfl rfl rfl (by kernel_rfl) (fun wq hq => Ex.not (b := true) rfl) H26 (RA.tk 7 127 255 rfl rfl rfl (by kernel_rfl) (fun wq hq => Ex.mv (v := (.bool false)) rfl) H26 (RA.tk 8 255 511 rfl rfl rfl (by kernel_rfl) (fun wq hq => Ex.mv (v := (.int .i64 (i : Int))) rfl) H26 ?_))
     refine RA.br (i := 9) (m := 511) (m' := 1023) (p := (0 : Int) < ((i : Int) : Int)) rfl rfl rfl (by kernel_rfl) (fun _ _ _ _ h => h) rfl (fun r hr wq hq => Ex.gt rfl rfl hr) H26 (fun h29 => ?_) (fun h29 => ?_)
     ·skip
      refine RA.tk 10 1023 2047 rfl rfl rfl (by kernel_rfl) (fun wq hq => Ex.mv (v := (.bool true)) rfl) H26 (RA.tk 11 2047 4095 rfl rfl rfl (by kernel_rfl) (fun wq hq => fa50_1 (b := ⟨b2, 8, none⟩) rfl rfl) H26 (RA.tk 13 4095 12287 rfl rfl rfl (by kernel_rfl) (fun wq hq => Ex.mv (v := (.int .i64 (i : Int))) rfl) H26 (RA.tk 14 12287 28671 rfl rfl rfl (by kernel_rfl) (fun wq hq => Ex.sub_ (r := ((i - 1 : Nat) : Int)) rfl rfl (by rw [w64 (by omega) (by omega)]; omega)) H26 (RA.tk 18 28671 290815 rfl rfl rfl (by kernel_rfl) (fun wq hq => fa50_1 (b := ⟨b2, 8, none⟩) rfl rfl) H26 (RA.tk 20 290815 1339391 rfl rfl rfl (by kernel_rfl) (fun wq hq => Ex.mv (v := (.int .i64 (i : Int))) rfl) H26 (RA.tk 12 1339391 1343487 rfl rfl rfl (by kernel_rfl) (fun wq hq => Ex.ldv rfl (loadC1 lo48 (Ob.cell (v := (.slice rs.rows.a rs.rows.n rs.rows.c)) (hq.ob (i := 0) rfl) rfl))) H26 ?_))))))
      obtain ⟨e30, he31⟩ : ∃ e, (s.rows)[(i - 1)]? = some e := ⟨_, List.getElem?_eq_getElem (by omega)⟩
      obtain ⟨ad32, hA33⟩ := Rd.sm (H.rr.st0 (H26.fix (i := 1) rfl)) (rows_get he31)
      have hl34 := Eng.lt_len (rows_get he31)
      refine RA.tk 15 1343487 1376255 rfl rfl rfl (by kernel_rfl) (fun wq hq => Ex.ix (b := (ad32.add ((i - 1) * 4))) (i := (i - 1)) Tryz.underlying48 Tryz.sizeOf123 (by rw [← hA33]; rfl) rfl (by omega) (by omega) rfl) H26 (RA.tk 16 1376255 1441791 rfl rfl rfl (by kernel_rfl) (fun wq hq => fa123_0 (b := ((ad32.add ((i - 1) * 4)))) rfl rfl) H26 (RA.tk 17 1441791 1572863 rfl rfl rfl (by kernel_rfl) (fun wq hq => Ex.ldv rfl (loadC1 lo3 (Cl.at_ (v := (.int .i64 e30.client)) (Rd.cl (H.rr.st0 (hq.fix (i := 1) rfl)) hA33 (rows_get he31)) (i := 0) rfl))) H26 (RA.tk 19 1572863 2097151 rfl rfl rfl (by kernel_rfl) (fun wq hq => Ex.ldv rfl (loadC1 lo48 (Ob.cell (v := (.slice rs.rows.a rs.rows.n rs.rows.c)) (hq.ob (i := 0) rfl) rfl))) H26 ?_)))
      obtain ⟨ad35, hA36⟩ := Rd.sm (H.rr.st0 (H26.fix (i := 1) rfl)) (rows_get he20)
      have hl37 := Eng.lt_len (rows_get he20)
      refine RA.tk 21 2097151 4194303 rfl rfl rfl (by kernel_rfl) (fun wq hq => Ex.ix (b := (ad35.add (i * 4))) (i := i) Tryz.underlying48 Tryz.sizeOf123 (by rw [← hA36]; rfl) rfl (by omega) (by omega) rfl) H26 (RA.tk 22 4194303 8388607 rfl rfl rfl (by kernel_rfl) (fun wq hq => fa123_0 (b := ((ad35.add (i * 4)))) rfl rfl) H26 (RA.tk 23 8388607 16777215 rfl rfl rfl (by kernel_rfl) (fun wq hq => Ex.ldv rfl (loadC1 lo3 (Cl.at_ (v := (.int .i64 e19.client)) (Rd.cl (H.rr.st0 (hq.fix (i := 1) rfl)) hA36 (rows_get he20)) (i := 0) rfl))) H26 ?_))
      refine RA.br (i := 24) (m := 16777215) (m' := 33554431) (p := (e19.client : Int) ≤ (e30.client : Int)) rfl rfl rfl (by kernel_rfl) (fun _ _ _ _ h => h) rfl (fun r hr wq hq => Ex.ge rfl rfl hr) H26 (fun h38 => ?_) (fun h38 => ?_)
      ·skip
       refine RA.tk 25 33554431 67108863 rfl rfl rfl (by kernel_rfl) (fun wq hq => Ex.pkT (v := (.bool true)) rfl rfl) H26 (RA.tk 26 67108863 134217727 rfl rfl rfl (by kernel_rfl) (fun wq hq => Ex.pkF (v := (.bool true)) rfl rfl) H26 (RA.done (by kernel_rfl) (thn.n (CW.condT rfl (CW.seq (CW.region (za (.bool false) rfl (RL.nil (thn.n (CW.ret (inB.r (thn.r (thn.r (inB.r (thn.r (finQ.r (v := (.bool false)) (res1 rfl rfl) ?_))))))))))))))))
       exact ⟨ret_bool (stateB_no1 (rowsB_no he20 (fun ⟨q1, q2⟩ => by first | (rw [hb28] at q1; cases q1; done) | (have q3 := q2 e30 (by omega) he31; omega)))).symm, (H26.fix (i := 1) rfl)⟩
      ·skip
       refine RA.tk 25 33554431 67108863 rfl rfl rfl (by kernel_rfl) (fun wq hq => Ex.pkT (v := (.bool false)) rfl rfl) H26 (RA.tk 26 67108863 134217727 rfl rfl rfl (by kernel_rfl) (fun wq hq => Ex.pkF (v := (.bool false)) rfl rfl) H26 (RA.done (by kernel_rfl) (thn.n (CW.condF rfl (CW.skip (inB.n (thn.n (CW.region (zm (.int .i64 (i : Int)) rfl (zg rfl (Ex.add (r := (i : Int) + 1) rfl rfl (w64 (by omega) (by omega))) (za (.int .i64 ((i : Int) + 1)) rfl (RL.nil (thn.n ?_)))))))))))))
       refine ⟨(by repeat (first | exact Out.mix _ _ | exact Out.refl _ _ | refine Out.up ?_ rfl _ | refine Out.mixIn ?_ (by intro t ht; simp only [Bool.or_eq_false_iff, Bool.and_eq_false_iff, ble_f, beq_f] at ht ⊢; omega))), _, ?_, i + 1, rfl, rfl, H26, by omega, upto_go hO he20 ⟨hb28, (fun y _ hy => by rw [he31] at hy; injection hy with hy; subst hy; omega)⟩⟩
       omega
     ·skip
      refine RA.tk 10 1023 2047 rfl rfl rfl (by kernel_rfl) (fun wq hq => Ex.mv (v := (.bool false)) rfl) H26 (RA.out (i := 11) (m := 2047) (m' := 4095) rfl rfl rfl (by kernel_rfl) (fun _ _ _ _ h => h) rfl H26 (RA.out (i := 13) (m := 4095) (m' := 12287) rfl rfl rfl (by kernel_rfl) (fun _ _ _ _ h => h) rfl H26 (RA.out (i := 14) (m := 12287) (m' := 28671) rfl rfl rfl (by kernel_rfl) (fun _ _ _ _ h => h) rfl H26 (RA.out (i := 18) (m := 28671) (m' := 290815) rfl rfl rfl (by kernel_rfl) (fun _ _ _ _ h => h) rfl H26 (RA.out (i := 20) (m := 290815) (m' := 1339391) rfl rfl rfl (by kernel_rfl) (fun _ _ _ _ h => h) rfl H26 (RA.out (i := 12) (m := 1339391) (m' := 1343487) rfl rfl rfl (by kernel_rfl) (fun _ _ _ _ h => h) rfl H26 (RA.out (i := 15) (m := 1343487) (m' := 1376255) rfl rfl rfl (by kernel_rfl) (fun _ _ _ _ h => h) rfl H26 (RA.out (i := 16) (m := 1376255) (m' := 1441791) rfl rfl rfl (by kernel_rfl) (fun _ _ _ _ h => h) rfl H26 ?_))))))))
      refine RA.out (i := 17) (m := 1441791) (m' := 1572863) rfl rfl rfl (by kernel_rfl) (fun _ _ _ _ h => h) rfl H26 (RA.out (i := 19) (m := 1572863) (m' := 2097151) rfl rfl rfl (by kernel_rfl) (fun _ _ _ _ h => h) rfl H26 (RA.out (i := 21) (m := 2097151) (m' := 4194303) rfl rfl rfl (by kernel_rfl) (fun _ _ _ _ h => h) rfl H26 (RA.out (i := 22) (m := 4194303) (m' := 8388607) rfl rfl rfl (by kernel_rfl) (fun _ _ _ _ h => h) rfl H26 (RA.out (i := 23) (m := 8388607) (m' := 16777215) rfl rfl rfl (by kernel_rfl) (fun _ _ _ _ h => h) rfl H26 (RA.out (i := 24) (m := 16777215) (m' := 33554431) rfl rfl rfl (by kernel_rfl) (fun _ _ _ _ h => h) rfl H26 (RA.tk 25 33554431 67108863 rfl rfl rfl (by kernel_rfl) (fun wq hq => Ex.pkF (v := (.bool false)) rfl rfl) H26 (RA.tk 26 67108863 134217727 rfl rfl rfl (by kernel_rfl) (fun wq hq => Ex.pkF (v := (.bool false)) rfl rfl) H26 (RA.done (by kernel_rfl) ?_))))))))
      refine thn.n (CW.condF rfl (CW.skip (inB.n (thn.n (CW.region (zm (.int .i64 (i : Int)) rfl (zg rfl (Ex.add (r := (i : Int) + 1) rfl rfl (w64 (by omega) (by omega))) (za (.int .i64 ((i : Int) + 1)) rfl (RL.nil (thn.n ?_))))))))))
      refine ⟨(by repeat (first | exact Out.mix _ _ | exact Out.refl _ _ | refine Out.up ?_ rfl _ | refine Out.mixIn ?_ (by intro t ht; simp only [Bool.or_eq_false_iff, Bool.and_eq_false_iff, ble_f, beq_f] at ht ⊢; omega))), _, ?_, i + 1, rfl, rfl, H26, by omega, upto_go hO he20 ⟨hb28, (fun y hi0 hy => by omega)⟩⟩
      omega
   ·skip
    refine RL.nil (thn.n (CW.condF rfl (CW.exit (thn.x (thn.x (inB.hit (thn.n (CW.seq (CW.region (zg rfl (fa50_0 (b := ⟨b2, 0, none⟩) rfl rfl) (zg rfl (Ex.ldv rfl (loadCN (cs := [(.int .i64 rs.heap.order), (.slice rs.heap.objs.a rs.heap.objs.n rs.heap.objs.c), (.int .i64 rs.heap.next), (.int .i64 rs.heap.t0), (.int .i64 rs.heap.t1), (.int .i64 rs.heap.t2), (.int .i64 rs.heap.t3), (.slice rs.heap.free.a rs.heap.free.n rs.heap.free.c)]) wh47 ((H12.ob (i := 0) rfl).sub 0 8))) (RL.call Tryz.call167 (right05_ _ _ rs.heap _ _ (H.heap.st0 (H12.fix (i := 1) rfl)) (by omega) (by first | assumption | omega | (dsimp only; omega))) rfl rfl rfl ?_))))))))))))
    rintro _ w39 ⟨rfl, g40⟩
    have H41 := H12.grow g40
    have z42 := g40.size
    rcases hb43 : (heapB s.heap) with _ | _
    ·skip
     refine za (.bool false) rfl (RL.nil (thn.n (CW.ret (finQ.r (v := (.bool false)) (res1 rfl rfl) ?_))))
     have hrw := rowsB_of (n := i) (by omega) hO
     exact ⟨ret_bool (by rw [stateB_rows hrw, hb43]), (H41.fix (i := 1) rfl)⟩
    ·skip
     refine za (.bool true) rfl (RL.nil (thn.n (CW.ret (finQ.r (v := (.bool true)) (res1 rfl rfl) ?_))))
     have hrw := rowsB_of (n := i) (by omega) hO
     exact ⟨ret_bool (by rw [stateB_rows hrw, hb43]), (H41.fix (i := 1) rfl)⟩
set_option maxHeartbeats 4000000 in
set_option maxRecDepth 20000 in
theorem getStateR_ (w : World) (B : Nat) (bs : List UInt8) (A : Option Addr) (n c : Nat) (hr : RB w B A n c bs) (hB : B ≤ w.heap.size) : Ret Tryz.prog 127 [(.slice A n c)] w (fun v w' => (∃ (rs : RState) (ros : List RObj) (ss : Eng.State), v = .tuple #[.agg rs.cells.toArray, .int .i64 0] ∧ Sp ([StW rs ros ss] ++ [Fix w NoB]) w' ∧ getState bs = some ss ∧ stateB ss = true) ∨ (v = .tuple #[.agg zState.toArray, .int .i64 60] ∧ w.grownBy w' none ∧ getState bs = none)) := by
  obtain ⟨hrd, hrn, hrc, hrm⟩ := hr
  have hr : RB w B A n c bs := ⟨hrd, hrn, hrc, hrm⟩
  have H0 : Sp [Fix w NoB] w := Sp.start w
  refine Ret.body Tryz.func127 rfl rfl rfl ?_
  refine CW.seq (CW.region (RL.al (cs := zState) Tryz.zeroValue50 rfl rfl rfl ?_))
  intro w1 b2 hb3 hz4 g5 o6
  have H7 := H0.newB g5 o6 (by omega)
  have z8 := g5.size
  refine za (.int .i64 0) rfl (RL.nil (thn.n (CW.seq (CW.region (zm (.slice A n c) rfl (RL.call Tryz.call185 (rdTxt_ _ _ bs A n c (hr.1.st0 (H7.fix (i := 1) rfl)) hr.2.1 hr.2.2.1 hr.2.2.2) rfl rfl rfl ?_))))))
  rintro _ w17 (⟨t9, k10, rfl, g18, hrt12, hkl13, htl14⟩ | ⟨e11, rfl, g19, hrt15, hne16⟩)
  ·skip
   have H20 := H7.grow g18
   have z21 := g18.size
   refine zm (.tuple #[(.string (tx t9)), (.int .i64 (k10 : Int)), (.int .i64 0)]) rfl (zx (.string (tx t9)) rfl (zx (.int .i64 (k10 : Int)) rfl (zx (.int .i64 0) rfl (za (.string (tx t9)) rfl (za (.int .i64 (k10 : Int)) rfl (za (.int .i64 0) rfl (RL.nil (thn.n (CW.seq (CW.region (zm (.string (tx t9)) rfl (RL.s2bT (l := t9) Tryz.underlying9 Tryz.underlying97 Tryz.underlying5 rfl rfl rfl ?_))))))))))))
   intro w22 b23 c24 hb25 hz26 g27 rd28 hc29
   have H30 := H20.grow g27
   have z31 := g27.size
   refine RL.call Tryz.call186 (getHeapR_ _ _ t9 (some ⟨b23, 0, none⟩) t9.length c24 ⟨rd28, by first | rfl | omega, by omega, by first | omega | (simp only [List.length_nil]; omega)⟩ (by omega)) rfl rfl rfl ?_
   rintro _ w38 (⟨rh32, ros33, hh34, rfl, g39, hgh35, hhb37⟩ | ⟨rfl, g40, hgh36⟩)
   ·skip
    have g41 := g39.fix (i := 1) rfl
    have H42 : Sp [HpW rh32 ros33 hh34, BlkA b2 50 zState, Fix w NoB] w38 := H30.join (m := [HpW rh32 ros33 hh34]) g39
    have z43 := g41.size
    refine zm (.tuple #[(.agg (rh32.cells).toArray), (.int .i64 0)]) rfl (zx (.agg (rh32.cells).toArray) rfl (zx (.int .i64 0) rfl (RL.al (cs := zHeap) Tryz.zeroValue47 rfl rfl rfl ?_)))
    intro w44 b45 hb46 hz47 g48 o49
    have H50 := H42.newB g48 o49 (by omega)
    have z51 := g48.size
    refine RL.st (vs := rh32.cells) (cs' := rh32.cells) Tryz.sizeOf47 (H50.ob (i := 0) rfl) rfl rfl rfl rfl rfl rfl ?_
    intro w52 hz53 g54 o55
    have H56 : Sp [BlkA b45 47 rh32.cells, HpW rh32 ros33 hh34, BlkA b2 50 zState, Fix w NoB] w52 := H50.setB (i := 0) rfl g54 o55 rfl
    have z57 := g54.size
    refine za (.int .i64 0) rfl (RL.nil (thn.n (CW.seq (CW.seq (CW.region (zm (.int .i64 0) rfl (zg rfl (Ex.neD (r := false) rfl rfl (by decide)) (zm (.bool false) rfl (zm (.int .i64 0) rfl (zg rfl (Ex.neD (r := false) rfl rfl (by decide)) (zF (.bool false) rfl (RL.nil (thn.n (CW.condF rfl (CW.skip (thn.n (CW.seq (CW.region (zm (.slice A n c) rfl (zm (.int .i64 (k10 : Int)) rfl ?_))))))))))))))))))))
    have hqk := hr.drop (k := k10) (by omega)
    refine zg rfl (Ex.slLo (i := k10) Tryz.underlying97 Tryz.sizeOf5 rfl rfl (by omega) (by omega) rfl) (zg rfl (Ex.bd (cs := [(.slice (dropA A c k10 1) (n - k10) (c - k10)), (.bool false)]) bd213 rfl) (RL.bx (cs := [(.slice (dropA A c k10 1) (n - k10) (c - k10)), (.bool false)]) rfl rfl rfl ?_))
    intro w58 b59 hb60 hz61 g62 o63
    have H65 := H56.newB g62 o63 (by omega)
    have z66 := g62.size
    refine za (.pointer (some ⟨b59, 0, none⟩)) rfl (RL.nil (thn.n (CW.seq (CW.region (zg rfl (Ex.ldv rfl (loadCN (cs := rh32.cells) wh47 (H65.ob (i := 1) rfl).cl)) (zg rfl (Ex.bd (cs := [(.int .i64 rh32.order), (.slice rh32.objs.a rh32.objs.n rh32.objs.c), (.int .i64 rh32.next), (.int .i64 rh32.t0), (.int .i64 rh32.t1), (.int .i64 rh32.t2), (.int .i64 rh32.t3), (.slice rh32.free.a rh32.free.n rh32.free.c), (.slice none 0 0)]) bd50 rfl) (RL.al (cs := zState) Tryz.zeroValue50 rfl rfl rfl ?_)))))))
    intro w67 b68 hb69 hz70 g71 o72
    have H73 := H65.newB g71 o72 (by omega)
    have z74 := g71.size
    refine RL.st (vs := [(.int .i64 rh32.order), (.slice rh32.objs.a rh32.objs.n rh32.objs.c), (.int .i64 rh32.next), (.int .i64 rh32.t0), (.int .i64 rh32.t1), (.int .i64 rh32.t2), (.int .i64 rh32.t3), (.slice rh32.free.a rh32.free.n rh32.free.c), (.slice none 0 0)]) (cs' := [(.int .i64 rh32.order), (.slice rh32.objs.a rh32.objs.n rh32.objs.c), (.int .i64 rh32.next), (.int .i64 rh32.t0), (.int .i64 rh32.t1), (.int .i64 rh32.t2), (.int .i64 rh32.t3), (.slice rh32.free.a rh32.free.n rh32.free.c), (.slice none 0 0)]) Tryz.sizeOf50 (H73.ob (i := 0) rfl) rfl rfl rfl rfl rfl rfl ?_
    intro w75 hz76 g77 o78
    have H79 : Sp [BlkA b68 50 [(.int .i64 rh32.order), (.slice rh32.objs.a rh32.objs.n rh32.objs.c), (.int .i64 rh32.next), (.int .i64 rh32.t0), (.int .i64 rh32.t1), (.int .i64 rh32.t2), (.int .i64 rh32.t3), (.slice rh32.free.a rh32.free.n rh32.free.c), (.slice none 0 0)], BlkA b59 213 [(.slice (dropA A c k10 1) (n - k10) (c - k10)), (.bool false)], BlkA b45 47 rh32.cells, HpW rh32 ros33 hh34, BlkA b2 50 zState, Fix w NoB] w75 := H73.setB (i := 0) rfl g77 o78 rfl
    have z80 := g77.size
    refine RL.nil (thn.n (CW.seq (CW.region (zm (.pointer (some ⟨b59, 0, none⟩)) rfl ?_))))
    obtain ⟨S91, hS92, hO93, K94⟩ := Sp.takeL (l1 := [BlkA b59 213 [(.slice (dropA A c k10 1) (n - k10) (c - k10)), (.bool false)]]) (l2 := [BlkA b68 50 [(.int .i64 rh32.order), (.slice rh32.objs.a rh32.objs.n rh32.objs.c), (.int .i64 rh32.next), (.int .i64 rh32.t0), (.int .i64 rh32.t1), (.int .i64 rh32.t2), (.int .i64 rh32.t3), (.slice rh32.free.a rh32.free.n rh32.free.c), (.slice none 0 0)], BlkA b45 47 rh32.cells, HpW rh32 ros33 hh34, BlkA b2 50 zState, Fix w NoB]) (w := w75) (H79.sel [1, 0, 2, 3, 4, 5] (by decide) rfl)
    refine RL.call Tryz.call187 (rnum_ _ S91 b59 (dropA A c k10 1) (n - k10) (c - k10) (bs.drop k10) false hS92 ⟨(RdN.of_fix hO93 (j := 4) rfl hqk.1 (by omega)), hqk.2⟩) rfl rfl rfl ?_
    rintro _ w95 ⟨x81, A82, n83, c84, bs85, bq86, rfl, g96, hnum87, hind88, hxle89⟩
    have H97 : Sp [BlkA b59 213 [.slice A82 n83 c84, .bool bq86], BlkA b68 50 [(.int .i64 rh32.order), (.slice rh32.objs.a rh32.objs.n rh32.objs.c), (.int .i64 rh32.next), (.int .i64 rh32.t0), (.int .i64 rh32.t1), (.int .i64 rh32.t2), (.int .i64 rh32.t3), (.slice rh32.free.a rh32.free.n rh32.free.c), (.slice none 0 0)], BlkA b45 47 rh32.cells, HpW rh32 ros33 hh34, BlkA b2 50 zState, Fix w NoB] w95 := K94 _ _ g96
    have z98 := (H97.fix (i := 5) rfl).size
    have hq90 := hind88.r _ _ hqk
    refine za (.int .i64 (x81 : Int)) rfl (RL.nil (thn.n (CW.seq (CW.seq (CW.region (za (.int .i64 0) rfl (RL.nil (thn.n (CW.block ?_)))))))))
    have H99 := H97.nil_ 123 4
    obtain ⟨_, ⟨_, hnxb⟩, _⟩ := heapB_rng hhb37
    refine CW.loop (fun t => (Nat.ble 12 t && Nat.ble t 14) || (Nat.ble 43 t && Nat.ble t 80)) (fun nL ρ wl => ∃ (k n1 c1 no co : Nat) (A1 Ao : Option Addr) (l : List Row) (bs1 : List UInt8) (b1 : Bool), ρ 12 = (.int .i64 (k : Int)) ∧ nL = 5 - k ∧ Sp [RowA 123 4 Ao no co (rows l), BlkA b59 213 [.slice A1 n1 c1, .bool b1], BlkA b68 50 [(.int .i64 rh32.order), (.slice rh32.objs.a rh32.objs.n rh32.objs.c), (.int .i64 rh32.next), (.int .i64 rh32.t0), (.int .i64 rh32.t1), (.int .i64 rh32.t2), (.int .i64 rh32.t3), (.slice rh32.free.a rh32.free.n rh32.free.c), (.slice Ao no co)], HpW rh32 ros33 hh34, BlkA b2 50 zState, Fix w NoB] wl ∧ k ≤ x81 ∧ k ≤ 5 ∧ manyF rowF k (bs85, bq86) = (l, (bs1, b1)) ∧ no = k ∧ InD A82 n83 c84 bs85 A1 n1 c1 bs1) (5) ?aa0 ?bb0
    case aa0 =>
     exact ⟨0, n83, c84, 0, 0, A82, none, [], bs85, bq86, rfl, rfl, (H99.sel [0, 1, 2, 4, 5, 6] (by decide) rfl), Nat.zero_le _, by omega, rfl, rfl, InD.refl _ _ _ _⟩
    case bb0 =>
     rintro n101 ρ0 w100 ho102 ⟨k, n1, c1, no, co, A1, Ao, l, bs1, b1, hs0_12, hn0, H103, hk1, hk2, hmy, hno, hin1⟩
     obtain ⟨j0, rfl⟩ := ho102.shape1 hs0_12
     clear ho102 hs0_12
     subst hn0
     have z104 := (H103.fix (i := 5) rfl).size
     have hq1 := hin1.r _ _ hq90
     refine CW.seq (CW.seq (CW.region (zm (.int .i64 (k : Int)) rfl (zm (.int .i64 (x81 : Int)) rfl ?_))))
     refine RL.br (p := ((k : Int) : Int) < ((x81 : Int) : Int)) rfl rfl rfl (fun r hr => Ex.lt rfl rfl hr) (fun h105 => ?_) (fun h105 => ?_)
     ·skip
      refine zm (.bool true) rfl (zm (.int .i64 (k : Int)) rfl ?_)
      refine RL.br (p := ((k : Int) : Int) ≤ (4 : Int)) rfl rfl rfl (fun r hr => Ex.le rfl rfl hr) (fun h106 => ?_) (fun h106 => ?_)
      ·skip
       refine zT (.bool true) rfl (zm (.bool true) rfl (zm (.pointer (some ⟨b59, 0, none⟩)) rfl (zg rfl (Ex.nck rfl) (zg rfl (fa213_1 (b := ⟨b59, 1, none⟩) rfl rfl) (zl (.bool b1) lo4 (H103.ob (i := 1) rfl) rfl ?_)))))
       rcases b1 with _ | _
       ·skip
        refine zg rfl (Ex.not (b := false) rfl) (zT (.bool true) rfl (RL.nil (thn.n (CW.condT rfl (CW.skip (thn.n (CW.seq (CW.block (CW.seq (CW.region (zg rfl (Ex.bd (cs := [(.int .i64 0), (.int .i64 0), (.int .i64 0), (.int .i64 0)]) bd123 rfl) (RL.al (cs := [(.int .i64 0), (.int .i64 0), (.int .i64 0), (.int .i64 0)]) Tryz.zeroValue123 rfl rfl rfl ?_))))))))))))
        intro w107 b108 hb109 hz110 g111 o112
        have H113 := H103.newB g111 o112 (by omega)
        have z114 := g111.size
        refine RL.st (vs := [(.int .i64 0), (.int .i64 0), (.int .i64 0), (.int .i64 0)]) (cs' := [(.int .i64 0), (.int .i64 0), (.int .i64 0), (.int .i64 0)]) Tryz.sizeOf123 (H113.ob (i := 0) rfl) rfl rfl rfl rfl rfl rfl ?_
        intro w115 hz116 g117 o118
        have H119 : Sp [BlkA b108 123 [(.int .i64 0), (.int .i64 0), (.int .i64 0), (.int .i64 0)], RowA 123 4 Ao no co (rows l), BlkA b59 213 [.slice A1 n1 c1, .bool false], BlkA b68 50 [(.int .i64 rh32.order), (.slice rh32.objs.a rh32.objs.n rh32.objs.c), (.int .i64 rh32.next), (.int .i64 rh32.t0), (.int .i64 rh32.t1), (.int .i64 rh32.t2), (.int .i64 rh32.t3), (.slice rh32.free.a rh32.free.n rh32.free.c), (.slice Ao no co)], HpW rh32 ros33 hh34, BlkA b2 50 zState, Fix w NoB] w115 := H113.setB (i := 0) rfl g117 o118 rfl
        have z120 := g117.size
        refine RL.nil (thn.n (CW.seq (CW.region (zm (.pointer (some ⟨b59, 0, none⟩)) rfl ?_))))
        obtain ⟨S131, hS132, hO133, K134⟩ := Sp.takeL (l1 := [BlkA b59 213 [.slice A1 n1 c1, .bool false]]) (l2 := [BlkA b108 123 [(.int .i64 0), (.int .i64 0), (.int .i64 0), (.int .i64 0)], RowA 123 4 Ao no co (rows l), BlkA b68 50 [(.int .i64 rh32.order), (.slice rh32.objs.a rh32.objs.n rh32.objs.c), (.int .i64 rh32.next), (.int .i64 rh32.t0), (.int .i64 rh32.t1), (.int .i64 rh32.t2), (.int .i64 rh32.t3), (.slice rh32.free.a rh32.free.n rh32.free.c), (.slice Ao no co)], HpW rh32 ros33 hh34, BlkA b2 50 zState, Fix w NoB]) (w := w115) (H119.sel [2, 0, 1, 3, 4, 5, 6] (by decide) rfl)
        refine RL.call Tryz.call187 (rnum_ _ S131 b59 A1 n1 c1 bs1 false hS132 ⟨(RdN.of_fix hO133 (j := 5) rfl hq1.1 (by omega)), hq1.2⟩) rfl rfl rfl ?_
        rintro _ w135 ⟨x121, A122, n123, c124, bs125, bq126, rfl, g136, hnum127, hind128, hxle129⟩
        have H137 : Sp [BlkA b59 213 [.slice A122 n123 c124, .bool bq126], BlkA b108 123 [(.int .i64 0), (.int .i64 0), (.int .i64 0), (.int .i64 0)], RowA 123 4 Ao no co (rows l), BlkA b68 50 [(.int .i64 rh32.order), (.slice rh32.objs.a rh32.objs.n rh32.objs.c), (.int .i64 rh32.next), (.int .i64 rh32.t0), (.int .i64 rh32.t1), (.int .i64 rh32.t2), (.int .i64 rh32.t3), (.slice rh32.free.a rh32.free.n rh32.free.c), (.slice Ao no co)], HpW rh32 ros33 hh34, BlkA b2 50 zState, Fix w NoB] w135 := K134 _ _ g136
        have z138 := (H137.fix (i := 6) rfl).size
        have hq130 := hind128.r _ _ hq1
        refine zg rfl (fa123_0 (b := ⟨b108, 0, none⟩) rfl rfl) (RL.st (vs := [(.int .i64 (x121 : Int))]) (cs' := [(.int .i64 (x121 : Int)), (.int .i64 0), (.int .i64 0), (.int .i64 0)]) Tryz.sizeOf3 (H137.ob (i := 1) rfl) rfl rfl rfl rfl rfl rfl ?_)
        intro w139 hz140 g141 o142
        have H143 : Sp [BlkA b59 213 [.slice A122 n123 c124, .bool bq126], BlkA b108 123 [(.int .i64 (x121 : Int)), (.int .i64 0), (.int .i64 0), (.int .i64 0)], RowA 123 4 Ao no co (rows l), BlkA b68 50 [(.int .i64 rh32.order), (.slice rh32.objs.a rh32.objs.n rh32.objs.c), (.int .i64 rh32.next), (.int .i64 rh32.t0), (.int .i64 rh32.t1), (.int .i64 rh32.t2), (.int .i64 rh32.t3), (.slice rh32.free.a rh32.free.n rh32.free.c), (.slice Ao no co)], HpW rh32 ros33 hh34, BlkA b2 50 zState, Fix w NoB] w139 := H137.setB (i := 1) rfl g141 o142 rfl
        have z144 := g141.size
        refine RL.nil (thn.n (CW.seq (CW.region (zm (.pointer (some ⟨b59, 0, none⟩)) rfl ?_))))
        obtain ⟨S155, hS156, hO157, K158⟩ := H143.takeN 1
        refine RL.call Tryz.call187 (rnum_ _ S155 b59 A122 n123 c124 bs125 bq126 hS156 ⟨(RdN.of_fix hO157 (j := 5) rfl hq130.1 (by omega)), hq130.2⟩) rfl rfl rfl ?_
        rintro _ w159 ⟨x145, A146, n147, c148, bs149, bq150, rfl, g160, hnum151, hind152, hxle153⟩
        have H161 : Sp [BlkA b59 213 [.slice A146 n147 c148, .bool bq150], BlkA b108 123 [(.int .i64 (x121 : Int)), (.int .i64 0), (.int .i64 0), (.int .i64 0)], RowA 123 4 Ao no co (rows l), BlkA b68 50 [(.int .i64 rh32.order), (.slice rh32.objs.a rh32.objs.n rh32.objs.c), (.int .i64 rh32.next), (.int .i64 rh32.t0), (.int .i64 rh32.t1), (.int .i64 rh32.t2), (.int .i64 rh32.t3), (.slice rh32.free.a rh32.free.n rh32.free.c), (.slice Ao no co)], HpW rh32 ros33 hh34, BlkA b2 50 zState, Fix w NoB] w159 := K158 _ _ g160
        have z162 := (H161.fix (i := 6) rfl).size
        have hq154 := hind152.r _ _ hq130
        refine zg rfl (fa123_1 (b := ⟨b108, 1, none⟩) rfl rfl) (RL.st (vs := [(.int .i64 (x145 : Int))]) (cs' := [(.int .i64 (x121 : Int)), (.int .i64 (x145 : Int)), (.int .i64 0), (.int .i64 0)]) Tryz.sizeOf3 (H161.ob (i := 1) rfl) rfl rfl rfl rfl rfl rfl ?_)
        intro w163 hz164 g165 o166
        have H167 : Sp [BlkA b59 213 [.slice A146 n147 c148, .bool bq150], BlkA b108 123 [(.int .i64 (x121 : Int)), (.int .i64 (x145 : Int)), (.int .i64 0), (.int .i64 0)], RowA 123 4 Ao no co (rows l), BlkA b68 50 [(.int .i64 rh32.order), (.slice rh32.objs.a rh32.objs.n rh32.objs.c), (.int .i64 rh32.next), (.int .i64 rh32.t0), (.int .i64 rh32.t1), (.int .i64 rh32.t2), (.int .i64 rh32.t3), (.slice rh32.free.a rh32.free.n rh32.free.c), (.slice Ao no co)], HpW rh32 ros33 hh34, BlkA b2 50 zState, Fix w NoB] w163 := H161.setB (i := 1) rfl g165 o166 rfl
        have z168 := g165.size
        refine RL.nil (thn.n (CW.seq (CW.region (zm (.pointer (some ⟨b59, 0, none⟩)) rfl ?_))))
        obtain ⟨S179, hS180, hO181, K182⟩ := H167.takeN 1
        refine RL.call Tryz.call187 (rnum_ _ S179 b59 A146 n147 c148 bs149 bq150 hS180 ⟨(RdN.of_fix hO181 (j := 5) rfl hq154.1 (by omega)), hq154.2⟩) rfl rfl rfl ?_
        rintro _ w183 ⟨x169, A170, n171, c172, bs173, bq174, rfl, g184, hnum175, hind176, hxle177⟩
        have H185 : Sp [BlkA b59 213 [.slice A170 n171 c172, .bool bq174], BlkA b108 123 [(.int .i64 (x121 : Int)), (.int .i64 (x145 : Int)), (.int .i64 0), (.int .i64 0)], RowA 123 4 Ao no co (rows l), BlkA b68 50 [(.int .i64 rh32.order), (.slice rh32.objs.a rh32.objs.n rh32.objs.c), (.int .i64 rh32.next), (.int .i64 rh32.t0), (.int .i64 rh32.t1), (.int .i64 rh32.t2), (.int .i64 rh32.t3), (.slice rh32.free.a rh32.free.n rh32.free.c), (.slice Ao no co)], HpW rh32 ros33 hh34, BlkA b2 50 zState, Fix w NoB] w183 := K182 _ _ g184
        have z186 := (H185.fix (i := 6) rfl).size
        have hq178 := hind176.r _ _ hq154
        refine za (.int .i64 (x169 : Int)) rfl (RL.nil (thn.n (CW.seq (CW.region (zm (.int .i64 (x169 : Int)) rfl (zg rfl (fa123_2 (b := ⟨b108, 2, none⟩) rfl rfl) (zg rfl (fa55_0 (b := ⟨b108, 2, none⟩) rfl rfl) (RL.st (vs := [(.int .i64 (x169 : Int))]) (cs' := [(.int .i64 (x121 : Int)), (.int .i64 (x145 : Int)), (.int .i64 (x169 : Int)), (.int .i64 0)]) Tryz.sizeOf53 (H185.ob (i := 1) rfl) rfl rfl rfl rfl rfl rfl ?_))))))))
        intro w187 hz188 g189 o190
        have H191 : Sp [BlkA b59 213 [.slice A170 n171 c172, .bool bq174], BlkA b108 123 [(.int .i64 (x121 : Int)), (.int .i64 (x145 : Int)), (.int .i64 (x169 : Int)), (.int .i64 0)], RowA 123 4 Ao no co (rows l), BlkA b68 50 [(.int .i64 rh32.order), (.slice rh32.objs.a rh32.objs.n rh32.objs.c), (.int .i64 rh32.next), (.int .i64 rh32.t0), (.int .i64 rh32.t1), (.int .i64 rh32.t2), (.int .i64 rh32.t3), (.slice rh32.free.a rh32.free.n rh32.free.c), (.slice Ao no co)], HpW rh32 ros33 hh34, BlkA b2 50 zState, Fix w NoB] w187 := H185.setB (i := 1) rfl g189 o190 rfl
        have z192 := g189.size
        refine RL.nil (thn.n (CW.seq (CW.region (zm (.pointer (some ⟨b59, 0, none⟩)) rfl ?_))))
        obtain ⟨S203, hS204, hO205, K206⟩ := H191.takeN 1
        refine RL.call Tryz.call188 (rint_ _ S203 b59 A170 n171 c172 bs173 bq174 hS204 ⟨(RdN.of_fix hO205 (j := 5) rfl hq178.1 (by omega)), hq178.2⟩) rfl rfl rfl ?_
        rintro _ w207 ⟨x193, A194, n195, c196, bs197, bq198, rfl, g208, hnum199, hind200⟩
        have H209 : Sp [BlkA b59 213 [.slice A194 n195 c196, .bool bq198], BlkA b108 123 [(.int .i64 (x121 : Int)), (.int .i64 (x145 : Int)), (.int .i64 (x169 : Int)), (.int .i64 0)], RowA 123 4 Ao no co (rows l), BlkA b68 50 [(.int .i64 rh32.order), (.slice rh32.objs.a rh32.objs.n rh32.objs.c), (.int .i64 rh32.next), (.int .i64 rh32.t0), (.int .i64 rh32.t1), (.int .i64 rh32.t2), (.int .i64 rh32.t3), (.slice rh32.free.a rh32.free.n rh32.free.c), (.slice Ao no co)], HpW rh32 ros33 hh34, BlkA b2 50 zState, Fix w NoB] w207 := K206 _ _ g208
        have z210 := (H209.fix (i := 6) rfl).size
        have hq202 := hind200.r _ _ hq178
        refine zg rfl (fa123_2 (b := ⟨b108, 2, none⟩) rfl rfl) (zg rfl (fa55_1 (b := ⟨b108, 3, none⟩) rfl rfl) (RL.st (vs := [(.int .i64 x193)]) (cs' := [(.int .i64 (x121 : Int)), (.int .i64 (x145 : Int)), (.int .i64 (x169 : Int)), (.int .i64 x193)]) Tryz.sizeOf3 (H209.ob (i := 1) rfl) rfl rfl rfl rfl rfl rfl ?_))
        intro w211 hz212 g213 o214
        have H215 : Sp [BlkA b59 213 [.slice A194 n195 c196, .bool bq198], BlkA b108 123 [(.int .i64 (x121 : Int)), (.int .i64 (x145 : Int)), (.int .i64 (x169 : Int)), (.int .i64 x193)], RowA 123 4 Ao no co (rows l), BlkA b68 50 [(.int .i64 rh32.order), (.slice rh32.objs.a rh32.objs.n rh32.objs.c), (.int .i64 rh32.next), (.int .i64 rh32.t0), (.int .i64 rh32.t1), (.int .i64 rh32.t2), (.int .i64 rh32.t3), (.slice rh32.free.a rh32.free.n rh32.free.c), (.slice Ao no co)], HpW rh32 ros33 hh34, BlkA b2 50 zState, Fix w NoB] w211 := H209.setB (i := 1) rfl g213 o214 rfl
        have z216 := g213.size
        refine RL.nil (thn.n (CW.region (zg rfl (fa50_1 (b := ⟨b68, 8, none⟩) rfl rfl) (zl (.slice Ao no co) lo48 (H215.ob (i := 3) rfl) rfl (zg rfl (Ex.ldv rfl (loadCN (cs := [(.int .i64 (x121 : Int)), (.int .i64 (x145 : Int)), (.int .i64 (x169 : Int)), (.int .i64 x193)]) wh123 (H215.ob (i := 1) rfl).cl)) (RL.bs (cs := [(.int .i64 (x121 : Int)), (.int .i64 (x145 : Int)), (.int .i64 (x169 : Int)), (.int .i64 x193)]) Tryz.underlying48 Tryz.sizeOf123 ze48 rfl rfl rfl (by decide) rfl rfl rfl ?_))))))
        intro w217 b218 hb219 hz220 g221 o222
        have H223 := H215.newB g221 o222 (by omega)
        have z224 := g221.size
        refine RL.apW (base := 0) (xss := (rows l)) (yss := (rows ([(⟨(x121 : Int), (x145 : Int), (x169 : Int), x193⟩ : Row)]))) el48 (H223.wr (i := 3) rfl) rfl (Ob.rd1 (H223.ob (i := 0) rfl) rfl) rfl (by simp only [bcs_length, ics_length, rows_length, blks_length, robjs_length, ents_length, List.length_append, List.length_cons, List.length_nil, List.length_take, List.length_drop, List.length_map, enc4, enc8, encN_len, encW_len, recsE_length]; try omega) (rows_one _) (by omega) (by omega) (by omega) rfl rfl ?_
        intro w225 A226 c227 g228 ow229 nx230
        have H231 : Sp [BlkA b218 123 [(.int .i64 (x121 : Int)), (.int .i64 (x145 : Int)), (.int .i64 (x169 : Int)), (.int .i64 x193)], BlkA b59 213 [.slice A194 n195 c196, .bool bq198], BlkA b108 123 [(.int .i64 (x121 : Int)), (.int .i64 (x145 : Int)), (.int .i64 (x169 : Int)), (.int .i64 x193)], RowA 123 4 A226 (no + 1) c227 (rows (l ++ [(⟨(x121 : Int), (x145 : Int), (x169 : Int), x193⟩ : Row)])), BlkA b68 50 [(.int .i64 rh32.order), (.slice rh32.objs.a rh32.objs.n rh32.objs.c), (.int .i64 rh32.next), (.int .i64 rh32.t0), (.int .i64 rh32.t1), (.int .i64 rh32.t2), (.int .i64 rh32.t3), (.slice rh32.free.a rh32.free.n rh32.free.c), (.slice Ao no co)], HpW rh32 ros33 hh34, BlkA b2 50 zState, Fix w NoB] w225 := H223.setR (i := 3) rfl g228 ((rows_app _ _).symm ▸ ow229) nx230 rfl
        have z232 := g228.size
        refine zg rfl (fa50_1 (b := ⟨b68, 8, none⟩) rfl rfl) (RL.st (vs := [(.slice A226 (no + 1) c227)]) (cs' := [(.int .i64 rh32.order), (.slice rh32.objs.a rh32.objs.n rh32.objs.c), (.int .i64 rh32.next), (.int .i64 rh32.t0), (.int .i64 rh32.t1), (.int .i64 rh32.t2), (.int .i64 rh32.t3), (.slice rh32.free.a rh32.free.n rh32.free.c), (.slice A226 (no + 1) c227)]) Tryz.sizeOf48 (H231.ob (i := 4) rfl) rfl rfl rfl rfl rfl rfl ?_)
        intro w233 hz234 g235 o236
        have H237 : Sp [BlkA b218 123 [(.int .i64 (x121 : Int)), (.int .i64 (x145 : Int)), (.int .i64 (x169 : Int)), (.int .i64 x193)], BlkA b59 213 [.slice A194 n195 c196, .bool bq198], BlkA b108 123 [(.int .i64 (x121 : Int)), (.int .i64 (x145 : Int)), (.int .i64 (x169 : Int)), (.int .i64 x193)], RowA 123 4 A226 (no + 1) c227 (rows (l ++ [(⟨(x121 : Int), (x145 : Int), (x169 : Int), x193⟩ : Row)])), BlkA b68 50 [(.int .i64 rh32.order), (.slice rh32.objs.a rh32.objs.n rh32.objs.c), (.int .i64 rh32.next), (.int .i64 rh32.t0), (.int .i64 rh32.t1), (.int .i64 rh32.t2), (.int .i64 rh32.t3), (.slice rh32.free.a rh32.free.n rh32.free.c), (.slice A226 (no + 1) c227)], HpW rh32 ros33 hh34, BlkA b2 50 zState, Fix w NoB] w233 := H231.setB (i := 4) rfl g235 o236 rfl
        have z238 := g235.size
        refine RL.nil (inB.n (thn.n (CW.region (zm (.int .i64 (k : Int)) rfl (zg rfl (Ex.add (r := (k : Int) + 1) rfl rfl (w64 (by omega) (by omega))) (za (.int .i64 ((k : Int) + 1)) rfl (RL.nil (thn.n ?_))))))))
        refine ⟨(by repeat (first | exact Out.mix _ _ | exact Out.refl _ _ | refine Out.up ?_ rfl _ | refine Out.mixIn ?_ (by intro t ht; simp only [Bool.or_eq_false_iff, Bool.and_eq_false_iff, ble_f, beq_f] at ht ⊢; omega))), _, ?_, k + 1, n195, c196, no + 1, c227, A194, A226, l ++ [(⟨(x121 : Int), (x145 : Int), (x169 : Int), x193⟩ : Row)], bs197, bq198, rfl, rfl, (H237.sel [3, 1, 4, 5, 6, 7] (by decide) rfl), by omega, by omega, manyF_go hmy (rowF_mk hnum127 hnum151 hnum175 hnum199), by omega, hin1.trans ((hind128.trans hind152).trans (hind176.trans hind200))⟩
        omega
       ·skip
        refine zg rfl (Ex.not (b := true) rfl) (zT (.bool false) rfl (RL.nil (thn.n (CW.condF rfl (CW.exit (thn.x (thn.x (inB.hit (thn.n (CW.seq (CW.seq ?_)))))))))))
        have hgs := getState_ref hrt12 hgh35 hnum87 hmy (by omega) (by first | exact .inl (by omega) | exact .inr (.inl (by omega)) | exact .inr (.inr rfl))
        have hrl := H103.len (i := 0) rfl
        rw [rows_length] at hrl
        have hq1l := hq1.2.1
        refine CW.region (zm (.pointer (some ⟨b59, 0, none⟩)) rfl (zg rfl (Ex.nck rfl) (zg rfl (fa213_1 (b := ⟨b59, 1, none⟩) rfl rfl) (zl (.bool true) lo4 (H103.ob (i := 1) rfl) rfl (zm (.bool true) rfl (zo rfl (zo rfl (zo rfl (zo rfl (zo rfl ?_))))))))))
        refine zo rfl (zT (.bool true) rfl (zm (.bool true) rfl (zo rfl (zo rfl (zo rfl (zo rfl (zo rfl (zT (.bool true) rfl (zm (.bool true) rfl (zo rfl ?_))))))))))
        refine zo rfl (zo rfl (zT (.bool true) rfl (RL.nil (thn.n (CW.condT rfl (CW.seq (CW.region (zg rfl (Ex.bd (cs := zState) bd50 rfl) (RL.st (vs := zState) (cs' := zState) Tryz.sizeOf50 (H103.ob (i := 4) rfl) rfl rfl rfl rfl rfl rfl ?_)))))))))
        intro w239 hz240 g241 o242
        have H243 : Sp [RowA 123 4 Ao no co (rows l), BlkA b59 213 [.slice A1 n1 c1, .bool true], BlkA b68 50 [(.int .i64 rh32.order), (.slice rh32.objs.a rh32.objs.n rh32.objs.c), (.int .i64 rh32.next), (.int .i64 rh32.t0), (.int .i64 rh32.t1), (.int .i64 rh32.t2), (.int .i64 rh32.t3), (.slice rh32.free.a rh32.free.n rh32.free.c), (.slice Ao no co)], HpW rh32 ros33 hh34, BlkA b2 50 zState, Fix w NoB] w239 := H103.setB (i := 4) rfl g241 o242 rfl
        have z244 := g241.size
        refine za (.int .i64 60) rfl (RL.nil (thn.n (CW.ret (thn.r (finQ.r (v := (.tuple #[(.agg (zState).toArray), (.int .i64 60)])) (resv2 rfl (Rv.cell rfl (loadCN (cs := zState) wh50 (H243.ob (i := 4) rfl).cl)) (Rv.tmp rfl)) ?_)))))
        exact .inr ⟨rfl, (H243.fix (i := 5) rfl), by rw [hgs, if_neg (fun ⟨q1, q2, q3, q4⟩ => by first | (cases q1; done) | (rw [q2] at hq1l; simp only [List.length_nil] at hq1l; omega) | omega)]⟩
      ·skip
       refine zT (.bool false) rfl (zm (.bool false) rfl (zo rfl (zo rfl (zo rfl (zo rfl (zo rfl (zF (.bool false) rfl (RL.nil (thn.n (CW.condF rfl (CW.exit (thn.x (thn.x (inB.hit (thn.n (CW.seq (CW.seq ?_)))))))))))))))))
       have hgs := getState_ref hrt12 hgh35 hnum87 hmy (by omega) (by first | exact .inl (by omega) | exact .inr (.inl (by omega)) | exact .inr (.inr rfl))
       have hrl := H103.len (i := 0) rfl
       rw [rows_length] at hrl
       have hq1l := hq1.2.1
       refine CW.region (zm (.pointer (some ⟨b59, 0, none⟩)) rfl (zg rfl (Ex.nck rfl) (zg rfl (fa213_1 (b := ⟨b59, 1, none⟩) rfl rfl) (zl (.bool b1) lo4 (H103.ob (i := 1) rfl) rfl ?_))))
       rcases b1 with _ | _
       ·skip
        refine zm (.bool false) rfl (zm (.pointer (some ⟨b59, 0, none⟩)) rfl (zg rfl (Ex.nck rfl) (zg rfl (fa213_0 (b := ⟨b59, 0, none⟩) rfl rfl) (zl (.slice A1 n1 c1) lo97 (H103.ob (i := 1) rfl) rfl (zg rfl (Ex.len Tryz.underlying97 rfl) ?_)))))
        refine RL.br (p := (0 : Int) < ((n1 : Nat) : Int)) rfl rfl rfl (fun r hr => Ex.gt rfl rfl hr) (fun h245 => ?_) (fun h245 => ?_)
        ·skip
         refine zF (.bool true) rfl (zm (.bool true) rfl (zo rfl (zo rfl (zo rfl (zo rfl (zo rfl (zT (.bool true) rfl (zm (.bool true) rfl (zo rfl (zo rfl ?_))))))))))
         refine zo rfl (zT (.bool true) rfl (RL.nil (thn.n (CW.condT rfl (CW.seq (CW.region (zg rfl (Ex.bd (cs := zState) bd50 rfl) (RL.st (vs := zState) (cs' := zState) Tryz.sizeOf50 (H103.ob (i := 4) rfl) rfl rfl rfl rfl rfl rfl ?_))))))))
         intro w246 hz247 g248 o249
         have H250 : Sp [RowA 123 4 Ao no co (rows l), BlkA b59 213 [.slice A1 n1 c1, .bool false], BlkA b68 50 [(.int .i64 rh32.order), (.slice rh32.objs.a rh32.objs.n rh32.objs.c), (.int .i64 rh32.next), (.int .i64 rh32.t0), (.int .i64 rh32.t1), (.int .i64 rh32.t2), (.int .i64 rh32.t3), (.slice rh32.free.a rh32.free.n rh32.free.c), (.slice Ao no co)], HpW rh32 ros33 hh34, BlkA b2 50 zState, Fix w NoB] w246 := H103.setB (i := 4) rfl g248 o249 rfl
         have z251 := g248.size
         refine za (.int .i64 60) rfl (RL.nil (thn.n (CW.ret (thn.r (finQ.r (v := (.tuple #[(.agg (zState).toArray), (.int .i64 60)])) (resv2 rfl (Rv.cell rfl (loadCN (cs := zState) wh50 (H250.ob (i := 4) rfl).cl)) (Rv.tmp rfl)) ?_)))))
         exact .inr ⟨rfl, (H250.fix (i := 5) rfl), by rw [hgs, if_neg (fun ⟨q1, q2, q3, q4⟩ => by first | (cases q1; done) | (rw [q2] at hq1l; simp only [List.length_nil] at hq1l; omega) | omega)]⟩
        ·skip
         refine zF (.bool false) rfl (zm (.bool false) rfl (zm (.int .i64 (x81 : Int)) rfl (zg rfl (fa50_1 (b := ⟨b68, 8, none⟩) rfl rfl) (zl (.slice Ao no co) lo48 (H103.ob (i := 2) rfl) rfl (zg rfl (Ex.len Tryz.underlying48 rfl) ?_)))))
         refine RL.br (p := ((x81 : Int) : Int) ≠ ((no : Nat) : Int)) rfl rfl rfl (fun r hr => Ex.neD rfl rfl hr) (fun h252 => ?_) (fun h252 => ?_)
         ·skip
          refine zF (.bool true) rfl (zm (.bool true) rfl (zo rfl (zo rfl (zo rfl (zT (.bool true) rfl (RL.nil (thn.n (CW.condT rfl (CW.seq (CW.region (zg rfl (Ex.bd (cs := zState) bd50 rfl) (RL.st (vs := zState) (cs' := zState) Tryz.sizeOf50 (H103.ob (i := 4) rfl) rfl rfl rfl rfl rfl rfl ?_))))))))))))
          intro w253 hz254 g255 o256
          have H257 : Sp [RowA 123 4 Ao no co (rows l), BlkA b59 213 [.slice A1 n1 c1, .bool false], BlkA b68 50 [(.int .i64 rh32.order), (.slice rh32.objs.a rh32.objs.n rh32.objs.c), (.int .i64 rh32.next), (.int .i64 rh32.t0), (.int .i64 rh32.t1), (.int .i64 rh32.t2), (.int .i64 rh32.t3), (.slice rh32.free.a rh32.free.n rh32.free.c), (.slice Ao no co)], HpW rh32 ros33 hh34, BlkA b2 50 zState, Fix w NoB] w253 := H103.setB (i := 4) rfl g255 o256 rfl
          have z258 := g255.size
          refine za (.int .i64 60) rfl (RL.nil (thn.n (CW.ret (thn.r (finQ.r (v := (.tuple #[(.agg (zState).toArray), (.int .i64 60)])) (resv2 rfl (Rv.cell rfl (loadCN (cs := zState) wh50 (H257.ob (i := 4) rfl).cl)) (Rv.tmp rfl)) ?_)))))
          exact .inr ⟨rfl, (H257.fix (i := 5) rfl), by rw [hgs, if_neg (fun ⟨q1, q2, q3, q4⟩ => by first | (cases q1; done) | (rw [q2] at hq1l; simp only [List.length_nil] at hq1l; omega) | omega)]⟩
         ·skip
          refine zF (.bool false) rfl (zm (.bool false) rfl ?_)
          have H259 : Sp [StW (⟨rh32, ⟨Ao, no, co⟩⟩ : RState) ros33 (⟨hh34, l⟩ : Eng.State), BlkA b59 213 [.slice A1 n1 c1, .bool false], BlkA b68 50 [(.int .i64 rh32.order), (.slice rh32.objs.a rh32.objs.n rh32.objs.c), (.int .i64 rh32.next), (.int .i64 rh32.t0), (.int .i64 rh32.t1), (.int .i64 rh32.t2), (.int .i64 rh32.t3), (.slice rh32.free.a rh32.free.n rh32.free.c), (.slice Ao no co)], BlkA b2 50 zState, Fix w NoB] w100 := (Sp.stMk (rs := (⟨rh32, ⟨Ao, no, co⟩⟩ : RState)) (ros := ros33) (s := (⟨hh34, l⟩ : Eng.State)) (H103.sel [3, 0, 1, 2, 4, 5] (by decide) rfl) (by show no ≤ _; omega))
          refine zg rfl (Ex.ldv rfl (loadCN (cs := [(.int .i64 rh32.order), (.slice rh32.objs.a rh32.objs.n rh32.objs.c), (.int .i64 rh32.next), (.int .i64 rh32.t0), (.int .i64 rh32.t1), (.int .i64 rh32.t2), (.int .i64 rh32.t3), (.slice rh32.free.a rh32.free.n rh32.free.c), (.slice Ao no co)]) wh50 (H259.ob (i := 2) rfl).cl)) (RL.call Tryz.call104 (rightS_ _ _ (⟨rh32, ⟨Ao, no, co⟩⟩ : RState) _ _ (H259.stWR (i := 0) rfl) (Nat.le_refl _) (by first | assumption | omega | (dsimp only; omega))) rfl rfl rfl ?_)
          rintro _ w260 ⟨rfl, g261⟩
          have H262 := H259.grow g261
          have z263 := g261.size
          rcases hb264 : (stateB (⟨hh34, l⟩ : Eng.State)) with _ | _
          ·skip
           refine zg rfl (Ex.not (b := false) rfl) (zF (.bool true) rfl (RL.nil (thn.n (CW.condT rfl (CW.seq (CW.region (zg rfl (Ex.bd (cs := zState) bd50 rfl) (RL.st (vs := zState) (cs' := zState) Tryz.sizeOf50 (H262.ob (i := 3) rfl) rfl rfl rfl rfl rfl rfl ?_))))))))
           intro w265 hz266 g267 o268
           have H269 : Sp [StW (⟨rh32, ⟨Ao, no, co⟩⟩ : RState) ros33 (⟨hh34, l⟩ : Eng.State), BlkA b59 213 [.slice A1 n1 c1, .bool false], BlkA b68 50 [(.int .i64 rh32.order), (.slice rh32.objs.a rh32.objs.n rh32.objs.c), (.int .i64 rh32.next), (.int .i64 rh32.t0), (.int .i64 rh32.t1), (.int .i64 rh32.t2), (.int .i64 rh32.t3), (.slice rh32.free.a rh32.free.n rh32.free.c), (.slice Ao no co)], BlkA b2 50 zState, Fix w NoB] w265 := H262.setB (i := 3) rfl g267 o268 rfl
           have z270 := g267.size
           refine za (.int .i64 60) rfl (RL.nil (thn.n (CW.ret (thn.r (finQ.r (v := (.tuple #[(.agg (zState).toArray), (.int .i64 60)])) (resv2 rfl (Rv.cell rfl (loadCN (cs := zState) wh50 (H269.ob (i := 3) rfl).cl)) (Rv.tmp rfl)) ?_)))))
           exact .inr ⟨rfl, (H269.fix (i := 4) rfl), by rw [hgs, if_neg (fun ⟨q1, q2, q3, q4⟩ => by first | (cases q1; done) | (rw [q2] at hq1l; simp only [List.length_nil] at hq1l; omega) | (rw [hb264] at q4; cases q4) | omega)]⟩
          ·skip
           refine zg rfl (Ex.not (b := true) rfl) (zF (.bool false) rfl (RL.nil (thn.n (CW.condF rfl (CW.skip (thn.n (CW.seq (CW.region (zg rfl (Ex.ldv rfl (loadCN (cs := [(.int .i64 rh32.order), (.slice rh32.objs.a rh32.objs.n rh32.objs.c), (.int .i64 rh32.next), (.int .i64 rh32.t0), (.int .i64 rh32.t1), (.int .i64 rh32.t2), (.int .i64 rh32.t3), (.slice rh32.free.a rh32.free.n rh32.free.c), (.slice Ao no co)]) wh50 (H262.ob (i := 2) rfl).cl)) (RL.st (vs := [(.int .i64 rh32.order), (.slice rh32.objs.a rh32.objs.n rh32.objs.c), (.int .i64 rh32.next), (.int .i64 rh32.t0), (.int .i64 rh32.t1), (.int .i64 rh32.t2), (.int .i64 rh32.t3), (.slice rh32.free.a rh32.free.n rh32.free.c), (.slice Ao no co)]) (cs' := [(.int .i64 rh32.order), (.slice rh32.objs.a rh32.objs.n rh32.objs.c), (.int .i64 rh32.next), (.int .i64 rh32.t0), (.int .i64 rh32.t1), (.int .i64 rh32.t2), (.int .i64 rh32.t3), (.slice rh32.free.a rh32.free.n rh32.free.c), (.slice Ao no co)]) Tryz.sizeOf50 (H262.ob (i := 3) rfl) rfl rfl rfl rfl rfl rfl ?_))))))))))
           intro w271 hz272 g273 o274
           have H275 : Sp [StW (⟨rh32, ⟨Ao, no, co⟩⟩ : RState) ros33 (⟨hh34, l⟩ : Eng.State), BlkA b59 213 [.slice A1 n1 c1, .bool false], BlkA b68 50 [(.int .i64 rh32.order), (.slice rh32.objs.a rh32.objs.n rh32.objs.c), (.int .i64 rh32.next), (.int .i64 rh32.t0), (.int .i64 rh32.t1), (.int .i64 rh32.t2), (.int .i64 rh32.t3), (.slice rh32.free.a rh32.free.n rh32.free.c), (.slice Ao no co)], BlkA b2 50 [(.int .i64 rh32.order), (.slice rh32.objs.a rh32.objs.n rh32.objs.c), (.int .i64 rh32.next), (.int .i64 rh32.t0), (.int .i64 rh32.t1), (.int .i64 rh32.t2), (.int .i64 rh32.t3), (.slice rh32.free.a rh32.free.n rh32.free.c), (.slice Ao no co)], Fix w NoB] w271 := H262.setB (i := 3) rfl g273 o274 rfl
           have z276 := g273.size
           refine za (.int .i64 0) rfl (RL.nil (thn.n (CW.ret (finQ.r (v := (.tuple #[(.agg ([(.int .i64 rh32.order), (.slice rh32.objs.a rh32.objs.n rh32.objs.c), (.int .i64 rh32.next), (.int .i64 rh32.t0), (.int .i64 rh32.t1), (.int .i64 rh32.t2), (.int .i64 rh32.t3), (.slice rh32.free.a rh32.free.n rh32.free.c), (.slice Ao no co)]).toArray), (.int .i64 0)])) (resv2 rfl (Rv.cell rfl (loadCN (cs := [(.int .i64 rh32.order), (.slice rh32.objs.a rh32.objs.n rh32.objs.c), (.int .i64 rh32.next), (.int .i64 rh32.t0), (.int .i64 rh32.t1), (.int .i64 rh32.t2), (.int .i64 rh32.t3), (.slice rh32.free.a rh32.free.n rh32.free.c), (.slice Ao no co)]) wh50 (H275.ob (i := 3) rfl).cl)) (Rv.tmp rfl)) ?_))))
           exact .inl ⟨(⟨rh32, ⟨Ao, no, co⟩⟩ : RState), ros33, _, rfl, (H275.sel [0, 4] (by decide) rfl), by rw [hgs, if_pos ⟨rfl, List.eq_nil_of_length_eq_zero (by omega), by omega, hb264⟩], hb264⟩
       ·skip
        refine zm (.bool true) rfl (zo rfl (zo rfl (zo rfl (zo rfl (zo rfl (zo rfl (zT (.bool true) rfl (zm (.bool true) rfl (zo rfl (zo rfl ?_))))))))))
        refine zo rfl (zo rfl (zo rfl (zT (.bool true) rfl (zm (.bool true) rfl (zo rfl (zo rfl (zo rfl (zT (.bool true) rfl (RL.nil (thn.n (CW.condT rfl (CW.seq (CW.region (zg rfl (Ex.bd (cs := zState) bd50 rfl) ?_))))))))))))))
        refine RL.st (vs := zState) (cs' := zState) Tryz.sizeOf50 (H103.ob (i := 4) rfl) rfl rfl rfl rfl rfl rfl ?_
        intro w277 hz278 g279 o280
        have H281 : Sp [RowA 123 4 Ao no co (rows l), BlkA b59 213 [.slice A1 n1 c1, .bool true], BlkA b68 50 [(.int .i64 rh32.order), (.slice rh32.objs.a rh32.objs.n rh32.objs.c), (.int .i64 rh32.next), (.int .i64 rh32.t0), (.int .i64 rh32.t1), (.int .i64 rh32.t2), (.int .i64 rh32.t3), (.slice rh32.free.a rh32.free.n rh32.free.c), (.slice Ao no co)], HpW rh32 ros33 hh34, BlkA b2 50 zState, Fix w NoB] w277 := H103.setB (i := 4) rfl g279 o280 rfl
        have z282 := g279.size
        refine za (.int .i64 60) rfl (RL.nil (thn.n (CW.ret (thn.r (finQ.r (v := (.tuple #[(.agg (zState).toArray), (.int .i64 60)])) (resv2 rfl (Rv.cell rfl (loadCN (cs := zState) wh50 (H281.ob (i := 4) rfl).cl)) (Rv.tmp rfl)) ?_)))))
        exact .inr ⟨rfl, (H281.fix (i := 5) rfl), by rw [hgs, if_neg (fun ⟨q1, q2, q3, q4⟩ => by first | (cases q1; done) | (rw [q2] at hq1l; simp only [List.length_nil] at hq1l; omega) | omega)]⟩
     ·skip
      refine zm (.bool false) rfl (zo rfl (zo rfl (zF (.bool false) rfl (zm (.bool false) rfl (zo rfl (zo rfl (zo rfl (zo rfl (zo rfl (zF (.bool false) rfl ?_))))))))))
      refine RL.nil (thn.n (CW.condF rfl (CW.exit (thn.x (thn.x (inB.hit (thn.n (CW.seq (CW.seq ?_)))))))))
      have hgs := getState_ref hrt12 hgh35 hnum87 hmy (by omega) (by first | exact .inl (by omega) | exact .inr (.inl (by omega)) | exact .inr (.inr rfl))
      have hrl := H103.len (i := 0) rfl
      rw [rows_length] at hrl
      have hq1l := hq1.2.1
      refine CW.region (zm (.pointer (some ⟨b59, 0, none⟩)) rfl (zg rfl (Ex.nck rfl) (zg rfl (fa213_1 (b := ⟨b59, 1, none⟩) rfl rfl) (zl (.bool b1) lo4 (H103.ob (i := 1) rfl) rfl ?_))))
      rcases b1 with _ | _
      ·skip
       refine zm (.bool false) rfl (zm (.pointer (some ⟨b59, 0, none⟩)) rfl (zg rfl (Ex.nck rfl) (zg rfl (fa213_0 (b := ⟨b59, 0, none⟩) rfl rfl) (zl (.slice A1 n1 c1) lo97 (H103.ob (i := 1) rfl) rfl (zg rfl (Ex.len Tryz.underlying97 rfl) ?_)))))
       refine RL.br (p := (0 : Int) < ((n1 : Nat) : Int)) rfl rfl rfl (fun r hr => Ex.gt rfl rfl hr) (fun h283 => ?_) (fun h283 => ?_)
       ·skip
        refine zF (.bool true) rfl (zm (.bool true) rfl (zo rfl (zo rfl (zo rfl (zo rfl (zo rfl (zT (.bool true) rfl (zm (.bool true) rfl (zo rfl (zo rfl ?_))))))))))
        refine zo rfl (zT (.bool true) rfl (RL.nil (thn.n (CW.condT rfl (CW.seq (CW.region (zg rfl (Ex.bd (cs := zState) bd50 rfl) (RL.st (vs := zState) (cs' := zState) Tryz.sizeOf50 (H103.ob (i := 4) rfl) rfl rfl rfl rfl rfl rfl ?_))))))))
        intro w284 hz285 g286 o287
        have H288 : Sp [RowA 123 4 Ao no co (rows l), BlkA b59 213 [.slice A1 n1 c1, .bool false], BlkA b68 50 [(.int .i64 rh32.order), (.slice rh32.objs.a rh32.objs.n rh32.objs.c), (.int .i64 rh32.next), (.int .i64 rh32.t0), (.int .i64 rh32.t1), (.int .i64 rh32.t2), (.int .i64 rh32.t3), (.slice rh32.free.a rh32.free.n rh32.free.c), (.slice Ao no co)], HpW rh32 ros33 hh34, BlkA b2 50 zState, Fix w NoB] w284 := H103.setB (i := 4) rfl g286 o287 rfl
        have z289 := g286.size
        refine za (.int .i64 60) rfl (RL.nil (thn.n (CW.ret (thn.r (finQ.r (v := (.tuple #[(.agg (zState).toArray), (.int .i64 60)])) (resv2 rfl (Rv.cell rfl (loadCN (cs := zState) wh50 (H288.ob (i := 4) rfl).cl)) (Rv.tmp rfl)) ?_)))))
        exact .inr ⟨rfl, (H288.fix (i := 5) rfl), by rw [hgs, if_neg (fun ⟨q1, q2, q3, q4⟩ => by first | (cases q1; done) | (rw [q2] at hq1l; simp only [List.length_nil] at hq1l; omega) | omega)]⟩
       ·skip
        refine zF (.bool false) rfl (zm (.bool false) rfl (zm (.int .i64 (x81 : Int)) rfl (zg rfl (fa50_1 (b := ⟨b68, 8, none⟩) rfl rfl) (zl (.slice Ao no co) lo48 (H103.ob (i := 2) rfl) rfl (zg rfl (Ex.len Tryz.underlying48 rfl) ?_)))))
        refine RL.br (p := ((x81 : Int) : Int) ≠ ((no : Nat) : Int)) rfl rfl rfl (fun r hr => Ex.neD rfl rfl hr) (fun h290 => ?_) (fun h290 => ?_)
        ·skip
         refine zF (.bool true) rfl (zm (.bool true) rfl (zo rfl (zo rfl (zo rfl (zT (.bool true) rfl (RL.nil (thn.n (CW.condT rfl (CW.seq (CW.region (zg rfl (Ex.bd (cs := zState) bd50 rfl) (RL.st (vs := zState) (cs' := zState) Tryz.sizeOf50 (H103.ob (i := 4) rfl) rfl rfl rfl rfl rfl rfl ?_))))))))))))
         intro w291 hz292 g293 o294
         have H295 : Sp [RowA 123 4 Ao no co (rows l), BlkA b59 213 [.slice A1 n1 c1, .bool false], BlkA b68 50 [(.int .i64 rh32.order), (.slice rh32.objs.a rh32.objs.n rh32.objs.c), (.int .i64 rh32.next), (.int .i64 rh32.t0), (.int .i64 rh32.t1), (.int .i64 rh32.t2), (.int .i64 rh32.t3), (.slice rh32.free.a rh32.free.n rh32.free.c), (.slice Ao no co)], HpW rh32 ros33 hh34, BlkA b2 50 zState, Fix w NoB] w291 := H103.setB (i := 4) rfl g293 o294 rfl
         have z296 := g293.size
         refine za (.int .i64 60) rfl (RL.nil (thn.n (CW.ret (thn.r (finQ.r (v := (.tuple #[(.agg (zState).toArray), (.int .i64 60)])) (resv2 rfl (Rv.cell rfl (loadCN (cs := zState) wh50 (H295.ob (i := 4) rfl).cl)) (Rv.tmp rfl)) ?_)))))
         exact .inr ⟨rfl, (H295.fix (i := 5) rfl), by rw [hgs, if_neg (fun ⟨q1, q2, q3, q4⟩ => by first | (cases q1; done) | (rw [q2] at hq1l; simp only [List.length_nil] at hq1l; omega) | omega)]⟩
        ·skip
         refine zF (.bool false) rfl (zm (.bool false) rfl ?_)
         have H297 : Sp [StW (⟨rh32, ⟨Ao, no, co⟩⟩ : RState) ros33 (⟨hh34, l⟩ : Eng.State), BlkA b59 213 [.slice A1 n1 c1, .bool false], BlkA b68 50 [(.int .i64 rh32.order), (.slice rh32.objs.a rh32.objs.n rh32.objs.c), (.int .i64 rh32.next), (.int .i64 rh32.t0), (.int .i64 rh32.t1), (.int .i64 rh32.t2), (.int .i64 rh32.t3), (.slice rh32.free.a rh32.free.n rh32.free.c), (.slice Ao no co)], BlkA b2 50 zState, Fix w NoB] w100 := (Sp.stMk (rs := (⟨rh32, ⟨Ao, no, co⟩⟩ : RState)) (ros := ros33) (s := (⟨hh34, l⟩ : Eng.State)) (H103.sel [3, 0, 1, 2, 4, 5] (by decide) rfl) (by show no ≤ _; omega))
         refine zg rfl (Ex.ldv rfl (loadCN (cs := [(.int .i64 rh32.order), (.slice rh32.objs.a rh32.objs.n rh32.objs.c), (.int .i64 rh32.next), (.int .i64 rh32.t0), (.int .i64 rh32.t1), (.int .i64 rh32.t2), (.int .i64 rh32.t3), (.slice rh32.free.a rh32.free.n rh32.free.c), (.slice Ao no co)]) wh50 (H297.ob (i := 2) rfl).cl)) (RL.call Tryz.call104 (rightS_ _ _ (⟨rh32, ⟨Ao, no, co⟩⟩ : RState) _ _ (H297.stWR (i := 0) rfl) (Nat.le_refl _) (by first | assumption | omega | (dsimp only; omega))) rfl rfl rfl ?_)
         rintro _ w298 ⟨rfl, g299⟩
         have H300 := H297.grow g299
         have z301 := g299.size
         rcases hb302 : (stateB (⟨hh34, l⟩ : Eng.State)) with _ | _
         ·skip
          refine zg rfl (Ex.not (b := false) rfl) (zF (.bool true) rfl (RL.nil (thn.n (CW.condT rfl (CW.seq (CW.region (zg rfl (Ex.bd (cs := zState) bd50 rfl) (RL.st (vs := zState) (cs' := zState) Tryz.sizeOf50 (H300.ob (i := 3) rfl) rfl rfl rfl rfl rfl rfl ?_))))))))
          intro w303 hz304 g305 o306
          have H307 : Sp [StW (⟨rh32, ⟨Ao, no, co⟩⟩ : RState) ros33 (⟨hh34, l⟩ : Eng.State), BlkA b59 213 [.slice A1 n1 c1, .bool false], BlkA b68 50 [(.int .i64 rh32.order), (.slice rh32.objs.a rh32.objs.n rh32.objs.c), (.int .i64 rh32.next), (.int .i64 rh32.t0), (.int .i64 rh32.t1), (.int .i64 rh32.t2), (.int .i64 rh32.t3), (.slice rh32.free.a rh32.free.n rh32.free.c), (.slice Ao no co)], BlkA b2 50 zState, Fix w NoB] w303 := H300.setB (i := 3) rfl g305 o306 rfl
          have z308 := g305.size
          refine za (.int .i64 60) rfl (RL.nil (thn.n (CW.ret (thn.r (finQ.r (v := (.tuple #[(.agg (zState).toArray), (.int .i64 60)])) (resv2 rfl (Rv.cell rfl (loadCN (cs := zState) wh50 (H307.ob (i := 3) rfl).cl)) (Rv.tmp rfl)) ?_)))))
          exact .inr ⟨rfl, (H307.fix (i := 4) rfl), by rw [hgs, if_neg (fun ⟨q1, q2, q3, q4⟩ => by first | (cases q1; done) | (rw [q2] at hq1l; simp only [List.length_nil] at hq1l; omega) | (rw [hb302] at q4; cases q4) | omega)]⟩
         ·skip
          refine zg rfl (Ex.not (b := true) rfl) (zF (.bool false) rfl (RL.nil (thn.n (CW.condF rfl (CW.skip (thn.n (CW.seq (CW.region (zg rfl (Ex.ldv rfl (loadCN (cs := [(.int .i64 rh32.order), (.slice rh32.objs.a rh32.objs.n rh32.objs.c), (.int .i64 rh32.next), (.int .i64 rh32.t0), (.int .i64 rh32.t1), (.int .i64 rh32.t2), (.int .i64 rh32.t3), (.slice rh32.free.a rh32.free.n rh32.free.c), (.slice Ao no co)]) wh50 (H300.ob (i := 2) rfl).cl)) (RL.st (vs := [(.int .i64 rh32.order), (.slice rh32.objs.a rh32.objs.n rh32.objs.c), (.int .i64 rh32.next), (.int .i64 rh32.t0), (.int .i64 rh32.t1), (.int .i64 rh32.t2), (.int .i64 rh32.t3), (.slice rh32.free.a rh32.free.n rh32.free.c), (.slice Ao no co)]) (cs' := [(.int .i64 rh32.order), (.slice rh32.objs.a rh32.objs.n rh32.objs.c), (.int .i64 rh32.next), (.int .i64 rh32.t0), (.int .i64 rh32.t1), (.int .i64 rh32.t2), (.int .i64 rh32.t3), (.slice rh32.free.a rh32.free.n rh32.free.c), (.slice Ao no co)]) Tryz.sizeOf50 (H300.ob (i := 3) rfl) rfl rfl rfl rfl rfl rfl ?_))))))))))
          intro w309 hz310 g311 o312
          have H313 : Sp [StW (⟨rh32, ⟨Ao, no, co⟩⟩ : RState) ros33 (⟨hh34, l⟩ : Eng.State), BlkA b59 213 [.slice A1 n1 c1, .bool false], BlkA b68 50 [(.int .i64 rh32.order), (.slice rh32.objs.a rh32.objs.n rh32.objs.c), (.int .i64 rh32.next), (.int .i64 rh32.t0), (.int .i64 rh32.t1), (.int .i64 rh32.t2), (.int .i64 rh32.t3), (.slice rh32.free.a rh32.free.n rh32.free.c), (.slice Ao no co)], BlkA b2 50 [(.int .i64 rh32.order), (.slice rh32.objs.a rh32.objs.n rh32.objs.c), (.int .i64 rh32.next), (.int .i64 rh32.t0), (.int .i64 rh32.t1), (.int .i64 rh32.t2), (.int .i64 rh32.t3), (.slice rh32.free.a rh32.free.n rh32.free.c), (.slice Ao no co)], Fix w NoB] w309 := H300.setB (i := 3) rfl g311 o312 rfl
          have z314 := g311.size
          refine za (.int .i64 0) rfl (RL.nil (thn.n (CW.ret (finQ.r (v := (.tuple #[(.agg ([(.int .i64 rh32.order), (.slice rh32.objs.a rh32.objs.n rh32.objs.c), (.int .i64 rh32.next), (.int .i64 rh32.t0), (.int .i64 rh32.t1), (.int .i64 rh32.t2), (.int .i64 rh32.t3), (.slice rh32.free.a rh32.free.n rh32.free.c), (.slice Ao no co)]).toArray), (.int .i64 0)])) (resv2 rfl (Rv.cell rfl (loadCN (cs := [(.int .i64 rh32.order), (.slice rh32.objs.a rh32.objs.n rh32.objs.c), (.int .i64 rh32.next), (.int .i64 rh32.t0), (.int .i64 rh32.t1), (.int .i64 rh32.t2), (.int .i64 rh32.t3), (.slice rh32.free.a rh32.free.n rh32.free.c), (.slice Ao no co)]) wh50 (H313.ob (i := 3) rfl).cl)) (Rv.tmp rfl)) ?_))))
          exact .inl ⟨(⟨rh32, ⟨Ao, no, co⟩⟩ : RState), ros33, _, rfl, (H313.sel [0, 4] (by decide) rfl), by rw [hgs, if_pos ⟨rfl, List.eq_nil_of_length_eq_zero (by omega), by omega, hb302⟩], hb302⟩
      ·skip
       refine zm (.bool true) rfl (zo rfl (zo rfl (zo rfl (zo rfl (zo rfl (zo rfl (zT (.bool true) rfl (zm (.bool true) rfl (zo rfl (zo rfl ?_))))))))))
       refine zo rfl (zo rfl (zo rfl (zT (.bool true) rfl (zm (.bool true) rfl (zo rfl (zo rfl (zo rfl (zT (.bool true) rfl (RL.nil (thn.n (CW.condT rfl (CW.seq (CW.region (zg rfl (Ex.bd (cs := zState) bd50 rfl) ?_))))))))))))))
       refine RL.st (vs := zState) (cs' := zState) Tryz.sizeOf50 (H103.ob (i := 4) rfl) rfl rfl rfl rfl rfl rfl ?_
       intro w315 hz316 g317 o318
       have H319 : Sp [RowA 123 4 Ao no co (rows l), BlkA b59 213 [.slice A1 n1 c1, .bool true], BlkA b68 50 [(.int .i64 rh32.order), (.slice rh32.objs.a rh32.objs.n rh32.objs.c), (.int .i64 rh32.next), (.int .i64 rh32.t0), (.int .i64 rh32.t1), (.int .i64 rh32.t2), (.int .i64 rh32.t3), (.slice rh32.free.a rh32.free.n rh32.free.c), (.slice Ao no co)], HpW rh32 ros33 hh34, BlkA b2 50 zState, Fix w NoB] w315 := H103.setB (i := 4) rfl g317 o318 rfl
       have z320 := g317.size
       refine za (.int .i64 60) rfl (RL.nil (thn.n (CW.ret (thn.r (finQ.r (v := (.tuple #[(.agg (zState).toArray), (.int .i64 60)])) (resv2 rfl (Rv.cell rfl (loadCN (cs := zState) wh50 (H319.ob (i := 4) rfl).cl)) (Rv.tmp rfl)) ?_)))))
       exact .inr ⟨rfl, (H319.fix (i := 5) rfl), by rw [hgs, if_neg (fun ⟨q1, q2, q3, q4⟩ => by first | (cases q1; done) | (rw [q2] at hq1l; simp only [List.length_nil] at hq1l; omega) | omega)]⟩
   ·skip
    have H321 := H30.grow g40
    have z322 := g40.size
    refine zm (.tuple #[(.agg (zHeap).toArray), (.int .i64 60)]) rfl (zx (.agg (zHeap).toArray) rfl (zx (.int .i64 60) rfl (RL.al (cs := zHeap) Tryz.zeroValue47 rfl rfl rfl ?_)))
    intro w323 b324 hb325 hz326 g327 o328
    have H329 := H321.newB g327 o328 (by omega)
    have z330 := g327.size
    refine RL.st (vs := zHeap) (cs' := zHeap) Tryz.sizeOf47 (H329.ob (i := 0) rfl) rfl rfl rfl rfl rfl rfl ?_
    intro w331 hz332 g333 o334
    have H335 : Sp [BlkA b324 47 zHeap, BlkA b2 50 zState, Fix w NoB] w331 := H329.setB (i := 0) rfl g333 o334 rfl
    have z336 := g333.size
    refine za (.int .i64 60) rfl (RL.nil (thn.n (CW.seq (CW.seq (CW.region (zm (.int .i64 0) rfl (zg rfl (Ex.neD (r := false) rfl rfl (by decide)) (zm (.bool false) rfl (zm (.int .i64 60) rfl (zg rfl (Ex.neD (r := true) rfl rfl (by decide)) (zF (.bool true) rfl (RL.nil (thn.n (CW.condT rfl (CW.seq (CW.region (zg rfl (Ex.bd (cs := zState) bd50 rfl) (RL.st (vs := zState) (cs' := zState) Tryz.sizeOf50 (H335.ob (i := 1) rfl) rfl rfl rfl rfl rfl rfl ?_))))))))))))))))))
    intro w337 hz338 g339 o340
    have H341 : Sp [BlkA b324 47 zHeap, BlkA b2 50 zState, Fix w NoB] w337 := H335.setB (i := 1) rfl g339 o340 rfl
    have z342 := g339.size
    refine za (.int .i64 60) rfl (RL.nil (thn.n (CW.ret (thn.r (finQ.r (v := (.tuple #[(.agg (zState).toArray), (.int .i64 60)])) (resv2 rfl (Rv.cell rfl (loadCN (cs := zState) wh50 (H341.ob (i := 1) rfl).cl)) (Rv.tmp rfl)) ?_)))))
    exact .inr ⟨rfl, (H341.fix (i := 2) rfl), getState_no2 hrt12 hgh36⟩
  ·skip
   have H343 := H7.grow g19
   have z344 := g19.size
   refine zm (.tuple #[(.string (tx [])), (.int .i64 0), (.int .i64 e11)]) rfl (zx (.string (tx [])) rfl (zx (.int .i64 0) rfl (zx (.int .i64 e11) rfl (za (.string (tx [])) rfl (za (.int .i64 0) rfl (za (.int .i64 e11) rfl (RL.nil (thn.n (CW.seq (CW.region (zm (.string (tx [])) rfl (RL.s2bT (l := []) Tryz.underlying9 Tryz.underlying97 Tryz.underlying5 rfl rfl rfl ?_))))))))))))
   intro w345 b346 c347 hb348 hz349 g350 rd351 hc352
   have H353 := H343.grow g350
   have z354 := g350.size
   refine RL.call Tryz.call186 (getHeapR_ _ _ ([]) (some ⟨b346, 0, none⟩) (([]).length) c347 ⟨rd351, by first | rfl | omega, by omega, by first | omega | (simp only [List.length_nil]; omega)⟩ (by omega)) rfl rfl rfl ?_
   rintro _ w361 (⟨rh355, ros356, hh357, rfl, g362, hgh358, hhb360⟩ | ⟨rfl, g363, hgh359⟩)
   ·skip
    have g364 := g362.fix (i := 1) rfl
    have H365 : Sp [HpW rh355 ros356 hh357, BlkA b2 50 zState, Fix w NoB] w361 := H353.join (m := [HpW rh355 ros356 hh357]) g362
    have z366 := g364.size
    refine zm (.tuple #[(.agg (rh355.cells).toArray), (.int .i64 0)]) rfl (zx (.agg (rh355.cells).toArray) rfl (zx (.int .i64 0) rfl (RL.al (cs := zHeap) Tryz.zeroValue47 rfl rfl rfl ?_)))
    intro w367 b368 hb369 hz370 g371 o372
    have H373 := H365.newB g371 o372 (by omega)
    have z374 := g371.size
    refine RL.st (vs := rh355.cells) (cs' := rh355.cells) Tryz.sizeOf47 (H373.ob (i := 0) rfl) rfl rfl rfl rfl rfl rfl ?_
    intro w375 hz376 g377 o378
    have H379 : Sp [BlkA b368 47 rh355.cells, HpW rh355 ros356 hh357, BlkA b2 50 zState, Fix w NoB] w375 := H373.setB (i := 0) rfl g377 o378 rfl
    have z380 := g377.size
    refine za (.int .i64 0) rfl (RL.nil (thn.n (CW.seq (CW.seq (CW.region (zm (.int .i64 e11) rfl (zg rfl (Ex.neD (r := true) rfl rfl (decide_eq_true (by omega))) (zm (.bool true) rfl (zo rfl (zo rfl (zT (.bool true) rfl (RL.nil (thn.n (CW.condT rfl (CW.seq (CW.region (zg rfl (Ex.bd (cs := zState) bd50 rfl) (RL.st (vs := zState) (cs' := zState) Tryz.sizeOf50 (H379.ob (i := 2) rfl) rfl rfl rfl rfl rfl rfl ?_))))))))))))))))))
    intro w381 hz382 g383 o384
    have H385 : Sp [BlkA b368 47 rh355.cells, HpW rh355 ros356 hh357, BlkA b2 50 zState, Fix w NoB] w381 := H379.setB (i := 2) rfl g383 o384 rfl
    have z386 := g383.size
    refine za (.int .i64 60) rfl (RL.nil (thn.n (CW.ret (thn.r (finQ.r (v := (.tuple #[(.agg (zState).toArray), (.int .i64 60)])) (resv2 rfl (Rv.cell rfl (loadCN (cs := zState) wh50 (H385.ob (i := 2) rfl).cl)) (Rv.tmp rfl)) ?_)))))
    exact .inr ⟨rfl, (H385.fix (i := 3) rfl), getState_no1 hrt15⟩
   ·skip
    have H387 := H353.grow g363
    have z388 := g363.size
    refine zm (.tuple #[(.agg (zHeap).toArray), (.int .i64 60)]) rfl (zx (.agg (zHeap).toArray) rfl (zx (.int .i64 60) rfl (RL.al (cs := zHeap) Tryz.zeroValue47 rfl rfl rfl ?_)))
    intro w389 b390 hb391 hz392 g393 o394
    have H395 := H387.newB g393 o394 (by omega)
    have z396 := g393.size
    refine RL.st (vs := zHeap) (cs' := zHeap) Tryz.sizeOf47 (H395.ob (i := 0) rfl) rfl rfl rfl rfl rfl rfl ?_
    intro w397 hz398 g399 o400
    have H401 : Sp [BlkA b390 47 zHeap, BlkA b2 50 zState, Fix w NoB] w397 := H395.setB (i := 0) rfl g399 o400 rfl
    have z402 := g399.size
    refine za (.int .i64 60) rfl (RL.nil (thn.n (CW.seq (CW.seq (CW.region (zm (.int .i64 e11) rfl (zg rfl (Ex.neD (r := true) rfl rfl (decide_eq_true (by omega))) (zm (.bool true) rfl (zo rfl (zo rfl (zT (.bool true) rfl (RL.nil (thn.n (CW.condT rfl (CW.seq (CW.region (zg rfl (Ex.bd (cs := zState) bd50 rfl) (RL.st (vs := zState) (cs' := zState) Tryz.sizeOf50 (H401.ob (i := 1) rfl) rfl rfl rfl rfl rfl rfl ?_))))))))))))))))))
    intro w403 hz404 g405 o406
    have H407 : Sp [BlkA b390 47 zHeap, BlkA b2 50 zState, Fix w NoB] w403 := H401.setB (i := 1) rfl g405 o406 rfl
    have z408 := g405.size
    refine za (.int .i64 60) rfl (RL.nil (thn.n (CW.ret (thn.r (finQ.r (v := (.tuple #[(.agg (zState).toArray), (.int .i64 60)])) (resv2 rfl (Rv.cell rfl (loadCN (cs := zState) wh50 (H407.ob (i := 1) rfl).cl)) (Rv.tmp rfl)) ?_)))))
    exact .inr ⟨rfl, (H407.fix (i := 2) rfl), getState_no1 hrt15⟩
set_option maxHeartbeats 1000000 in
set_option maxRecDepth 20000 in
theorem mayR14_ (w : World) (e : Entry) : Ret Tryz.prog 105 [(.agg (e.cells).toArray)] w (fun v w' => v = .bool (mayE e) ∧ w.grownBy w' none) := by
  have H0 : Sp [Fix w NoB] w := Sp.start w
  refine Ret.body Tryz.func105 rfl rfl rfl ?_
  refine CW.seq (CW.region (RL.bx (cs := e.cells) rfl rfl rfl ?_))
  intro w1 b2 hb3 hz4 g5 o6
  have H7 := H0.newB g5 o6 (by omega)
  have z8 := g5.size
  refine za (.bool false) rfl (RL.nil (thn.n (CW.seq (CW.seq (CW.region (zg rfl (fa31_0 (b := ⟨b2, 0, none⟩) rfl rfl) (zl (.int .i64 e.num) lo3 (H7.ob (i := 0) rfl) rfl (RL.call Tryz.call168 (within_tumulusref14 _ e.num 1 900000000) rfl rfl rfl ?_))))))))
  rintro _ _ ⟨rfl, rfl⟩
  rcases hb12 : (withinB e.num 1 900000000) with _ | _
  ·skip
   refine zg rfl (Ex.not (b := false) rfl) (zm (.bool true) rfl (zo rfl (zo rfl (zo rfl (zo rfl (zT (.bool true) rfl (RL.nil (thn.n (CW.condT rfl (CW.seq (CW.region (za (.bool false) rfl (RL.nil (thn.n (CW.ret (thn.r (finQ.r (v := (.bool false)) (res1 rfl rfl) ?_)))))))))))))))))
   exact ⟨ret_bool (by unfold mayE; first | (simp [hb12]; done) | (simp [op_eq, zOp, hb12]; done) | (simp [op_eq, zOp, hb12]; omega)), (H7.fix (i := 1) rfl)⟩
  ·have hw9 := withinB_t hb12
   refine zg rfl (Ex.not (b := true) rfl) (zm (.bool false) rfl (zg rfl (fa31_1 (b := ⟨b2, 1, none⟩) rfl rfl) (zl (.int .i64 e.view) lo3 (H7.ob (i := 0) rfl) rfl (RL.call Tryz.call168 (within_tumulusref14 _ e.view 0 900000000) rfl rfl rfl ?_))))
   rintro _ _ ⟨rfl, rfl⟩
   rcases hb16 : (withinB e.view 0 900000000) with _ | _
   ·skip
    refine zg rfl (Ex.not (b := false) rfl) (zF (.bool true) rfl (RL.nil (thn.n (CW.condT rfl (CW.seq (CW.region (za (.bool false) rfl (RL.nil (thn.n (CW.ret (thn.r (finQ.r (v := (.bool false)) (res1 rfl rfl) ?_))))))))))))
    exact ⟨ret_bool (by unfold mayE; first | (simp [hb12, hb16]; done) | (simp [op_eq, zOp, hb12, hb16]; done) | (simp [op_eq, zOp, hb12, hb16]; omega)), (H7.fix (i := 1) rfl)⟩
   ·have hw13 := withinB_t hb16
    refine zg rfl (Ex.not (b := true) rfl) (zF (.bool false) rfl (RL.nil (thn.n (CW.condF rfl (CW.skip (thn.n (CW.seq (CW.seq (CW.region (zg rfl (fa31_2 (b := ⟨b2, 2, none⟩) rfl rfl) (zl (.int .i64 e.client) lo3 (H7.ob (i := 0) rfl) rfl ?_)))))))))))
    refine RL.br (p := (e.client : Int) = (0 : Int)) rfl rfl rfl (fun r hr => Ex.eqD rfl rfl hr) (fun h17 => ?_) (fun h17 => ?_)
    ·skip
     refine RL.nil (thn.n (CW.condT rfl (CW.seq (CW.region (zg rfl (fa31_3 (b := ⟨b2, 3, none⟩) rfl rfl) (zl (.int .i64 e.seq) lo3 (H7.ob (i := 0) rfl) rfl ?_))))))
     refine RL.br (p := (e.seq : Int) = (0 : Int)) rfl rfl rfl (fun r hr => Ex.eqD rfl rfl hr) (fun h18 => ?_) (fun h18 => ?_)
     ·skip
      refine zm (.bool true) rfl (zg rfl (fa31_4 (b := ⟨b2, 4, none⟩) rfl rfl) (zg rfl (Ex.ldv rfl (loadCN (cs := [(.int .i64 e.op.kind), (.int .i64 e.op.h), (.int .i64 e.op.i), (.int .i64 e.op.n), (.int .i64 e.op.k), (.int .i64 e.op.v), (.int .i64 e.op.t)]) wh29 ((H7.ob (i := 0) rfl).sub 4 7))) (zg rfl (Ex.bd (cs := [(.int .i64 0), (.int .i64 0), (.int .i64 0), (.int .i64 0), (.int .i64 0), (.int .i64 0), (.int .i64 0)]) bd29 rfl) ?_)))
      refine RL.br (p := (e.op.kind : Int) = (0 : Int) ∧ (e.op.h : Int) = (0 : Int) ∧ (e.op.i : Int) = (0 : Int) ∧ (e.op.n : Int) = (0 : Int) ∧ (e.op.k : Int) = (0 : Int) ∧ (e.op.v : Int) = (0 : Int) ∧ (e.op.t : Int) = (0 : Int)) rfl rfl rfl (fun r hr => Ex.eqS (xs := [(.int .i64 e.op.kind), (.int .i64 e.op.h), (.int .i64 e.op.i), (.int .i64 e.op.n), (.int .i64 e.op.k), (.int .i64 e.op.v), (.int .i64 e.op.t)]) (ys := [(.int .i64 0), (.int .i64 0), (.int .i64 0), (.int .i64 0), (.int .i64 0), (.int .i64 0), (.int .i64 0)]) Tryz.eqGuardType29 (eqT29 hr) rfl rfl) (fun h19 => ?_) (fun h19 => ?_)
      ·skip
       refine zT (.bool true) rfl (za (.bool true) rfl (RL.nil (thn.n (CW.ret (thn.r (finQ.r (v := (.bool true)) (res1 rfl rfl) ?_))))))
       exact ⟨ret_bool (by unfold mayE; first | (simp [hb12, hb16, h17, h18, h19]; done) | (simp [op_eq, zOp, hb12, hb16, h17, h18, h19]; done) | (simp [op_eq, zOp, hb12, hb16, h17, h18, h19]; omega)), (H7.fix (i := 1) rfl)⟩
      ·skip
       refine zT (.bool false) rfl (za (.bool false) rfl (RL.nil (thn.n (CW.ret (thn.r (finQ.r (v := (.bool false)) (res1 rfl rfl) ?_))))))
       exact ⟨ret_bool (by unfold mayE; first | (simp [hb12, hb16, h17, h18, h19]; done) | (simp [op_eq, zOp, hb12, hb16, h17, h18, h19]; done) | (simp [op_eq, zOp, hb12, hb16, h17, h18, h19]; omega)), (H7.fix (i := 1) rfl)⟩
     ·skip
      refine zm (.bool false) rfl (zo rfl (zo rfl (zo rfl (zo rfl (zF (.bool false) rfl (za (.bool false) rfl (RL.nil (thn.n (CW.ret (thn.r (finQ.r (v := (.bool false)) (res1 rfl rfl) ?_)))))))))))
      exact ⟨ret_bool (by unfold mayE; first | (simp [hb12, hb16, h17, h18]; done) | (simp [op_eq, zOp, hb12, hb16, h17, h18]; done) | (simp [op_eq, zOp, hb12, hb16, h17, h18]; omega)), (H7.fix (i := 1) rfl)⟩
    ·skip
     refine RL.nil (thn.n (CW.condF rfl (CW.skip (thn.n (CW.seq (CW.region (zg rfl (fa31_2 (b := ⟨b2, 2, none⟩) rfl rfl) (zl (.int .i64 e.client) lo3 (H7.ob (i := 0) rfl) rfl (RL.call Tryz.call168 (within_tumulusref14 _ e.client 1 4) rfl rfl rfl ?_)))))))))
     rintro _ _ ⟨rfl, rfl⟩
     rcases hb23 : (withinB e.client 1 4) with _ | _
     ·skip
      refine zm (.bool false) rfl (zo rfl (zo rfl (zo rfl (zF (.bool false) rfl (za (.bool false) rfl (RL.nil (thn.n (CW.ret (finQ.r (v := (.bool false)) (res1 rfl rfl) ?_)))))))))
      exact ⟨ret_bool (by unfold mayE; first | (simp [hb12, hb16, h17, hb23]; done) | (simp [op_eq, zOp, hb12, hb16, h17, hb23]; done) | (simp [op_eq, zOp, hb12, hb16, h17, hb23]; omega)), (H7.fix (i := 1) rfl)⟩
     ·have hw20 := withinB_t hb23
      refine zm (.bool true) rfl (zg rfl (fa31_3 (b := ⟨b2, 3, none⟩) rfl rfl) (zl (.int .i64 e.seq) lo3 (H7.ob (i := 0) rfl) rfl (RL.call Tryz.call168 (within_tumulusref14 _ e.seq 1 1000000) rfl rfl rfl ?_)))
      rintro _ _ ⟨rfl, rfl⟩
      rcases hb27 : (withinB e.seq 1 1000000) with _ | _
      ·skip
       refine zT (.bool false) rfl (za (.bool false) rfl (RL.nil (thn.n (CW.ret (finQ.r (v := (.bool false)) (res1 rfl rfl) ?_)))))
       exact ⟨ret_bool (by unfold mayE; first | (simp [hb12, hb16, h17, hb23, hb27]; done) | (simp [op_eq, zOp, hb12, hb16, h17, hb23, hb27]; done) | (simp [op_eq, zOp, hb12, hb16, h17, hb23, hb27]; omega)), (H7.fix (i := 1) rfl)⟩
      ·have hw24 := withinB_t hb27
       refine zT (.bool true) rfl (za (.bool true) rfl (RL.nil (thn.n (CW.ret (finQ.r (v := (.bool true)) (res1 rfl rfl) ?_)))))
       exact ⟨ret_bool (by unfold mayE; first | (simp [hb12, hb16, h17, hb23, hb27]; done) | (simp [op_eq, zOp, hb12, hb16, h17, hb23, hb27]; done) | (simp [op_eq, zOp, hb12, hb16, h17, hb23, hb27]; omega)), (H7.fix (i := 1) rfl)⟩
set_option maxHeartbeats 400000 in
set_option maxRecDepth 20000 in
theorem follR_ (w : World) (B : Nat) (l : List Entry) (A : Option Addr) (n c : Nat) (fr : Int) (hr : Rd w B 11 A (ents l)) (hB : B ≤ w.heap.size) (hn : n = l.length) (hm : n ≤ 1099511627776) : Ret Tryz.prog 126 [(.slice A n c), (.int .i64 fr)] w (fun v w' => v = .bool (follB l fr) ∧ w.grownBy w' none) := by
  have H0 : Sp [Fix w NoB] w := Sp.start w
  refine Ret.body Tryz.func126 rfl rfl rfl ?_
  refine CW.seq (CW.region (za (.bool false) rfl (RL.nil (thn.n (CW.seq (CW.seq (CW.region (za (.int .i64 0) rfl (RL.nil (thn.n (CW.block ?_)))))))))))
  refine CW.loop (fun t => (Nat.ble 4 t && Nat.ble t 21)) (fun nL ρ wl => ∃ (k : Nat), ρ 5 = (.int .i64 (k : Int)) ∧ nL = n - k ∧ Sp [Fix w NoB] wl ∧ k ≤ n ∧ follB (l.take k) fr = true) (n) ?aa0 ?bb0
  case aa0 =>
   exact ⟨0, rfl, rfl, H0, Nat.zero_le _, rfl⟩
  case bb0 =>
   rintro n2 ρ0 w1 ho3 ⟨k, hs0_5, hn0, H4, hk, hf⟩
   obtain ⟨j0, rfl⟩ := ho3.shape1 hs0_5
   clear ho3 hs0_5
   subst hn0
   have z5 := (H4.fix (i := 0) rfl).size
   refine CW.seq (CW.seq (CW.region (zm (.int .i64 (k : Int)) rfl (zm (.slice A n c) rfl (zg rfl (Ex.len Tryz.underlying22 rfl) ?_)))))
   refine RL.br (p := ((k : Int) : Int) < ((n : Nat) : Int)) rfl rfl rfl (fun r hr => Ex.lt rfl rfl hr) (fun h6 => ?_) (fun h6 => ?_)
   ·skip
    refine RL.nil (thn.n (CW.condT rfl (CW.skip (thn.n (CW.seq (CW.block (CW.seq (CW.region (zm (.slice A n c) rfl (zm (.int .i64 (k : Int)) rfl ?_))))))))))
    obtain ⟨e7, he8⟩ : ∃ e, (l)[k]? = some e := ⟨_, List.getElem?_eq_getElem (by omega)⟩
    obtain ⟨ad9, hA10⟩ := Rd.sm (hr.st0 (H4.fix (i := 0) rfl)) (ents_get he8)
    have hl11 := Eng.lt_len (ents_get he8)
    refine zg rfl (Ex.ix (b := (ad9.add (k * 11))) (i := k) Tryz.underlying22 Tryz.sizeOf31 (by rw [← hA10]; rfl) rfl (by omega) (by omega) rfl) (zg rfl (fa31_0 (b := ((ad9.add (k * 11)))) rfl rfl) (zg rfl (Ex.ldv rfl (loadC1 lo3 (Cl.at_ (v := (.int .i64 e7.num)) (Rd.cl (hr.st0 (H4.fix (i := 0) rfl)) hA10 (ents_get he8)) (i := 0) rfl))) (zg rfl (Ex.sub_ (r := IntKind.i64.wrap (e7.num - 1)) rfl rfl rfl) (zm (.int .i64 (k : Int)) rfl (zg rfl (Ex.sub_ (r := IntKind.i64.wrap ((IntKind.i64.wrap (e7.num - 1)) - (k : Int))) rfl rfl rfl) (zm (.int .i64 fr) rfl ?_))))))
    refine RL.br (p := (IntKind.i64.wrap ((IntKind.i64.wrap (e7.num - 1)) - (k : Int)) : Int) ≠ (fr : Int)) rfl rfl rfl (fun r hr => Ex.neD rfl rfl hr) (fun h12 => ?_) (fun h12 => ?_)
    ·skip
     refine RL.nil (thn.n (CW.condT rfl (CW.seq (CW.region (za (.bool false) rfl (RL.nil (thn.n (CW.ret (inB.r (thn.r (thn.r (inB.r (thn.r (finQ.r (v := (.bool false)) (res1 rfl rfl) ?_))))))))))))))
     exact ⟨ret_bool (by unfold follB; rw [allI_stop he8 0]; rw [decide_eq_false_iff_not, Nat.zero_add]; exact h12), (H4.fix (i := 0) rfl)⟩
    ·skip
     refine RL.nil (thn.n (CW.condF rfl (CW.skip (inB.n (thn.n (CW.region (zm (.int .i64 (k : Int)) rfl (zg rfl (Ex.add (r := (k : Int) + 1) rfl rfl (w64 (by omega) (by omega))) (za (.int .i64 ((k : Int) + 1)) rfl (RL.nil (thn.n ?_)))))))))))
     refine ⟨(by repeat (first | exact Out.mix _ _ | exact Out.refl _ _ | refine Out.up ?_ rfl _)), _, ?_, k + 1, rfl, rfl, H4, by omega, by unfold follB at *; rw [allI_take he8 0, hf]; simp only [Nat.zero_add, Bool.true_and, decide_eq_true_eq]; exact Decidable.not_not.1 h12⟩
     omega
   ·skip
    refine RL.nil (thn.n (CW.condF rfl (CW.exit (thn.x (thn.x (inB.hit (thn.n (CW.seq (CW.region (za (.bool true) rfl (RL.nil (thn.n (CW.ret (finQ.r (v := (.bool true)) (res1 rfl rfl) ?_))))))))))))))
    exact ⟨ret_bool (by rw [← hf, List.take_of_length_le (by omega)]), (H4.fix (i := 0) rfl)⟩
set_option maxHeartbeats 400000 in
set_option maxRecDepth 20000 in
theorem rowR_ (w : World) (B : Nat) (l : List Entry) (A : Option Addr) (n c : Nat) (fr : Int) (hr : Rd w B 11 A (ents l)) (hB : B ≤ w.heap.size) (hn : n = l.length) (hm : n ≤ 1099511627776) : Ret Tryz.prog 91 [(.slice A n c), (.int .i64 fr)] w (fun v w' => v = .bool (follB l fr) ∧ w.grownBy w' none) := by
  have H0 : Sp [Fix w NoB] w := Sp.start w
  refine Ret.body Tryz.func91 rfl rfl rfl ?_
  refine CW.seq (CW.region (za (.bool false) rfl (RL.nil (thn.n (CW.seq (CW.seq (CW.region (za (.int .i64 0) rfl (RL.nil (thn.n (CW.block ?_)))))))))))
  refine CW.loop (fun t => (Nat.ble 4 t && Nat.ble t 21)) (fun nL ρ wl => ∃ (k : Nat), ρ 5 = (.int .i64 (k : Int)) ∧ nL = n - k ∧ Sp [Fix w NoB] wl ∧ k ≤ n ∧ follB (l.take k) fr = true) (n) ?aa0 ?bb0
  case aa0 =>
   exact ⟨0, rfl, rfl, H0, Nat.zero_le _, rfl⟩
  case bb0 =>
   rintro n2 ρ0 w1 ho3 ⟨k, hs0_5, hn0, H4, hk, hf⟩
   obtain ⟨j0, rfl⟩ := ho3.shape1 hs0_5
   clear ho3 hs0_5
   subst hn0
   have z5 := (H4.fix (i := 0) rfl).size
   refine CW.seq (CW.seq (CW.region (zm (.int .i64 (k : Int)) rfl (zm (.slice A n c) rfl (zg rfl (Ex.len Tryz.underlying22 rfl) ?_)))))
   refine RL.br (p := ((k : Int) : Int) < ((n : Nat) : Int)) rfl rfl rfl (fun r hr => Ex.lt rfl rfl hr) (fun h6 => ?_) (fun h6 => ?_)
   ·skip
    refine RL.nil (thn.n (CW.condT rfl (CW.skip (thn.n (CW.seq (CW.block (CW.seq (CW.region (zm (.slice A n c) rfl (zm (.int .i64 (k : Int)) rfl ?_))))))))))
    obtain ⟨e7, he8⟩ : ∃ e, (l)[k]? = some e := ⟨_, List.getElem?_eq_getElem (by omega)⟩
    obtain ⟨ad9, hA10⟩ := Rd.sm (hr.st0 (H4.fix (i := 0) rfl)) (ents_get he8)
    have hl11 := Eng.lt_len (ents_get he8)
    refine zg rfl (Ex.ix (b := (ad9.add (k * 11))) (i := k) Tryz.underlying22 Tryz.sizeOf31 (by rw [← hA10]; rfl) rfl (by omega) (by omega) rfl) (zg rfl (fa31_0 (b := ((ad9.add (k * 11)))) rfl rfl) (zg rfl (Ex.ldv rfl (loadC1 lo3 (Cl.at_ (v := (.int .i64 e7.num)) (Rd.cl (hr.st0 (H4.fix (i := 0) rfl)) hA10 (ents_get he8)) (i := 0) rfl))) (zg rfl (Ex.sub_ (r := IntKind.i64.wrap (e7.num - 1)) rfl rfl rfl) (zm (.int .i64 (k : Int)) rfl (zg rfl (Ex.sub_ (r := IntKind.i64.wrap ((IntKind.i64.wrap (e7.num - 1)) - (k : Int))) rfl rfl rfl) (zm (.int .i64 fr) rfl ?_))))))
    refine RL.br (p := (IntKind.i64.wrap ((IntKind.i64.wrap (e7.num - 1)) - (k : Int)) : Int) ≠ (fr : Int)) rfl rfl rfl (fun r hr => Ex.neD rfl rfl hr) (fun h12 => ?_) (fun h12 => ?_)
    ·skip
     refine RL.nil (thn.n (CW.condT rfl (CW.seq (CW.region (za (.bool false) rfl (RL.nil (thn.n (CW.ret (inB.r (thn.r (thn.r (inB.r (thn.r (finQ.r (v := (.bool false)) (res1 rfl rfl) ?_))))))))))))))
     exact ⟨ret_bool (by unfold follB; rw [allI_stop he8 0]; rw [decide_eq_false_iff_not, Nat.zero_add]; exact h12), (H4.fix (i := 0) rfl)⟩
    ·skip
     refine RL.nil (thn.n (CW.condF rfl (CW.skip (inB.n (thn.n (CW.region (zm (.int .i64 (k : Int)) rfl (zg rfl (Ex.add (r := (k : Int) + 1) rfl rfl (w64 (by omega) (by omega))) (za (.int .i64 ((k : Int) + 1)) rfl (RL.nil (thn.n ?_)))))))))))
     refine ⟨(by repeat (first | exact Out.mix _ _ | exact Out.refl _ _ | refine Out.up ?_ rfl _)), _, ?_, k + 1, rfl, rfl, H4, by omega, by unfold follB at *; rw [allI_take he8 0, hf]; simp only [Nat.zero_add, Bool.true_and, decide_eq_true_eq]; exact Decidable.not_not.1 h12⟩
     omega
   ·skip
    refine RL.nil (thn.n (CW.condF rfl (CW.exit (thn.x (thn.x (inB.hit (thn.n (CW.seq (CW.region (za (.bool true) rfl (RL.nil (thn.n (CW.ret (finQ.r (v := (.bool true)) (res1 rfl rfl) ?_))))))))))))))
    exact ⟨ret_bool (by rw [← hf, List.take_of_length_le (by omega)]), (H4.fix (i := 0) rfl)⟩
end Go.Proofs.YtfokljnhllflbaaGreat
namespace Go.Eng
open Go
theorem ent_eq {a b : Entry} (h : (a.num : Int) = b.num ∧ (a.view : Int) = b.view ∧ (a.client : Int) = b.client ∧ (a.seq : Int) = b.seq ∧ (a.op.kind : Int) = b.op.kind ∧ (a.op.h : Int) = b.op.h ∧ (a.op.i : Int) = b.op.i ∧ (a.op.n : Int) = b.op.n ∧ (a.op.k : Int) = b.op.k ∧ (a.op.v : Int) = b.op.v ∧ (a.op.t : Int) = b.op.t) : a = b := by
  obtain ⟨a1, a2, a3, a4, ⟨a5, a6, a7, a8, a9, a10, a11⟩⟩ := a
  obtain ⟨b1, b2, b3, b4, ⟨b5, b6, b7, b8, b9, b10, b11⟩⟩ := b
  obtain ⟨h1, h2, h3, h4, h5, h6, h7, h8, h9, h10, h11⟩ := h
  simp only at h1 h2 h3 h4 h5 h6 h7 h8 h9 h10 h11
  subst h1 h2 h3 h4 h5 h6 h7 h8 h9 h10 h11
  rfl
theorem take_same {α : Type} {l m : List α} {i : Nat} {a b : α} (h : l.take i = m.take i) (ha : l[i]? = some a) (hb : m[i]? = some b) (e : a = b) : l.take (i + 1) = m.take (i + 1) := by
  rw [List.take_add_one, List.take_add_one, h, ha, hb, e]
theorem ne_at {α : Type} {l m : List α} {i : Nat} {a b : α} (ha : l[i]? = some a) (hb : m[i]? = some b) (e : ¬ a = b) : ¬ l = m := fun h => by
  subst h
  rw [ha] at hb
  injection hb with hb
  exact e hb
end Go.Eng
namespace Go.Eng
open Go
theorem rec_eq {a b : Rec} (h1 : a.kind = b.kind) (h2 : a.view = b.view) (h3 : a.from_ = b.from_) (h4 : a.number = b.number) (h5 : a.image = b.image) (h6 : a.entry = b.entry) (h7 : a.ents = b.ents) : a = b := by
  obtain ⟨a1, a2, a3, a4, a5, a6, a7⟩ := a
  obtain ⟨b1, b2, b3, b4, b5, b6, b7⟩ := b
  simp only at h1 h2 h3 h4 h5 h6 h7
  subst h1 h2 h3 h4 h5 h6 h7
  rfl
theorem kept_eq {a b : Kept} (h1 : a.view = b.view) (h2 : a.normal = b.normal) (h3 : a.base = b.base) (h5 : a.image = b.image) (h7 : a.ents = b.ents) : a = b := by
  obtain ⟨a1, a2, a3, a5, a7⟩ := a
  obtain ⟨b1, b2, b3, b5, b7⟩ := b
  simp only at h1 h2 h3 h5 h7
  subst h1 h2 h3 h5 h7
  rfl
theorem ents_set (l : List Entry) (i : Nat) (x : Entry) : (ents l).set i x.cells = ents (l.set i x) := by simp [ents, List.map_set]
theorem adopt_filter {k : Kept} {c v b : Int} {l : List Entry} (h : adoptB k c v b l = true) (hl : l.length ≤ 1000000) (hr : ∀ e ∈ l, rng e.num) : l.filter (fun e => decide (c < e.num)) = l.drop (c - b).toNat := by
  obtain ⟨h1, h2, h3, h4, h5, h6⟩ := adoptB_t h hl hr
  exact filter_nums h4.2 h6
theorem adoptR_len (k : Kept) (c v b : Int) (l : List Entry) : (adoptR k c v b l).ents.length ≤ l.length := by
  unfold adoptR
  split
  · show (l.drop _).length ≤ _; rw [List.length_drop]; omega
  · exact Nat.zero_le _
theorem adoptB_of {k : Kept} {c v b : Int} {l : List Entry} (h1 : keptB k = true) (h2 : withinB c k.base (lastK k) = true) (h3 : withinB v k.view 900000000 = true) (h4 : withinB b 0 c = true) (h5 : follB l b = true) (h6 : c - b ≤ l.length) : adoptB k c v b l = true := by
  unfold adoptB lastOf
  rw [if_pos h1, h1, h2, h3, h4, h5, decide_eq_true h6]
  rfl
theorem adoptB_no {k : Kept} {c v b : Int} {l : List Entry} (h : keptB k = false ∨ (keptB k = true ∧ withinB c k.base (lastK k) = false) ∨ withinB v k.view 900000000 = false ∨ withinB b 0 c = false ∨ follB l b = false ∨ (l.length : Int) < c - b) : adoptB k c v b l = false := by
  cases e : adoptB k c v b l with
  | false => rfl
  | true =>
    exfalso
    unfold adoptB at e
    simp only [Bool.and_eq_true, decide_eq_true_eq] at e
    obtain ⟨⟨⟨⟨⟨h1, h2⟩, h3⟩, h4⟩, h5⟩, h6⟩ := e
    unfold lastOf at h2
    rw [if_pos h1] at h2
    rcases h with h | ⟨_, h⟩ | h | h | h | h
    · rw [h] at h1; cases h1
    · rw [h] at h2; cases h2
    · rw [h] at h3; cases h3
    · rw [h] at h4; cases h4
    · rw [h] at h5; cases h5
    · omega
end Go.Eng
namespace Go.Eng
open Go Go.RowKit
section
variable {P : Program} {N : Nat} {Q Q' : Exit → Env → World → Prop} {ρ : Env} {w : World} {ops rest : List Oper} {o : Oper} {ty : TypeId} {ps : String} {af : Array Edge} {gu : Option (Nat × Bool)}
variable {x : Operand} {t : TypeId}
theorem Wr.head {w w' : World} {base e k n c i g off : Nat} {xss : List (List Value)} {cs cs' : List Value} (hr : Wr w base e k (some ⟨g, off, none⟩) n c xss) (ho : Ob w g e cs) (hi : i ≤ n) (ho' : Ob w' g e cs') (hl : cs'.length = cs.length) (hc : (cs'.drop off).take (i * k) = (cs.drop off).take (i * k)) : Wr w' base e k (some ⟨g, off, none⟩) i c (xss.take i) := by
  obtain ⟨h1, h2, h3⟩ := hr
  refine ⟨by rw [List.length_take]; omega, fun x hx => h2 x (List.mem_of_mem_take hx), ?_⟩
  rcases h3 with ⟨q, _⟩ | ⟨g1, off1, cs1, q1, q2, q3, q4, q5, q6, q7⟩
  · cases q
  · injection q1 with q1
    injection q1 with q8 q9
    subst q8; subst q9
    have e1 : cs1 = cs := by
      unfold Ob at q3 ho
      rw [q3] at ho
      simp at ho
      exact ho
    subst e1
    refine .inr ⟨g, off, cs', rfl, q2, ho', by omega, by omega, q6, ?_⟩
    rw [hc, flat_take i h2, ← q7, List.take_take, Nat.min_eq_left (Nat.mul_le_mul_right k hi)]
end
end Go.Eng
namespace Go.Eng
open Go Go.RowKit
section
variable {P : Program} {N : Nat} {Q Q' : Exit → Env → World → Prop} {ρ : Env} {w : World} {ops rest : List Oper} {ty : TypeId} {ps : String} {af : Array Edge} {gu : Option (Nat × Bool)}
variable {x y : Operand} {t : TypeId}
theorem flat_set {k : Nat} {vs : List Value} (hv : vs.length = k) : ∀ {xss : List (List Value)} (_ : ∀ x ∈ xss, x.length = k) (i : Nat), i < xss.length → (xss.set i vs).flatten = pt xss.flatten (i * k) vs
  | [], _, i, hi => by simp at hi
  | x :: xss, h, 0, _ => by
    have hx := h x (by simp)
    rw [List.set_cons_zero, List.flatten_cons, List.flatten_cons]
    unfold pt
    rw [Nat.zero_mul, List.take_zero, List.nil_append, Nat.zero_add, List.drop_append_of_le_length (by omega), List.drop_of_length_le (by omega), List.nil_append]
  | x :: xss, h, i + 1, hi => by
    have hx := h x (by simp)
    have ih := flat_set hv (xss := xss) (fun y hy => h y (List.mem_cons_of_mem _ hy)) i (by simpa using hi)
    rw [List.set_cons_succ, List.flatten_cons, List.flatten_cons, ih]
    unfold pt
    have e1 : (i + 1) * k = x.length + i * k := by rw [hx, Nat.add_mul]; omega
    rw [e1, List.take_length_add_append, Nat.add_assoc, List.drop_length_add_append]
    simp only [List.append_assoc]
theorem pt_in {cs vs : List Value} {off m M : Nat} (h1 : off + M ≤ cs.length) (h2 : m + vs.length ≤ M) : ((pt cs (off + m) vs).drop off).take M = pt ((cs.drop off).take M) m vs := by
  have hl : ((cs.drop off).take M).length = M := by rw [List.length_take, List.length_drop]; omega
  apply List.ext_getElem?
  intro j
  rw [pt_get (by omega)]
  by_cases hj : j < M
  · rw [List.getElem?_take_of_lt hj, List.getElem?_drop, pt_get (by omega)]
    by_cases c1 : j < m
    · rw [if_pos (by omega), if_pos c1, List.getElem?_take_of_lt hj, List.getElem?_drop]
    · rw [if_neg (by omega), if_neg c1]
      by_cases c2 : j < m + vs.length
      · rw [if_pos (by omega), if_pos c2]; congr 1; omega
      · rw [if_neg (by omega), if_neg c2, List.getElem?_take_of_lt hj, List.getElem?_drop]
  · rw [List.getElem?_eq_none (by rw [List.length_take]; omega), if_neg (by omega), if_neg (by omega), List.getElem?_eq_none (by omega)]
theorem pt_pt {L x1 vs : List Value} {m o k : Nat} (hx : ∀ j, j < k → L[m + j]? = x1[j]?) (hk : x1.length = k) (hle : o + vs.length ≤ k) (hL : m + k ≤ L.length) : pt L m (pt x1 o vs) = pt L (m + o) vs := by
  have hl : (pt x1 o vs).length = k := by rw [pt_length (by omega), hk]
  apply List.ext_getElem?
  intro j
  rw [pt_get (cs := L) (o := m) (by omega), pt_get (cs := L) (o := m + o) (by omega), hl]
  by_cases c1 : j < m
  · rw [if_pos c1, if_pos (by omega)]
  · rw [if_neg c1]
    by_cases c2 : j < m + k
    · rw [if_pos c2, pt_get (by omega)]
      have hj := hx (j - m) (by omega)
      rw [show m + (j - m) = j by omega] at hj
      by_cases c3 : j < m + o
      · rw [if_pos (by omega), if_pos c3, hj]
      · rw [if_neg (by omega), if_neg c3]
        by_cases c4 : j < m + o + vs.length
        · rw [if_pos (by omega), if_pos c4]; congr 1; omega
        · rw [if_neg (by omega), if_neg c4, hj]
    · rw [if_neg c2, if_neg (by omega), if_neg (by omega)]
theorem RL.stE {e k n c i base off : Nat} {A : Option Addr} {ad : Addr} {xss : List (List Value)} {x1 x2 vs : List Value} (hs : ∀ w : World, (sizeOf t).run P w = .ok vs.length w) (hr : Wr w base e k A n c xss) (hA : A = some ad) (hx1 : xss[i]? = some x1)
    (hp : ev ρ x = .pointer (some ((ad.add (i * k)).add off))) (hy : (ev ρ y).cells = vs.toArray) (hx2 : pt x1 off vs = x2) (hle : Nat.ble (off + vs.length) k = true) (h1 : vs.all Value.oneCell' = true) (hg : gd ops ρ ⟨none, .store t x y, ty, ps, af, gu⟩ = true)
    (h : ∀ w', w.grownBy w' (bk A) → Wr w' base e k A n c (xss.set i x2) → RL P N ops Q rest ρ w') : RL P N ops Q (⟨none, .store t x y, ty, ps, af, gu⟩ :: rest) ρ w := by
  have hi := lt_len hx1
  subst hx2
  rw [Nat.ble_eq] at hle
  obtain ⟨hlen, hall, hrow⟩ := hr
  have hk1 := hall x1 (List.mem_of_getElem? hx1)
  have hv2 : (pt x1 off vs).length = k := by rw [pt_length (by omega), hk1]
  rcases hrow with ⟨rfl, rfl, rfl⟩ | ⟨g, o, cs, rfl, hb, ho, hl, hnc, hcm, htk⟩
  · cases hA
  · injection hA with hA
    subst hA
    rw [add_lit, add_lit] at hp
    have m1 : i * k + k ≤ n * k := by have := Nat.mul_le_mul_right k (show i + 1 ≤ n by omega); rw [Nat.add_mul] at this; omega
    have m2 : n * k ≤ c * k := Nat.mul_le_mul_right k hnc
    have hfl : xss.flatten.length = n * k := by rw [← htk, List.length_take, List.length_drop]; omega
    refine RL.st (b := g) (T := e) (off := o + i * k + off) (cs := cs) (vs := vs) (cs' := pt cs (o + i * k + off) vs) hs ho hp hy h1 (by rw [Nat.ble_eq]; omega) rfl hg fun w' hz gr ob => h w' gr ?_
    refine ⟨by rw [List.length_set]; exact hlen, fun z hz => ?_, .inr ⟨g, o, pt cs (o + i * k + off) vs, rfl, hb, ob, by rw [pt_length (by omega)]; exact hl, hnc, hcm, ?_⟩⟩
    · rcases List.mem_or_eq_of_mem_set hz with hz | hz
      · exact hall z hz
      · rw [hz]; exact hv2
    · rw [flat_set hv2 hall i hi, pt_pt (k := k) (fun j hj => ?_) hk1 hle (by omega), ← htk, Nat.add_assoc, pt_in (by omega) (by omega)]
      rw [flat_get hall hx1 (List.getElem?_eq_getElem (show j < x1.length by omega)), List.getElem?_eq_getElem]
end
end Go.Eng
