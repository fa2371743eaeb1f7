/- Part 4 of the proof of ChangeAdopts: C13, C14, C16, C17, Spec13, C18, Spec14, Spec15, C19, EngVote, Spec20, Spec21, EngRef. -/
import Derived.Deep.Quiet
import Derived.Ground.NamesProg
import Derived.Ground.SlgcProg
import Derived.Ground.SlsfProg
import Derived.JoinedOf
import Derived.Laws.BytesString
import Derived.Laws.MakeOwn
import Derived.Laws.Strings
import Derived.Lib.AppendZeros
import Derived.Lib.ConvBytes
import Derived.Lib.Overlaps
import Derived.Maps.AppendAt
import Derived.OrdersHeld
import Derived.ProofKit
import Derived.Recover
import Derived.ScopeJumps
import Derived.Shelf.SlSortCmp.NoneTotal
import Derived.Shelf.SlSortCmp.WholeK
import Derived.Shelf.SlicesG.Cmp
import Derived.Shelf.Small.Bits
import Derived.Sort.OwnSortedInts
import Derived.StillTail
import Derived.Test.YtfokljnhllflbaaGreatProg
import Derived.WalkKit
import Derived.WalkLawsBesides
import Derived.WalkSpells
import Derived.Test.YtfokljnhllflbaaGreatPChangeAdopts2
set_option linter.unusedSimpArgs false
set_option linter.unusedVariables false
namespace Go.Proofs.YtfokljnhllflbaaGreat
open Go Go.Eng Go.RowKit
set_option maxHeartbeats 1000000 in
set_option maxRecDepth 20000 in
theorem put4_ (w : World) (B n c : Nat) (A : Option Addr) (l : List UInt8) (u : Nat) (hr : Rd w B 1 A (Cz l)) (hn : n = l.length) (hm : n ≤ 1099511627776) : Ret Tryz.prog 214 [(.slice A n c), (.int .u64 ((u : Nat) : Int)), (J 4)] w (fun v w' => ∃ (A' : Option Addr) (m c' : Nat), v = .slice A' m c' ∧ w.grownBy w' none ∧ m = n + 4 ∧ Ow w' w.heap.size 5 1 A' c' (Cz (l ++ Cy u))) := by
  refine Ret.body Tryz.func214 rfl rfl rfl ?_
  refine CW.seq (CW.region (za (.slice none 0 0) rfl (RL.nil (thn.n (CW.seq (CW.region (zm (.slice A n c) rfl (zg rfl (Ex.len Tryz.underlying97 rfl) (zm (J 4) rfl (zg rfl (Ex.add (r := (n : Nat) + 4) rfl rfl (Dd (by omega) (by omega))) (RL.mk0 (c := (n + 4)) el97 rfl rfl (by omega) (by omega) (by omega) rfl rfl ?_)))))))))))
  intro w1 b2 hb3 g4 ow5
  have z6 := g4.size
  refine zm (.slice A n c) rfl ?_
  have r7 := (hr.st0 g4)
  refine RL.app (base := w.heap.size) (xss := []) (yss := Cz (l)) el97 rfl ow5 rfl (by simp [As, Av, At, Ap, An]; try omega) r7 rfl (by simp [As, Av, At, Ap, An]; try omega) (bcs_one _) (by omega) (by omega) (by omega) rfl rfl ?_
  intro w8 A9 c10 g11 ow12
  have z13 := g11.size
  refine za (.slice A9 (0 + n) c10) rfl (RL.nil (thn.n (CW.seq (CW.seq (CW.region (zm (J 4) rfl (zg rfl (Ci (r := 3) rfl rfl rfl) (za (J 3) rfl (RL.nil (thn.n (CW.block (CW.unroll (Cg (CW.seq (CW.seq (CW.region (zm (J 3) rfl ?_)))))))))))))))))
  refine zg rfl (Ex.ge (r := true) rfl rfl (by decide)) (RL.nil (thn.n (Ab rfl (CW.skip (thn.n (CW.seq (CW.block (CW.region (zm (.slice A9 (0 + n) c10) rfl (zm (.int .u64 ((u : Nat) : Int)) rfl (zm (J 3) rfl (zg rfl (Ex.mul (r := 24) rfl rfl rfl) (zg rfl (Ex.shr (r := ((u / 16777216 : Nat) : Int)) rfl rfl (by decide) (shrN (n := 24) (k := 24) (by decide) (by decide) rfl)) (zg rfl (Cx (r := ((UInt8.ofNat (u / 16777216)).toNat : Int)) Tryz.underlying234 Tryz.underlying5 rfl (wrapB (u / 16777216))) (RL.bs (cs := [(.int .u8 ((UInt8.ofNat (u / 16777216)).toNat : Int))]) Tryz.underlying97 Tryz.sizeOf5 ze97 rfl rfl rfl (by decide) rfl rfl rfl ?_)))))))))))))))
  intro w14 b15 hb16 hz17 g18 o19
  have o20 := (ow12.st0 g18)
  refine RL.app (base := w.heap.size) (xss := [] ++ (Cz (l))) (yss := [[(.int .u8 ((UInt8.ofNat (u / 16777216)).toNat : Int))]]) el97 rfl o20 rfl (by simp [As, Av, At, Ap, An]; try omega) (Da o19 rfl) rfl rfl (by simp [Value.oneCell']) (by omega) (by omega) (by omega) rfl rfl ?_
  intro w21 A22 c23 g24 ow25
  have z26 := g24.size
  refine za (.slice A22 ((0 + n) + 1) c23) rfl (RL.nil (inB.n (thn.n (CW.region (zm (J 3) rfl (zg rfl (Ci (r := 2) rfl rfl rfl) (za (J 2) rfl (RL.nil (thn.n (Cg (CW.seq (CW.seq (CW.region (zm (J 2) rfl (zg rfl (Ex.ge (r := true) rfl rfl (by decide)) ?_)))))))))))))))
  refine RL.nil (thn.n (Ab rfl (CW.skip (thn.n (CW.seq (CW.block (CW.region (zm (.slice A22 ((0 + n) + 1) c23) rfl (zm (.int .u64 ((u : Nat) : Int)) rfl (zm (J 2) rfl (zg rfl (Ex.mul (r := 16) rfl rfl rfl) (zg rfl (Ex.shr (r := ((u / 65536 : Nat) : Int)) rfl rfl (by decide) (shrN (n := 16) (k := 16) (by decide) (by decide) rfl)) (zg rfl (Cx (r := ((UInt8.ofNat (u / 65536)).toNat : Int)) Tryz.underlying234 Tryz.underlying5 rfl (wrapB (u / 65536))) (RL.bs (cs := [(.int .u8 ((UInt8.ofNat (u / 65536)).toNat : Int))]) Tryz.underlying97 Tryz.sizeOf5 ze97 rfl rfl rfl (by decide) rfl rfl rfl ?_))))))))))))))
  intro w27 b28 hb29 hz30 g31 o32
  have o33 := (ow25.st0 g31)
  refine RL.app (base := w.heap.size) (xss := ([] ++ (Cz (l))) ++ ([[(.int .u8 ((UInt8.ofNat (u / 16777216)).toNat : Int))]])) (yss := [[(.int .u8 ((UInt8.ofNat (u / 65536)).toNat : Int))]]) el97 rfl o33 rfl (by simp [As, Av, At, Ap, An]; try omega) (Da o32 rfl) rfl rfl (by simp [Value.oneCell']) (by omega) (by omega) (by omega) rfl rfl ?_
  intro w34 A35 c36 g37 ow38
  have z39 := g37.size
  refine za (.slice A35 (((0 + n) + 1) + 1) c36) rfl (RL.nil (inB.n (thn.n (CW.region (zm (J 2) rfl (zg rfl (Ci (r := 1) rfl rfl rfl) (za (J 1) rfl (RL.nil (thn.n (Cg (CW.seq (CW.seq (CW.region (zm (J 1) rfl (zg rfl (Ex.ge (r := true) rfl rfl (by decide)) ?_)))))))))))))))
  refine RL.nil (thn.n (Ab rfl (CW.skip (thn.n (CW.seq (CW.block (CW.region (zm (.slice A35 (((0 + n) + 1) + 1) c36) rfl (zm (.int .u64 ((u : Nat) : Int)) rfl (zm (J 1) rfl (zg rfl (Ex.mul (r := 8) rfl rfl rfl) (zg rfl (Ex.shr (r := ((u / 256 : Nat) : Int)) rfl rfl (by decide) (shrN (n := 8) (k := 8) (by decide) (by decide) rfl)) (zg rfl (Cx (r := ((UInt8.ofNat (u / 256)).toNat : Int)) Tryz.underlying234 Tryz.underlying5 rfl (wrapB (u / 256))) (RL.bs (cs := [(.int .u8 ((UInt8.ofNat (u / 256)).toNat : Int))]) Tryz.underlying97 Tryz.sizeOf5 ze97 rfl rfl rfl (by decide) rfl rfl rfl ?_))))))))))))))
  intro w40 b41 hb42 hz43 g44 o45
  have o46 := (ow38.st0 g44)
  refine RL.app (base := w.heap.size) (xss := (([] ++ (Cz (l))) ++ ([[(.int .u8 ((UInt8.ofNat (u / 16777216)).toNat : Int))]])) ++ ([[(.int .u8 ((UInt8.ofNat (u / 65536)).toNat : Int))]])) (yss := [[(.int .u8 ((UInt8.ofNat (u / 256)).toNat : Int))]]) el97 rfl o46 rfl (by simp [As, Av, At, Ap, An]; try omega) (Da o45 rfl) rfl rfl (by simp [Value.oneCell']) (by omega) (by omega) (by omega) rfl rfl ?_
  intro w47 A48 c49 g50 ow51
  have z52 := g50.size
  refine za (.slice A48 ((((0 + n) + 1) + 1) + 1) c49) rfl (RL.nil (inB.n (thn.n (CW.region (zm (J 1) rfl (zg rfl (Ci (r := 0) rfl rfl rfl) (za (J 0) rfl (RL.nil (thn.n (Cg (CW.seq (CW.seq (CW.region (zm (J 0) rfl (zg rfl (Ex.ge (r := true) rfl rfl (by decide)) ?_)))))))))))))))
  refine RL.nil (thn.n (Ab rfl (CW.skip (thn.n (CW.seq (CW.block (CW.region (zm (.slice A48 ((((0 + n) + 1) + 1) + 1) c49) rfl (zm (.int .u64 ((u : Nat) : Int)) rfl (zm (J 0) rfl (zg rfl (Ex.mul (r := 0) rfl rfl rfl) (zg rfl (Ex.shr (r := ((u / 1 : Nat) : Int)) rfl rfl (by decide) (shrN (n := 0) (k := 0) (by decide) (by decide) rfl)) (zg rfl (Cx (r := ((UInt8.ofNat (u / 1)).toNat : Int)) Tryz.underlying234 Tryz.underlying5 rfl (wrapB (u / 1))) (RL.bs (cs := [(.int .u8 ((UInt8.ofNat (u / 1)).toNat : Int))]) Tryz.underlying97 Tryz.sizeOf5 ze97 rfl rfl rfl (by decide) rfl rfl rfl ?_))))))))))))))
  intro w53 b54 hb55 hz56 g57 o58
  have o59 := (ow51.st0 g57)
  refine RL.app (base := w.heap.size) (xss := ((([] ++ (Cz (l))) ++ ([[(.int .u8 ((UInt8.ofNat (u / 16777216)).toNat : Int))]])) ++ ([[(.int .u8 ((UInt8.ofNat (u / 65536)).toNat : Int))]])) ++ ([[(.int .u8 ((UInt8.ofNat (u / 256)).toNat : Int))]])) (yss := [[(.int .u8 ((UInt8.ofNat (u / 1)).toNat : Int))]]) el97 rfl o59 rfl (by simp [As, Av, At, Ap, An]; try omega) (Da o58 rfl) rfl rfl (by simp [Value.oneCell']) (by omega) (by omega) (by omega) rfl rfl ?_
  intro w60 A61 c62 g63 ow65
  have z66 := g63.size
  refine za (.slice A61 (((((0 + n) + 1) + 1) + 1) + 1) c62) rfl (RL.nil (inB.n (thn.n (CW.region (zm (J 0) rfl (zg rfl (Ci (r := -1) rfl rfl rfl) (za (J (-1)) rfl (RL.nil (thn.n (Cg (CW.seq (CW.seq (CW.region (zm (J (-1)) rfl (zg rfl (Ex.ge (r := false) rfl rfl (by decide)) ?_)))))))))))))))
  refine RL.nil (thn.n (Ag rfl (CW.exit (thn.x (thn.x (Bf (thn.n (CW.seq (CW.region (zm (.slice A61 (((((0 + n) + 1) + 1) + 1) + 1) c62) rfl (za (.slice A61 (((((0 + n) + 1) + 1) + 1) + 1) c62) rfl (RL.nil (thn.n (CW.ret (finQ.r (v := (.slice A61 (((((0 + n) + 1) + 1) + 1) + 1) c62)) (Ax rfl rfl) ?_)))))))))))))))
  have hx : (((([] ++ (Cz (l))) ++ ([[(.int .u8 ((UInt8.ofNat (u / 16777216)).toNat : Int))]])) ++ ([[(.int .u8 ((UInt8.ofNat (u / 65536)).toNat : Int))]])) ++ ([[(.int .u8 ((UInt8.ofNat (u / 256)).toNat : Int))]])) ++ ([[(.int .u8 ((UInt8.ofNat (u / 1)).toNat : Int))]]) = Cz (l ++ Cy u) := by simp [Cz, bc, Cy]
  exact ⟨_, _, _, rfl, (Cs (Ac (Cs (Ac (Cs (Ac (Cs (Ac (Cs (g4) g11 ow5 (by omega)) g18) g24 o20 (by omega)) g31) g37 o33 (by omega)) g44) g50 o46 (by omega)) g57) g63 o59 (by omega)), by omega, (hx ▸ ow65).weak (by omega)⟩
set_option maxHeartbeats 1000000 in
set_option maxRecDepth 20000 in
theorem put8_ (w : World) (B n c : Nat) (A : Option Addr) (l : List UInt8) (u : Nat) (hr : Rd w B 1 A (Cz l)) (hn : n = l.length) (hm : n ≤ 1099511627776) : Ret Tryz.prog 214 [(.slice A n c), (.int .u64 ((u : Nat) : Int)), (J 8)] w (fun v w' => ∃ (A' : Option Addr) (m c' : Nat), v = .slice A' m c' ∧ w.grownBy w' none ∧ m = n + 8 ∧ Ow w' w.heap.size 5 1 A' c' (Cz (l ++ enc8 u))) := by
  refine Ret.body Tryz.func214 rfl rfl rfl ?_
  refine CW.seq (CW.region (za (.slice none 0 0) rfl (RL.nil (thn.n (CW.seq (CW.region (zm (.slice A n c) rfl (zg rfl (Ex.len Tryz.underlying97 rfl) (zm (J 8) rfl (zg rfl (Ex.add (r := (n : Nat) + 8) rfl rfl (Dd (by omega) (by omega))) (RL.mk0 (c := (n + 8)) el97 rfl rfl (by omega) (by omega) (by omega) rfl rfl ?_)))))))))))
  intro w1 b2 hb3 g4 ow5
  have z6 := g4.size
  refine zm (.slice A n c) rfl ?_
  have r7 := (hr.st0 g4)
  refine RL.app (base := w.heap.size) (xss := []) (yss := Cz (l)) el97 rfl ow5 rfl (by simp [As, Av, At, Ap, An]; try omega) r7 rfl (by simp [As, Av, At, Ap, An]; try omega) (bcs_one _) (by omega) (by omega) (by omega) rfl rfl ?_
  intro w8 A9 c10 g11 ow12
  have z13 := g11.size
  refine za (.slice A9 (0 + n) c10) rfl (RL.nil (thn.n (CW.seq (CW.seq (CW.region (zm (J 8) rfl (zg rfl (Ci (r := 7) rfl rfl rfl) (za (J 7) rfl (RL.nil (thn.n (CW.block (CW.unroll (Cg (CW.seq (CW.seq (CW.region (zm (J 7) rfl ?_)))))))))))))))))
  refine zg rfl (Ex.ge (r := true) rfl rfl (by decide)) (RL.nil (thn.n (Ab rfl (CW.skip (thn.n (CW.seq (CW.block (CW.region (zm (.slice A9 (0 + n) c10) rfl (zm (.int .u64 ((u : Nat) : Int)) rfl (zm (J 7) rfl (zg rfl (Ex.mul (r := 56) rfl rfl rfl) (zg rfl (Ex.shr (r := ((u / 72057594037927936 : Nat) : Int)) rfl rfl (by decide) (shrN (n := 56) (k := 56) (by decide) (by decide) rfl)) (zg rfl (Cx (r := ((UInt8.ofNat (u / 72057594037927936)).toNat : Int)) Tryz.underlying234 Tryz.underlying5 rfl (wrapB (u / 72057594037927936))) (RL.bs (cs := [(.int .u8 ((UInt8.ofNat (u / 72057594037927936)).toNat : Int))]) Tryz.underlying97 Tryz.sizeOf5 ze97 rfl rfl rfl (by decide) rfl rfl rfl ?_)))))))))))))))
  intro w14 b15 hb16 hz17 g18 o19
  have o20 := (ow12.st0 g18)
  refine RL.app (base := w.heap.size) (xss := [] ++ (Cz (l))) (yss := [[(.int .u8 ((UInt8.ofNat (u / 72057594037927936)).toNat : Int))]]) el97 rfl o20 rfl (by simp [As, Av, At, Ap, An]; try omega) (Da o19 rfl) rfl rfl (by simp [Value.oneCell']) (by omega) (by omega) (by omega) rfl rfl ?_
  intro w21 A22 c23 g24 ow25
  have z26 := g24.size
  refine za (.slice A22 ((0 + n) + 1) c23) rfl (RL.nil (inB.n (thn.n (CW.region (zm (J 7) rfl (zg rfl (Ci (r := 6) rfl rfl rfl) (za (J 6) rfl (RL.nil (thn.n (Cg (CW.seq (CW.seq (CW.region (zm (J 6) rfl (zg rfl (Ex.ge (r := true) rfl rfl (by decide)) ?_)))))))))))))))
  refine RL.nil (thn.n (Ab rfl (CW.skip (thn.n (CW.seq (CW.block (CW.region (zm (.slice A22 ((0 + n) + 1) c23) rfl (zm (.int .u64 ((u : Nat) : Int)) rfl (zm (J 6) rfl (zg rfl (Ex.mul (r := 48) rfl rfl rfl) (zg rfl (Ex.shr (r := ((u / 281474976710656 : Nat) : Int)) rfl rfl (by decide) (shrN (n := 48) (k := 48) (by decide) (by decide) rfl)) (zg rfl (Cx (r := ((UInt8.ofNat (u / 281474976710656)).toNat : Int)) Tryz.underlying234 Tryz.underlying5 rfl (wrapB (u / 281474976710656))) (RL.bs (cs := [(.int .u8 ((UInt8.ofNat (u / 281474976710656)).toNat : Int))]) Tryz.underlying97 Tryz.sizeOf5 ze97 rfl rfl rfl (by decide) rfl rfl rfl ?_))))))))))))))
  intro w27 b28 hb29 hz30 g31 o32
  have o33 := (ow25.st0 g31)
  refine RL.app (base := w.heap.size) (xss := ([] ++ (Cz (l))) ++ ([[(.int .u8 ((UInt8.ofNat (u / 72057594037927936)).toNat : Int))]])) (yss := [[(.int .u8 ((UInt8.ofNat (u / 281474976710656)).toNat : Int))]]) el97 rfl o33 rfl (by simp [As, Av, At, Ap, An]; try omega) (Da o32 rfl) rfl rfl (by simp [Value.oneCell']) (by omega) (by omega) (by omega) rfl rfl ?_
  intro w34 A35 c36 g37 ow38
  have z39 := g37.size
  refine za (.slice A35 (((0 + n) + 1) + 1) c36) rfl (RL.nil (inB.n (thn.n (CW.region (zm (J 6) rfl (zg rfl (Ci (r := 5) rfl rfl rfl) (za (J 5) rfl (RL.nil (thn.n (Cg (CW.seq (CW.seq (CW.region (zm (J 5) rfl (zg rfl (Ex.ge (r := true) rfl rfl (by decide)) ?_)))))))))))))))
  refine RL.nil (thn.n (Ab rfl (CW.skip (thn.n (CW.seq (CW.block (CW.region (zm (.slice A35 (((0 + n) + 1) + 1) c36) rfl (zm (.int .u64 ((u : Nat) : Int)) rfl (zm (J 5) rfl (zg rfl (Ex.mul (r := 40) rfl rfl rfl) (zg rfl (Ex.shr (r := ((u / 1099511627776 : Nat) : Int)) rfl rfl (by decide) (shrN (n := 40) (k := 40) (by decide) (by decide) rfl)) (zg rfl (Cx (r := ((UInt8.ofNat (u / 1099511627776)).toNat : Int)) Tryz.underlying234 Tryz.underlying5 rfl (wrapB (u / 1099511627776))) (RL.bs (cs := [(.int .u8 ((UInt8.ofNat (u / 1099511627776)).toNat : Int))]) Tryz.underlying97 Tryz.sizeOf5 ze97 rfl rfl rfl (by decide) rfl rfl rfl ?_))))))))))))))
  intro w40 b41 hb42 hz43 g44 o45
  have o46 := (ow38.st0 g44)
  refine RL.app (base := w.heap.size) (xss := (([] ++ (Cz (l))) ++ ([[(.int .u8 ((UInt8.ofNat (u / 72057594037927936)).toNat : Int))]])) ++ ([[(.int .u8 ((UInt8.ofNat (u / 281474976710656)).toNat : Int))]])) (yss := [[(.int .u8 ((UInt8.ofNat (u / 1099511627776)).toNat : Int))]]) el97 rfl o46 rfl (by simp [As, Av, At, Ap, An]; try omega) (Da o45 rfl) rfl rfl (by simp [Value.oneCell']) (by omega) (by omega) (by omega) rfl rfl ?_
  intro w47 A48 c49 g50 ow51
  have z52 := g50.size
  refine za (.slice A48 ((((0 + n) + 1) + 1) + 1) c49) rfl (RL.nil (inB.n (thn.n (CW.region (zm (J 5) rfl (zg rfl (Ci (r := 4) rfl rfl rfl) (za (J 4) rfl (RL.nil (thn.n (Cg (CW.seq (CW.seq (CW.region (zm (J 4) rfl (zg rfl (Ex.ge (r := true) rfl rfl (by decide)) ?_)))))))))))))))
  refine RL.nil (thn.n (Ab rfl (CW.skip (thn.n (CW.seq (CW.block (CW.region (zm (.slice A48 ((((0 + n) + 1) + 1) + 1) c49) rfl (zm (.int .u64 ((u : Nat) : Int)) rfl (zm (J 4) rfl (zg rfl (Ex.mul (r := 32) rfl rfl rfl) (zg rfl (Ex.shr (r := ((u / 4294967296 : Nat) : Int)) rfl rfl (by decide) (shrN (n := 32) (k := 32) (by decide) (by decide) rfl)) (zg rfl (Cx (r := ((UInt8.ofNat (u / 4294967296)).toNat : Int)) Tryz.underlying234 Tryz.underlying5 rfl (wrapB (u / 4294967296))) (RL.bs (cs := [(.int .u8 ((UInt8.ofNat (u / 4294967296)).toNat : Int))]) Tryz.underlying97 Tryz.sizeOf5 ze97 rfl rfl rfl (by decide) rfl rfl rfl ?_))))))))))))))
  intro w53 b54 hb55 hz56 g57 o58
  have o59 := (ow51.st0 g57)
  refine RL.app (base := w.heap.size) (xss := ((([] ++ (Cz (l))) ++ ([[(.int .u8 ((UInt8.ofNat (u / 72057594037927936)).toNat : Int))]])) ++ ([[(.int .u8 ((UInt8.ofNat (u / 281474976710656)).toNat : Int))]])) ++ ([[(.int .u8 ((UInt8.ofNat (u / 1099511627776)).toNat : Int))]])) (yss := [[(.int .u8 ((UInt8.ofNat (u / 4294967296)).toNat : Int))]]) el97 rfl o59 rfl (by simp [As, Av, At, Ap, An]; try omega) (Da o58 rfl) rfl rfl (by simp [Value.oneCell']) (by omega) (by omega) (by omega) rfl rfl ?_
  intro w60 A61 c62 g63 ow65
  have z66 := g63.size
  refine za (.slice A61 (((((0 + n) + 1) + 1) + 1) + 1) c62) rfl (RL.nil (inB.n (thn.n (CW.region (zm (J 4) rfl (zg rfl (Ci (r := 3) rfl rfl rfl) (za (J 3) rfl (RL.nil (thn.n (Cg (CW.seq (CW.seq (CW.region (zm (J 3) rfl (zg rfl (Ex.ge (r := true) rfl rfl (by decide)) ?_)))))))))))))))
  refine RL.nil (thn.n (Ab rfl (CW.skip (thn.n (CW.seq (CW.block (CW.region (zm (.slice A61 (((((0 + n) + 1) + 1) + 1) + 1) c62) rfl (zm (.int .u64 ((u : Nat) : Int)) rfl (zm (J 3) rfl (zg rfl (Ex.mul (r := 24) rfl rfl rfl) (zg rfl (Ex.shr (r := ((u / 16777216 : Nat) : Int)) rfl rfl (by decide) (shrN (n := 24) (k := 24) (by decide) (by decide) rfl)) (zg rfl (Cx (r := ((UInt8.ofNat (u / 16777216)).toNat : Int)) Tryz.underlying234 Tryz.underlying5 rfl (wrapB (u / 16777216))) (RL.bs (cs := [(.int .u8 ((UInt8.ofNat (u / 16777216)).toNat : Int))]) Tryz.underlying97 Tryz.sizeOf5 ze97 rfl rfl rfl (by decide) rfl rfl rfl ?_))))))))))))))
  intro w67 b68 hb69 hz70 g71 o72
  have o73 := (ow65.st0 g71)
  refine RL.app (base := w.heap.size) (xss := (((([] ++ (Cz (l))) ++ ([[(.int .u8 ((UInt8.ofNat (u / 72057594037927936)).toNat : Int))]])) ++ ([[(.int .u8 ((UInt8.ofNat (u / 281474976710656)).toNat : Int))]])) ++ ([[(.int .u8 ((UInt8.ofNat (u / 1099511627776)).toNat : Int))]])) ++ ([[(.int .u8 ((UInt8.ofNat (u / 4294967296)).toNat : Int))]])) (yss := [[(.int .u8 ((UInt8.ofNat (u / 16777216)).toNat : Int))]]) el97 rfl o73 rfl (by simp [As, Av, At, Ap, An]; try omega) (Da o72 rfl) rfl rfl (by simp [Value.oneCell']) (by omega) (by omega) (by omega) rfl rfl ?_
  intro w74 A75 c76 g77 ow78
  have z79 := g77.size
  refine za (.slice A75 ((((((0 + n) + 1) + 1) + 1) + 1) + 1) c76) rfl (RL.nil (inB.n (thn.n (CW.region (zm (J 3) rfl (zg rfl (Ci (r := 2) rfl rfl rfl) (za (J 2) rfl (RL.nil (thn.n (Cg (CW.seq (CW.seq (CW.region (zm (J 2) rfl (zg rfl (Ex.ge (r := true) rfl rfl (by decide)) ?_)))))))))))))))
  refine RL.nil (thn.n (Ab rfl (CW.skip (thn.n (CW.seq (CW.block (CW.region (zm (.slice A75 ((((((0 + n) + 1) + 1) + 1) + 1) + 1) c76) rfl (zm (.int .u64 ((u : Nat) : Int)) rfl (zm (J 2) rfl (zg rfl (Ex.mul (r := 16) rfl rfl rfl) (zg rfl (Ex.shr (r := ((u / 65536 : Nat) : Int)) rfl rfl (by decide) (shrN (n := 16) (k := 16) (by decide) (by decide) rfl)) (zg rfl (Cx (r := ((UInt8.ofNat (u / 65536)).toNat : Int)) Tryz.underlying234 Tryz.underlying5 rfl (wrapB (u / 65536))) (RL.bs (cs := [(.int .u8 ((UInt8.ofNat (u / 65536)).toNat : Int))]) Tryz.underlying97 Tryz.sizeOf5 ze97 rfl rfl rfl (by decide) rfl rfl rfl ?_))))))))))))))
  intro w80 b81 hb82 hz83 g84 o85
  have o86 := (ow78.st0 g84)
  refine RL.app (base := w.heap.size) (xss := ((((([] ++ (Cz (l))) ++ ([[(.int .u8 ((UInt8.ofNat (u / 72057594037927936)).toNat : Int))]])) ++ ([[(.int .u8 ((UInt8.ofNat (u / 281474976710656)).toNat : Int))]])) ++ ([[(.int .u8 ((UInt8.ofNat (u / 1099511627776)).toNat : Int))]])) ++ ([[(.int .u8 ((UInt8.ofNat (u / 4294967296)).toNat : Int))]])) ++ ([[(.int .u8 ((UInt8.ofNat (u / 16777216)).toNat : Int))]])) (yss := [[(.int .u8 ((UInt8.ofNat (u / 65536)).toNat : Int))]]) el97 rfl o86 rfl (by simp [As, Av, At, Ap, An]; try omega) (Da o85 rfl) rfl rfl (by simp [Value.oneCell']) (by omega) (by omega) (by omega) rfl rfl ?_
  intro w87 A88 c89 g90 ow91
  have z92 := g90.size
  refine za (.slice A88 (((((((0 + n) + 1) + 1) + 1) + 1) + 1) + 1) c89) rfl (RL.nil (inB.n (thn.n (CW.region (zm (J 2) rfl (zg rfl (Ci (r := 1) rfl rfl rfl) (za (J 1) rfl (RL.nil (thn.n (Cg (CW.seq (CW.seq (CW.region (zm (J 1) rfl (zg rfl (Ex.ge (r := true) rfl rfl (by decide)) ?_)))))))))))))))
  refine RL.nil (thn.n (Ab rfl (CW.skip (thn.n (CW.seq (CW.block (CW.region (zm (.slice A88 (((((((0 + n) + 1) + 1) + 1) + 1) + 1) + 1) c89) rfl (zm (.int .u64 ((u : Nat) : Int)) rfl (zm (J 1) rfl (zg rfl (Ex.mul (r := 8) rfl rfl rfl) (zg rfl (Ex.shr (r := ((u / 256 : Nat) : Int)) rfl rfl (by decide) (shrN (n := 8) (k := 8) (by decide) (by decide) rfl)) (zg rfl (Cx (r := ((UInt8.ofNat (u / 256)).toNat : Int)) Tryz.underlying234 Tryz.underlying5 rfl (wrapB (u / 256))) (RL.bs (cs := [(.int .u8 ((UInt8.ofNat (u / 256)).toNat : Int))]) Tryz.underlying97 Tryz.sizeOf5 ze97 rfl rfl rfl (by decide) rfl rfl rfl ?_))))))))))))))
  intro w93 b94 hb95 hz96 g97 o98
  have o99 := (ow91.st0 g97)
  refine RL.app (base := w.heap.size) (xss := (((((([] ++ (Cz (l))) ++ ([[(.int .u8 ((UInt8.ofNat (u / 72057594037927936)).toNat : Int))]])) ++ ([[(.int .u8 ((UInt8.ofNat (u / 281474976710656)).toNat : Int))]])) ++ ([[(.int .u8 ((UInt8.ofNat (u / 1099511627776)).toNat : Int))]])) ++ ([[(.int .u8 ((UInt8.ofNat (u / 4294967296)).toNat : Int))]])) ++ ([[(.int .u8 ((UInt8.ofNat (u / 16777216)).toNat : Int))]])) ++ ([[(.int .u8 ((UInt8.ofNat (u / 65536)).toNat : Int))]])) (yss := [[(.int .u8 ((UInt8.ofNat (u / 256)).toNat : Int))]]) el97 rfl o99 rfl (by simp [As, Av, At, Ap, An]; try omega) (Da o98 rfl) rfl rfl (by simp [Value.oneCell']) (by omega) (by omega) (by omega) rfl rfl ?_
  intro w100 A101 c102 g103 ow104
  have z105 := g103.size
  refine za (.slice A101 ((((((((0 + n) + 1) + 1) + 1) + 1) + 1) + 1) + 1) c102) rfl (RL.nil (inB.n (thn.n (CW.region (zm (J 1) rfl (zg rfl (Ci (r := 0) rfl rfl rfl) (za (J 0) rfl (RL.nil (thn.n (Cg (CW.seq (CW.seq (CW.region (zm (J 0) rfl (zg rfl (Ex.ge (r := true) rfl rfl (by decide)) ?_)))))))))))))))
  refine RL.nil (thn.n (Ab rfl (CW.skip (thn.n (CW.seq (CW.block (CW.region (zm (.slice A101 ((((((((0 + n) + 1) + 1) + 1) + 1) + 1) + 1) + 1) c102) rfl (zm (.int .u64 ((u : Nat) : Int)) rfl (zm (J 0) rfl (zg rfl (Ex.mul (r := 0) rfl rfl rfl) (zg rfl (Ex.shr (r := ((u / 1 : Nat) : Int)) rfl rfl (by decide) (shrN (n := 0) (k := 0) (by decide) (by decide) rfl)) (zg rfl (Cx (r := ((UInt8.ofNat (u / 1)).toNat : Int)) Tryz.underlying234 Tryz.underlying5 rfl (wrapB (u / 1))) (RL.bs (cs := [(.int .u8 ((UInt8.ofNat (u / 1)).toNat : Int))]) Tryz.underlying97 Tryz.sizeOf5 ze97 rfl rfl rfl (by decide) rfl rfl rfl ?_))))))))))))))
  intro w106 b107 hb108 hz109 g110 o111
  have o112 := (ow104.st0 g110)
  refine RL.app (base := w.heap.size) (xss := ((((((([] ++ (Cz (l))) ++ ([[(.int .u8 ((UInt8.ofNat (u / 72057594037927936)).toNat : Int))]])) ++ ([[(.int .u8 ((UInt8.ofNat (u / 281474976710656)).toNat : Int))]])) ++ ([[(.int .u8 ((UInt8.ofNat (u / 1099511627776)).toNat : Int))]])) ++ ([[(.int .u8 ((UInt8.ofNat (u / 4294967296)).toNat : Int))]])) ++ ([[(.int .u8 ((UInt8.ofNat (u / 16777216)).toNat : Int))]])) ++ ([[(.int .u8 ((UInt8.ofNat (u / 65536)).toNat : Int))]])) ++ ([[(.int .u8 ((UInt8.ofNat (u / 256)).toNat : Int))]])) (yss := [[(.int .u8 ((UInt8.ofNat (u / 1)).toNat : Int))]]) el97 rfl o112 rfl (by simp [As, Av, At, Ap, An]; try omega) (Da o111 rfl) rfl rfl (by simp [Value.oneCell']) (by omega) (by omega) (by omega) rfl rfl ?_
  intro w113 A114 c115 g116 ow117
  have z118 := g116.size
  refine za (.slice A114 (((((((((0 + n) + 1) + 1) + 1) + 1) + 1) + 1) + 1) + 1) c115) rfl (RL.nil (inB.n (thn.n (CW.region (zm (J 0) rfl (zg rfl (Ci (r := -1) rfl rfl rfl) (za (J (-1)) rfl (RL.nil (thn.n (Cg (CW.seq (CW.seq (CW.region (zm (J (-1)) rfl (zg rfl (Ex.ge (r := false) rfl rfl (by decide)) ?_)))))))))))))))
  refine RL.nil (thn.n (Ag rfl (CW.exit (thn.x (thn.x (Bf (thn.n (CW.seq (CW.region (zm (.slice A114 (((((((((0 + n) + 1) + 1) + 1) + 1) + 1) + 1) + 1) + 1) c115) rfl (za (.slice A114 (((((((((0 + n) + 1) + 1) + 1) + 1) + 1) + 1) + 1) + 1) c115) rfl (RL.nil (thn.n (CW.ret (finQ.r (v := (.slice A114 (((((((((0 + n) + 1) + 1) + 1) + 1) + 1) + 1) + 1) + 1) c115)) (Ax rfl rfl) ?_)))))))))))))))
  have hx : (((((((([] ++ (Cz (l))) ++ ([[(.int .u8 ((UInt8.ofNat (u / 72057594037927936)).toNat : Int))]])) ++ ([[(.int .u8 ((UInt8.ofNat (u / 281474976710656)).toNat : Int))]])) ++ ([[(.int .u8 ((UInt8.ofNat (u / 1099511627776)).toNat : Int))]])) ++ ([[(.int .u8 ((UInt8.ofNat (u / 4294967296)).toNat : Int))]])) ++ ([[(.int .u8 ((UInt8.ofNat (u / 16777216)).toNat : Int))]])) ++ ([[(.int .u8 ((UInt8.ofNat (u / 65536)).toNat : Int))]])) ++ ([[(.int .u8 ((UInt8.ofNat (u / 256)).toNat : Int))]])) ++ ([[(.int .u8 ((UInt8.ofNat (u / 1)).toNat : Int))]]) = Cz (l ++ enc8 u) := by simp [Cz, bc, enc8]
  exact ⟨_, _, _, rfl, (Cs (Ac (Cs (Ac (Cs (Ac (Cs (Ac (Cs (Ac (Cs (Ac (Cs (Ac (Cs (Ac (Cs (g4) g11 ow5 (by omega)) g18) g24 o20 (by omega)) g31) g37 o33 (by omega)) g44) g50 o46 (by omega)) g57) g63 o59 (by omega)) g71) g77 o73 (by omega)) g84) g90 o86 (by omega)) g97) g103 o99 (by omega)) g110) g116 o112 (by omega)), by omega, (hx ▸ ow117).weak (by omega)⟩
set_option maxHeartbeats 400000 in
set_option maxRecDepth 20000 in
theorem putNumber_ (w : World) (B n c : Nat) (A : Option Addr) (l : List UInt8) (hr : Rd w B 1 A (Cz l)) (hn : n = l.length) (hm : n ≤ 1099511627776) (u : Nat) (hu : u ≤ 2147483647) : Ret Tryz.prog 215 [(.slice A n c), (J ((u : Nat) : Int))] w (fun v w' => ∃ (A' : Option Addr) (m c' : Nat), v = .tuple #[.slice A' m c', .int .i64 0] ∧ w.grownBy w' none ∧ m = n + 4 ∧ Ow w' w.heap.size 5 1 A' c' (Cz (l ++ Cy u))) := by
  refine Ret.body Tryz.func215 rfl rfl rfl ?_
  refine CW.seq (CW.region (za (.slice none 0 0) rfl (za (J 0) rfl (RL.nil (thn.n (CW.seq (CW.seq (CW.region (zm (J ((u : Nat) : Int)) rfl (zg rfl (Ex.lt (r := false) rfl rfl (decide_eq_false (by omega))) (zm (bF) rfl (zm (J ((u : Nat) : Int)) rfl (zg rfl (Df (r := false) rfl rfl (decide_eq_false (by omega))) (zF (bF) rfl (RL.nil (thn.n (Ag rfl (CW.skip (thn.n (CW.seq (CW.region ?_)))))))))))))))))))))
  refine zm (.slice A n c) rfl (zm (J ((u : Nat) : Int)) rfl (zg rfl (Cx (r := ((u : Nat) : Int)) Tryz.underlying3 Tryz.underlying234 rfl (IntWalk.u64_in _ (by omega))) (RL.call Tryz.call214 (put4_ _ _ n c _ l u hr (by omega) (by omega)) rfl rfl rfl ?_)))
  rintro _ w6 ⟨A1, m2, c3, rfl, g7, hm4, ow5⟩
  have z8 := g7.size
  refine za (.slice A1 m2 c3) rfl (za (J 0) rfl (RL.nil (thn.n (CW.ret (finQ.r (v := (.tuple #[(.slice A1 m2 c3), (J 0)])) (res2 rfl rfl rfl) ?_)))))
  exact ⟨_, _, _, rfl, (g7), by omega, ow5.weak (by omega)⟩
set_option maxHeartbeats 400000 in
set_option maxRecDepth 20000 in
theorem putInt_ (w : World) (B n c : Nat) (A : Option Addr) (l : List UInt8) (hr : Rd w B 1 A (Cz l)) (hn : n = l.length) (hm : n ≤ 1099511627776) (x : Int) : Ret Tryz.prog 216 [(.slice A n c), (J x)] w (fun v w' => ∃ (A' : Option Addr) (m c' : Nat), v = .slice A' m c' ∧ w.grownBy w' none ∧ m = n + 8 ∧ Ow w' w.heap.size 5 1 A' c' (Cz (l ++ enc8 (u64of x)))) := by
  refine Ret.body Tryz.func216 rfl rfl rfl ?_
  refine CW.seq (CW.region (za (.slice none 0 0) rfl (RL.nil (thn.n (CW.seq (CW.region (zm (.slice A n c) rfl (zm (J x) rfl (zg rfl (Cx (r := ((u64of x : Nat) : Int)) Tryz.underlying3 Tryz.underlying234 rfl (u64of_eq x)) (RL.call Tryz.call214 (put8_ _ _ n c _ l (u64of x) hr (by omega) (by omega)) rfl rfl rfl ?_))))))))))
  rintro _ w6 ⟨A1, m2, c3, rfl, g7, hm4, ow5⟩
  have z8 := g7.size
  refine za (.slice A1 m2 c3) rfl (RL.nil (thn.n (CW.ret (finQ.r (v := (.slice A1 m2 c3)) (Ax rfl rfl) ?_))))
  exact ⟨_, _, _, rfl, (g7), by omega, ow5.weak (by omega)⟩
end Go.Proofs.YtfokljnhllflbaaGreat
namespace Go.Proofs.YtfokljnhllflbaaGreat
open Go Go.Eng Go.RowKit
theorem putNumberI (w : World) (B n c : Nat) (A : Option Addr) (l : List UInt8) (hr : Rd w B 1 A (Cz l)) (hn : n = l.length) (hm : n ≤ 1099511627776) (x : Int) (hx : 0 ≤ x ∧ x ≤ 2147483647) : Ret Tryz.prog 215 [.slice A n c, .int .i64 x] w (fun v w' => ∃ (A' : Option Addr) (m c' : Nat), v = .tuple #[.slice A' m c', .int .i64 0] ∧ w.grownBy w' none ∧ m = n + 4 ∧ Ow w' w.heap.size 5 1 A' c' (Cz (l ++ Cy x.toNat))) := by
  have h := putNumber_ w B n c A l hr hn hm x.toNat (by omega)
  rw [Int.toNat_of_nonneg hx.1] at h
  exact h
set_option maxHeartbeats 400000 in
set_option maxRecDepth 20000 in
theorem putText_ (w : World) (B n c : Nat) (A : Option Addr) (l : List UInt8) (hr : Rd w B 1 A (Cz l)) (hn : n = l.length) (hm : n ≤ 1099511627776) (t : List UInt8) (ht : t.length ≤ 65536) : Ret Tryz.prog 144 [(.slice A n c), (.string (tx t))] w (fun v w' => ∃ (A' : Option Addr) (m c' : Nat), v = .tuple #[.slice A' m c', .int .i64 0] ∧ w.grownBy w' none ∧ m = n + 4 + t.length ∧ Wr w' w.heap.size 5 1 A' m c' (Cz (l ++ Cy t.length ++ t))) := by
  refine Ret.body Tryz.func144 rfl rfl rfl ?_
  refine CW.seq (CW.region (za (.slice none 0 0) rfl (za (J 0) rfl (RL.nil (thn.n (CW.seq (CW.seq (CW.region (zm (.string (tx t)) rfl (zg rfl (Ex.lenS Tryz.underlying9 rfl) (zg rfl (Df (r := false) rfl rfl (decide_eq_false (by rw [tx_size]; omega))) (RL.nil (thn.n (Ag rfl (CW.skip (thn.n (CW.seq (CW.region (zm (.slice A n c) rfl (zm (.string (tx t)) rfl (zg rfl (Ex.lenS Tryz.underlying9 rfl) ?_)))))))))))))))))))))
  refine zg rfl (Cx (r := ((t.length : Nat) : Int)) Tryz.underlying3 Tryz.underlying234 rfl (IntWalk.u64_in _ (by have := tx_size t; omega))) (RL.call Tryz.call214 (put4_ _ _ n c _ l t.length hr (by omega) (by omega)) rfl rfl rfl ?_)
  rintro _ w6 ⟨A1, m2, c3, rfl, g7, hm4, ow5⟩
  have z8 := g7.size
  refine zm (.string (tx t)) rfl ?_
  have owr15 : Wr w6 (w.heap.size) 5 1 A1 m2 c3 (Cz (l ++ Cy t.length)) := (ow5.wr (by simp only [As, List.length_append, Cy, enc8, List.length_cons, List.length_nil]; omega))
  refine RL.appT (base := w.heap.size) (xs := (l ++ Cy t.length)) (l := t) el97 Tryz.underlying9 owr15 rfl rfl (ow5.ne_none (by simp only [As, List.length_append, Cy, enc8, List.length_cons, List.length_nil]; omega)) (by omega) (by omega) (by omega) rfl rfl ?_
  intro w9 A10 c11 g12 ow13 nx14
  have z16 := g12.size
  refine za (.slice A10 (m2 + t.length) c11) rfl (za (J 0) rfl (RL.nil (thn.n (CW.ret (finQ.r (v := (.tuple #[(.slice A10 (m2 + t.length) c11), (J 0)])) (res2 rfl rfl rfl) ?_)))))
  exact ⟨_, _, _, rfl, (grow_wr (g7) g12 owr15 (by omega)), by omega, ow13.weak (by omega)⟩
end Go.Proofs.YtfokljnhllflbaaGreat
namespace Go.Proofs.YtfokljnhllflbaaGreat
open Go Go.Eng Go.RowKit
set_option maxHeartbeats 1000000 in
set_option maxRecDepth 20000 in
theorem outN2 (w : World) (S : Nat → Prop) (p n0 c : Nat) (A : Option Addr) (l : List UInt8) (hS : (AllA [Af p 166 [.slice A n0 c], Ar 5 1 A n0 c (Cz l)]).ok S w) (xs : List Int) (A2 : Option Addr) (m c2 : Nat) (hr : RdN w S 1 A2 (ics xs)) (hm : m = xs.length) (hx : ∀ x ∈ xs, 0 ≤ x ∧ x ≤ 2147483647) (hlen : l.length + 4 * xs.length ≤ 1099511627000) : Ret Tryz.prog 145 [(.pointer (some ⟨p, 0, none⟩)), (.slice A2 m c2)] w (fun v w' => ∃ (A' : Option Addr) (n' c' : Nat), v = .tuple #[] ∧ Sp ([Af p 166 [.slice A' n' c'], Ar 5 1 A' n' c' (Cz (l ++ Ce xs))] ++ [Bd w S]) w' ∧ n' = (l ++ Ce xs).length) := by
  have H0 := Sp.startL hS
  have hnl := H0.len (i := 1) rfl
  simp only [As] at hnl
  have H0 : Sp [Af p 166 [.slice A n0 c], Ar 5 1 A n0 c (Cz l), Bd w S] w := H0
  refine Ret.body Tryz.func145 rfl rfl rfl ?_
  refine CW.seq (CW.region (zm (.slice A2 m c2) rfl (zg rfl (Ex.len Tryz.underlying134 rfl) (zm (J 0) rfl (RL.nil (thn.n (CW.block ?_)))))))
  refine CW.loop (fun t => Nat.beq t 5 || (Nat.ble 8 t && Nat.ble t 24)) (fun nL ρ wl => ∃ (k n1 c1 : Nat) (A1 : Option Addr), ρ 8 = (J (k : Int)) ∧ nL = xs.length - k ∧ Sp [Af p 166 [.slice A1 n1 c1], Ar 5 1 A1 n1 c1 (Cz (l ++ Ce (xs.take k))), Bd w S] wl ∧ k ≤ xs.length ∧ n1 = l.length + 4 * k) (xs.length) ?aa0 ?bb0
  case aa0 =>
   have H0 : Sp [Af p 166 [.slice A n0 c], Ar 5 1 A n0 c (Cz (l ++ Ce (xs.take 0))), Bd w S] w := (by simpa [Ce] using H0)
   exact ⟨0, n0, c, A, rfl, rfl, H0, Nat.zero_le _, by omega⟩
  case bb0 =>
   rintro n2 ρ0 w1 ho3 ⟨k, n1, c1, A1, hs0_8, hn0, H4, hk, hn1⟩
   obtain ⟨j0, rfl⟩ := ho3.shape1 hs0_8
   clear ho3 hs0_8
   subst hn0
   have z5 := (H4.chg (i := 2) rfl).size
   have hel : (l ++ Ce (xs.take k)).length = l.length + 4 * k := by rw [List.length_append, Bq, List.length_take]; omega
   refine CW.seq (CW.region ?_)
   refine zc (((k : Int) : Int) < ((m : Nat) : Int)) rfl (fun r hr => Ex.lt rfl rfl hr) (fun h6 => ?_) (fun h6 => ?_)
   ·skip
    refine RL.nil (thn.n (CW.seq (Ab rfl (CW.skip (thn.n (CW.seq (CW.block (CW.seq (CW.region ?_)))))))))
    obtain ⟨e7, he8⟩ : ∃ e, (xs)[k]? = some e := ⟨_, List.getElem?_eq_getElem (by omega)⟩
    obtain ⟨ad9, hA10⟩ := Rd.sm ((hr.st (H4.chg (i := 2) rfl)).rd) (ics_get he8)
    have hl11 := Eng.lt_len (ics_get he8)
    refine zg rfl (Cq (b := (ad9.add (k * 1))) (i := k) Tryz.underlying134 Tryz.sizeOf3 (by rw [← hA10]; rfl) rfl (by omega) (by omega) rfl) (zg rfl (Ai rfl (Ba Cf (Cl.at_ (v := (J e7)) (Rd.cl ((hr.st (H4.chg (i := 2) rfl)).rd) hA10 (ics_get he8)) (i := 0) rfl))) (za (J e7) rfl (RL.nil (thn.n (CW.region (zm (.pointer (some ⟨p, 0, none⟩)) rfl (zm (.pointer (some ⟨p, 0, none⟩)) rfl (zg rfl (Ct rfl) (zg rfl (fa166_0 (b := ⟨p, 0, none⟩) rfl rfl) (zl (.slice A1 n1 c1) lo97 (H4.ob (i := 0) rfl) rfl (zm (J e7) rfl ?_)))))))))))
    refine RL.call Tryz.call215 (putNumberI _ _ n1 c1 _ (l ++ Ce (xs.take k)) (H4.rowrd (i := 1) rfl) (by first | assumption | omega) (by omega) e7 (by have := hx e7 (List.mem_of_getElem? he8); omega)) rfl rfl rfl ?_
    rintro _ w17 ⟨A12, m13, c14, rfl, g18, hm15, ow16⟩
    have H19 : Sp [Ar 5 1 A12 m13 c14 (Cz ((l ++ Ce (xs.take k)) ++ Cy e7.toNat)), Af p 166 [.slice A1 n1 c1], Ar 5 1 A1 n1 c1 (Cz (l ++ Ce (xs.take k))), Bd w S] w17 := H4.newO g18 ow16 (by simp only [As, Av, At, Ap, An, Bb, List.length_append, List.length_cons, List.length_nil, List.length_take, List.length_drop, List.length_map, Cy, enc8, Bq, Bt]; omega) (Nat.le_refl _)
    have z20 := g18.size
    refine zm (.tuple #[(.slice A12 m13 c14), (J 0)]) rfl (zx (.slice A12 m13 c14) rfl (zx (J 0) rfl (zg rfl (Ct rfl) (zg rfl (fa166_0 (b := ⟨p, 0, none⟩) rfl rfl) (RL.st (vs := [(.slice A12 m13 c14)]) (cs' := [(.slice A12 m13 c14)]) Tryz.sizeOf97 (H19.ob (i := 1) rfl) rfl rfl rfl rfl rfl rfl ?_)))))
    intro w21 hz22 g23 o24
    have H25 : Sp [Ar 5 1 A12 m13 c14 (Cz ((l ++ Ce (xs.take k)) ++ Cy e7.toNat)), Af p 166 [(.slice A12 m13 c14)], Ar 5 1 A1 n1 c1 (Cz (l ++ Ce (xs.take k))), Bd w S] w21 := H19.setB (i := 1) rfl g23 o24 rfl
    have z26 := g23.size
    refine RL.nil (inB.n (thn.n (CW.region (zg rfl (Ex.add (r := (k : Int) + 1) rfl rfl (Dd (by omega) (by omega))) (zm (J ((k : Int) + 1)) rfl (RL.nil (thn.n ?_)))))))
    have H27 : Sp [Ar 5 1 A12 m13 c14 (Cz (l ++ Ce (xs.take (k + 1)))), Af p 166 [(.slice A12 m13 c14)], Ar 5 1 A1 n1 c1 (Cz (l ++ Ce (xs.take k))), Bd w S] w21 := H25.eqR (i := 0) rfl rfl (by rw [take_snoc he8, encN_snoc, ← List.append_assoc]) rfl
    refine ⟨(by repeat (first | exact Out.mix _ _ | exact Out.refl _ _ | refine Bg ?_ rfl _)), _, ?_, k + 1, m13, c14, A12, rfl, rfl, (H27.sel [1, 0, 3] (by decide) rfl), by omega, by omega⟩
    omega
   ·skip
    refine RL.nil (thn.n (CW.seq (Ag rfl (CW.exit (thn.x (thn.x (Bf (finQ.n (v := (.tuple #[])) (res0 rfl) ?_))))))))
    have hkk : xs.take k = xs := List.take_of_length_le (by omega)
    rw [hkk] at hel H4
    exact ⟨_, _, _, rfl, (H4.sel [0, 1, 2] (by decide) rfl), by omega⟩
set_option maxHeartbeats 1000000 in
set_option maxRecDepth 20000 in
theorem outI2 (w : World) (S : Nat → Prop) (p n0 c : Nat) (A : Option Addr) (l : List UInt8) (hS : (AllA [Af p 166 [.slice A n0 c], Ar 5 1 A n0 c (Cz l)]).ok S w) (xs : List Int) (A2 : Option Addr) (m c2 : Nat) (hr : RdN w S 1 A2 (ics xs)) (hm : m = xs.length) (hlen : l.length + 8 * xs.length ≤ 1099511627000) : Ret Tryz.prog 146 [(.pointer (some ⟨p, 0, none⟩)), (.slice A2 m c2)] w (fun v w' => ∃ (A' : Option Addr) (n' c' : Nat), v = .tuple #[] ∧ Sp ([Af p 166 [.slice A' n' c'], Ar 5 1 A' n' c' (Cz (l ++ encW xs))] ++ [Bd w S]) w' ∧ n' = (l ++ encW xs).length) := by
  have H0 := Sp.startL hS
  have hnl := H0.len (i := 1) rfl
  simp only [As] at hnl
  have H0 : Sp [Af p 166 [.slice A n0 c], Ar 5 1 A n0 c (Cz l), Bd w S] w := H0
  refine Ret.body Tryz.func146 rfl rfl rfl ?_
  refine CW.seq (CW.region (zm (.slice A2 m c2) rfl (zg rfl (Ex.len Tryz.underlying134 rfl) (zm (J 0) rfl (RL.nil (thn.n (CW.block ?_)))))))
  refine CW.loop (fun t => Nat.beq t 5 || (Nat.ble 8 t && Nat.ble t 21)) (fun nL ρ wl => ∃ (k n1 c1 : Nat) (A1 : Option Addr), ρ 8 = (J (k : Int)) ∧ nL = xs.length - k ∧ Sp [Af p 166 [.slice A1 n1 c1], Ar 5 1 A1 n1 c1 (Cz (l ++ encW (xs.take k))), Bd w S] wl ∧ k ≤ xs.length ∧ n1 = l.length + 8 * k) (xs.length) ?aa0 ?bb0
  case aa0 =>
   have H0 : Sp [Af p 166 [.slice A n0 c], Ar 5 1 A n0 c (Cz (l ++ encW (xs.take 0))), Bd w S] w := (by simpa [encW] using H0)
   exact ⟨0, n0, c, A, rfl, rfl, H0, Nat.zero_le _, by omega⟩
  case bb0 =>
   rintro n2 ρ0 w1 ho3 ⟨k, n1, c1, A1, hs0_8, hn0, H4, hk, hn1⟩
   obtain ⟨j0, rfl⟩ := ho3.shape1 hs0_8
   clear ho3 hs0_8
   subst hn0
   have z5 := (H4.chg (i := 2) rfl).size
   have hel : (l ++ encW (xs.take k)).length = l.length + 8 * k := by rw [List.length_append, Bt, List.length_take]; omega
   refine CW.seq (CW.region ?_)
   refine zc (((k : Int) : Int) < ((m : Nat) : Int)) rfl (fun r hr => Ex.lt rfl rfl hr) (fun h6 => ?_) (fun h6 => ?_)
   ·skip
    refine RL.nil (thn.n (CW.seq (Ab rfl (CW.skip (thn.n (CW.seq (CW.block (CW.seq (CW.region ?_)))))))))
    obtain ⟨e7, he8⟩ : ∃ e, (xs)[k]? = some e := ⟨_, List.getElem?_eq_getElem (by omega)⟩
    obtain ⟨ad9, hA10⟩ := Rd.sm ((hr.st (H4.chg (i := 2) rfl)).rd) (ics_get he8)
    have hl11 := Eng.lt_len (ics_get he8)
    refine zg rfl (Cq (b := (ad9.add (k * 1))) (i := k) Tryz.underlying134 Tryz.sizeOf3 (by rw [← hA10]; rfl) rfl (by omega) (by omega) rfl) (zg rfl (Ai rfl (Ba Cf (Cl.at_ (v := (J e7)) (Rd.cl ((hr.st (H4.chg (i := 2) rfl)).rd) hA10 (ics_get he8)) (i := 0) rfl))) (za (J e7) rfl (RL.nil (thn.n (CW.region (zm (.pointer (some ⟨p, 0, none⟩)) rfl (zm (.pointer (some ⟨p, 0, none⟩)) rfl (zg rfl (Ct rfl) (zg rfl (fa166_0 (b := ⟨p, 0, none⟩) rfl rfl) (zl (.slice A1 n1 c1) lo97 (H4.ob (i := 0) rfl) rfl (zm (J e7) rfl (RL.call Tryz.call216 (putInt_ _ _ n1 c1 _ (l ++ encW (xs.take k)) (H4.rowrd (i := 1) rfl) (by first | assumption | omega) (by omega) e7) rfl rfl rfl ?_))))))))))))
    rintro _ w17 ⟨A12, m13, c14, rfl, g18, hm15, ow16⟩
    have H19 : Sp [Ar 5 1 A12 m13 c14 (Cz (((l ++ encW (xs.take k)) ++ enc8 (u64of e7)))), Af p 166 [.slice A1 n1 c1], Ar 5 1 A1 n1 c1 (Cz (l ++ encW (xs.take k))), Bd w S] w17 := H4.newO g18 ow16 (by simp only [As, Av, At, Ap, An, Bb, List.length_append, List.length_cons, List.length_nil, List.length_take, List.length_drop, List.length_map, Cy, enc8, Bq, Bt]; omega) (Nat.le_refl _)
    have z20 := g18.size
    refine zg rfl (Ct rfl) (zg rfl (fa166_0 (b := ⟨p, 0, none⟩) rfl rfl) (RL.st (vs := [(.slice A12 m13 c14)]) (cs' := [(.slice A12 m13 c14)]) Tryz.sizeOf97 (H19.ob (i := 1) rfl) rfl rfl rfl rfl rfl rfl ?_))
    intro w21 hz22 g23 o24
    have H25 : Sp [Ar 5 1 A12 m13 c14 (Cz (((l ++ encW (xs.take k)) ++ enc8 (u64of e7)))), Af p 166 [(.slice A12 m13 c14)], Ar 5 1 A1 n1 c1 (Cz (l ++ encW (xs.take k))), Bd w S] w21 := H19.setB (i := 1) rfl g23 o24 rfl
    have z26 := g23.size
    refine RL.nil (inB.n (thn.n (CW.region (zg rfl (Ex.add (r := (k : Int) + 1) rfl rfl (Dd (by omega) (by omega))) (zm (J ((k : Int) + 1)) rfl (RL.nil (thn.n ?_)))))))
    have H27 : Sp [Ar 5 1 A12 m13 c14 (Cz (l ++ encW (xs.take (k + 1)))), Af p 166 [(.slice A12 m13 c14)], Ar 5 1 A1 n1 c1 (Cz (l ++ encW (xs.take k))), Bd w S] w21 := H25.eqR (i := 0) rfl rfl (by rw [take_snoc he8, encW_snoc, ← List.append_assoc]) rfl
    refine ⟨(by repeat (first | exact Out.mix _ _ | exact Out.refl _ _ | refine Bg ?_ rfl _)), _, ?_, k + 1, m13, c14, A12, rfl, rfl, (H27.sel [1, 0, 3] (by decide) rfl), by omega, by omega⟩
    omega
   ·skip
    refine RL.nil (thn.n (CW.seq (Ag rfl (CW.exit (thn.x (thn.x (Bf (finQ.n (v := (.tuple #[])) (res0 rfl) ?_))))))))
    have hkk : xs.take k = xs := List.take_of_length_le (by omega)
    rw [hkk] at hel H4
    exact ⟨_, _, _, rfl, (H4.sel [0, 1, 2] (by decide) rfl), by omega⟩
set_option maxHeartbeats 1000000 in
set_option maxRecDepth 20000 in
theorem putHeap_ (w : World) (B : Nat) (rh : RHeap) (ros : List RObj) (h : Heap) (H : HeapR w B rh ros h) (hB : B ≤ w.heap.size) : Ret Tryz.prog 77 [(.agg (rh.cells).toArray)] w (fun v w' => ∃ (A' : Option Addr) (n' c' : Nat), v = .tuple #[.slice A' n' c', .int .i64 (putHeapX h).2] ∧ Sp ([Ar 5 1 A' n' c' (Cz (putHeapX h).1)] ++ [Bd w Bl]) w') := by
  have hord := H.order
  have hnx := H.next
  have hfn := H.fn
  have hfm := H.fm
  have hon := H.objs.n
  have hom := H.objs.m
  have hol := H.objs.len
  have H0 : Sp [Bd w Bl] w := Bn w
  refine Ret.body Tryz.func77 rfl rfl rfl ?_
  refine CW.seq (CW.region (RL.bx (cs := rh.cells) rfl rfl rfl ?_))
  intro w1 b2 hb3 hz4 g5 o6
  have H7 := H0.newB g5 o6 (by omega)
  have z8 := g5.size
  refine za (.slice none 0 0) rfl (za (J 0) rfl (RL.nil (thn.n (CW.seq (CW.seq (CW.region (zg rfl (Ai rfl (Ak (cs := rh.cells) wh47 (H7.ob (i := 0) rfl).cl)) (RL.call Tryz.call140 (heapCheck_ _ _ rh _ _ (H.st0 (H7.fix (i := 1) rfl)) (by omega)) rfl rfl rfl ?_))))))))
  rintro _ w9 ⟨rfl, g10⟩
  have H11 := H7.grow g10
  have z12 := g10.size
  refine zc (((if Cw h then 0 else 1) : Int) ≠ (0 : Int)) rfl (fun r hr => Cm rfl rfl hr) (fun h13 => ?_) (fun h13 => ?_)
  ·skip
   refine RL.nil (thn.n (Ab rfl (CW.seq (CW.region (za (.slice none 0 0) rfl (za (J 60) rfl (RL.nil (thn.n (CW.ret (thn.r (finQ.r (v := (.tuple #[(.slice none 0 0), (J 60)])) (res2 rfl rfl rfl) ?_)))))))))))
   have H14 := H11.nil_ 5 1
   have hbb : Cw h = false := by
     cases hkb : Cw h with
     | false => rfl
     | true => rw [hkb] at h13; exact absurd rfl h13
   exact ⟨none, 0, 0, by unfold putHeapX; rw [hbb]; rfl, by unfold putHeapX; rw [hbb]; exact (H14.sel [0, 2] (by decide) rfl)⟩
  ·skip
   refine RL.nil (thn.n (Ag rfl (CW.skip (thn.n (CW.seq (CW.region ?_))))))
   have hbb : Cw h = true := by
      cases hkb : Cw h with
      | true => rfl
      | false => rw [hkb] at h13; exact absurd h13 (by decide)
   have hrg := heapB_rng hbb
   obtain ⟨hr1, hr2, hr3, hr4, hr5⟩ := hrg
   have htp := H.tops
   rw [← htp] at hr4
   have hq1 : (Ce [rh.order, rh.next]).length = 8 := rfl
   refine zg rfl (Cc (cs := [(.slice none 0 0)]) bd166 rfl) (RL.bx (cs := [(.slice none 0 0)]) rfl rfl rfl ?_)
   intro w15 b16 hb17 hz18 g19 o20
   have H21 := H11.newB g19 o20 (by omega)
   have z22 := g19.size
   refine za (.pointer (some ⟨b16, 0, none⟩)) rfl (RL.nil (thn.n (CW.seq (CW.region (zm (.pointer (some ⟨b16, 0, none⟩)) rfl (zg rfl (fa47_0 (b := ⟨b2, 0, none⟩) rfl rfl) (zl (J rh.order) Cf (H21.ob (i := 1) rfl) rfl (zg rfl (fa47_2 (b := ⟨b2, 2, none⟩) rfl rfl) (zl (J rh.next) Cf (H21.ob (i := 1) rfl) rfl (RL.bs (cs := [(J rh.order), (J rh.next)]) Tryz.underlying134 Tryz.sizeOf3 ze134 rfl rfl rfl (by decide) rfl rfl rfl ?_))))))))))
   intro w23 b24 hb25 hz26 g27 o28
   have H29 := H21.newB g27 o28 (by omega)
   have z30 := g27.size
   have H31 := H29.nil_ 5 1
   obtain ⟨S36, hS37, hO38, K39⟩ := Sp.takeL (l1 := [Af b16 166 [(.slice none 0 0)], Ar 5 1 none 0 0 (Cz ([]))]) (l2 := [Af b24 3 [(J rh.order), (J rh.next)], Af b2 47 rh.cells, Bd w Bl]) (w := w23) (H31.sel [2, 0, 1, 3, 4] (by decide) rfl)
   refine RL.call Tryz.call145 (outN2 _ S36 b16 0 0 none ([]) hS37 ([rh.order, rh.next]) _ 2 2 (RdN.of_blk hO38 (j := 0) rfl (Ob.rdI (l := [rh.order, rh.next]) (H31.ob (i := 1) rfl) rfl)) (by first | rfl | assumption | omega) (by intro x hx; simp only [List.mem_cons, List.not_mem_nil, or_false] at hx; omega) (by simp only [As, Av, At, Ap, An, Bb, List.length_append, List.length_cons, List.length_nil, List.length_take, List.length_drop, List.length_map, Cy, enc8, Bq, Bt] at *; omega)) rfl rfl rfl ?_
   rintro _ w40 ⟨A32, n33, c34, rfl, g41, hn35⟩
   have H42 : Sp [Af b16 166 [.slice A32 n33 c34], Ar 5 1 A32 n33 c34 (Cz ([] ++ Ce ([rh.order, rh.next]))), Af b24 3 [(J rh.order), (J rh.next)], Af b2 47 rh.cells, Bd w Bl] w40 := K39 _ _ g41
   have z43 := (H42.fix (i := 4) rfl).size
   refine RL.nil (thn.n (CW.seq (CW.region (zm (.pointer (some ⟨b16, 0, none⟩)) rfl (zg rfl (fa47_3 (b := ⟨b2, 3, none⟩) rfl rfl) (zg rfl (Ex.slA Tryz.underlying44 Tryz.sizeOf3 rfl rfl) ?_))))))
   obtain ⟨S48, hS49, hO50, K51⟩ := H42.takeN 2
   refine RL.call Tryz.call145 (outN2 _ S48 b16 n33 c34 A32 ([] ++ Ce ([rh.order, rh.next])) hS49 ([rh.t0, rh.t1, rh.t2, rh.t3]) _ 4 4 (RdN.of_blk hO50 (j := 1) rfl (Ob.rdI (l := [rh.t0, rh.t1, rh.t2, rh.t3]) (H42.ob (i := 3) rfl) rfl)) (by first | rfl | assumption | omega) (hr4) (by simp only [As, Av, At, Ap, An, Bb, List.length_append, List.length_cons, List.length_nil, List.length_take, List.length_drop, List.length_map, Cy, enc8, Bq, Bt] at *; omega)) rfl rfl rfl ?_
   rintro _ w52 ⟨A44, n45, c46, rfl, g53, hn47⟩
   have H54 : Sp [Af b16 166 [.slice A44 n45 c46], Ar 5 1 A44 n45 c46 (Cz ((([] ++ Ce ([rh.order, rh.next])) ++ Ce ([rh.t0, rh.t1, rh.t2, rh.t3])))), Af b24 3 [(J rh.order), (J rh.next)], Af b2 47 rh.cells, Bd w Bl] w52 := K51 _ _ g53
   have z55 := (H54.fix (i := 4) rfl).size
   refine RL.nil (thn.n (CW.seq (CW.region (zm (.pointer (some ⟨b16, 0, none⟩)) rfl (zg rfl (fa47_1 (b := ⟨b2, 1, none⟩) rfl rfl) (zl (.slice rh.objs.a rh.objs.n rh.objs.c) lo43 (H54.ob (i := 3) rfl) rfl (zg rfl (Ex.len Tryz.underlying43 rfl) (RL.bs (cs := [(J (rh.objs.n : Nat))]) Tryz.underlying134 Tryz.sizeOf3 ze134 rfl rfl rfl (by decide) rfl rfl rfl ?_))))))))
   intro w56 b57 hb58 hz59 g60 o61
   have H62 := H54.newB g60 o61 (by omega)
   have z63 := g60.size
   obtain ⟨S69, hS70, hO71, K72⟩ := Sp.takeL (l1 := [Af b16 166 [.slice A44 n45 c46], Ar 5 1 A44 n45 c46 (Cz ((([] ++ Ce ([rh.order, rh.next])) ++ Ce ([rh.t0, rh.t1, rh.t2, rh.t3]))))]) (l2 := [Af b57 3 [(J (rh.objs.n : Nat))], Af b24 3 [(J rh.order), (J rh.next)], Af b2 47 rh.cells, Bd w Bl]) (w := w56) (H62.sel [1, 2, 0, 3, 4, 5] (by decide) rfl)
   refine RL.call Tryz.call145 (outN2 _ S69 b16 n45 c46 A44 ((([] ++ Ce ([rh.order, rh.next])) ++ Ce ([rh.t0, rh.t1, rh.t2, rh.t3]))) hS70 ([(rh.objs.n : Nat)]) _ 1 1 (RdN.of_blk hO71 (j := 0) rfl (Ob.rdI (l := [(rh.objs.n : Nat)]) (H62.ob (i := 0) rfl) rfl)) (by first | rfl | assumption | omega) (by intro x hx; simp only [List.mem_cons, List.not_mem_nil, or_false] at hx; omega) (by simp only [As, Av, At, Ap, An, Bb, List.length_append, List.length_cons, List.length_nil, List.length_take, List.length_drop, List.length_map, Cy, enc8, Bq, Bt] at *; omega)) rfl rfl rfl ?_
   rintro _ w73 ⟨A65, n66, c67, rfl, g74, hn68⟩
   have H75 : Sp [Af b16 166 [.slice A65 n66 c67], Ar 5 1 A65 n66 c67 (Cz (((([] ++ Ce ([rh.order, rh.next])) ++ Ce ([rh.t0, rh.t1, rh.t2, rh.t3])) ++ Ce ([(rh.objs.n : Nat)])))), Af b57 3 [(J (rh.objs.n : Nat))], Af b24 3 [(J rh.order), (J rh.next)], Af b2 47 rh.cells, Bd w Bl] w73 := K72 _ _ g74
   have z76 := (H75.fix (i := 5) rfl).size
   refine RL.nil (thn.n (CW.seq (CW.seq (CW.region (zg rfl (fa47_1 (b := ⟨b2, 1, none⟩) rfl rfl) (zl (.slice rh.objs.a rh.objs.n rh.objs.c) lo43 (H75.ob (i := 4) rfl) rfl (zg rfl (Ex.len Tryz.underlying43 rfl) (zm (J 0) rfl (RL.nil (thn.n (CW.block ?_)))))))))))
   have hz0 : ((([] ++ Ce ([rh.order, rh.next])) ++ Ce ([rh.t0, rh.t1, rh.t2, rh.t3])) ++ Ce ([(rh.objs.n : Nat)])) = (((Ce [rh.order, rh.next] ++ Ce [rh.t0, rh.t1, rh.t2, rh.t3]) ++ Ce [((rh.objs.n : Nat) : Int)]) ++ putObjs (h.objs.take 0)) := by simp [putObjs]
   refine CW.loop (fun t => Nat.beq t 6 || (Nat.ble 32 t && Nat.ble t 58)) (fun nL ρ wl => ∃ (k n1 c1 : Nat) (A1 : Option Addr), ρ 32 = (J (k : Int)) ∧ nL = rh.objs.n - k ∧ Sp [Af b16 166 [.slice A1 n1 c1], Ar 5 1 A1 n1 c1 (Cz ((((Ce [rh.order, rh.next] ++ Ce [rh.t0, rh.t1, rh.t2, rh.t3]) ++ Ce [((rh.objs.n : Nat) : Int)]) ++ putObjs (h.objs.take k)))), Af b2 47 rh.cells, Bd w Bl] wl ∧ k ≤ rh.objs.n ∧ n1 ≤ 28 + 336 * k) (rh.objs.n) ?aa0 ?bb0
   case aa0 =>
    have H77 : Sp [Af b16 166 [.slice A65 n66 c67], Ar 5 1 A65 n66 c67 (Cz ((((Ce [rh.order, rh.next] ++ Ce [rh.t0, rh.t1, rh.t2, rh.t3]) ++ Ce [((rh.objs.n : Nat) : Int)]) ++ putObjs (h.objs.take 0)))), Af b57 3 [(J (rh.objs.n : Nat))], Af b24 3 [(J rh.order), (J rh.next)], Af b2 47 rh.cells, Bd w Bl] w73 := H75.eqR (i := 1) rfl rfl (congrArg Cz hz0) rfl
    exact ⟨0, n66, c67, A65, rfl, rfl, (H77.sel [0, 1, 4, 5] (by decide) rfl), Nat.zero_le _, by simp only [As, Av, At, Ap, An, Bb, List.length_append, List.length_cons, List.length_nil, List.length_take, List.length_drop, List.length_map, Cy, enc8, Bq, Bt] at *; omega⟩
   case bb0 =>
    rintro n79 ρ0 w78 ho80 ⟨k, n1, c1, A1, hs0_32, hn0, H81, hk, hn1⟩
    obtain ⟨j0, rfl⟩ := ho80.shape1 hs0_32
    clear ho80 hs0_32
    subst hn0
    have z82 := (H81.fix (i := 3) rfl).size
    have hlen := (H81.len (i := 1) rfl)
    rw [As] at hlen
    refine CW.seq (CW.region ?_)
    refine zc (((k : Int) : Int) < ((rh.objs.n : Nat) : Int)) rfl (fun r hr => Ex.lt rfl rfl hr) (fun h83 => ?_) (fun h83 => ?_)
    ·skip
     refine RL.nil (thn.n (CW.seq (Ab rfl (CW.skip (thn.n (CW.seq (CW.block (CW.seq (CW.region ?_)))))))))
     obtain ⟨e84, he85⟩ : ∃ e, ros[k]? = some e := ⟨_, List.getElem?_eq_getElem (by omega)⟩
     obtain ⟨o86, ho87⟩ : ∃ e, h.objs[k]? = some e := ⟨_, List.getElem?_eq_getElem (by omega)⟩
     have oR88 := H.objs.all k e84 o86 he85 ho87
     have e89 := oR88.wl
     have e90 := oR88.ll
     have e91 := oR88.b
     have e92 := oR88.wm
     have e93 := oR88.lm
     have e94 := oR88.h
     obtain ⟨ad95, hA96⟩ := Rd.sm (H.objs.rd.st0 (H81.fix (i := 3) rfl)) (Ch he85)
     have hl97 := Eng.lt_len (Ch he85)
     refine zg rfl (Cq (b := (ad95.add (k * 5))) (i := k) Tryz.underlying43 Tryz.sizeOf136 (by rw [← hA96]; rfl) rfl (by omega) (by omega) rfl) (zg rfl (Ai rfl (Ak (cs := e84.cells) wh136 (Rd.cl (H.objs.rd.st0 (H81.fix (i := 3) rfl)) hA96 (Ch he85)))) (RL.al (cs := [(J 0), (J 0), (J 0), (.slice none 0 0), (.slice none 0 0)]) Tryz.zeroValue136 rfl rfl rfl ?_))
     intro w98 b99 hb100 hz101 g102 o103
     have H104 := H81.newB g102 o103 (by omega)
     have z105 := g102.size
     refine RL.st (vs := e84.cells) (cs' := e84.cells) Tryz.sizeOf136 (H104.ob (i := 0) rfl) rfl rfl rfl rfl rfl rfl ?_
     intro w106 hz107 g108 o109
     have H110 : Sp [Af b99 136 e84.cells, Af b16 166 [.slice A1 n1 c1], Ar 5 1 A1 n1 c1 (Cz ((((Ce [rh.order, rh.next] ++ Ce [rh.t0, rh.t1, rh.t2, rh.t3]) ++ Ce [((rh.objs.n : Nat) : Int)]) ++ putObjs (h.objs.take k)))), Af b2 47 rh.cells, Bd w Bl] w106 := H104.setB (i := 0) rfl g108 o109 rfl
     have z111 := g108.size
     refine RL.nil (thn.n (CW.seq (CW.region ?_)))
     have hob := hr5 o86 (List.mem_of_getElem? ho87)
     obtain ⟨ho1, ho2, ho3, ho4, ho5⟩ := hob
     rw [← oR88.h] at ho1
     rw [← oR88.b] at ho2
     refine zm (.pointer (some ⟨b16, 0, none⟩)) rfl (zg rfl (fa136_0 (b := ⟨b99, 0, none⟩) rfl rfl) (zl (J e84.handle) Cf (H110.ob (i := 0) rfl) rfl (zg rfl (fa136_1 (b := ⟨b99, 1, none⟩) rfl rfl) (zg rfl (Cn (b := ⟨b99, 1, none⟩) rfl rfl) (zl (J e84.blk.at_) Cf (H110.ob (i := 0) rfl) rfl (zg rfl (fa136_2 (b := ⟨b99, 3, none⟩) rfl rfl) (zl (.slice e84.words.a e84.words.n e84.words.c) lo134 (H110.ob (i := 0) rfl) rfl (zg rfl (Ex.len Tryz.underlying134 rfl) (zg rfl (fa136_3 (b := ⟨b99, 4, none⟩) rfl rfl) (zl (.slice e84.links.a e84.links.n e84.links.c) lo134 (H110.ob (i := 0) rfl) rfl ?_))))))))))
     refine zg rfl (Ex.len Tryz.underlying134 rfl) (RL.bs (cs := [(J e84.handle), (J e84.blk.at_), (J (e84.words.n : Nat)), (J (e84.links.n : Nat))]) Tryz.underlying134 Tryz.sizeOf3 ze134 rfl rfl rfl (by decide) rfl rfl rfl ?_)
     intro w112 b113 hb114 hz115 g116 o117
     have H118 := H110.newB g116 o117 (by omega)
     have z119 := g116.size
     obtain ⟨S124, hS125, hO126, K127⟩ := Sp.takeL (l1 := [Af b16 166 [.slice A1 n1 c1], Ar 5 1 A1 n1 c1 (Cz ((((Ce [rh.order, rh.next] ++ Ce [rh.t0, rh.t1, rh.t2, rh.t3]) ++ Ce [((rh.objs.n : Nat) : Int)]) ++ putObjs (h.objs.take k))))]) (l2 := [Af b113 3 [(J e84.handle), (J e84.blk.at_), (J (e84.words.n : Nat)), (J (e84.links.n : Nat))], Af b99 136 e84.cells, Af b2 47 rh.cells, Bd w Bl]) (w := w112) (H118.sel [2, 3, 0, 1, 4, 5] (by decide) rfl)
     refine RL.call Tryz.call145 (outN2 _ S124 b16 n1 c1 A1 ((((Ce [rh.order, rh.next] ++ Ce [rh.t0, rh.t1, rh.t2, rh.t3]) ++ Ce [((rh.objs.n : Nat) : Int)]) ++ putObjs (h.objs.take k))) hS125 ([e84.handle, e84.blk.at_, (e84.words.n : Nat), (e84.links.n : Nat)]) _ 4 4 (RdN.of_blk hO126 (j := 0) rfl (Ob.rdI (l := [e84.handle, e84.blk.at_, (e84.words.n : Nat), (e84.links.n : Nat)]) (H118.ob (i := 0) rfl) rfl)) (by first | rfl | assumption | omega) (by intro x hx; simp only [List.mem_cons, List.not_mem_nil, or_false] at hx; omega) (by simp only [As, Av, At, Ap, An, Bb, List.length_append, List.length_cons, List.length_nil, List.length_take, List.length_drop, List.length_map, Cy, enc8, Bq, Bt] at *; omega)) rfl rfl rfl ?_
     rintro _ w128 ⟨A120, n121, c122, rfl, g129, hn123⟩
     have H130 : Sp [Af b16 166 [.slice A120 n121 c122], Ar 5 1 A120 n121 c122 (Cz (((((Ce [rh.order, rh.next] ++ Ce [rh.t0, rh.t1, rh.t2, rh.t3]) ++ Ce [((rh.objs.n : Nat) : Int)]) ++ putObjs (h.objs.take k)) ++ Ce ([e84.handle, e84.blk.at_, (e84.words.n : Nat), (e84.links.n : Nat)])))), Af b113 3 [(J e84.handle), (J e84.blk.at_), (J (e84.words.n : Nat)), (J (e84.links.n : Nat))], Af b99 136 e84.cells, Af b2 47 rh.cells, Bd w Bl] w128 := K127 _ _ g129
     have z131 := (H130.fix (i := 5) rfl).size
     refine RL.nil (thn.n (CW.seq (CW.region (zm (.pointer (some ⟨b16, 0, none⟩)) rfl (zg rfl (fa136_2 (b := ⟨b99, 3, none⟩) rfl rfl) (zl (.slice e84.words.a e84.words.n e84.words.c) lo134 (H130.ob (i := 3) rfl) rfl ?_))))))
     obtain ⟨S136, hS137, hO138, K139⟩ := H130.takeN 2
     refine RL.call Tryz.call146 (outI2 _ S136 b16 n121 c122 A120 (((((Ce [rh.order, rh.next] ++ Ce [rh.t0, rh.t1, rh.t2, rh.t3]) ++ Ce [((rh.objs.n : Nat) : Int)]) ++ putObjs (h.objs.take k)) ++ Ce ([e84.handle, e84.blk.at_, (e84.words.n : Nat), (e84.links.n : Nat)]))) hS137 o86.words _ e84.words.n e84.words.c (Dh hO138 (j := 3) rfl oR88.rw_ (by omega)) (by first | rfl | assumption | omega) (by simp only [As, Av, At, Ap, An, Bb, List.length_append, List.length_cons, List.length_nil, List.length_take, List.length_drop, List.length_map, Cy, enc8, Bq, Bt] at *; omega)) rfl rfl rfl ?_
     rintro _ w140 ⟨A132, n133, c134, rfl, g141, hn135⟩
     have H142 : Sp [Af b16 166 [.slice A132 n133 c134], Ar 5 1 A132 n133 c134 (Cz ((((((Ce [rh.order, rh.next] ++ Ce [rh.t0, rh.t1, rh.t2, rh.t3]) ++ Ce [((rh.objs.n : Nat) : Int)]) ++ putObjs (h.objs.take k)) ++ Ce ([e84.handle, e84.blk.at_, (e84.words.n : Nat), (e84.links.n : Nat)])) ++ encW o86.words))), Af b113 3 [(J e84.handle), (J e84.blk.at_), (J (e84.words.n : Nat)), (J (e84.links.n : Nat))], Af b99 136 e84.cells, Af b2 47 rh.cells, Bd w Bl] w140 := K139 _ _ g141
     have z143 := (H142.fix (i := 5) rfl).size
     refine RL.nil (thn.n (CW.region (zm (.pointer (some ⟨b16, 0, none⟩)) rfl (zg rfl (fa136_3 (b := ⟨b99, 4, none⟩) rfl rfl) (zl (.slice e84.links.a e84.links.n e84.links.c) lo134 (H142.ob (i := 3) rfl) rfl ?_)))))
     obtain ⟨S148, hS149, hO150, K151⟩ := H142.takeN 2
     refine RL.call Tryz.call145 (outN2 _ S148 b16 n133 c134 A132 ((((((Ce [rh.order, rh.next] ++ Ce [rh.t0, rh.t1, rh.t2, rh.t3]) ++ Ce [((rh.objs.n : Nat) : Int)]) ++ putObjs (h.objs.take k)) ++ Ce ([e84.handle, e84.blk.at_, (e84.words.n : Nat), (e84.links.n : Nat)])) ++ encW o86.words)) hS149 o86.links _ e84.links.n e84.links.c (Dh hO150 (j := 3) rfl oR88.rl (by omega)) (by first | rfl | assumption | omega) (ho5) (by simp only [As, Av, At, Ap, An, Bb, List.length_append, List.length_cons, List.length_nil, List.length_take, List.length_drop, List.length_map, Cy, enc8, Bq, Bt] at *; omega)) rfl rfl rfl ?_
     rintro _ w152 ⟨A144, n145, c146, rfl, g153, hn147⟩
     have H154 : Sp [Af b16 166 [.slice A144 n145 c146], Ar 5 1 A144 n145 c146 (Cz (((((((Ce [rh.order, rh.next] ++ Ce [rh.t0, rh.t1, rh.t2, rh.t3]) ++ Ce [((rh.objs.n : Nat) : Int)]) ++ putObjs (h.objs.take k)) ++ Ce ([e84.handle, e84.blk.at_, (e84.words.n : Nat), (e84.links.n : Nat)])) ++ encW o86.words) ++ Ce o86.links))), Af b113 3 [(J e84.handle), (J e84.blk.at_), (J (e84.words.n : Nat)), (J (e84.links.n : Nat))], Af b99 136 e84.cells, Af b2 47 rh.cells, Bd w Bl] w152 := K151 _ _ g153
     have z155 := (H154.fix (i := 5) rfl).size
     refine RL.nil (inB.n (thn.n (CW.region (zg rfl (Ex.add (r := (k : Int) + 1) rfl rfl (Dd (by omega) (by omega))) (zm (J ((k : Int) + 1)) rfl (RL.nil (thn.n ?_)))))))
     have H156 : Sp [Af b16 166 [.slice A144 n145 c146], Ar 5 1 A144 n145 c146 (Cz ((((Ce [rh.order, rh.next] ++ Ce [rh.t0, rh.t1, rh.t2, rh.t3]) ++ Ce [((rh.objs.n : Nat) : Int)]) ++ putObjs (h.objs.take (k + 1))))), Af b113 3 [(J e84.handle), (J e84.blk.at_), (J (e84.words.n : Nat)), (J (e84.links.n : Nat))], Af b99 136 e84.cells, Af b2 47 rh.cells, Bd w Bl] w152 := H154.eqR (i := 1) rfl rfl (by rw [take_snoc ho87, putObjs_snoc, putObj, ← oR88.wl, ← oR88.ll, ← oR88.h, ← oR88.b]; simp only [List.append_assoc]) rfl
     refine ⟨(by repeat (first | exact Out.mix _ _ | exact Out.refl _ _ | refine Bg ?_ rfl _)), _, ?_, k + 1, n145, c146, A144, rfl, rfl, (H156.sel [0, 1, 4, 5] (by decide) rfl), by omega, by simp only [As, Av, At, Ap, An, Bb, List.length_append, List.length_cons, List.length_nil, List.length_take, List.length_drop, List.length_map, Cy, enc8, Bq, Bt] at *; omega⟩
     omega
    ·skip
     refine RL.nil (thn.n (CW.seq (Ag rfl (CW.exit (thn.x (thn.x (Bf (thn.n (CW.seq (CW.region (zm (.pointer (some ⟨b16, 0, none⟩)) rfl (zg rfl (Ct rfl) (zg rfl (fa166_0 (b := ⟨b16, 0, none⟩) rfl rfl) (zl (.slice A1 n1 c1) lo97 (H81.ob (i := 0) rfl) rfl (za (.slice A1 n1 c1) rfl (za (J 0) rfl (RL.nil (thn.n (CW.ret (finQ.r (v := (.tuple #[(.slice A1 n1 c1), (J 0)])) (res2 rfl rfl rfl) ?_))))))))))))))))))))
     have hkk : h.objs.take k = h.objs := List.take_of_length_le (by omega)
     have hx : (((Ce [rh.order, rh.next] ++ Ce [rh.t0, rh.t1, rh.t2, rh.t3]) ++ Ce [((rh.objs.n : Nat) : Int)]) ++ putObjs (h.objs.take k)) = Bh h := by rw [hkk]; unfold Bh; rw [← H.order, ← H.next, ← H.tops, ← hol, ← hon]
     rw [hx] at H81
     exact ⟨_, _, _, by unfold putHeapX; rw [hbb]; rfl, by unfold putHeapX; rw [hbb]; exact (H81.sel [1, 3] (by decide) rfl)⟩
set_option maxHeartbeats 1000000 in
set_option maxRecDepth 20000 in
theorem putState_ (w : World) (B : Nat) (rs : RState) (ros : List RObj) (s : State) (H : StateR w B rs ros s) (hB : B ≤ w.heap.size) : Ret Tryz.prog 74 [(.agg (rs.cells).toArray)] w (fun v w' => ∃ (A' : Option Addr) (n' c' : Nat), v = .tuple #[.slice A' n' c', .int .i64 (Di s).2] ∧ Sp ([Ar 5 1 A' n' c' (Cz (Di s).1)] ++ [Bd w Bl]) w') := by
  have hrn := H.rn
  have hrm := H.rm
  have H0 : Sp [Bd w Bl] w := Bn w
  refine Ret.body Tryz.func74 rfl rfl rfl ?_
  refine CW.seq (CW.region (RL.bx (cs := rs.cells) rfl rfl rfl ?_))
  intro w1 b2 hb3 hz4 g5 o6
  have H7 := H0.newB g5 o6 (by omega)
  have z8 := g5.size
  refine za (.slice none 0 0) rfl (za (J 0) rfl (RL.nil (thn.n (CW.seq (CW.seq (CW.region (zg rfl (Ai rfl (Ak (cs := rs.cells) wh50 (H7.ob (i := 0) rfl).cl)) (RL.call Tryz.call96 (imgCheck_ _ _ rs _ _ (H.st0 (H7.fix (i := 1) rfl)) (by omega)) rfl rfl rfl ?_))))))))
  rintro _ w9 ⟨rfl, g10⟩
  have H11 := H7.grow g10
  have z12 := g10.size
  refine za (J (if Cu s then 0 else 60)) rfl (RL.nil (thn.n (CW.seq (CW.region (zm (J (if Cu s then 0 else 60)) rfl ?_)))))
  refine zc (((if Cu s then 0 else 60) : Int) ≠ (0 : Int)) rfl (fun r hr => Cm rfl rfl hr) (fun h13 => ?_) (fun h13 => ?_)
  ·skip
   refine RL.nil (thn.n (Ab rfl (CW.seq (CW.region (zm (J (if Cu s then 0 else 60)) rfl (za (.slice none 0 0) rfl (za (J (if Cu s then 0 else 60)) rfl (RL.nil (thn.n (CW.ret (thn.r (finQ.r (v := (.tuple #[(.slice none 0 0), (J (if Cu s then 0 else 60))])) (res2 rfl rfl rfl) ?_))))))))))))
   have H14 := H11.nil_ 5 1
   have hbb : Cu s = false := by
     cases hkb : Cu s with
     | false => rfl
     | true => rw [hkb] at h13; exact absurd rfl h13
   exact ⟨none, 0, 0, by unfold Di; rw [hbb]; rfl, by unfold Di; rw [hbb]; exact (H14.sel [0, 2] (by decide) rfl)⟩
  ·skip
   refine RL.nil (thn.n (Ag rfl (CW.skip (thn.n (CW.seq (CW.region (zg rfl (fa50_0 (b := ⟨b2, 0, none⟩) rfl rfl) (zg rfl (Ai rfl (Ak (cs := [(J rs.heap.order), (.slice rs.heap.objs.a rs.heap.objs.n rs.heap.objs.c), (J rs.heap.next), (J rs.heap.t0), (J rs.heap.t1), (J rs.heap.t2), (J rs.heap.t3), (.slice rs.heap.free.a rs.heap.free.n rs.heap.free.c)]) wh47 ((H11.ob (i := 0) rfl).sub 0 8))) (RL.call Tryz.call77 (putHeap_ _ _ rs.heap _ _ (H.heap.st0 (H11.fix (i := 1) rfl)) (by omega)) rfl rfl rfl ?_)))))))))
   rintro _ w18 ⟨A15, n16, c17, rfl, g19⟩
   have g20 := g19.fix (i := 1) rfl
   have H21 : Sp [Ar 5 1 A15 n16 c17 (Cz ((putHeapX s.heap).1)), Af b2 50 rs.cells, Bd w Bl] w18 := H11.join (m := [Ar 5 1 A15 n16 c17 (Cz ((putHeapX s.heap).1))]) g19
   have z22 := g20.size
   refine zm (.tuple #[(.slice A15 n16 c17), (J ((putHeapX s.heap).2))]) rfl (zx (.slice A15 n16 c17) rfl (zx (J ((putHeapX s.heap).2)) rfl (za (.slice A15 n16 c17) rfl (za (J ((putHeapX s.heap).2)) rfl (RL.nil (thn.n (CW.seq (CW.region (zg rfl (Cc (cs := [(.slice none 0 0)]) bd166 rfl) (RL.bx (cs := [(.slice none 0 0)]) rfl rfl rfl ?_))))))))))
   intro w23 b24 hb25 hz26 g27 o28
   have H29 := H21.newB g27 o28 (by omega)
   have z30 := g27.size
   refine za (.pointer (some ⟨b24, 0, none⟩)) rfl (RL.nil (thn.n (CW.seq (CW.region (zm (.pointer (some ⟨b24, 0, none⟩)) rfl (zm (.slice A15 n16 c17) rfl ?_))))))
   have hln := H29.len (i := 1) rfl
   rw [As] at hln
   have hsb : Cu s = true := by
      cases hkb : Cu s with
      | true => rfl
      | false => rw [hkb] at h13; exact absurd h13 (by decide)
   have hsb2 := stateB_t hsb
   have hph : (putHeapX s.heap).1 = Bh s.heap := by unfold putHeapX; rw [if_pos hsb2.1]
   have hpl := putHeapL_len hsb2.1
   have hrl := rowsB_len (by omega) hsb2.2
   have hrr := rowsB_rng (Int.le_refl 0) hsb2.2
   rw [hph] at hln H29
   refine zg rfl (Ex.b2s (bs := Bh s.heap) Tryz.underlying97 Tryz.underlying5 Tryz.underlying9 rfl (H29.rowrd (i := 1) rfl) (by omega)) ?_
   have htk : (Bh s.heap).take n16 = Bh s.heap := List.take_of_length_le (by omega)
   rw [htk]
   refine RL.call Tryz.call144 (putText_ _ 0 0 0 _ ([]) (Rd.nil_ _ 0 1 none) (by first | rfl | omega) (by omega) (Bh s.heap) (by omega)) rfl rfl rfl ?_
   rintro _ w36 ⟨A31, m32, c33, rfl, g37, hm34, ow35⟩
   have H38 := H29.newR g37 ow35 (Nat.le_refl _)
   have z39 := g37.size
   refine zm (.tuple #[(.slice A31 m32 c33), (J 0)]) rfl (zx (.slice A31 m32 c33) rfl (zx (J 0) rfl (zg rfl (Ct rfl) (zg rfl (fa166_0 (b := ⟨b24, 0, none⟩) rfl rfl) (RL.st (vs := [(.slice A31 m32 c33)]) (cs' := [(.slice A31 m32 c33)]) Tryz.sizeOf97 (H38.ob (i := 1) rfl) rfl rfl rfl rfl rfl rfl ?_)))))
   intro w40 hz41 g42 o43
   have H44 : Sp [Ar 5 1 A31 m32 c33 (Cz (([] ++ Cy (Bh s.heap).length ++ (Bh s.heap)))), Af b24 166 [(.slice A31 m32 c33)], Ar 5 1 A15 n16 c17 (Cz (Bh s.heap)), Af b2 50 rs.cells, Bd w Bl] w40 := H38.setB (i := 1) rfl g42 o43 rfl
   have z45 := g42.size
   refine RL.nil (thn.n (CW.seq (CW.region (zm (.pointer (some ⟨b24, 0, none⟩)) rfl (zg rfl (fa50_1 (b := ⟨b2, 8, none⟩) rfl rfl) (zl (.slice rs.rows.a rs.rows.n rs.rows.c) lo48 (H44.ob (i := 3) rfl) rfl (zg rfl (Ex.len Tryz.underlying48 rfl) (RL.bs (cs := [(J (rs.rows.n : Nat))]) Tryz.underlying134 Tryz.sizeOf3 ze134 rfl rfl rfl (by decide) rfl rfl rfl ?_))))))))
   intro w46 b47 hb48 hz49 g50 o51
   have H52 := H44.newB g50 o51 (by omega)
   have z53 := g50.size
   obtain ⟨S58, hS59, hO60, K61⟩ := Sp.takeL (l1 := [Af b24 166 [(.slice A31 m32 c33)], Ar 5 1 A31 m32 c33 (Cz (([] ++ Cy (Bh s.heap).length ++ (Bh s.heap))))]) (l2 := [Af b47 3 [(J (rs.rows.n : Nat))], Ar 5 1 A15 n16 c17 (Cz (Bh s.heap)), Af b2 50 rs.cells, Bd w Bl]) (w := w46) (H52.sel [2, 1, 0, 3, 4, 5] (by decide) rfl)
   refine RL.call Tryz.call145 (outN2 _ S58 b24 m32 c33 A31 (([] ++ Cy (Bh s.heap).length ++ (Bh s.heap))) hS59 ([(rs.rows.n : Nat)]) _ 1 1 (RdN.of_blk hO60 (j := 0) rfl (Ob.rdI (l := [(rs.rows.n : Nat)]) (H52.ob (i := 0) rfl) rfl)) (by first | rfl | assumption | omega) (by intro x hx; simp only [List.mem_cons, List.not_mem_nil, or_false] at hx; omega) (by simp only [As, Av, At, Ap, An, Bb, List.length_append, List.length_cons, List.length_nil, List.length_take, List.length_drop, List.length_map, Cy, enc8, Bq, Bt] at *; omega)) rfl rfl rfl ?_
   rintro _ w62 ⟨A54, n55, c56, rfl, g63, hn57⟩
   have H65 : Sp [Af b24 166 [.slice A54 n55 c56], Ar 5 1 A54 n55 c56 (Cz ((([] ++ Cy (Bh s.heap).length ++ (Bh s.heap)) ++ Ce ([(rs.rows.n : Nat)])))), Af b47 3 [(J (rs.rows.n : Nat))], Ar 5 1 A15 n16 c17 (Cz (Bh s.heap)), Af b2 50 rs.cells, Bd w Bl] w62 := K61 _ _ g63
   have z66 := (H65.fix (i := 5) rfl).size
   refine RL.nil (thn.n (CW.seq (CW.seq (CW.region (zg rfl (fa50_1 (b := ⟨b2, 8, none⟩) rfl rfl) (zl (.slice rs.rows.a rs.rows.n rs.rows.c) lo48 (H65.ob (i := 4) rfl) rfl (zg rfl (Ex.len Tryz.underlying48 rfl) (zm (J 0) rfl (RL.nil (thn.n (CW.block ?_)))))))))))
   have hz0 : (([] ++ Cy (Bh s.heap).length ++ (Bh s.heap)) ++ Ce ([(rs.rows.n : Nat)])) = ((([] ++ Cy (Bh s.heap).length ++ Bh s.heap) ++ Ce [((rs.rows.n : Nat) : Int)]) ++ putRows (s.rows.take 0)) := by simp [putRows]
   refine CW.loop (fun t => Nat.beq t 9 || (Nat.ble 41 t && Nat.ble t 61)) (fun nL ρ wl => ∃ (k n1 c1 : Nat) (A1 : Option Addr), ρ 41 = (J (k : Int)) ∧ nL = rs.rows.n - k ∧ Sp [Af b24 166 [.slice A1 n1 c1], Ar 5 1 A1 n1 c1 (Cz (((([] ++ Cy (Bh s.heap).length ++ Bh s.heap) ++ Ce [((rs.rows.n : Nat) : Int)]) ++ putRows (s.rows.take k)))), Af b2 50 rs.cells, Bd w Bl] wl ∧ k ≤ rs.rows.n ∧ n1 ≤ 4132 + 20 * k) (rs.rows.n) ?aa0 ?bb0
   case aa0 =>
    have H67 : Sp [Af b24 166 [.slice A54 n55 c56], Ar 5 1 A54 n55 c56 (Cz (((([] ++ Cy (Bh s.heap).length ++ Bh s.heap) ++ Ce [((rs.rows.n : Nat) : Int)]) ++ putRows (s.rows.take 0)))), Af b47 3 [(J (rs.rows.n : Nat))], Ar 5 1 A15 n16 c17 (Cz (Bh s.heap)), Af b2 50 rs.cells, Bd w Bl] w62 := H65.eqR (i := 1) rfl rfl (congrArg Cz hz0) rfl
    exact ⟨0, n55, c56, A54, rfl, rfl, (H67.sel [0, 1, 4, 5] (by decide) rfl), Nat.zero_le _, by simp only [As, Av, At, Ap, An, Bb, List.length_append, List.length_cons, List.length_nil, List.length_take, List.length_drop, List.length_map, Cy, enc8, Bq, Bt] at *; omega⟩
   case bb0 =>
    rintro n69 ρ0 w68 ho70 ⟨k, n1, c1, A1, hs0_41, hn0, H71, hk, hn1⟩
    obtain ⟨j0, rfl⟩ := ho70.shape1 hs0_41
    clear ho70 hs0_41
    subst hn0
    have z72 := (H71.fix (i := 3) rfl).size
    have hlen := (H71.len (i := 1) rfl)
    rw [As] at hlen
    refine CW.seq (CW.region ?_)
    refine zc (((k : Int) : Int) < ((rs.rows.n : Nat) : Int)) rfl (fun r hr => Ex.lt rfl rfl hr) (fun h73 => ?_) (fun h73 => ?_)
    ·skip
     refine RL.nil (thn.n (CW.seq (Ab rfl (CW.skip (thn.n (CW.seq (CW.block (CW.seq (CW.region ?_)))))))))
     obtain ⟨e74, he75⟩ : ∃ e, (s.rows)[k]? = some e := ⟨_, List.getElem?_eq_getElem (by omega)⟩
     obtain ⟨ad76, hA77⟩ := Rd.sm (H.rr.st0 (H71.fix (i := 3) rfl)) (rows_get he75)
     have hl78 := Eng.lt_len (rows_get he75)
     refine zg rfl (Cq (b := (ad76.add (k * 4))) (i := k) Tryz.underlying48 Tryz.sizeOf123 (by rw [← hA77]; rfl) rfl (by omega) (by omega) rfl) (zg rfl (Ai rfl (Ak (cs := e74.cells) wh123 (Rd.cl (H.rr.st0 (H71.fix (i := 3) rfl)) hA77 (rows_get he75)))) (RL.al (cs := [(J 0), (J 0), (J 0), (J 0)]) Tryz.zeroValue123 rfl rfl rfl ?_))
     intro w79 b80 hb81 hz82 g83 o84
     have H85 := H71.newB g83 o84 (by omega)
     have z86 := g83.size
     refine RL.st (vs := e74.cells) (cs' := e74.cells) Tryz.sizeOf123 (H85.ob (i := 0) rfl) rfl rfl rfl rfl rfl rfl ?_
     intro w87 hz88 g89 o90
     have H91 : Sp [Af b80 123 e74.cells, Af b24 166 [.slice A1 n1 c1], Ar 5 1 A1 n1 c1 (Cz (((([] ++ Cy (Bh s.heap).length ++ Bh s.heap) ++ Ce [((rs.rows.n : Nat) : Int)]) ++ putRows (s.rows.take k)))), Af b2 50 rs.cells, Bd w Bl] w87 := H85.setB (i := 0) rfl g89 o90 rfl
     have z92 := g89.size
     refine RL.nil (thn.n (CW.seq (CW.region ?_)))
     have hob := hrr e74 (List.mem_of_getElem? he75)
     refine zm (.pointer (some ⟨b24, 0, none⟩)) rfl (zg rfl (Dc (b := ⟨b80, 0, none⟩) rfl rfl) (zl (J e74.client) Cf (H91.ob (i := 0) rfl) rfl (zg rfl (fa123_1 (b := ⟨b80, 1, none⟩) rfl rfl) (zl (J e74.seq) Cf (H91.ob (i := 0) rfl) rfl (zg rfl (fa123_2 (b := ⟨b80, 2, none⟩) rfl rfl) (zg rfl (fa55_0 (b := ⟨b80, 2, none⟩) rfl rfl) (zl (J e74.code) lo53 (H91.ob (i := 0) rfl) rfl (RL.bs (cs := [(J e74.client), (J e74.seq), (J e74.code)]) Tryz.underlying134 Tryz.sizeOf3 ze134 rfl rfl rfl (by decide) rfl rfl rfl ?_))))))))
     intro w93 b94 hb95 hz96 g97 o98
     have H99 := H91.newB g97 o98 (by omega)
     have z100 := g97.size
     obtain ⟨S105, hS106, hO107, K108⟩ := Sp.takeL (l1 := [Af b24 166 [.slice A1 n1 c1], Ar 5 1 A1 n1 c1 (Cz (((([] ++ Cy (Bh s.heap).length ++ Bh s.heap) ++ Ce [((rs.rows.n : Nat) : Int)]) ++ putRows (s.rows.take k))))]) (l2 := [Af b94 3 [(J e74.client), (J e74.seq), (J e74.code)], Af b80 123 e74.cells, Af b2 50 rs.cells, Bd w Bl]) (w := w93) (H99.sel [2, 3, 0, 1, 4, 5] (by decide) rfl)
     refine RL.call Tryz.call145 (outN2 _ S105 b24 n1 c1 A1 (((([] ++ Cy (Bh s.heap).length ++ Bh s.heap) ++ Ce [((rs.rows.n : Nat) : Int)]) ++ putRows (s.rows.take k))) hS106 ([e74.client, e74.seq, e74.code]) _ 3 3 (RdN.of_blk hO107 (j := 0) rfl (Ob.rdI (l := [e74.client, e74.seq, e74.code]) (H99.ob (i := 0) rfl) rfl)) (by first | rfl | assumption | omega) (by intro x hx; simp only [List.mem_cons, List.not_mem_nil, or_false] at hx; omega) (by simp only [As, Av, At, Ap, An, Bb, List.length_append, List.length_cons, List.length_nil, List.length_take, List.length_drop, List.length_map, Cy, enc8, Bq, Bt] at *; omega)) rfl rfl rfl ?_
     rintro _ w109 ⟨A101, n102, c103, rfl, g110, hn104⟩
     have H111 : Sp [Af b24 166 [.slice A101 n102 c103], Ar 5 1 A101 n102 c103 (Cz ((((([] ++ Cy (Bh s.heap).length ++ Bh s.heap) ++ Ce [((rs.rows.n : Nat) : Int)]) ++ putRows (s.rows.take k)) ++ Ce ([e74.client, e74.seq, e74.code])))), Af b94 3 [(J e74.client), (J e74.seq), (J e74.code)], Af b80 123 e74.cells, Af b2 50 rs.cells, Bd w Bl] w109 := K108 _ _ g110
     have z112 := (H111.fix (i := 5) rfl).size
     refine RL.nil (thn.n (CW.region (zm (.pointer (some ⟨b24, 0, none⟩)) rfl (zg rfl (fa123_2 (b := ⟨b80, 2, none⟩) rfl rfl) (zg rfl (fa55_1 (b := ⟨b80, 3, none⟩) rfl rfl) (zl (J e74.value) Cf (H111.ob (i := 3) rfl) rfl (RL.bs (cs := [(J e74.value)]) Tryz.underlying134 Tryz.sizeOf3 ze134 rfl rfl rfl (by decide) rfl rfl rfl ?_)))))))
     intro w113 b114 hb115 hz116 g117 o118
     have H119 := H111.newB g117 o118 (by omega)
     have z120 := g117.size
     obtain ⟨S125, hS126, hO127, K128⟩ := Sp.takeL (l1 := [Af b24 166 [.slice A101 n102 c103], Ar 5 1 A101 n102 c103 (Cz ((((([] ++ Cy (Bh s.heap).length ++ Bh s.heap) ++ Ce [((rs.rows.n : Nat) : Int)]) ++ putRows (s.rows.take k)) ++ Ce ([e74.client, e74.seq, e74.code]))))]) (l2 := [Af b114 3 [(J e74.value)], Af b94 3 [(J e74.client), (J e74.seq), (J e74.code)], Af b80 123 e74.cells, Af b2 50 rs.cells, Bd w Bl]) (w := w113) (H119.sel [1, 2, 0, 3, 4, 5, 6] (by decide) rfl)
     refine RL.call Tryz.call146 (outI2 _ S125 b24 n102 c103 A101 ((((([] ++ Cy (Bh s.heap).length ++ Bh s.heap) ++ Ce [((rs.rows.n : Nat) : Int)]) ++ putRows (s.rows.take k)) ++ Ce ([e74.client, e74.seq, e74.code]))) hS126 ([e74.value]) _ 1 1 (RdN.of_blk hO127 (j := 0) rfl (Ob.rdI (l := [e74.value]) (H119.ob (i := 0) rfl) rfl)) (by first | rfl | assumption | omega) (by simp only [As, Av, At, Ap, An, Bb, List.length_append, List.length_cons, List.length_nil, List.length_take, List.length_drop, List.length_map, Cy, enc8, Bq, Bt] at *; omega)) rfl rfl rfl ?_
     rintro _ w129 ⟨A121, n122, c123, rfl, g130, hn124⟩
     have H131 : Sp [Af b24 166 [.slice A121 n122 c123], Ar 5 1 A121 n122 c123 (Cz (((((([] ++ Cy (Bh s.heap).length ++ Bh s.heap) ++ Ce [((rs.rows.n : Nat) : Int)]) ++ putRows (s.rows.take k)) ++ Ce ([e74.client, e74.seq, e74.code])) ++ encW ([e74.value])))), Af b114 3 [(J e74.value)], Af b94 3 [(J e74.client), (J e74.seq), (J e74.code)], Af b80 123 e74.cells, Af b2 50 rs.cells, Bd w Bl] w129 := K128 _ _ g130
     have z132 := (H131.fix (i := 6) rfl).size
     refine RL.nil (inB.n (thn.n (CW.region (zg rfl (Ex.add (r := (k : Int) + 1) rfl rfl (Dd (by omega) (by omega))) (zm (J ((k : Int) + 1)) rfl (RL.nil (thn.n ?_)))))))
     have H133 : Sp [Af b24 166 [.slice A121 n122 c123], Ar 5 1 A121 n122 c123 (Cz (((([] ++ Cy (Bh s.heap).length ++ Bh s.heap) ++ Ce [((rs.rows.n : Nat) : Int)]) ++ putRows (s.rows.take (k + 1))))), Af b114 3 [(J e74.value)], Af b94 3 [(J e74.client), (J e74.seq), (J e74.code)], Af b80 123 e74.cells, Af b2 50 rs.cells, Bd w Bl] w129 := H131.eqR (i := 1) rfl rfl (by rw [take_snoc he75, putRows_snoc, putRow]; simp only [List.append_assoc]) rfl
     refine ⟨(by repeat (first | exact Out.mix _ _ | exact Out.refl _ _ | refine Bg ?_ rfl _)), _, ?_, k + 1, n122, c123, A121, rfl, rfl, (H133.sel [0, 1, 5, 6] (by decide) rfl), by omega, by simp only [As, Av, At, Ap, An, Bb, List.length_append, List.length_cons, List.length_nil, List.length_take, List.length_drop, List.length_map, Cy, enc8, Bq, Bt] at *; omega⟩
     omega
    ·skip
     refine RL.nil (thn.n (CW.seq (Ag rfl (CW.exit (thn.x (thn.x (Bf (thn.n (CW.seq (CW.region (zm (.pointer (some ⟨b24, 0, none⟩)) rfl (zg rfl (Ct rfl) (zg rfl (fa166_0 (b := ⟨b24, 0, none⟩) rfl rfl) (zl (.slice A1 n1 c1) lo97 (H71.ob (i := 0) rfl) rfl (za (.slice A1 n1 c1) rfl (za (J 0) rfl (RL.nil (thn.n (CW.ret (finQ.r (v := (.tuple #[(.slice A1 n1 c1), (J 0)])) (res2 rfl rfl rfl) ?_))))))))))))))))))))
     have hkk : s.rows.take k = s.rows := List.take_of_length_le (by omega)
     have hx : ((([] ++ Cy (Bh s.heap).length ++ Bh s.heap) ++ Ce [((rs.rows.n : Nat) : Int)]) ++ putRows (s.rows.take k)) = putStateL s := by rw [hkk]; unfold putStateL; rw [H.rn]; rfl
     rw [hx] at H71
     exact ⟨_, _, _, by unfold Di; rw [hsb]; rfl, by unfold Di; rw [hsb]; exact (H71.sel [1, 3] (by decide) rfl)⟩
set_option maxHeartbeats 400000 in
set_option maxRecDepth 20000 in
theorem oplogNew_ (w : World) (o : Int) : Ret Tryz.prog 55 [(J o)] w (fun v w' => v = .tuple #[.agg [.int .i64 (newK o).2.view, .int .i64 (newK o).2.normal, .int .i64 (newK o).2.base, .string (tx (newK o).2.image), .slice none 0 0].toArray, .int .i64 (newK o).1] ∧ w.grownBy w' none) := by
  have H0 : Sp [Bd w Bl] w := Bn w
  refine Ret.body Tryz.func55 rfl rfl rfl ?_
  refine CW.seq (CW.region (RL.al (cs := [(J 0), (J 0), (J 0), (.string (⟨#[]⟩)), (.slice none 0 0)]) Tryz.zeroValue24 rfl rfl rfl ?_))
  intro w1 b2 hb3 hz4 g5 o6
  have H7 := H0.newB g5 o6 (by omega)
  have z8 := g5.size
  refine za (J 0) rfl (RL.nil (thn.n (CW.seq (CW.region (zm (J o) rfl (RL.call Tryz.call107 (tableNew_ _ o) rfl rfl rfl ?_))))))
  rintro _ w13 (⟨rs9, rfl, g14, hw10, S11⟩ | ⟨rfl, g15, hw12⟩)
  ·skip
   have H16 := H7.newS g14 S11 (Nat.le_refl _)
   have z17 := g14.size
   refine zm (.tuple #[(.agg (rs9.cells).toArray), (J 0)]) rfl (zx (.agg (rs9.cells).toArray) rfl (zx (J 0) rfl (RL.al (cs := zState) Tryz.zeroValue50 rfl rfl rfl ?_)))
   intro w18 b19 hb20 hz21 g22 o23
   have H24 := H16.newB g22 o23 (by omega)
   have z25 := g22.size
   refine RL.st (vs := rs9.cells) (cs' := rs9.cells) Tryz.sizeOf50 (H24.ob (i := 0) rfl) rfl rfl rfl rfl rfl rfl ?_
   intro w26 hz27 g28 o29
   have H30 : Sp [Af b19 50 rs9.cells, StA rs9 [] (⟨newHeap o, []⟩), Af b2 24 [(J 0), (J 0), (J 0), (.string (⟨#[]⟩)), (.slice none 0 0)], Bd w Bl] w26 := H24.setB (i := 0) rfl g28 o29 rfl
   have z31 := g28.size
   refine za (J 0) rfl (RL.nil (thn.n (CW.seq (CW.seq (CW.region (zm (J 0) rfl (zg rfl (Cm (r := false) rfl rfl (by decide)) (RL.nil (thn.n (Ag rfl (CW.skip (thn.n (CW.seq (CW.region (zg rfl (Ai rfl (Ak (cs := rs9.cells) wh50 (H30.ob (i := 0) rfl).cl)) (RL.call Tryz.call74 (putState_ _ _ rs9 _ _ (H30.stR (i := 1) rfl) (Nat.le_refl _)) rfl rfl rfl ?_))))))))))))))))
   rintro _ w35 ⟨A32, n33, c34, rfl, g36⟩
   have g37 := g36.fix (i := 1) rfl
   have H38 : Sp [Ar 5 1 A32 n33 c34 (Cz ((Di (⟨newHeap o, []⟩)).1)), Af b19 50 rs9.cells, StA rs9 [] (⟨newHeap o, []⟩), Af b2 24 [(J 0), (J 0), (J 0), (.string (⟨#[]⟩)), (.slice none 0 0)], Bd w Bl] w35 := H30.join (m := [Ar 5 1 A32 n33 c34 (Cz ((Di (⟨newHeap o, []⟩)).1))]) g36
   have z39 := g37.size
   refine zm (.tuple #[(.slice A32 n33 c34), (J ((Di (⟨newHeap o, []⟩)).2))]) rfl (zx (.slice A32 n33 c34) rfl (zx (J ((Di (⟨newHeap o, []⟩)).2)) rfl (za (.slice A32 n33 c34) rfl (za (J ((Di (⟨newHeap o, []⟩)).2)) rfl (RL.nil (thn.n (CW.seq (CW.region (zm (.slice A32 n33 c34) rfl ?_)))))))))
   have hln := H38.len (i := 0) rfl
   rw [As] at hln
   have hsm := newBytes_len o
   refine zg rfl (Ex.b2s (bs := (Di (⟨newHeap o, []⟩)).1) Tryz.underlying97 Tryz.underlying5 Tryz.underlying9 rfl (H38.rowrd (i := 0) rfl) (by omega)) ?_
   have htk : ((Di (⟨newHeap o, []⟩)).1).take n33 = newBytes o := List.take_of_length_le (by unfold newBytes at *; omega)
   rw [htk]
   refine zg rfl (Cc (cs := [(J 0), (J 0), (J 0), (.string (tx (newBytes o))), (.slice none 0 0)]) bd24 rfl) (RL.st (vs := [(J 0), (J 0), (J 0), (.string (tx (newBytes o))), (.slice none 0 0)]) (cs' := [(J 0), (J 0), (J 0), (.string (tx (newBytes o))), (.slice none 0 0)]) Tryz.sizeOf24 (H38.ob (i := 3) rfl) rfl rfl rfl rfl rfl rfl ?_)
   intro w40 hz41 g42 o43
   have H44 : Sp [Ar 5 1 A32 n33 c34 (Cz ((Di (⟨newHeap o, []⟩)).1)), Af b19 50 rs9.cells, StA rs9 [] (⟨newHeap o, []⟩), Af b2 24 [(J 0), (J 0), (J 0), (.string (tx (newBytes o))), (.slice none 0 0)], Bd w Bl] w40 := H38.setB (i := 3) rfl g42 o43 rfl
   have z45 := g42.size
   refine za (J 0) rfl (RL.nil (thn.n (CW.ret (finQ.r (v := (.tuple #[(.agg ([(J 0), (J 0), (J 0), (.string (tx (newBytes o))), (.slice none 0 0)]).toArray), (J 0)])) (Cp rfl (Rv.cell rfl (Ak (cs := [(J 0), (J 0), (J 0), (.string (tx (newBytes o))), (.slice none 0 0)]) wh24 (H44.ob (i := 3) rfl).cl)) (Rv.tmp rfl)) ?_))))
   exact ⟨by unfold newK newBytes Di; rw [if_pos hw10, if_pos (newState_ok hw10)], (H44.fix (i := 4) rfl)⟩
  ·skip
   have H46 := H7.grow g15
   have z47 := g15.size
   refine zm (.tuple #[(.agg (zState).toArray), (J 1)]) rfl (zx (.agg (zState).toArray) rfl (zx (J 1) rfl (RL.al (cs := zState) Tryz.zeroValue50 rfl rfl rfl ?_)))
   intro w48 b49 hb50 hz51 g52 o53
   have H54 := H46.newB g52 o53 (by omega)
   have z55 := g52.size
   refine RL.st (vs := zState) (cs' := zState) Tryz.sizeOf50 (H54.ob (i := 0) rfl) rfl rfl rfl rfl rfl rfl ?_
   intro w56 hz57 g58 o59
   have H60 : Sp [Af b49 50 zState, Af b2 24 [(J 0), (J 0), (J 0), (.string (⟨#[]⟩)), (.slice none 0 0)], Bd w Bl] w56 := H54.setB (i := 0) rfl g58 o59 rfl
   have z61 := g58.size
   refine za (J 1) rfl (RL.nil (thn.n (CW.seq (CW.seq (CW.region (zm (J 1) rfl (zg rfl (Cm (r := true) rfl rfl (by decide)) (RL.nil (thn.n (Ab rfl (CW.seq (CW.region (zg rfl (Cc (cs := [(J 0), (J 0), (J 0), (.string (⟨#[]⟩)), (.slice none 0 0)]) bd24 rfl) (zm (J 1) rfl (RL.st (vs := [(J 0), (J 0), (J 0), (.string (⟨#[]⟩)), (.slice none 0 0)]) (cs' := [(J 0), (J 0), (J 0), (.string (⟨#[]⟩)), (.slice none 0 0)]) Tryz.sizeOf24 (H60.ob (i := 1) rfl) rfl rfl rfl rfl rfl rfl ?_)))))))))))))))
   intro w62 hz63 g65 o66
   have H67 : Sp [Af b49 50 zState, Af b2 24 [(J 0), (J 0), (J 0), (.string (⟨#[]⟩)), (.slice none 0 0)], Bd w Bl] w62 := H60.setB (i := 1) rfl g65 o66 rfl
   have z68 := g65.size
   refine za (J 1) rfl (RL.nil (thn.n (CW.ret (thn.r (finQ.r (v := (.tuple #[(.agg ([(J 0), (J 0), (J 0), (.string (⟨#[]⟩)), (.slice none 0 0)]).toArray), (J 1)])) (Cp rfl (Rv.cell rfl (Ak (cs := [(J 0), (J 0), (J 0), (.string (⟨#[]⟩)), (.slice none 0 0)]) wh24 (H67.ob (i := 1) rfl).cl)) (Rv.tmp rfl)) ?_)))))
   exact ⟨by unfold newK; rw [hw12]; rfl, (H67.fix (i := 2) rfl)⟩
end Go.Proofs.YtfokljnhllflbaaGreat
namespace Go.Proofs.YtfokljnhllflbaaGreat
open Go Go.Eng Go.RowKit
theorem oplogNew3 {w : World} : Ret Tryz.prog 55 [.int .i64 3] w (fun v w' => v = .tuple #[.agg [.int .i64 fk0.view, .int .i64 fk0.normal, .int .i64 fk0.base, .string (tx fk0.image), .slice none 0 0].toArray, .int .i64 0] ∧ w.grownBy w' none) := by
  have h := oplogNew_ w 3
  rw [newK3] at h
  exact h
set_option maxHeartbeats 400000 in
set_option maxRecDepth 20000 in
theorem big15 (w : World) (k : Kept) (A : Option Addr) (n c : Nat) (hn : n = k.ents.length) (r : Rec) (A2 : Option Addr) (n2 c2 : Nat) (hn2 : n2 = r.ents.length) : Ret Tryz.prog 23 [(.agg ([(J k.view), (J k.normal), (J k.base), (.string (tx k.image)), (.slice A n c)]).toArray), (.agg ([(J r.kind), (J r.view), (J r.from_), (J r.number), (.string (tx r.image)), (J r.entry.num), (J r.entry.view), (J r.entry.client), (J r.entry.seq), (J r.entry.op.kind), (J r.entry.op.h), (J r.entry.op.i), (J r.entry.op.n), (J r.entry.op.k), (J r.entry.op.v), (J r.entry.op.t), (.slice A2 n2 c2)]).toArray)] w (fun v w' => v = .bool (bigK k r) ∧ w.grownBy w' none) := by
  have hti : (tx k.image).size = k.image.length := tx_size _
  have hti2 : (tx r.image).size = r.image.length := tx_size _
  have H0 : Sp [Bd w Bl] w := Bn w
  refine Ret.body Tryz.func23 rfl rfl rfl ?_
  refine CW.seq (CW.region (RL.bx (cs := [(J k.view), (J k.normal), (J k.base), (.string (tx k.image)), (.slice A n c)]) rfl rfl rfl ?_))
  intro w1 b2 hb3 hz4 g5 o6
  have H7 := H0.newB g5 o6 (by omega)
  have z8 := g5.size
  refine RL.bx (cs := [(J r.kind), (J r.view), (J r.from_), (J r.number), (.string (tx r.image)), (J r.entry.num), (J r.entry.view), (J r.entry.client), (J r.entry.seq), (J r.entry.op.kind), (J r.entry.op.h), (J r.entry.op.i), (J r.entry.op.n), (J r.entry.op.k), (J r.entry.op.v), (J r.entry.op.t), (.slice A2 n2 c2)]) rfl rfl rfl ?_
  intro w9 b10 hb11 hz12 g13 o14
  have H15 := H7.newB g13 o14 (by omega)
  have z16 := g13.size
  refine za (bF) rfl (RL.nil (thn.n (CW.seq (CW.region (zg rfl (fa24_4 (b := ⟨b2, 4, none⟩) rfl rfl) (zl (.slice A n c) lo22 (H15.ob (i := 1) rfl) rfl (zg rfl (Ex.len Tryz.underlying22 rfl) ?_)))))))
  refine zc ((300 : Int) < ((n : Nat) : Int)) rfl (fun r hr => Df rfl rfl hr) (fun h17 => ?_) (fun h17 => ?_)
  ·skip
   refine zm (bT) rfl (zo rfl (zo rfl (zo rfl (zo rfl (zT (bT) rfl (zm (bT) rfl (zo rfl (zo rfl (zo rfl (zo rfl ?_))))))))))
   refine zT (bT) rfl (zm (bT) rfl (zo rfl (zo rfl (zo rfl (zo rfl (zT (bT) rfl (za (bT) rfl (RL.nil (thn.n (CW.ret (finQ.r (v := bT) (Ax rfl rfl) ?_)))))))))))
   exact ⟨Am (by unfold bigK; first | (simp; omega) | (simp only [Bool.true_eq, Bool.or_eq_true, decide_eq_true_eq]; omega) | (simp only [Bool.false_eq, Bool.or_eq_false_iff, decide_eq_false_iff_not]; omega)), (H15.fix (i := 2) rfl)⟩
  ·skip
   refine zm (bF) rfl (zg rfl (fa33_6 (b := ⟨b10, 16, none⟩) rfl rfl) (zl (.slice A2 n2 c2) lo22 (H15.ob (i := 0) rfl) rfl (zg rfl (Ex.len Tryz.underlying22 rfl) ?_)))
   refine zc ((300 : Int) < ((n2 : Nat) : Int)) rfl (fun r hr => Df rfl rfl hr) (fun h18 => ?_) (fun h18 => ?_)
   ·skip
    refine zF (bT) rfl (zm (bT) rfl (zo rfl (zo rfl (zo rfl (zo rfl (zT (bT) rfl (zm (bT) rfl (zo rfl (zo rfl (zo rfl ?_))))))))))
    refine zo rfl (zT (bT) rfl (za (bT) rfl (RL.nil (thn.n (CW.ret (finQ.r (v := bT) (Ax rfl rfl) ?_))))))
    exact ⟨Am (by unfold bigK; first | (simp; omega) | (simp only [Bool.true_eq, Bool.or_eq_true, decide_eq_true_eq]; omega) | (simp only [Bool.false_eq, Bool.or_eq_false_iff, decide_eq_false_iff_not]; omega)), (H15.fix (i := 2) rfl)⟩
   ·skip
    refine zF (bF) rfl (zm (bF) rfl (zg rfl (fa24_3 (b := ⟨b2, 3, none⟩) rfl rfl) (zl (.string (tx k.image)) lo9 (H15.ob (i := 1) rfl) rfl (zg rfl (Ex.lenS Tryz.underlying9 rfl) ?_))))
    refine zc ((100000 : Int) < (((tx k.image).size : Nat) : Int)) rfl (fun r hr => Df rfl rfl hr) (fun h19 => ?_) (fun h19 => ?_)
    ·skip
     refine zF (bT) rfl (zm (bT) rfl (zo rfl (zo rfl (zo rfl (zo rfl (zT (bT) rfl (za (bT) rfl (RL.nil (thn.n (CW.ret (finQ.r (v := bT) (Ax rfl rfl) ?_)))))))))))
     exact ⟨Am (by unfold bigK; first | (simp; omega) | (simp only [Bool.true_eq, Bool.or_eq_true, decide_eq_true_eq]; omega) | (simp only [Bool.false_eq, Bool.or_eq_false_iff, decide_eq_false_iff_not]; omega)), (H15.fix (i := 2) rfl)⟩
    ·skip
     refine zF (bF) rfl (zm (bF) rfl (zg rfl (fa33_4 (b := ⟨b10, 4, none⟩) rfl rfl) (zl (.string (tx r.image)) lo9 (H15.ob (i := 0) rfl) rfl (zg rfl (Ex.lenS Tryz.underlying9 rfl) ?_))))
     refine zc ((100000 : Int) < (((tx r.image).size : Nat) : Int)) rfl (fun r hr => Df rfl rfl hr) (fun h20 => ?_) (fun h20 => ?_)
     ·skip
      refine zF (bT) rfl (za (bT) rfl (RL.nil (thn.n (CW.ret (finQ.r (v := bT) (Ax rfl rfl) ?_)))))
      exact ⟨Am (by unfold bigK; first | (simp; omega) | (simp only [Bool.true_eq, Bool.or_eq_true, decide_eq_true_eq]; omega) | (simp only [Bool.false_eq, Bool.or_eq_false_iff, decide_eq_false_iff_not]; omega)), (H15.fix (i := 2) rfl)⟩
     ·skip
      refine zF (bF) rfl (za (bF) rfl (RL.nil (thn.n (CW.ret (finQ.r (v := bF) (Ax rfl rfl) ?_)))))
      exact ⟨Am (by unfold bigK; first | (simp; omega) | (simp only [Bool.true_eq, Bool.or_eq_true, decide_eq_true_eq]; omega) | (simp only [Bool.false_eq, Bool.or_eq_false_iff, decide_eq_false_iff_not]; omega)), (H15.fix (i := 2) rfl)⟩
end Go.Proofs.YtfokljnhllflbaaGreat
namespace Go.Eng
open Go Go.RowKit
def laidC (e : Entry) : List Value := [.int .i64 2, .int .i64 0, .int .i64 0, .int .i64 0, .string ⟨#[]⟩, .int .i64 e.num, .int .i64 e.view, .int .i64 e.client, .int .i64 e.seq, .int .i64 e.op.kind, .int .i64 e.op.h, .int .i64 e.op.i, .int .i64 e.op.n, .int .i64 e.op.k, .int .i64 e.op.v, .int .i64 e.op.t, .slice none 0 0]
def recsE (l : List Entry) : List (List Value) := l.map laidC
theorem Ca (l : List Entry) : (recsE l).length = l.length := by simp [recsE]
theorem filter_snoc {α : Type} {p : α → Bool} {l : List α} {k : Nat} {x : α} (h : l[k]? = some x) : (l.take (k + 1)).filter p = (l.take k).filter p ++ (if p x then [x] else []) := by
  rw [take_snoc h, List.filter_append]
  congr 1
  cases hp : p x <;> simp [List.filter, hp]
end Go.Eng
namespace Go.Eng
end Go.Eng
namespace Go.Proofs.YtfokljnhllflbaaGreat
open Go Go.Eng Go.RowKit
set_option maxHeartbeats 400000 in
set_option maxRecDepth 20000 in
theorem crow (w : World) (B : Nat) (l : List Entry) (A : Option Addr) (n c : Nat) (fr : Int) (hr : Rd w B 11 A (ents l)) (hB : B ≤ w.heap.size) (hn : n = l.length) (hm : n ≤ 1099511627776) : Ret Tryz.prog 88 [(.slice A n c), (J fr)] w (fun v w' => v = .bool (follB l fr) ∧ w.grownBy w' none) := by
  have H0 : Sp [Bd w Bl] w := Bn w
  refine Ret.body Tryz.func88 rfl rfl rfl ?_
  refine CW.seq (CW.region (za (bF) rfl (RL.nil (thn.n (CW.seq (CW.seq (CW.region (zm (.slice A n c) rfl (zg rfl (Ex.len Tryz.underlying22 rfl) (zm (J 0) rfl (RL.nil (thn.n (CW.block ?_)))))))))))))
  refine CW.loop (fun t => (Nat.ble 4 t && Nat.ble t 6) || (Nat.ble 9 t && Nat.ble t 21)) (fun nL ρ wl => ∃ (k : Nat), ρ 9 = (J (k : Int)) ∧ nL = n - k ∧ Sp [Bd w Bl] wl ∧ k ≤ n ∧ follB (l.take k) fr = true) (n) ?aa0 ?bb0
  case aa0 =>
   exact ⟨0, rfl, rfl, H0, Nat.zero_le _, rfl⟩
  case bb0 =>
   rintro n2 ρ0 w1 ho3 ⟨k, hs0_9, hn0, H4, hk, hf⟩
   obtain ⟨j0, rfl⟩ := ho3.shape1 hs0_9
   clear ho3 hs0_9
   subst hn0
   have z5 := (H4.fix (i := 0) rfl).size
   refine CW.seq (CW.region ?_)
   refine zc (((k : Int) : Int) < ((n : Nat) : Int)) rfl (fun r hr => Ex.lt rfl rfl hr) (fun h6 => ?_) (fun h6 => ?_)
   ·skip
    refine RL.nil (thn.n (CW.seq (Ab rfl (CW.skip (thn.n (CW.seq (CW.block (CW.seq (CW.region (zm (J (k : Int)) rfl ?_))))))))))
    obtain ⟨e7, he8⟩ : ∃ e, (l)[k]? = some e := ⟨_, List.getElem?_eq_getElem (by omega)⟩
    obtain ⟨ad9, hA10⟩ := Rd.sm (hr.st0 (H4.fix (i := 0) rfl)) (Bw he8)
    have hl11 := Eng.lt_len (Bw he8)
    refine zg rfl (Cq (b := (ad9.add (k * 11))) (i := k) Tryz.underlying22 Tryz.sizeOf31 (by rw [← hA10]; rfl) rfl (by omega) (by omega) rfl) (zg rfl (Ai rfl (Ak (cs := e7.cells) wh31 (Rd.cl (hr.st0 (H4.fix (i := 0) rfl)) hA10 (Bw he8)))) (RL.al (cs := [(J 0), (J 0), (J 0), (J 0), (J 0), (J 0), (J 0), (J 0), (J 0), (J 0), (J 0)]) Tryz.zeroValue31 rfl rfl rfl ?_))
    intro w12 b13 hb14 hz15 g16 o17
    have H18 := H4.newB g16 o17 (by omega)
    have z19 := g16.size
    refine za (J (k : Int)) rfl (RL.st (vs := e7.cells) (cs' := e7.cells) Tryz.sizeOf31 (H18.ob (i := 0) rfl) rfl rfl rfl rfl rfl rfl ?_)
    intro w20 hz21 g22 o23
    have H24 : Sp [Af b13 31 e7.cells, Bd w Bl] w20 := H18.setB (i := 0) rfl g22 o23 rfl
    have z25 := g22.size
    refine RL.nil (thn.n (CW.seq (CW.region (zg rfl (fa31_0 (b := ⟨b13, 0, none⟩) rfl rfl) (zl (J e7.num) Cf (H24.ob (i := 0) rfl) rfl (zg rfl (Ci (r := IntKind.i64.wrap (e7.num - 1)) rfl rfl rfl) (zm (J (k : Int)) rfl (zg rfl (Ci (r := IntKind.i64.wrap ((IntKind.i64.wrap (e7.num - 1)) - (k : Int))) rfl rfl rfl) (zm (J fr) rfl ?_)))))))))
    refine zc ((IntKind.i64.wrap ((IntKind.i64.wrap (e7.num - 1)) - (k : Int)) : Int) ≠ (fr : Int)) rfl (fun r hr => Cm rfl rfl hr) (fun h26 => ?_) (fun h26 => ?_)
    ·skip
     refine RL.nil (thn.n (Ab rfl (CW.seq (CW.region (za (bF) rfl (RL.nil (thn.n (CW.ret (inB.r (thn.r (thn.r (inB.r (thn.r (finQ.r (v := bF) (Ax rfl rfl) ?_))))))))))))))
     exact ⟨Am (by unfold follB; rw [allI_stop he8 0]; simpa using h26), (H24.fix (i := 1) rfl)⟩
    ·skip
     refine RL.nil (thn.n (Ag rfl (CW.skip (inB.n (thn.n (CW.region (zg rfl (Ex.add (r := (k : Int) + 1) rfl rfl (Dd (by omega) (by omega))) (zm (J ((k : Int) + 1)) rfl (RL.nil (thn.n ?_))))))))))
     refine ⟨(by repeat (first | exact Out.mix _ _ | exact Out.refl _ _ | refine Bg ?_ rfl _)), _, ?_, k + 1, rfl, rfl, (H24.sel [1] (by decide) rfl), by omega, by unfold follB at *; rw [allI_take he8 0, hf]; simp only [Nat.zero_add, Bool.true_and, decide_eq_true_eq]; exact Decidable.not_not.1 h26⟩
     omega
   ·skip
    refine RL.nil (thn.n (CW.seq (Ag rfl (CW.exit (thn.x (thn.x (Bf (thn.n (CW.seq (CW.region (za (bT) rfl (RL.nil (thn.n (CW.ret (finQ.r (v := bT) (Ax rfl rfl) ?_)))))))))))))))
    exact ⟨Am (by rw [← hf, List.take_of_length_le (by omega)]), (H4.fix (i := 0) rfl)⟩
end Go.Proofs.YtfokljnhllflbaaGreat
namespace Go.Eng
open Go Go.RowKit
theorem wrapEq {a : Int} (h : rng a) {j f : Int} (hj : 0 ≤ j ∧ j ≤ 1000000) (hf : 0 ≤ f ∧ f ≤ 2000000000) (e : IntKind.i64.wrap (IntKind.i64.wrap (a - 1) - j) = f) : a = f + 1 + j := by
  unfold rng at h
  rw [IntKind.wrap_i64, IntKind.wrap_i64] at e
  omega
theorem foll_nums {l : List Entry} {f : Int} (h : follB l f = true) (hf : 0 ≤ f ∧ f ≤ 2000000000) (hl : l.length ≤ 1000000) (hr : ∀ e ∈ l, rng e.num) {j : Nat} {e : Entry} (he : l[j]? = some e) : e.num = f + 1 + j := by
  unfold follB at h
  have h2 := allI_get h he
  simp only [Nat.zero_add, decide_eq_true_eq] at h2
  have := lt_len he
  exact wrapEq (hr e (List.mem_of_getElem? he)) (by omega) hf h2
theorem filter_nums : ∀ {l : List Entry} {f L : Int}, f ≤ L → (∀ (j : Nat) (e : Entry), l[j]? = some e → e.num = f + 1 + j) → l.filter (fun e => decide (L < e.num)) = l.drop (L - f).toNat
  | [], f, L, _, _ => by simp
  | x :: l, f, L, hL, h => by
    have hx := h 0 x rfl
    have ht : ∀ (j : Nat) (e : Entry), l[j]? = some e → e.num = (f + 1) + 1 + j := fun j e he => by
      have := h (j + 1) e (by simpa using he)
      omega
    by_cases hc : f = L
    · subst hc
      rw [Int.sub_self, Int.toNat_zero, List.drop_zero]
      refine List.filter_eq_self.2 fun e he => ?_
      obtain ⟨j, hj⟩ := List.mem_iff_getElem?.1 he
      have := h j e hj
      simp only [decide_eq_true_eq]
      omega
    · have ih := filter_nums (l := l) (f := f + 1) (L := L) (by omega) ht
      rw [List.filter_cons, if_neg (by simp only [decide_eq_true_eq]; omega), ih]
      rw [show (L - f).toNat = (L - (f + 1)).toNat + 1 by omega, List.drop_succ_cons]
end Go.Eng
namespace Go.Eng
open Go
def Bx (k : Kept) (commit view base : Int) (l : List Entry) : Bool :=
  keptB k && Aq commit k.base (lastOf k) && Aq view k.view 900000000 && Aq base 0 commit && follB l base && decide (commit - base ≤ l.length)
def Aa (k : Kept) (commit view base : Int) (l : List Entry) : Rec :=
  if Bx k commit view base l = true then ⟨3, view, commit, 0, [], ⟨0, 0, 0, 0, ⟨0, 0, 0, 0, 0, 0, 0⟩⟩, l.drop (commit - base).toNat⟩ else ⟨0, 0, 0, 0, [], ⟨0, 0, 0, 0, ⟨0, 0, 0, 0, 0, 0, 0⟩⟩, []⟩
def tl1 : List Entry := [entR 1]
def tl3 : List Entry := [entR 1, entR 2, entR 3]
def By : List Entry := [entR 1, entR 2, entR 3, entR 4]
def tk3 : Kept := ⟨0, 0, 0, newBytes 3, tl3⟩
theorem ad_y : Bx tk3 2 4 0 By = true := by decide +kernel
theorem ad_n1 : Bx tk3 2 4 3 [] = false := by decide +kernel
theorem ad_n2 : Bx tk3 2 4 0 tl1 = false := by decide +kernel
def ad3 : Rec := ⟨3, 4, 2, 0, [], ⟨0, 0, 0, 0, ⟨0, 0, 0, 0, 0, 0, 0⟩⟩, [entR 3, entR 4]⟩
theorem ad_r : Aa tk3 2 4 0 By = ad3 := by unfold Aa; rw [if_pos ad_y]; rfl
theorem adoptB_t {k : Kept} {c v b : Int} {l : List Entry} (h : Bx k c v b l = true) (hl : l.length ≤ 1000000) (hr : ∀ e ∈ l, rng e.num) :
    keptB k = true ∧ (k.base ≤ c ∧ c ≤ lastK k) ∧ (k.view ≤ v ∧ v ≤ 900000000) ∧ (0 ≤ b ∧ b ≤ c) ∧ c - b ≤ l.length ∧ (∀ (j : Nat) (e : Entry), l[j]? = some e → e.num = b + 1 + j) := by
  unfold Bx at h
  simp only [Bool.and_eq_true, decide_eq_true_eq] at h
  obtain ⟨⟨⟨⟨⟨h1, h2⟩, h3⟩, h4⟩, h5⟩, h6⟩ := h
  have a2 := Bc h2
  unfold lastOf at a2
  rw [if_pos h1] at a2
  have a4 := Bc h4
  have hkt := keptB_t h1
  have hlk : lastK k = k.base + k.ents.length := rfl
  exact ⟨h1, a2, Bc h3, a4, h6, fun j e he => foll_nums h5 (by omega) hl hr he⟩
theorem adoptR_t {k : Kept} {c v b : Int} {l : List Entry} (h : Bx k c v b l = true) : Aa k c v b l = ⟨3, v, c, 0, [], ⟨0, 0, 0, 0, ⟨0, 0, 0, 0, 0, 0, 0⟩⟩, l.drop (c - b).toNat⟩ := by unfold Aa; rw [if_pos h]
end Go.Eng
namespace Go.Proofs.YtfokljnhllflbaaGreat
open Go Go.Eng Go.RowKit
set_option maxHeartbeats 1000000 in
set_option maxRecDepth 20000 in
theorem adopt_ (w : World) (B : Nat) (k : Kept) (A : Option Addr) (n c : Nat) (hr : Rd w B 11 A (ents k.ents)) (hB : B ≤ w.heap.size) (hn : n = k.ents.length) (hm : n ≤ 1099511627776) (hc : n ≤ c) (hi : k.image.length ≤ 140737488351232) (commit view base : Int) (hcr : rng commit) (l : List Entry) (A2 : Option Addr) (n2 c2 : Nat) (hr2 : Rd w B 11 A2 (ents l)) (hn2 : n2 = l.length) (hm2 : n2 ≤ 1000000) (hc2 : n2 ≤ c2) : Ret Tryz.prog 25 [(.agg ([(J k.view), (J k.normal), (J k.base), (.string (tx k.image)), (.slice A n c)]).toArray), (J commit), (J view), (J base), (.slice A2 n2 c2)] w (fun v w' => ∃ (A' : Option Addr) (n' c' : Nat), v = .tuple #[.agg #[(J ((Aa k commit view base l).kind)), (J ((Aa k commit view base l).view)), (J ((Aa k commit view base l).from_)), (J ((Aa k commit view base l).number)), (.string (tx (Aa k commit view base l).image)), (J ((Aa k commit view base l).entry.num)), (J ((Aa k commit view base l).entry.view)), (J ((Aa k commit view base l).entry.client)), (J ((Aa k commit view base l).entry.seq)), (J ((Aa k commit view base l).entry.op.kind)), (J ((Aa k commit view base l).entry.op.h)), (J ((Aa k commit view base l).entry.op.i)), (J ((Aa k commit view base l).entry.op.n)), (J ((Aa k commit view base l).entry.op.k)), (J ((Aa k commit view base l).entry.op.v)), (J ((Aa k commit view base l).entry.op.t)), (.slice A' n' c')], .bool (Bx k commit view base l)] ∧ Sp ([Ar 31 11 A' n' c' (ents (Aa k commit view base l).ents)] ++ [Bd w Bl]) w') := by
  unfold rng at hcr
  have H0 : Sp [Bd w Bl] w := Bn w
  refine Ret.body Tryz.func25 rfl rfl rfl ?_
  refine CW.seq (CW.region (RL.bx (cs := [(J k.view), (J k.normal), (J k.base), (.string (tx k.image)), (.slice A n c)]) rfl rfl rfl ?_))
  intro w1 b2 hb3 hz4 g5 o6
  have H7 := H0.newB g5 o6 (by omega)
  have z8 := g5.size
  refine RL.al (cs := [(J 0), (J 0), (J 0), (J 0), (.string (⟨#[]⟩)), (J 0), (J 0), (J 0), (J 0), (J 0), (J 0), (J 0), (J 0), (J 0), (J 0), (J 0), (.slice none 0 0)]) Tryz.zeroValue33 rfl rfl rfl ?_
  intro w9 b10 hb11 hz12 g13 o14
  have H15 := H7.newB g13 o14 (by omega)
  have z16 := g13.size
  refine za (bF) rfl (RL.nil (thn.n (CW.seq (CW.block (CW.seq (CW.held (fun wq => Sp [Af b10 33 [(J 0), (J 0), (J 0), (J 0), (.string (⟨#[]⟩)), (J 0), (J 0), (J 0), (J 0), (J 0), (J 0), (J 0), (J 0), (J 0), (J 0), (J 0), (.slice none 0 0)], Af b2 24 [(J k.view), (J k.normal), (J k.base), (.string (tx k.image)), (.slice A n c)], Bd w Bl] wq) Tryz.mixed rfl ?_))))))
  intro w17 g18
  have H19 := H15.grow g18
  have z20 := g18.size
  refine zr 0 1 rfl (by kernel_rfl) H19 (fun wq hq => Ai rfl (Ak (cs := [(J k.view), (J k.normal), (J k.base), (.string (tx k.image)), (.slice A n c)]) wh24 (hq.ob (i := 1) rfl).cl)) (RA.one (i := 1) (by kernel_rfl) ?_)
  refine ⟨_, 3, rfl, by kernel_rfl, ?_⟩
  refine RL.call Tryz.call57 (opCheck_ _ _ _ k (KeptR.of (k := k) (n := n) (c := c) (hr.st0 (H19.fix (i := 2) rfl)) (by show n = (k.ents).length; (try simp only [List.length_append, List.length_cons, List.length_nil, List.length_take, List.length_drop]); all_goals omega) (by omega) (by omega) (by first | assumption | (show List.length _ ≤ _; first | assumption | decide | omega))) (by omega)) rfl rfl rfl ?_
  rintro _ w21 ⟨rfl, g22⟩
  have H23 := H19.grow g22
  have z24 := g22.size
  refine RL.nil ?_
  refine ⟨H23, ?_⟩
  refine zb 2 7 (((if keptB k then 0 else 1) : Int) ≠ (0 : Int)) rfl (by kernel_rfl) H23 (fun r hr wq hq => Cm rfl rfl hr) (fun h25 => ?_) (fun h25 => ?_)
  ·skip
   refine zr 3 15 rfl (by kernel_rfl) H23 (fun wq hq => Au (v := bT) rfl) (zq 4 31 rfl (by kernel_rfl) H23 (zq 5 63 rfl (by kernel_rfl) H23 (zq 6 127 rfl (by kernel_rfl) H23 (zq 7 255 rfl (by kernel_rfl) H23 (zq 8 511 rfl (by kernel_rfl) H23 (zq 9 1023 rfl (by kernel_rfl) H23 (zq 10 2047 rfl (by kernel_rfl) H23 (zr 11 4095 rfl (by kernel_rfl) H23 (fun wq hq => Bi (v := bT) rfl rfl) (zr 12 8191 rfl (by kernel_rfl) H23 (fun wq hq => Au (v := bT) rfl) (zq 13 16383 rfl (by kernel_rfl) H23 ?_))))))))))
   refine zq 14 32767 rfl (by kernel_rfl) H23 (zq 15 65535 rfl (by kernel_rfl) H23 (zq 16 131071 rfl (by kernel_rfl) H23 (zq 17 262143 rfl (by kernel_rfl) H23 (zr 18 524287 rfl (by kernel_rfl) H23 (fun wq hq => Bi (v := bT) rfl rfl) (zr 19 1048575 rfl (by kernel_rfl) H23 (fun wq hq => Ex.as (v := bT) rfl) (Bj (by kernel_rfl) (thn.n (Ab rfl (CW.seq (CW.region (zg rfl (Ai rfl (Ak (cs := [(J 0), (J 0), (J 0), (J 0), (.string (⟨#[]⟩)), (J 0), (J 0), (J 0), (J 0), (J 0), (J 0), (J 0), (J 0), (J 0), (J 0), (J 0), (.slice none 0 0)]) wh33 (H23.ob (i := 0) rfl).cl)) (RL.st (vs := [(J 0), (J 0), (J 0), (J 0), (.string (⟨#[]⟩)), (J 0), (J 0), (J 0), (J 0), (J 0), (J 0), (J 0), (J 0), (J 0), (J 0), (J 0), (.slice none 0 0)]) (cs' := [(J 0), (J 0), (J 0), (J 0), (.string (⟨#[]⟩)), (J 0), (J 0), (J 0), (J 0), (J 0), (J 0), (J 0), (J 0), (J 0), (J 0), (J 0), (.slice none 0 0)]) Tryz.sizeOf33 (H23.ob (i := 0) rfl) rfl rfl rfl rfl rfl rfl ?_))))))))))))
   intro w26 hz27 g28 o29
   have H30 : Sp [Af b10 33 [(J 0), (J 0), (J 0), (J 0), (.string (⟨#[]⟩)), (J 0), (J 0), (J 0), (J 0), (J 0), (J 0), (J 0), (J 0), (J 0), (J 0), (J 0), (.slice none 0 0)], Af b2 24 [(J k.view), (J k.normal), (J k.base), (.string (tx k.image)), (.slice A n c)], Bd w Bl] w26 := H23.setB (i := 0) rfl g28 o29 rfl
   have z31 := g28.size
   refine za (bF) rfl (RL.nil (thn.n (CW.ret (inB.r (thn.r (finQ.r (v := (.tuple #[(.agg ([(J 0), (J 0), (J 0), (J 0), (.string (⟨#[]⟩)), (J 0), (J 0), (J 0), (J 0), (J 0), (J 0), (J 0), (J 0), (J 0), (J 0), (J 0), (.slice none 0 0)]).toArray), bF])) (Cp rfl (Rv.cell rfl (Ak (cs := [(J 0), (J 0), (J 0), (J 0), (.string (⟨#[]⟩)), (J 0), (J 0), (J 0), (J 0), (J 0), (J 0), (J 0), (J 0), (J 0), (J 0), (J 0), (.slice none 0 0)]) wh33 (H30.ob (i := 0) rfl).cl)) (Rv.tmp rfl)) ?_))))))
   have H32 := H30.nil_ 31 11
   have hx : Bx k commit view base l = false := by
     unfold Bx Aq at *
     simp_all
     try omega
   have hy : Aa k commit view base l = ⟨0, 0, 0, 0, [], ⟨0, 0, 0, 0, ⟨0, 0, 0, 0, 0, 0, 0⟩⟩, []⟩ := by unfold Aa; rw [hx]; rfl
   exact ⟨none, 0, 0, by rw [hx, hy]; rfl, by rw [hy]; exact (H32.sel [0, 3] (by decide) rfl)⟩
  ·skip
   refine zr 3 15 rfl (by kernel_rfl) H23 (fun wq hq => Au (v := bF) rfl) (zr 4 31 rfl (by kernel_rfl) H23 (fun wq hq => Au (v := (J commit)) rfl) (zr 5 63 rfl (by kernel_rfl) H23 (fun wq hq => fa24_2 (b := ⟨b2, 2, none⟩) rfl rfl) (zr 6 127 rfl (by kernel_rfl) H23 (fun wq hq => Ai rfl (Ba Cf (Ob.cell (v := (J k.base)) (hq.ob (i := 1) rfl) rfl))) (zr 7 255 rfl (by kernel_rfl) H23 (fun wq hq => Ai rfl (Ak (cs := [(J k.view), (J k.normal), (J k.base), (.string (tx k.image)), (.slice A n c)]) wh24 (hq.ob (i := 1) rfl).cl)) (RA.one (i := 8) (by kernel_rfl) ?_)))))
   refine ⟨_, 511, rfl, by kernel_rfl, ?_⟩
   refine RL.call Tryz.call62 (Last_ _ _ _ k (KeptR.of (k := k) (n := n) (c := c) (hr.st0 (H23.fix (i := 2) rfl)) (by show n = (k.ents).length; (try simp only [List.length_append, List.length_cons, List.length_nil, List.length_take, List.length_drop]); all_goals omega) (by omega) (by omega) (by first | assumption | (show List.length _ ≤ _; first | assumption | decide | omega))) (by omega)) rfl rfl rfl ?_
   rintro _ w33 ⟨rfl, g34⟩
   have H35 := H23.grow g34
   have z36 := g34.size
   refine RL.nil ?_
   refine ⟨H35, ?_⟩
   refine RA.one (i := 9) (by kernel_rfl) ?_
   refine ⟨_, 1023, rfl, by kernel_rfl, ?_⟩
   refine RL.call Tryz.call87 (within_change _ commit k.base (lastOf k)) rfl rfl rfl ?_
   rintro _ _ ⟨rfl, rfl⟩
   rcases hb40 : (Aq commit k.base (lastOf k)) with _ | _
   ·skip
    refine RL.nil ?_
    refine ⟨H35, ?_⟩
    refine zr 10 2047 rfl (by kernel_rfl) H35 (fun wq hq => Ex.not (b := false) rfl) (zr 11 4095 rfl (by kernel_rfl) H35 (fun wq hq => Be (v := bT) rfl rfl) (zr 12 8191 rfl (by kernel_rfl) H35 (fun wq hq => Au (v := bT) rfl) (zq 13 16383 rfl (by kernel_rfl) H35 (zq 14 32767 rfl (by kernel_rfl) H35 (zq 15 65535 rfl (by kernel_rfl) H35 (zq 16 131071 rfl (by kernel_rfl) H35 (zq 17 262143 rfl (by kernel_rfl) H35 (zr 18 524287 rfl (by kernel_rfl) H35 (fun wq hq => Bi (v := bT) rfl rfl) (zr 19 1048575 rfl (by kernel_rfl) H35 (fun wq hq => Ex.as (v := bT) rfl) (Bj (by kernel_rfl) ?_))))))))))
    refine thn.n (Ab rfl (CW.seq (CW.region (zg rfl (Ai rfl (Ak (cs := [(J 0), (J 0), (J 0), (J 0), (.string (⟨#[]⟩)), (J 0), (J 0), (J 0), (J 0), (J 0), (J 0), (J 0), (J 0), (J 0), (J 0), (J 0), (.slice none 0 0)]) wh33 (H35.ob (i := 0) rfl).cl)) (RL.st (vs := [(J 0), (J 0), (J 0), (J 0), (.string (⟨#[]⟩)), (J 0), (J 0), (J 0), (J 0), (J 0), (J 0), (J 0), (J 0), (J 0), (J 0), (J 0), (.slice none 0 0)]) (cs' := [(J 0), (J 0), (J 0), (J 0), (.string (⟨#[]⟩)), (J 0), (J 0), (J 0), (J 0), (J 0), (J 0), (J 0), (J 0), (J 0), (J 0), (J 0), (.slice none 0 0)]) Tryz.sizeOf33 (H35.ob (i := 0) rfl) rfl rfl rfl rfl rfl rfl ?_)))))
    intro w41 hz42 g43 o44
    have H45 : Sp [Af b10 33 [(J 0), (J 0), (J 0), (J 0), (.string (⟨#[]⟩)), (J 0), (J 0), (J 0), (J 0), (J 0), (J 0), (J 0), (J 0), (J 0), (J 0), (J 0), (.slice none 0 0)], Af b2 24 [(J k.view), (J k.normal), (J k.base), (.string (tx k.image)), (.slice A n c)], Bd w Bl] w41 := H35.setB (i := 0) rfl g43 o44 rfl
    have z46 := g43.size
    refine za (bF) rfl (RL.nil (thn.n (CW.ret (inB.r (thn.r (finQ.r (v := (.tuple #[(.agg ([(J 0), (J 0), (J 0), (J 0), (.string (⟨#[]⟩)), (J 0), (J 0), (J 0), (J 0), (J 0), (J 0), (J 0), (J 0), (J 0), (J 0), (J 0), (.slice none 0 0)]).toArray), bF])) (Cp rfl (Rv.cell rfl (Ak (cs := [(J 0), (J 0), (J 0), (J 0), (.string (⟨#[]⟩)), (J 0), (J 0), (J 0), (J 0), (J 0), (J 0), (J 0), (J 0), (J 0), (J 0), (J 0), (.slice none 0 0)]) wh33 (H45.ob (i := 0) rfl).cl)) (Rv.tmp rfl)) ?_))))))
    have H47 := H45.nil_ 31 11
    have hx : Bx k commit view base l = false := by
      unfold Bx Aq at *
      simp_all
      try omega
    have hy : Aa k commit view base l = ⟨0, 0, 0, 0, [], ⟨0, 0, 0, 0, ⟨0, 0, 0, 0, 0, 0, 0⟩⟩, []⟩ := by unfold Aa; rw [hx]; rfl
    exact ⟨none, 0, 0, by rw [hx, hy]; rfl, by rw [hy]; exact (H47.sel [0, 3] (by decide) rfl)⟩
   ·have hw37 := Bc hb40
    refine RL.nil ?_
    refine ⟨H35, ?_⟩
    refine zr 10 2047 rfl (by kernel_rfl) H35 (fun wq hq => Ex.not (b := true) rfl) (zr 11 4095 rfl (by kernel_rfl) H35 (fun wq hq => Be (v := bF) rfl rfl) (zr 12 8191 rfl (by kernel_rfl) H35 (fun wq hq => Au (v := bF) rfl) (zr 13 16383 rfl (by kernel_rfl) H35 (fun wq hq => Au (v := (J view)) rfl) (zr 14 32767 rfl (by kernel_rfl) H35 (fun wq hq => fa24_0 (b := ⟨b2, 0, none⟩) rfl rfl) (zr 15 65535 rfl (by kernel_rfl) H35 (fun wq hq => Ai rfl (Ba Cf (Ob.cell (v := (J k.view)) (hq.ob (i := 1) rfl) rfl))) (RA.one (i := 16) (by kernel_rfl) ?_))))))
    refine ⟨_, 131071, rfl, by kernel_rfl, ?_⟩
    refine RL.call Tryz.call87 (within_change _ view k.view 900000000) rfl rfl rfl ?_
    rintro _ _ ⟨rfl, rfl⟩
    rcases hb51 : (Aq view k.view 900000000) with _ | _
    ·skip
     refine RL.nil ?_
     refine ⟨H35, ?_⟩
     refine zr 17 262143 rfl (by kernel_rfl) H35 (fun wq hq => Ex.not (b := false) rfl) (zr 18 524287 rfl (by kernel_rfl) H35 (fun wq hq => Be (v := bT) rfl rfl) (zr 19 1048575 rfl (by kernel_rfl) H35 (fun wq hq => Ex.as (v := bT) rfl) (Bj (by kernel_rfl) (thn.n (Ab rfl (CW.seq (CW.region (zg rfl (Ai rfl (Ak (cs := [(J 0), (J 0), (J 0), (J 0), (.string (⟨#[]⟩)), (J 0), (J 0), (J 0), (J 0), (J 0), (J 0), (J 0), (J 0), (J 0), (J 0), (J 0), (.slice none 0 0)]) wh33 (H35.ob (i := 0) rfl).cl)) (RL.st (vs := [(J 0), (J 0), (J 0), (J 0), (.string (⟨#[]⟩)), (J 0), (J 0), (J 0), (J 0), (J 0), (J 0), (J 0), (J 0), (J 0), (J 0), (J 0), (.slice none 0 0)]) (cs' := [(J 0), (J 0), (J 0), (J 0), (.string (⟨#[]⟩)), (J 0), (J 0), (J 0), (J 0), (J 0), (J 0), (J 0), (J 0), (J 0), (J 0), (J 0), (.slice none 0 0)]) Tryz.sizeOf33 (H35.ob (i := 0) rfl) rfl rfl rfl rfl rfl rfl ?_)))))))))
     intro w52 hz53 g54 o55
     have H56 : Sp [Af b10 33 [(J 0), (J 0), (J 0), (J 0), (.string (⟨#[]⟩)), (J 0), (J 0), (J 0), (J 0), (J 0), (J 0), (J 0), (J 0), (J 0), (J 0), (J 0), (.slice none 0 0)], Af b2 24 [(J k.view), (J k.normal), (J k.base), (.string (tx k.image)), (.slice A n c)], Bd w Bl] w52 := H35.setB (i := 0) rfl g54 o55 rfl
     have z57 := g54.size
     refine za (bF) rfl (RL.nil (thn.n (CW.ret (inB.r (thn.r (finQ.r (v := (.tuple #[(.agg ([(J 0), (J 0), (J 0), (J 0), (.string (⟨#[]⟩)), (J 0), (J 0), (J 0), (J 0), (J 0), (J 0), (J 0), (J 0), (J 0), (J 0), (J 0), (.slice none 0 0)]).toArray), bF])) (Cp rfl (Rv.cell rfl (Ak (cs := [(J 0), (J 0), (J 0), (J 0), (.string (⟨#[]⟩)), (J 0), (J 0), (J 0), (J 0), (J 0), (J 0), (J 0), (J 0), (J 0), (J 0), (J 0), (.slice none 0 0)]) wh33 (H56.ob (i := 0) rfl).cl)) (Rv.tmp rfl)) ?_))))))
     have H58 := H56.nil_ 31 11
     have hx : Bx k commit view base l = false := by
       unfold Bx Aq at *
       simp_all
       try omega
     have hy : Aa k commit view base l = ⟨0, 0, 0, 0, [], ⟨0, 0, 0, 0, ⟨0, 0, 0, 0, 0, 0, 0⟩⟩, []⟩ := by unfold Aa; rw [hx]; rfl
     exact ⟨none, 0, 0, by rw [hx, hy]; rfl, by rw [hy]; exact (H58.sel [0, 3] (by decide) rfl)⟩
    ·have hw48 := Bc hb51
     refine RL.nil ?_
     refine ⟨H35, ?_⟩
     refine zr 17 262143 rfl (by kernel_rfl) H35 (fun wq hq => Ex.not (b := true) rfl) (zr 18 524287 rfl (by kernel_rfl) H35 (fun wq hq => Be (v := bF) rfl rfl) (zr 19 1048575 rfl (by kernel_rfl) H35 (fun wq hq => Ex.as (v := bF) rfl) (Bj (by kernel_rfl) (thn.n (Ag rfl (CW.seq (CW.region (zm (J base) rfl (zm (J commit) rfl (RL.call Tryz.call87 (within_change _ base 0 commit) rfl rfl rfl ?_))))))))))
     rintro _ _ ⟨rfl, rfl⟩
     rcases hb62 : (Aq base 0 commit) with _ | _
     ·skip
      refine zg rfl (Ex.not (b := false) rfl) (zm (bT) rfl (zo rfl (zo rfl (zo rfl (zo rfl (zT (bT) rfl (zm (bT) rfl (zo rfl (zo rfl (zo rfl ?_))))))))))
      refine zo rfl (zo rfl (zo rfl (zT (bT) rfl (za (bT) rfl (RL.nil (thn.n (Ab rfl (CW.seq (CW.region (zg rfl (Ai rfl (Ak (cs := [(J 0), (J 0), (J 0), (J 0), (.string (⟨#[]⟩)), (J 0), (J 0), (J 0), (J 0), (J 0), (J 0), (J 0), (J 0), (J 0), (J 0), (J 0), (.slice none 0 0)]) wh33 (H35.ob (i := 0) rfl).cl)) (RL.st (vs := [(J 0), (J 0), (J 0), (J 0), (.string (⟨#[]⟩)), (J 0), (J 0), (J 0), (J 0), (J 0), (J 0), (J 0), (J 0), (J 0), (J 0), (J 0), (.slice none 0 0)]) (cs' := [(J 0), (J 0), (J 0), (J 0), (.string (⟨#[]⟩)), (J 0), (J 0), (J 0), (J 0), (J 0), (J 0), (J 0), (J 0), (J 0), (J 0), (J 0), (.slice none 0 0)]) Tryz.sizeOf33 (H35.ob (i := 0) rfl) rfl rfl rfl rfl rfl rfl ?_)))))))))))
      intro w63 hz65 g66 o67
      have H68 : Sp [Af b10 33 [(J 0), (J 0), (J 0), (J 0), (.string (⟨#[]⟩)), (J 0), (J 0), (J 0), (J 0), (J 0), (J 0), (J 0), (J 0), (J 0), (J 0), (J 0), (.slice none 0 0)], Af b2 24 [(J k.view), (J k.normal), (J k.base), (.string (tx k.image)), (.slice A n c)], Bd w Bl] w63 := H35.setB (i := 0) rfl g66 o67 rfl
      have z69 := g66.size
      refine za (bF) rfl (RL.nil (thn.n (CW.ret (inB.r (thn.r (finQ.r (v := (.tuple #[(.agg ([(J 0), (J 0), (J 0), (J 0), (.string (⟨#[]⟩)), (J 0), (J 0), (J 0), (J 0), (J 0), (J 0), (J 0), (J 0), (J 0), (J 0), (J 0), (.slice none 0 0)]).toArray), bF])) (Cp rfl (Rv.cell rfl (Ak (cs := [(J 0), (J 0), (J 0), (J 0), (.string (⟨#[]⟩)), (J 0), (J 0), (J 0), (J 0), (J 0), (J 0), (J 0), (J 0), (J 0), (J 0), (J 0), (.slice none 0 0)]) wh33 (H68.ob (i := 0) rfl).cl)) (Rv.tmp rfl)) ?_))))))
      have H70 := H68.nil_ 31 11
      have hx : Bx k commit view base l = false := by
        unfold Bx Aq at *
        simp_all
        try omega
      have hy : Aa k commit view base l = ⟨0, 0, 0, 0, [], ⟨0, 0, 0, 0, ⟨0, 0, 0, 0, 0, 0, 0⟩⟩, []⟩ := by unfold Aa; rw [hx]; rfl
      exact ⟨none, 0, 0, by rw [hx, hy]; rfl, by rw [hy]; exact (H70.sel [0, 3] (by decide) rfl)⟩
     ·have hw59 := Bc hb62
      refine zg rfl (Ex.not (b := true) rfl) (zm (bF) rfl (zm (.slice A2 n2 c2) rfl (zm (J base) rfl (RL.call Tryz.call88 (crow _ _ l A2 n2 c2 base (hr2.st0 (H35.fix (i := 2) rfl)) (by omega) (by first | rfl | assumption | omega) (by omega)) rfl rfl rfl ?_))))
      rintro _ w71 ⟨rfl, g72⟩
      have H73 := H35.grow g72
      have z74 := g72.size
      rcases hb75 : (follB l base) with _ | _
      ·skip
       refine zg rfl (Ex.not (b := false) rfl) (zF (bT) rfl (zm (bT) rfl (zo rfl (zo rfl (zo rfl (zo rfl (zo rfl (zo rfl (zT (bT) rfl (za (bT) rfl ?_))))))))))
       refine RL.nil (thn.n (Ab rfl (CW.seq (CW.region (zg rfl (Ai rfl (Ak (cs := [(J 0), (J 0), (J 0), (J 0), (.string (⟨#[]⟩)), (J 0), (J 0), (J 0), (J 0), (J 0), (J 0), (J 0), (J 0), (J 0), (J 0), (J 0), (.slice none 0 0)]) wh33 (H73.ob (i := 0) rfl).cl)) (RL.st (vs := [(J 0), (J 0), (J 0), (J 0), (.string (⟨#[]⟩)), (J 0), (J 0), (J 0), (J 0), (J 0), (J 0), (J 0), (J 0), (J 0), (J 0), (J 0), (.slice none 0 0)]) (cs' := [(J 0), (J 0), (J 0), (J 0), (.string (⟨#[]⟩)), (J 0), (J 0), (J 0), (J 0), (J 0), (J 0), (J 0), (J 0), (J 0), (J 0), (J 0), (.slice none 0 0)]) Tryz.sizeOf33 (H73.ob (i := 0) rfl) rfl rfl rfl rfl rfl rfl ?_))))))
       intro w76 hz77 g78 o79
       have H80 : Sp [Af b10 33 [(J 0), (J 0), (J 0), (J 0), (.string (⟨#[]⟩)), (J 0), (J 0), (J 0), (J 0), (J 0), (J 0), (J 0), (J 0), (J 0), (J 0), (J 0), (.slice none 0 0)], Af b2 24 [(J k.view), (J k.normal), (J k.base), (.string (tx k.image)), (.slice A n c)], Bd w Bl] w76 := H73.setB (i := 0) rfl g78 o79 rfl
       have z81 := g78.size
       refine za (bF) rfl (RL.nil (thn.n (CW.ret (inB.r (thn.r (finQ.r (v := (.tuple #[(.agg ([(J 0), (J 0), (J 0), (J 0), (.string (⟨#[]⟩)), (J 0), (J 0), (J 0), (J 0), (J 0), (J 0), (J 0), (J 0), (J 0), (J 0), (J 0), (.slice none 0 0)]).toArray), bF])) (Cp rfl (Rv.cell rfl (Ak (cs := [(J 0), (J 0), (J 0), (J 0), (.string (⟨#[]⟩)), (J 0), (J 0), (J 0), (J 0), (J 0), (J 0), (J 0), (J 0), (J 0), (J 0), (J 0), (.slice none 0 0)]) wh33 (H80.ob (i := 0) rfl).cl)) (Rv.tmp rfl)) ?_))))))
       have H82 := H80.nil_ 31 11
       have hx : Bx k commit view base l = false := by
         unfold Bx Aq at *
         simp_all
         try omega
       have hy : Aa k commit view base l = ⟨0, 0, 0, 0, [], ⟨0, 0, 0, 0, ⟨0, 0, 0, 0, 0, 0, 0⟩⟩, []⟩ := by unfold Aa; rw [hx]; rfl
       exact ⟨none, 0, 0, by rw [hx, hy]; rfl, by rw [hy]; exact (H82.sel [0, 3] (by decide) rfl)⟩
      ·skip
       refine zg rfl (Ex.not (b := true) rfl) (zF (bF) rfl (zm (bF) rfl (zm (.slice A2 n2 c2) rfl (zg rfl (Ex.len Tryz.underlying22 rfl) (zm (J commit) rfl (zm (J base) rfl ?_))))))
       have hwb83 : 0 ≤ base ∧ base ≤ commit := Bc (by assumption)
       refine zg rfl (Ci (r := commit - base) rfl rfl (Dd (by omega) (by omega))) ?_
       refine zc (((n2 : Nat) : Int) < (commit - base : Int)) rfl (fun r hr => Ex.lt rfl rfl hr) (fun h84 => ?_) (fun h84 => ?_)
       ·skip
        refine zF (bT) rfl (za (bT) rfl (RL.nil (thn.n (Ab rfl (CW.seq (CW.region (zg rfl (Ai rfl (Ak (cs := [(J 0), (J 0), (J 0), (J 0), (.string (⟨#[]⟩)), (J 0), (J 0), (J 0), (J 0), (J 0), (J 0), (J 0), (J 0), (J 0), (J 0), (J 0), (.slice none 0 0)]) wh33 (H73.ob (i := 0) rfl).cl)) (RL.st (vs := [(J 0), (J 0), (J 0), (J 0), (.string (⟨#[]⟩)), (J 0), (J 0), (J 0), (J 0), (J 0), (J 0), (J 0), (J 0), (J 0), (J 0), (J 0), (.slice none 0 0)]) (cs' := [(J 0), (J 0), (J 0), (J 0), (.string (⟨#[]⟩)), (J 0), (J 0), (J 0), (J 0), (J 0), (J 0), (J 0), (J 0), (J 0), (J 0), (J 0), (.slice none 0 0)]) Tryz.sizeOf33 (H73.ob (i := 0) rfl) rfl rfl rfl rfl rfl rfl ?_))))))))
        intro w85 hz86 g87 o88
        have H89 : Sp [Af b10 33 [(J 0), (J 0), (J 0), (J 0), (.string (⟨#[]⟩)), (J 0), (J 0), (J 0), (J 0), (J 0), (J 0), (J 0), (J 0), (J 0), (J 0), (J 0), (.slice none 0 0)], Af b2 24 [(J k.view), (J k.normal), (J k.base), (.string (tx k.image)), (.slice A n c)], Bd w Bl] w85 := H73.setB (i := 0) rfl g87 o88 rfl
        have z90 := g87.size
        refine za (bF) rfl (RL.nil (thn.n (CW.ret (inB.r (thn.r (finQ.r (v := (.tuple #[(.agg ([(J 0), (J 0), (J 0), (J 0), (.string (⟨#[]⟩)), (J 0), (J 0), (J 0), (J 0), (J 0), (J 0), (J 0), (J 0), (J 0), (J 0), (J 0), (.slice none 0 0)]).toArray), bF])) (Cp rfl (Rv.cell rfl (Ak (cs := [(J 0), (J 0), (J 0), (J 0), (.string (⟨#[]⟩)), (J 0), (J 0), (J 0), (J 0), (J 0), (J 0), (J 0), (J 0), (J 0), (J 0), (J 0), (.slice none 0 0)]) wh33 (H89.ob (i := 0) rfl).cl)) (Rv.tmp rfl)) ?_))))))
        have H91 := H89.nil_ 31 11
        have hx : Bx k commit view base l = false := by
          unfold Bx Aq at *
          simp_all
          try omega
        have hy : Aa k commit view base l = ⟨0, 0, 0, 0, [], ⟨0, 0, 0, 0, ⟨0, 0, 0, 0, 0, 0, 0⟩⟩, []⟩ := by unfold Aa; rw [hx]; rfl
        exact ⟨none, 0, 0, by rw [hx, hy]; rfl, by rw [hy]; exact (H91.sel [0, 3] (by decide) rfl)⟩
       ·skip
        refine zF (bF) rfl (za (bF) rfl (RL.nil (thn.n (Ag rfl (CW.skip (inB.n (thn.n (CW.seq (CW.region ?_)))))))))
        have hwb92 : 0 ≤ base ∧ base ≤ commit := Bc (by assumption)
        refine zm (J view) rfl (zm (J commit) rfl (zm (.slice A2 n2 c2) rfl (zm (J commit) rfl (zm (J base) rfl (zg rfl (Ci (r := commit - base) rfl rfl (Dd (by omega) (by omega))) (RL.slR (i := (commit - base).toNat) Tryz.underlying22 Tryz.sizeOf31 (hr2.st0 (H73.fix (i := 2) rfl)) rfl rfl (by omega) (by omega) (by simp only [As, Av, At, Ap, An, Bb, List.length_append, List.length_cons, List.length_nil, List.length_take, List.length_drop, List.length_map, Cy, enc8, Bq, Bt, Ca]; omega) rfl rfl ?_))))))
        intro A93 r94
        refine RL.call Tryz.call89 (cloneEnt _ ((l).drop ((commit - base).toNat)) _ _ _ _ (ents_drop _ _ ▸ r94) (by (try simp only [List.length_append, List.length_cons, List.length_nil, List.length_take, List.length_drop]); all_goals omega) (by omega)) rfl rfl rfl ?_
        rintro _ w98 ⟨A95, c96, rfl, g99, ow97⟩
        have H100 : Sp [Ar 31 11 A95 (n2 - ((commit - base).toNat)) c96 (ents ((l).drop ((commit - base).toNat))), Af b10 33 [(J 0), (J 0), (J 0), (J 0), (.string (⟨#[]⟩)), (J 0), (J 0), (J 0), (J 0), (J 0), (J 0), (J 0), (J 0), (J 0), (J 0), (J 0), (.slice none 0 0)], Af b2 24 [(J k.view), (J k.normal), (J k.base), (.string (tx k.image)), (.slice A n c)], Bd w Bl] w98 := H73.newO g99 ow97 (by simp only [As, Av, At, Ap, An, Bb, List.length_append, List.length_cons, List.length_nil, List.length_take, List.length_drop, List.length_map, Cy, enc8, Bq, Bt, Ca]; omega) (Nat.le_refl _)
        have z101 := g99.size
        refine zg rfl (Cc (cs := [(J 3), (J view), (J commit), (J 0), (.string (⟨#[]⟩)), (J 0), (J 0), (J 0), (J 0), (J 0), (J 0), (J 0), (J 0), (J 0), (J 0), (J 0), (.slice A95 (n2 - ((commit - base).toNat)) c96)]) bd33 rfl) (RL.st (vs := [(J 3), (J view), (J commit), (J 0), (.string (⟨#[]⟩)), (J 0), (J 0), (J 0), (J 0), (J 0), (J 0), (J 0), (J 0), (J 0), (J 0), (J 0), (.slice A95 (n2 - ((commit - base).toNat)) c96)]) (cs' := [(J 3), (J view), (J commit), (J 0), (.string (⟨#[]⟩)), (J 0), (J 0), (J 0), (J 0), (J 0), (J 0), (J 0), (J 0), (J 0), (J 0), (J 0), (.slice A95 (n2 - ((commit - base).toNat)) c96)]) Tryz.sizeOf33 (H100.ob (i := 1) rfl) rfl rfl rfl rfl rfl rfl ?_)
        intro w102 hz103 g104 o105
        have H106 : Sp [Ar 31 11 A95 (n2 - ((commit - base).toNat)) c96 (ents ((l).drop ((commit - base).toNat))), Af b10 33 [(J 3), (J view), (J commit), (J 0), (.string (⟨#[]⟩)), (J 0), (J 0), (J 0), (J 0), (J 0), (J 0), (J 0), (J 0), (J 0), (J 0), (J 0), (.slice A95 (n2 - ((commit - base).toNat)) c96)], Af b2 24 [(J k.view), (J k.normal), (J k.base), (.string (tx k.image)), (.slice A n c)], Bd w Bl] w102 := H100.setB (i := 1) rfl g104 o105 rfl
        have z107 := g104.size
        refine za (bT) rfl (RL.nil (thn.n (CW.ret (finQ.r (v := (.tuple #[(.agg ([(J 3), (J view), (J commit), (J 0), (.string (⟨#[]⟩)), (J 0), (J 0), (J 0), (J 0), (J 0), (J 0), (J 0), (J 0), (J 0), (J 0), (J 0), (.slice A95 (n2 - ((commit - base).toNat)) c96)]).toArray), bT])) (Cp rfl (Rv.cell rfl (Ak (cs := [(J 3), (J view), (J commit), (J 0), (.string (⟨#[]⟩)), (J 0), (J 0), (J 0), (J 0), (J 0), (J 0), (J 0), (J 0), (J 0), (J 0), (J 0), (.slice A95 (n2 - ((commit - base).toNat)) c96)]) wh33 (H106.ob (i := 1) rfl).cl)) (Rv.tmp rfl)) ?_))))
        have hx : Bx k commit view base l = true := by
          unfold Bx Aq at *
          simp_all
          try omega
        have hy : Aa k commit view base l = ⟨3, view, commit, 0, [], ⟨0, 0, 0, 0, ⟨0, 0, 0, 0, 0, 0, 0⟩⟩, l.drop (commit - base).toNat⟩ := by unfold Aa; rw [if_pos hx]
        exact ⟨_, _, _, by rw [hx, hy]; rfl, by rw [hy]; exact (H106.sel [0, 3] (by decide) rfl)⟩
set_option maxHeartbeats 1000000 in
set_option maxRecDepth 20000 in
theorem row17_1 (w : World)  : Ret Tryz.prog 93 [(J 1)] w (fun v w' => ∃ (A' : Option Addr) (c' : Nat), v = .slice A' 1 c' ∧ Sp ([Ar 31 11 A' 1 c' (ents tl1)] ++ [Bd w Bl]) w') := by
  have H0 : Sp [Bd w Bl] w := Bn w
  refine Ret.body Tryz.func93 rfl rfl rfl ?_
  refine CW.seq (CW.region (za (.slice none 0 0) rfl (RL.nil (thn.n (CW.seq (CW.region (za (.slice none 0 0) rfl (RL.nil (thn.n (CW.seq (CW.seq (CW.region (za (J 1) rfl (RL.nil (thn.n (CW.block (CW.unroll (Cg (CW.seq (CW.seq (CW.region ?_)))))))))))))))))))))
  refine zm (J 1) rfl (zm (J 1) rfl (zg rfl (Ex.le (r := true) rfl rfl (by decide)) (RL.nil (thn.n (Ab rfl (CW.skip (thn.n (CW.seq (CW.block (CW.region (zm (.slice none 0 0) rfl (zm (J 1) rfl (zg rfl (Cc (cs := [(J 1), (J 0), (J 0), (J 0), (J 0), (J 0), (J 0), (J 0), (J 0), (J 0), (J 0)]) bd31 rfl) (RL.bs (cs := [(J 1), (J 0), (J 0), (J 0), (J 0), (J 0), (J 0), (J 0), (J 0), (J 0), (J 0)]) Tryz.underlying22 Tryz.sizeOf31 ze22 rfl rfl rfl (by decide) rfl rfl rfl ?_))))))))))))))
  intro w1 b2 hb3 hz4 g5 o6
  have H7 := H0.newB g5 o6 (by omega)
  have z8 := g5.size
  have H9 := H7.nil_ 31 11
  refine RL.apW (base := 0) (xss := (ents [])) (yss := (ents ([(⟨1, 0, 0, 0, ⟨0, 0, 0, 0, 0, 0, 0⟩⟩ : Entry)]))) el22 (H9.wr (i := 0) rfl) rfl (Da (H9.ob (i := 1) rfl) rfl) rfl (by simp only [As, Av, At, Ap, An, Bb, List.length_append, List.length_cons, List.length_nil, List.length_take, List.length_drop, List.length_map, Cy, enc8, Bq, Bt, Ca]; try omega) (ents_one _) (by omega) (by omega) (by omega) rfl rfl ?_
  intro w10 A11 c12 g13 ow14 nx15
  have H16 : Sp [Ar 31 11 A11 (0 + 1) c12 (ents ([(⟨1, 0, 0, 0, ⟨0, 0, 0, 0, 0, 0, 0⟩⟩ : Entry)])), Af b2 31 [(J 1), (J 0), (J 0), (J 0), (J 0), (J 0), (J 0), (J 0), (J 0), (J 0), (J 0)], Bd w Bl] w10 := H9.setR (i := 0) rfl g13 ((List.nil_append _) ▸ ow14) nx15 rfl
  have z17 := g13.size
  refine za (.slice A11 (0 + 1) c12) rfl (RL.nil (inB.n (thn.n (CW.region (zm (J 1) rfl (zg rfl (Ex.add (r := 2) rfl rfl rfl) (za (J 2) rfl (RL.nil (thn.n (Cg (CW.seq (CW.seq (CW.region (zm (J 2) rfl (zm (J 1) rfl ?_)))))))))))))))
  refine zg rfl (Ex.le (r := false) rfl rfl (by decide)) (RL.nil (thn.n (Ag rfl (CW.exit (thn.x (thn.x (Bf (thn.n (CW.seq (CW.region (zm (.slice A11 (0 + 1) c12) rfl (za (.slice A11 (0 + 1) c12) rfl (RL.nil (thn.n (CW.ret (finQ.r (v := (.slice A11 (0 + 1) c12)) (Ax rfl rfl) ?_))))))))))))))))
  exact ⟨_, _, rfl, (H16.sel [0, 2] (by decide) rfl)⟩
set_option maxHeartbeats 1000000 in
set_option maxRecDepth 20000 in
theorem row17_3 (w : World)  : Ret Tryz.prog 93 [(J 3)] w (fun v w' => ∃ (A' : Option Addr) (c' : Nat), v = .slice A' 3 c' ∧ Sp ([Ar 31 11 A' 3 c' (ents tl3)] ++ [Bd w Bl]) w') := by
  have H0 : Sp [Bd w Bl] w := Bn w
  refine Ret.body Tryz.func93 rfl rfl rfl ?_
  refine CW.seq (CW.region (za (.slice none 0 0) rfl (RL.nil (thn.n (CW.seq (CW.region (za (.slice none 0 0) rfl (RL.nil (thn.n (CW.seq (CW.seq (CW.region (za (J 1) rfl (RL.nil (thn.n (CW.block (CW.unroll (Cg (CW.seq (CW.seq (CW.region ?_)))))))))))))))))))))
  refine zm (J 1) rfl (zm (J 3) rfl (zg rfl (Ex.le (r := true) rfl rfl (by decide)) (RL.nil (thn.n (Ab rfl (CW.skip (thn.n (CW.seq (CW.block (CW.region (zm (.slice none 0 0) rfl (zm (J 1) rfl (zg rfl (Cc (cs := [(J 1), (J 0), (J 0), (J 0), (J 0), (J 0), (J 0), (J 0), (J 0), (J 0), (J 0)]) bd31 rfl) (RL.bs (cs := [(J 1), (J 0), (J 0), (J 0), (J 0), (J 0), (J 0), (J 0), (J 0), (J 0), (J 0)]) Tryz.underlying22 Tryz.sizeOf31 ze22 rfl rfl rfl (by decide) rfl rfl rfl ?_))))))))))))))
  intro w1 b2 hb3 hz4 g5 o6
  have H7 := H0.newB g5 o6 (by omega)
  have z8 := g5.size
  have H9 := H7.nil_ 31 11
  refine RL.apW (base := 0) (xss := (ents [])) (yss := (ents ([(⟨1, 0, 0, 0, ⟨0, 0, 0, 0, 0, 0, 0⟩⟩ : Entry)]))) el22 (H9.wr (i := 0) rfl) rfl (Da (H9.ob (i := 1) rfl) rfl) rfl (by simp only [As, Av, At, Ap, An, Bb, List.length_append, List.length_cons, List.length_nil, List.length_take, List.length_drop, List.length_map, Cy, enc8, Bq, Bt, Ca]; try omega) (ents_one _) (by omega) (by omega) (by omega) rfl rfl ?_
  intro w10 A11 c12 g13 ow14 nx15
  have H16 : Sp [Ar 31 11 A11 (0 + 1) c12 (ents ([(⟨1, 0, 0, 0, ⟨0, 0, 0, 0, 0, 0, 0⟩⟩ : Entry)])), Af b2 31 [(J 1), (J 0), (J 0), (J 0), (J 0), (J 0), (J 0), (J 0), (J 0), (J 0), (J 0)], Bd w Bl] w10 := H9.setR (i := 0) rfl g13 ((List.nil_append _) ▸ ow14) nx15 rfl
  have z17 := g13.size
  refine za (.slice A11 (0 + 1) c12) rfl (RL.nil (inB.n (thn.n (CW.region (zm (J 1) rfl (zg rfl (Ex.add (r := 2) rfl rfl rfl) (za (J 2) rfl (RL.nil (thn.n (Cg (CW.seq (CW.seq (CW.region (zm (J 2) rfl (zm (J 3) rfl ?_)))))))))))))))
  refine zg rfl (Ex.le (r := true) rfl rfl (by decide)) (RL.nil (thn.n (Ab rfl (CW.skip (thn.n (CW.seq (CW.block (CW.region (zm (.slice A11 (0 + 1) c12) rfl (zm (J 2) rfl (zg rfl (Cc (cs := [(J 2), (J 0), (J 0), (J 0), (J 0), (J 0), (J 0), (J 0), (J 0), (J 0), (J 0)]) bd31 rfl) (RL.bs (cs := [(J 2), (J 0), (J 0), (J 0), (J 0), (J 0), (J 0), (J 0), (J 0), (J 0), (J 0)]) Tryz.underlying22 Tryz.sizeOf31 ze22 rfl rfl rfl (by decide) rfl rfl rfl ?_))))))))))))
  intro w18 b19 hb20 hz21 g22 o23
  have H24 := H16.newB g22 o23 (by omega)
  have z25 := g22.size
  refine RL.apW (base := 0) (xss := (ents ([(⟨1, 0, 0, 0, ⟨0, 0, 0, 0, 0, 0, 0⟩⟩ : Entry)]))) (yss := (ents ([(⟨2, 0, 0, 0, ⟨0, 0, 0, 0, 0, 0, 0⟩⟩ : Entry)]))) el22 (H24.wr (i := 1) rfl) rfl (Da (H24.ob (i := 0) rfl) rfl) rfl (by simp only [As, Av, At, Ap, An, Bb, List.length_append, List.length_cons, List.length_nil, List.length_take, List.length_drop, List.length_map, Cy, enc8, Bq, Bt, Ca]; try omega) (ents_one _) (by omega) (by omega) (by omega) rfl rfl ?_
  intro w26 A27 c28 g29 ow30 nx31
  have H32 : Sp [Af b19 31 [(J 2), (J 0), (J 0), (J 0), (J 0), (J 0), (J 0), (J 0), (J 0), (J 0), (J 0)], Ar 31 11 A27 ((0 + 1) + 1) c28 (ents ([(⟨1, 0, 0, 0, ⟨0, 0, 0, 0, 0, 0, 0⟩⟩ : Entry)] ++ [(⟨2, 0, 0, 0, ⟨0, 0, 0, 0, 0, 0, 0⟩⟩ : Entry)])), Af b2 31 [(J 1), (J 0), (J 0), (J 0), (J 0), (J 0), (J 0), (J 0), (J 0), (J 0), (J 0)], Bd w Bl] w26 := H24.setR (i := 1) rfl g29 ((ents_app _ _).symm ▸ ow30) nx31 rfl
  have z33 := g29.size
  refine za (.slice A27 ((0 + 1) + 1) c28) rfl (RL.nil (inB.n (thn.n (CW.region (zm (J 2) rfl (zg rfl (Ex.add (r := 3) rfl rfl rfl) (za (J 3) rfl (RL.nil (thn.n (Cg (CW.seq (CW.seq (CW.region (zm (J 3) rfl (zm (J 3) rfl ?_)))))))))))))))
  refine zg rfl (Ex.le (r := true) rfl rfl (by decide)) (RL.nil (thn.n (Ab rfl (CW.skip (thn.n (CW.seq (CW.block (CW.region (zm (.slice A27 ((0 + 1) + 1) c28) rfl (zm (J 3) rfl (zg rfl (Cc (cs := [(J 3), (J 0), (J 0), (J 0), (J 0), (J 0), (J 0), (J 0), (J 0), (J 0), (J 0)]) bd31 rfl) (RL.bs (cs := [(J 3), (J 0), (J 0), (J 0), (J 0), (J 0), (J 0), (J 0), (J 0), (J 0), (J 0)]) Tryz.underlying22 Tryz.sizeOf31 ze22 rfl rfl rfl (by decide) rfl rfl rfl ?_))))))))))))
  intro w34 b35 hb36 hz37 g38 o39
  have H40 := H32.newB g38 o39 (by omega)
  have z41 := g38.size
  refine RL.apW (base := 0) (xss := (ents ([(⟨1, 0, 0, 0, ⟨0, 0, 0, 0, 0, 0, 0⟩⟩ : Entry)] ++ [(⟨2, 0, 0, 0, ⟨0, 0, 0, 0, 0, 0, 0⟩⟩ : Entry)]))) (yss := (ents ([(⟨3, 0, 0, 0, ⟨0, 0, 0, 0, 0, 0, 0⟩⟩ : Entry)]))) el22 (H40.wr (i := 2) rfl) rfl (Da (H40.ob (i := 0) rfl) rfl) rfl (by simp only [As, Av, At, Ap, An, Bb, List.length_append, List.length_cons, List.length_nil, List.length_take, List.length_drop, List.length_map, Cy, enc8, Bq, Bt, Ca]; try omega) (ents_one _) (by omega) (by omega) (by omega) rfl rfl ?_
  intro w42 A43 c44 g45 ow46 nx47
  have H48 : Sp [Af b35 31 [(J 3), (J 0), (J 0), (J 0), (J 0), (J 0), (J 0), (J 0), (J 0), (J 0), (J 0)], Af b19 31 [(J 2), (J 0), (J 0), (J 0), (J 0), (J 0), (J 0), (J 0), (J 0), (J 0), (J 0)], Ar 31 11 A43 (((0 + 1) + 1) + 1) c44 (ents ([(⟨1, 0, 0, 0, ⟨0, 0, 0, 0, 0, 0, 0⟩⟩ : Entry)] ++ [(⟨2, 0, 0, 0, ⟨0, 0, 0, 0, 0, 0, 0⟩⟩ : Entry)] ++ [(⟨3, 0, 0, 0, ⟨0, 0, 0, 0, 0, 0, 0⟩⟩ : Entry)])), Af b2 31 [(J 1), (J 0), (J 0), (J 0), (J 0), (J 0), (J 0), (J 0), (J 0), (J 0), (J 0)], Bd w Bl] w42 := H40.setR (i := 2) rfl g45 ((ents_app _ _).symm ▸ ow46) nx47 rfl
  have z49 := g45.size
  refine za (.slice A43 (((0 + 1) + 1) + 1) c44) rfl (RL.nil (inB.n (thn.n (CW.region (zm (J 3) rfl (zg rfl (Ex.add (r := 4) rfl rfl rfl) (za (J 4) rfl (RL.nil (thn.n (Cg (CW.seq (CW.seq (CW.region (zm (J 4) rfl (zm (J 3) rfl ?_)))))))))))))))
  refine zg rfl (Ex.le (r := false) rfl rfl (by decide)) (RL.nil (thn.n (Ag rfl (CW.exit (thn.x (thn.x (Bf (thn.n (CW.seq (CW.region (zm (.slice A43 (((0 + 1) + 1) + 1) c44) rfl (za (.slice A43 (((0 + 1) + 1) + 1) c44) rfl (RL.nil (thn.n (CW.ret (finQ.r (v := (.slice A43 (((0 + 1) + 1) + 1) c44)) (Ax rfl rfl) ?_))))))))))))))))
  exact ⟨_, _, rfl, (H48.sel [2, 4] (by decide) rfl)⟩
set_option maxHeartbeats 1000000 in
set_option maxRecDepth 20000 in
theorem row17_4 (w : World)  : Ret Tryz.prog 93 [(J 4)] w (fun v w' => ∃ (A' : Option Addr) (c' : Nat), v = .slice A' 4 c' ∧ Sp ([Ar 31 11 A' 4 c' (ents By)] ++ [Bd w Bl]) w') := by
  have H0 : Sp [Bd w Bl] w := Bn w
  refine Ret.body Tryz.func93 rfl rfl rfl ?_
  refine CW.seq (CW.region (za (.slice none 0 0) rfl (RL.nil (thn.n (CW.seq (CW.region (za (.slice none 0 0) rfl (RL.nil (thn.n (CW.seq (CW.seq (CW.region (za (J 1) rfl (RL.nil (thn.n (CW.block (CW.unroll (Cg (CW.seq (CW.seq (CW.region ?_)))))))))))))))))))))
  refine zm (J 1) rfl (zm (J 4) rfl (zg rfl (Ex.le (r := true) rfl rfl (by decide)) (RL.nil (thn.n (Ab rfl (CW.skip (thn.n (CW.seq (CW.block (CW.region (zm (.slice none 0 0) rfl (zm (J 1) rfl (zg rfl (Cc (cs := [(J 1), (J 0), (J 0), (J 0), (J 0), (J 0), (J 0), (J 0), (J 0), (J 0), (J 0)]) bd31 rfl) (RL.bs (cs := [(J 1), (J 0), (J 0), (J 0), (J 0), (J 0), (J 0), (J 0), (J 0), (J 0), (J 0)]) Tryz.underlying22 Tryz.sizeOf31 ze22 rfl rfl rfl (by decide) rfl rfl rfl ?_))))))))))))))
  intro w1 b2 hb3 hz4 g5 o6
  have H7 := H0.newB g5 o6 (by omega)
  have z8 := g5.size
  have H9 := H7.nil_ 31 11
  refine RL.apW (base := 0) (xss := (ents [])) (yss := (ents ([(⟨1, 0, 0, 0, ⟨0, 0, 0, 0, 0, 0, 0⟩⟩ : Entry)]))) el22 (H9.wr (i := 0) rfl) rfl (Da (H9.ob (i := 1) rfl) rfl) rfl (by simp only [As, Av, At, Ap, An, Bb, List.length_append, List.length_cons, List.length_nil, List.length_take, List.length_drop, List.length_map, Cy, enc8, Bq, Bt, Ca]; try omega) (ents_one _) (by omega) (by omega) (by omega) rfl rfl ?_
  intro w10 A11 c12 g13 ow14 nx15
  have H16 : Sp [Ar 31 11 A11 (0 + 1) c12 (ents ([(⟨1, 0, 0, 0, ⟨0, 0, 0, 0, 0, 0, 0⟩⟩ : Entry)])), Af b2 31 [(J 1), (J 0), (J 0), (J 0), (J 0), (J 0), (J 0), (J 0), (J 0), (J 0), (J 0)], Bd w Bl] w10 := H9.setR (i := 0) rfl g13 ((List.nil_append _) ▸ ow14) nx15 rfl
  have z17 := g13.size
  refine za (.slice A11 (0 + 1) c12) rfl (RL.nil (inB.n (thn.n (CW.region (zm (J 1) rfl (zg rfl (Ex.add (r := 2) rfl rfl rfl) (za (J 2) rfl (RL.nil (thn.n (Cg (CW.seq (CW.seq (CW.region (zm (J 2) rfl (zm (J 4) rfl ?_)))))))))))))))
  refine zg rfl (Ex.le (r := true) rfl rfl (by decide)) (RL.nil (thn.n (Ab rfl (CW.skip (thn.n (CW.seq (CW.block (CW.region (zm (.slice A11 (0 + 1) c12) rfl (zm (J 2) rfl (zg rfl (Cc (cs := [(J 2), (J 0), (J 0), (J 0), (J 0), (J 0), (J 0), (J 0), (J 0), (J 0), (J 0)]) bd31 rfl) (RL.bs (cs := [(J 2), (J 0), (J 0), (J 0), (J 0), (J 0), (J 0), (J 0), (J 0), (J 0), (J 0)]) Tryz.underlying22 Tryz.sizeOf31 ze22 rfl rfl rfl (by decide) rfl rfl rfl ?_))))))))))))
  intro w18 b19 hb20 hz21 g22 o23
  have H24 := H16.newB g22 o23 (by omega)
  have z25 := g22.size
  refine RL.apW (base := 0) (xss := (ents ([(⟨1, 0, 0, 0, ⟨0, 0, 0, 0, 0, 0, 0⟩⟩ : Entry)]))) (yss := (ents ([(⟨2, 0, 0, 0, ⟨0, 0, 0, 0, 0, 0, 0⟩⟩ : Entry)]))) el22 (H24.wr (i := 1) rfl) rfl (Da (H24.ob (i := 0) rfl) rfl) rfl (by simp only [As, Av, At, Ap, An, Bb, List.length_append, List.length_cons, List.length_nil, List.length_take, List.length_drop, List.length_map, Cy, enc8, Bq, Bt, Ca]; try omega) (ents_one _) (by omega) (by omega) (by omega) rfl rfl ?_
  intro w26 A27 c28 g29 ow30 nx31
  have H32 : Sp [Af b19 31 [(J 2), (J 0), (J 0), (J 0), (J 0), (J 0), (J 0), (J 0), (J 0), (J 0), (J 0)], Ar 31 11 A27 ((0 + 1) + 1) c28 (ents ([(⟨1, 0, 0, 0, ⟨0, 0, 0, 0, 0, 0, 0⟩⟩ : Entry)] ++ [(⟨2, 0, 0, 0, ⟨0, 0, 0, 0, 0, 0, 0⟩⟩ : Entry)])), Af b2 31 [(J 1), (J 0), (J 0), (J 0), (J 0), (J 0), (J 0), (J 0), (J 0), (J 0), (J 0)], Bd w Bl] w26 := H24.setR (i := 1) rfl g29 ((ents_app _ _).symm ▸ ow30) nx31 rfl
  have z33 := g29.size
  refine za (.slice A27 ((0 + 1) + 1) c28) rfl (RL.nil (inB.n (thn.n (CW.region (zm (J 2) rfl (zg rfl (Ex.add (r := 3) rfl rfl rfl) (za (J 3) rfl (RL.nil (thn.n (Cg (CW.seq (CW.seq (CW.region (zm (J 3) rfl (zm (J 4) rfl ?_)))))))))))))))
  refine zg rfl (Ex.le (r := true) rfl rfl (by decide)) (RL.nil (thn.n (Ab rfl (CW.skip (thn.n (CW.seq (CW.block (CW.region (zm (.slice A27 ((0 + 1) + 1) c28) rfl (zm (J 3) rfl (zg rfl (Cc (cs := [(J 3), (J 0), (J 0), (J 0), (J 0), (J 0), (J 0), (J 0), (J 0), (J 0), (J 0)]) bd31 rfl) (RL.bs (cs := [(J 3), (J 0), (J 0), (J 0), (J 0), (J 0), (J 0), (J 0), (J 0), (J 0), (J 0)]) Tryz.underlying22 Tryz.sizeOf31 ze22 rfl rfl rfl (by decide) rfl rfl rfl ?_))))))))))))
  intro w34 b35 hb36 hz37 g38 o39
  have H40 := H32.newB g38 o39 (by omega)
  have z41 := g38.size
  refine RL.apW (base := 0) (xss := (ents ([(⟨1, 0, 0, 0, ⟨0, 0, 0, 0, 0, 0, 0⟩⟩ : Entry)] ++ [(⟨2, 0, 0, 0, ⟨0, 0, 0, 0, 0, 0, 0⟩⟩ : Entry)]))) (yss := (ents ([(⟨3, 0, 0, 0, ⟨0, 0, 0, 0, 0, 0, 0⟩⟩ : Entry)]))) el22 (H40.wr (i := 2) rfl) rfl (Da (H40.ob (i := 0) rfl) rfl) rfl (by simp only [As, Av, At, Ap, An, Bb, List.length_append, List.length_cons, List.length_nil, List.length_take, List.length_drop, List.length_map, Cy, enc8, Bq, Bt, Ca]; try omega) (ents_one _) (by omega) (by omega) (by omega) rfl rfl ?_
  intro w42 A43 c44 g45 ow46 nx47
  have H48 : Sp [Af b35 31 [(J 3), (J 0), (J 0), (J 0), (J 0), (J 0), (J 0), (J 0), (J 0), (J 0), (J 0)], Af b19 31 [(J 2), (J 0), (J 0), (J 0), (J 0), (J 0), (J 0), (J 0), (J 0), (J 0), (J 0)], Ar 31 11 A43 (((0 + 1) + 1) + 1) c44 (ents ([(⟨1, 0, 0, 0, ⟨0, 0, 0, 0, 0, 0, 0⟩⟩ : Entry)] ++ [(⟨2, 0, 0, 0, ⟨0, 0, 0, 0, 0, 0, 0⟩⟩ : Entry)] ++ [(⟨3, 0, 0, 0, ⟨0, 0, 0, 0, 0, 0, 0⟩⟩ : Entry)])), Af b2 31 [(J 1), (J 0), (J 0), (J 0), (J 0), (J 0), (J 0), (J 0), (J 0), (J 0), (J 0)], Bd w Bl] w42 := H40.setR (i := 2) rfl g45 ((ents_app _ _).symm ▸ ow46) nx47 rfl
  have z49 := g45.size
  refine za (.slice A43 (((0 + 1) + 1) + 1) c44) rfl (RL.nil (inB.n (thn.n (CW.region (zm (J 3) rfl (zg rfl (Ex.add (r := 4) rfl rfl rfl) (za (J 4) rfl (RL.nil (thn.n (Cg (CW.seq (CW.seq (CW.region (zm (J 4) rfl (zm (J 4) rfl ?_)))))))))))))))
  refine zg rfl (Ex.le (r := true) rfl rfl (by decide)) (RL.nil (thn.n (Ab rfl (CW.skip (thn.n (CW.seq (CW.block (CW.region (zm (.slice A43 (((0 + 1) + 1) + 1) c44) rfl (zm (J 4) rfl (zg rfl (Cc (cs := [(J 4), (J 0), (J 0), (J 0), (J 0), (J 0), (J 0), (J 0), (J 0), (J 0), (J 0)]) bd31 rfl) (RL.bs (cs := [(J 4), (J 0), (J 0), (J 0), (J 0), (J 0), (J 0), (J 0), (J 0), (J 0), (J 0)]) Tryz.underlying22 Tryz.sizeOf31 ze22 rfl rfl rfl (by decide) rfl rfl rfl ?_))))))))))))
  intro w50 b51 hb52 hz53 g54 o55
  have H56 := H48.newB g54 o55 (by omega)
  have z57 := g54.size
  refine RL.apW (base := 0) (xss := (ents ([(⟨1, 0, 0, 0, ⟨0, 0, 0, 0, 0, 0, 0⟩⟩ : Entry)] ++ [(⟨2, 0, 0, 0, ⟨0, 0, 0, 0, 0, 0, 0⟩⟩ : Entry)] ++ [(⟨3, 0, 0, 0, ⟨0, 0, 0, 0, 0, 0, 0⟩⟩ : Entry)]))) (yss := (ents ([(⟨4, 0, 0, 0, ⟨0, 0, 0, 0, 0, 0, 0⟩⟩ : Entry)]))) el22 (H56.wr (i := 3) rfl) rfl (Da (H56.ob (i := 0) rfl) rfl) rfl (by simp only [As, Av, At, Ap, An, Bb, List.length_append, List.length_cons, List.length_nil, List.length_take, List.length_drop, List.length_map, Cy, enc8, Bq, Bt, Ca]; try omega) (ents_one _) (by omega) (by omega) (by omega) rfl rfl ?_
  intro w58 A59 c60 g61 ow62 nx63
  have H65 : Sp [Af b51 31 [(J 4), (J 0), (J 0), (J 0), (J 0), (J 0), (J 0), (J 0), (J 0), (J 0), (J 0)], Af b35 31 [(J 3), (J 0), (J 0), (J 0), (J 0), (J 0), (J 0), (J 0), (J 0), (J 0), (J 0)], Af b19 31 [(J 2), (J 0), (J 0), (J 0), (J 0), (J 0), (J 0), (J 0), (J 0), (J 0), (J 0)], Ar 31 11 A59 ((((0 + 1) + 1) + 1) + 1) c60 (ents ([(⟨1, 0, 0, 0, ⟨0, 0, 0, 0, 0, 0, 0⟩⟩ : Entry)] ++ [(⟨2, 0, 0, 0, ⟨0, 0, 0, 0, 0, 0, 0⟩⟩ : Entry)] ++ [(⟨3, 0, 0, 0, ⟨0, 0, 0, 0, 0, 0, 0⟩⟩ : Entry)] ++ [(⟨4, 0, 0, 0, ⟨0, 0, 0, 0, 0, 0, 0⟩⟩ : Entry)])), Af b2 31 [(J 1), (J 0), (J 0), (J 0), (J 0), (J 0), (J 0), (J 0), (J 0), (J 0), (J 0)], Bd w Bl] w58 := H56.setR (i := 3) rfl g61 ((ents_app _ _).symm ▸ ow62) nx63 rfl
  have z66 := g61.size
  refine za (.slice A59 ((((0 + 1) + 1) + 1) + 1) c60) rfl (RL.nil (inB.n (thn.n (CW.region (zm (J 4) rfl (zg rfl (Ex.add (r := 5) rfl rfl rfl) (za (J 5) rfl (RL.nil (thn.n (Cg (CW.seq (CW.seq (CW.region (zm (J 5) rfl (zm (J 4) rfl ?_)))))))))))))))
  refine zg rfl (Ex.le (r := false) rfl rfl (by decide)) (RL.nil (thn.n (Ag rfl (CW.exit (thn.x (thn.x (Bf (thn.n (CW.seq (CW.region (zm (.slice A59 ((((0 + 1) + 1) + 1) + 1) c60) rfl (za (.slice A59 ((((0 + 1) + 1) + 1) + 1) c60) rfl (RL.nil (thn.n (CW.ret (finQ.r (v := (.slice A59 ((((0 + 1) + 1) + 1) + 1) c60)) (Ax rfl rfl) ?_))))))))))))))))
  exact ⟨_, _, rfl, (H65.sel [3, 5] (by decide) rfl)⟩
set_option maxHeartbeats 1000000 in
set_option maxRecDepth 20000 in
theorem three17 (w : World)  : Ret Tryz.prog 92 [] w (fun v w' => ∃ (A' : Option Addr) (c' : Nat), v = .agg [.int .i64 tk3.view, .int .i64 tk3.normal, .int .i64 tk3.base, .string (tx tk3.image), .slice A' 3 c'].toArray ∧ Sp ([Ar 31 11 A' 3 c' (ents tk3.ents)] ++ [Bd w Bl]) w') := by
  have H0 : Sp [Bd w Bl] w := Bn w
  refine Ret.body Tryz.func92 rfl rfl rfl ?_
  refine CW.seq (CW.region (RL.al (cs := [(J 0), (J 0), (J 0), (.string (⟨#[]⟩)), (.slice none 0 0)]) Tryz.zeroValue24 rfl rfl rfl ?_))
  intro w1 b2 hb3 hz4 g5 o6
  have H7 := H0.newB g5 o6 (by omega)
  have z8 := g5.size
  refine RL.nil (thn.n (CW.seq (CW.region (RL.call Tryz.call55 (oplogNew3) rfl rfl rfl ?_))))
  rintro _ w9 ⟨rfl, g10⟩
  have H11 := H7.grow g10
  have z12 := g10.size
  refine zm (.tuple #[(.agg ([(J fk0.view), (J fk0.normal), (J fk0.base), (.string (tx fk0.image)), (.slice none 0 0)]).toArray), (J 0)]) rfl (zx (.agg ([(J fk0.view), (J fk0.normal), (J fk0.base), (.string (tx fk0.image)), (.slice none 0 0)]).toArray) rfl (zx (J 0) rfl (RL.al (cs := [(J 0), (J 0), (J 0), (.string (⟨#[]⟩)), (.slice none 0 0)]) Tryz.zeroValue24 rfl rfl rfl ?_)))
  intro w13 b14 hb15 hz16 g17 o18
  have H19 := H11.newB g17 o18 (by omega)
  have z20 := g17.size
  refine RL.st (vs := [(J fk0.view), (J fk0.normal), (J fk0.base), (.string (tx fk0.image)), (.slice none 0 0)]) (cs' := [(J fk0.view), (J fk0.normal), (J fk0.base), (.string (tx fk0.image)), (.slice none 0 0)]) Tryz.sizeOf24 (H19.ob (i := 0) rfl) rfl rfl rfl rfl rfl rfl ?_
  intro w21 hz22 g23 o24
  have H25 : Sp [Af b14 24 [(J fk0.view), (J fk0.normal), (J fk0.base), (.string (tx fk0.image)), (.slice none 0 0)], Af b2 24 [(J 0), (J 0), (J 0), (.string (⟨#[]⟩)), (.slice none 0 0)], Bd w Bl] w21 := H19.setB (i := 0) rfl g23 o24 rfl
  have z26 := g23.size
  refine za (J 0) rfl (RL.nil (thn.n (CW.seq (CW.region (RL.call Tryz.call93 (row17_3 _) rfl rfl rfl ?_)))))
  rintro _ w29 ⟨A27, c28, rfl, g30⟩
  have g31 := g30.fix (i := 1) rfl
  have H32 : Sp [Ar 31 11 A27 3 c28 (ents tl3), Af b14 24 [(J fk0.view), (J fk0.normal), (J fk0.base), (.string (tx fk0.image)), (.slice none 0 0)], Af b2 24 [(J 0), (J 0), (J 0), (.string (⟨#[]⟩)), (.slice none 0 0)], Bd w Bl] w29 := H25.join (m := [Ar 31 11 A27 3 c28 (ents tl3)]) g30
  have z33 := g31.size
  refine zg rfl (fa24_4 (b := ⟨b14, 4, none⟩) rfl rfl) (RL.st (vs := [(.slice A27 3 c28)]) (cs' := [(J fk0.view), (J fk0.normal), (J fk0.base), (.string (tx fk0.image)), (.slice A27 3 c28)]) Tryz.sizeOf22 (H32.ob (i := 1) rfl) rfl rfl rfl rfl rfl rfl ?_)
  intro w34 hz35 g36 o37
  have H38 : Sp [Ar 31 11 A27 3 c28 (ents tl3), Af b14 24 [(J fk0.view), (J fk0.normal), (J fk0.base), (.string (tx fk0.image)), (.slice A27 3 c28)], Af b2 24 [(J 0), (J 0), (J 0), (.string (⟨#[]⟩)), (.slice none 0 0)], Bd w Bl] w34 := H32.setB (i := 1) rfl g36 o37 rfl
  have z39 := g36.size
  refine RL.nil (thn.n (CW.seq (CW.region (zg rfl (Ai rfl (Ak (cs := [(J fk0.view), (J fk0.normal), (J fk0.base), (.string (tx fk0.image)), (.slice A27 3 c28)]) wh24 (H38.ob (i := 1) rfl).cl)) (RL.st (vs := [(J fk0.view), (J fk0.normal), (J fk0.base), (.string (tx fk0.image)), (.slice A27 3 c28)]) (cs' := [(J fk0.view), (J fk0.normal), (J fk0.base), (.string (tx fk0.image)), (.slice A27 3 c28)]) Tryz.sizeOf24 (H38.ob (i := 2) rfl) rfl rfl rfl rfl rfl rfl ?_)))))
  intro w40 hz41 g42 o43
  have H44 : Sp [Ar 31 11 A27 3 c28 (ents tl3), Af b14 24 [(J fk0.view), (J fk0.normal), (J fk0.base), (.string (tx fk0.image)), (.slice A27 3 c28)], Af b2 24 [(J fk0.view), (J fk0.normal), (J fk0.base), (.string (tx fk0.image)), (.slice A27 3 c28)], Bd w Bl] w40 := H38.setB (i := 2) rfl g42 o43 rfl
  have z45 := g42.size
  refine RL.nil (thn.n (CW.ret (finQ.r (v := (.agg ([(J fk0.view), (J fk0.normal), (J fk0.base), (.string (tx fk0.image)), (.slice A27 3 c28)]).toArray)) (resv1 rfl (Rv.cell rfl (Ak (cs := [(J fk0.view), (J fk0.normal), (J fk0.base), (.string (tx fk0.image)), (.slice A27 3 c28)]) wh24 (H44.ob (i := 2) rfl).cl))) ?_)))
  exact ⟨_, _, rfl, (H44.sel [0, 3] (by decide) rfl)⟩
set_option maxHeartbeats 1000000 in
set_option maxRecDepth 20000 in
theorem adopts17 (w : World)  : Ret Tryz.prog 29 [] w (fun v w' => v = .bool true ∧ w.grownBy w' none) := by
  have H0 : Sp [Bd w Bl] w := Bn w
  refine Ret.body Tryz.func29 rfl rfl rfl ?_
  refine CW.seq (CW.region (za (bF) rfl (RL.nil (thn.n (CW.seq (CW.region (RL.call Tryz.call92 (three17 _) rfl rfl rfl ?_)))))))
  rintro _ w3 ⟨A1, c2, rfl, g4⟩
  have g5 := g4.fix (i := 1) rfl
  have H6 : Sp [Ar 31 11 A1 3 c2 (ents tk3.ents), Bd w Bl] w3 := H0.join (m := [Ar 31 11 A1 3 c2 (ents tk3.ents)]) g4
  have z7 := g5.size
  refine RL.call Tryz.call93 (row17_4 _) rfl rfl rfl ?_
  rintro _ w10 ⟨A8, c9, rfl, g11⟩
  have g12 := g11.fix (i := 1) rfl
  have H13 : Sp [Ar 31 11 A8 4 c9 (ents By), Ar 31 11 A1 3 c2 (ents tk3.ents), Bd w Bl] w10 := H6.join (m := [Ar 31 11 A8 4 c9 (ents By)]) g11
  have z14 := g12.size
  have hfl15 : tk3.ents.length ≤ 4000 := (by decide)
  have hfi16 : tk3.image.length ≤ 4136 := (by decide +kernel)
  have hl17 := H13.len (i := 1) rfl
  rw [Bb] at hl17
  have hc18 := H13.cap (i := 1) rfl
  have hl19 := H13.len (i := 0) rfl
  rw [Bb] at hl19
  have hc20 := H13.cap (i := 0) rfl
  refine RL.call Tryz.call25 (adopt_ _ w10.heap.size tk3 A1 3 c2 (H13.rowrd (i := 1) rfl) (Nat.le_refl _) (by first | assumption | rfl | omega | decide +kernel) (by first | assumption | rfl | omega | decide +kernel) (by first | assumption | rfl | omega | decide +kernel) (by first | assumption | rfl | omega | decide +kernel) 2 4 0 (by first | assumption | decide | (unfold rng; omega)) By A8 4 c9 ((H13.rowrd (i := 0) rfl).more (Nat.le_refl _)) (by first | assumption | rfl | omega | decide +kernel) (by first | assumption | rfl | omega | decide +kernel) (by first | assumption | rfl | omega | decide +kernel)) rfl rfl rfl ?_
  rintro _ w24 ⟨A21, n22, c23, rfl, g25⟩
  have g26 := g25.fix (i := 1) rfl
  have H27 : Sp [Ar 31 11 A21 n22 c23 (ents ((Aa tk3 2 4 0 By).ents)), Ar 31 11 A8 4 c9 (ents By), Ar 31 11 A1 3 c2 (ents tk3.ents), Bd w Bl] w24 := H13.join (m := [Ar 31 11 A21 n22 c23 (ents ((Aa tk3 2 4 0 By).ents))]) g25
  have z28 := g26.size
  refine zm (.tuple #[(.agg ([(J ((Aa tk3 2 4 0 By).kind)), (J ((Aa tk3 2 4 0 By).view)), (J ((Aa tk3 2 4 0 By).from_)), (J ((Aa tk3 2 4 0 By).number)), (.string (tx (Aa tk3 2 4 0 By).image)), (J ((Aa tk3 2 4 0 By).entry.num)), (J ((Aa tk3 2 4 0 By).entry.view)), (J ((Aa tk3 2 4 0 By).entry.client)), (J ((Aa tk3 2 4 0 By).entry.seq)), (J ((Aa tk3 2 4 0 By).entry.op.kind)), (J ((Aa tk3 2 4 0 By).entry.op.h)), (J ((Aa tk3 2 4 0 By).entry.op.i)), (J ((Aa tk3 2 4 0 By).entry.op.n)), (J ((Aa tk3 2 4 0 By).entry.op.k)), (J ((Aa tk3 2 4 0 By).entry.op.v)), (J ((Aa tk3 2 4 0 By).entry.op.t)), (.slice A21 n22 c23)]).toArray), (.bool (Bx tk3 2 4 0 By))]) rfl (zx (.agg ([(J ((Aa tk3 2 4 0 By).kind)), (J ((Aa tk3 2 4 0 By).view)), (J ((Aa tk3 2 4 0 By).from_)), (J ((Aa tk3 2 4 0 By).number)), (.string (tx (Aa tk3 2 4 0 By).image)), (J ((Aa tk3 2 4 0 By).entry.num)), (J ((Aa tk3 2 4 0 By).entry.view)), (J ((Aa tk3 2 4 0 By).entry.client)), (J ((Aa tk3 2 4 0 By).entry.seq)), (J ((Aa tk3 2 4 0 By).entry.op.kind)), (J ((Aa tk3 2 4 0 By).entry.op.h)), (J ((Aa tk3 2 4 0 By).entry.op.i)), (J ((Aa tk3 2 4 0 By).entry.op.n)), (J ((Aa tk3 2 4 0 By).entry.op.k)), (J ((Aa tk3 2 4 0 By).entry.op.v)), (J ((Aa tk3 2 4 0 By).entry.op.t)), (.slice A21 n22 c23)]).toArray) rfl ?_)
  refine zx (.bool (Bx tk3 2 4 0 By)) rfl (RL.al (cs := [(J 0), (J 0), (J 0), (J 0), (.string (⟨#[]⟩)), (J 0), (J 0), (J 0), (J 0), (J 0), (J 0), (J 0), (J 0), (J 0), (J 0), (J 0), (.slice none 0 0)]) Tryz.zeroValue33 rfl rfl rfl ?_)
  intro w29 b30 hb31 hz32 g33 o34
  have H35 := H27.newB g33 o34 (by omega)
  have z36 := g33.size
  refine RL.st (vs := [(J ((Aa tk3 2 4 0 By).kind)), (J ((Aa tk3 2 4 0 By).view)), (J ((Aa tk3 2 4 0 By).from_)), (J ((Aa tk3 2 4 0 By).number)), (.string (tx (Aa tk3 2 4 0 By).image)), (J ((Aa tk3 2 4 0 By).entry.num)), (J ((Aa tk3 2 4 0 By).entry.view)), (J ((Aa tk3 2 4 0 By).entry.client)), (J ((Aa tk3 2 4 0 By).entry.seq)), (J ((Aa tk3 2 4 0 By).entry.op.kind)), (J ((Aa tk3 2 4 0 By).entry.op.h)), (J ((Aa tk3 2 4 0 By).entry.op.i)), (J ((Aa tk3 2 4 0 By).entry.op.n)), (J ((Aa tk3 2 4 0 By).entry.op.k)), (J ((Aa tk3 2 4 0 By).entry.op.v)), (J ((Aa tk3 2 4 0 By).entry.op.t)), (.slice A21 n22 c23)]) (cs' := [(J ((Aa tk3 2 4 0 By).kind)), (J ((Aa tk3 2 4 0 By).view)), (J ((Aa tk3 2 4 0 By).from_)), (J ((Aa tk3 2 4 0 By).number)), (.string (tx (Aa tk3 2 4 0 By).image)), (J ((Aa tk3 2 4 0 By).entry.num)), (J ((Aa tk3 2 4 0 By).entry.view)), (J ((Aa tk3 2 4 0 By).entry.client)), (J ((Aa tk3 2 4 0 By).entry.seq)), (J ((Aa tk3 2 4 0 By).entry.op.kind)), (J ((Aa tk3 2 4 0 By).entry.op.h)), (J ((Aa tk3 2 4 0 By).entry.op.i)), (J ((Aa tk3 2 4 0 By).entry.op.n)), (J ((Aa tk3 2 4 0 By).entry.op.k)), (J ((Aa tk3 2 4 0 By).entry.op.v)), (J ((Aa tk3 2 4 0 By).entry.op.t)), (.slice A21 n22 c23)]) Tryz.sizeOf33 (H35.ob (i := 0) rfl) rfl rfl rfl rfl rfl rfl ?_
  intro w37 hz38 g39 o40
  have H41 : Sp [Af b30 33 [(J ((Aa tk3 2 4 0 By).kind)), (J ((Aa tk3 2 4 0 By).view)), (J ((Aa tk3 2 4 0 By).from_)), (J ((Aa tk3 2 4 0 By).number)), (.string (tx (Aa tk3 2 4 0 By).image)), (J ((Aa tk3 2 4 0 By).entry.num)), (J ((Aa tk3 2 4 0 By).entry.view)), (J ((Aa tk3 2 4 0 By).entry.client)), (J ((Aa tk3 2 4 0 By).entry.seq)), (J ((Aa tk3 2 4 0 By).entry.op.kind)), (J ((Aa tk3 2 4 0 By).entry.op.h)), (J ((Aa tk3 2 4 0 By).entry.op.i)), (J ((Aa tk3 2 4 0 By).entry.op.n)), (J ((Aa tk3 2 4 0 By).entry.op.k)), (J ((Aa tk3 2 4 0 By).entry.op.v)), (J ((Aa tk3 2 4 0 By).entry.op.t)), (.slice A21 n22 c23)], Ar 31 11 A21 n22 c23 (ents ((Aa tk3 2 4 0 By).ents)), Ar 31 11 A8 4 c9 (ents By), Ar 31 11 A1 3 c2 (ents tk3.ents), Bd w Bl] w37 := H35.setB (i := 0) rfl g39 o40 rfl
  have z42 := g39.size
  refine za (.bool (Bx tk3 2 4 0 By)) rfl (RL.nil (thn.n (CW.seq (CW.region (RL.call Tryz.call92 (three17 _) rfl rfl rfl ?_)))))
  rintro _ w45 ⟨A43, c44, rfl, g46⟩
  have g47 := g46.fix (i := 1) rfl
  have H48 : Sp [Ar 31 11 A43 3 c44 (ents tk3.ents), Af b30 33 [(J ((Aa tk3 2 4 0 By).kind)), (J ((Aa tk3 2 4 0 By).view)), (J ((Aa tk3 2 4 0 By).from_)), (J ((Aa tk3 2 4 0 By).number)), (.string (tx (Aa tk3 2 4 0 By).image)), (J ((Aa tk3 2 4 0 By).entry.num)), (J ((Aa tk3 2 4 0 By).entry.view)), (J ((Aa tk3 2 4 0 By).entry.client)), (J ((Aa tk3 2 4 0 By).entry.seq)), (J ((Aa tk3 2 4 0 By).entry.op.kind)), (J ((Aa tk3 2 4 0 By).entry.op.h)), (J ((Aa tk3 2 4 0 By).entry.op.i)), (J ((Aa tk3 2 4 0 By).entry.op.n)), (J ((Aa tk3 2 4 0 By).entry.op.k)), (J ((Aa tk3 2 4 0 By).entry.op.v)), (J ((Aa tk3 2 4 0 By).entry.op.t)), (.slice A21 n22 c23)], Ar 31 11 A21 n22 c23 (ents ((Aa tk3 2 4 0 By).ents)), Ar 31 11 A8 4 c9 (ents By), Ar 31 11 A1 3 c2 (ents tk3.ents), Bd w Bl] w45 := H41.join (m := [Ar 31 11 A43 3 c44 (ents tk3.ents)]) g46
  have z49 := g47.size
  have hfl50 : tk3.ents.length ≤ 4000 := (by decide)
  have hfi51 : tk3.image.length ≤ 4136 := (by decide +kernel)
  have hl52 := H48.len (i := 0) rfl
  rw [Bb] at hl52
  have hc53 := H48.cap (i := 0) rfl
  refine RL.call Tryz.call25 (adopt_ _ w45.heap.size tk3 A43 3 c44 (H48.rowrd (i := 0) rfl) (Nat.le_refl _) (by first | assumption | rfl | omega | decide +kernel) (by first | assumption | rfl | omega | decide +kernel) (by first | assumption | rfl | omega | decide +kernel) (by first | assumption | rfl | omega | decide +kernel) 2 4 3 (by first | assumption | decide | (unfold rng; omega)) ([]) none 0 0 (Rd.nil_ _ _ 11 none) (by first | assumption | rfl | omega | decide +kernel) (by first | assumption | rfl | omega | decide +kernel) (by first | assumption | rfl | omega | decide +kernel)) rfl rfl rfl ?_
  rintro _ w57 ⟨A54, n55, c56, rfl, g58⟩
  have g59 := g58.fix (i := 1) rfl
  have H60 : Sp [Ar 31 11 A54 n55 c56 (ents ((Aa tk3 2 4 3 ([])).ents)), Ar 31 11 A43 3 c44 (ents tk3.ents), Af b30 33 [(J ((Aa tk3 2 4 0 By).kind)), (J ((Aa tk3 2 4 0 By).view)), (J ((Aa tk3 2 4 0 By).from_)), (J ((Aa tk3 2 4 0 By).number)), (.string (tx (Aa tk3 2 4 0 By).image)), (J ((Aa tk3 2 4 0 By).entry.num)), (J ((Aa tk3 2 4 0 By).entry.view)), (J ((Aa tk3 2 4 0 By).entry.client)), (J ((Aa tk3 2 4 0 By).entry.seq)), (J ((Aa tk3 2 4 0 By).entry.op.kind)), (J ((Aa tk3 2 4 0 By).entry.op.h)), (J ((Aa tk3 2 4 0 By).entry.op.i)), (J ((Aa tk3 2 4 0 By).entry.op.n)), (J ((Aa tk3 2 4 0 By).entry.op.k)), (J ((Aa tk3 2 4 0 By).entry.op.v)), (J ((Aa tk3 2 4 0 By).entry.op.t)), (.slice A21 n22 c23)], Ar 31 11 A21 n22 c23 (ents ((Aa tk3 2 4 0 By).ents)), Ar 31 11 A8 4 c9 (ents By), Ar 31 11 A1 3 c2 (ents tk3.ents), Bd w Bl] w57 := H48.join (m := [Ar 31 11 A54 n55 c56 (ents ((Aa tk3 2 4 3 ([])).ents))]) g58
  have z61 := g59.size
  refine zm (.tuple #[(.agg ([(J ((Aa tk3 2 4 3 ([])).kind)), (J ((Aa tk3 2 4 3 ([])).view)), (J ((Aa tk3 2 4 3 ([])).from_)), (J ((Aa tk3 2 4 3 ([])).number)), (.string (tx (Aa tk3 2 4 3 ([])).image)), (J ((Aa tk3 2 4 3 ([])).entry.num)), (J ((Aa tk3 2 4 3 ([])).entry.view)), (J ((Aa tk3 2 4 3 ([])).entry.client)), (J ((Aa tk3 2 4 3 ([])).entry.seq)), (J ((Aa tk3 2 4 3 ([])).entry.op.kind)), (J ((Aa tk3 2 4 3 ([])).entry.op.h)), (J ((Aa tk3 2 4 3 ([])).entry.op.i)), (J ((Aa tk3 2 4 3 ([])).entry.op.n)), (J ((Aa tk3 2 4 3 ([])).entry.op.k)), (J ((Aa tk3 2 4 3 ([])).entry.op.v)), (J ((Aa tk3 2 4 3 ([])).entry.op.t)), (.slice A54 n55 c56)]).toArray), (.bool (Bx tk3 2 4 3 ([])))]) rfl (zx (.agg ([(J ((Aa tk3 2 4 3 ([])).kind)), (J ((Aa tk3 2 4 3 ([])).view)), (J ((Aa tk3 2 4 3 ([])).from_)), (J ((Aa tk3 2 4 3 ([])).number)), (.string (tx (Aa tk3 2 4 3 ([])).image)), (J ((Aa tk3 2 4 3 ([])).entry.num)), (J ((Aa tk3 2 4 3 ([])).entry.view)), (J ((Aa tk3 2 4 3 ([])).entry.client)), (J ((Aa tk3 2 4 3 ([])).entry.seq)), (J ((Aa tk3 2 4 3 ([])).entry.op.kind)), (J ((Aa tk3 2 4 3 ([])).entry.op.h)), (J ((Aa tk3 2 4 3 ([])).entry.op.i)), (J ((Aa tk3 2 4 3 ([])).entry.op.n)), (J ((Aa tk3 2 4 3 ([])).entry.op.k)), (J ((Aa tk3 2 4 3 ([])).entry.op.v)), (J ((Aa tk3 2 4 3 ([])).entry.op.t)), (.slice A54 n55 c56)]).toArray) rfl ?_)
  refine zx (.bool (Bx tk3 2 4 3 ([]))) rfl (RL.al (cs := [(J 0), (J 0), (J 0), (J 0), (.string (⟨#[]⟩)), (J 0), (J 0), (J 0), (J 0), (J 0), (J 0), (J 0), (J 0), (J 0), (J 0), (J 0), (.slice none 0 0)]) Tryz.zeroValue33 rfl rfl rfl ?_)
  intro w62 b63 hb65 hz66 g67 o68
  have H69 := H60.newB g67 o68 (by omega)
  have z70 := g67.size
  refine RL.st (vs := [(J ((Aa tk3 2 4 3 ([])).kind)), (J ((Aa tk3 2 4 3 ([])).view)), (J ((Aa tk3 2 4 3 ([])).from_)), (J ((Aa tk3 2 4 3 ([])).number)), (.string (tx (Aa tk3 2 4 3 ([])).image)), (J ((Aa tk3 2 4 3 ([])).entry.num)), (J ((Aa tk3 2 4 3 ([])).entry.view)), (J ((Aa tk3 2 4 3 ([])).entry.client)), (J ((Aa tk3 2 4 3 ([])).entry.seq)), (J ((Aa tk3 2 4 3 ([])).entry.op.kind)), (J ((Aa tk3 2 4 3 ([])).entry.op.h)), (J ((Aa tk3 2 4 3 ([])).entry.op.i)), (J ((Aa tk3 2 4 3 ([])).entry.op.n)), (J ((Aa tk3 2 4 3 ([])).entry.op.k)), (J ((Aa tk3 2 4 3 ([])).entry.op.v)), (J ((Aa tk3 2 4 3 ([])).entry.op.t)), (.slice A54 n55 c56)]) (cs' := [(J ((Aa tk3 2 4 3 ([])).kind)), (J ((Aa tk3 2 4 3 ([])).view)), (J ((Aa tk3 2 4 3 ([])).from_)), (J ((Aa tk3 2 4 3 ([])).number)), (.string (tx (Aa tk3 2 4 3 ([])).image)), (J ((Aa tk3 2 4 3 ([])).entry.num)), (J ((Aa tk3 2 4 3 ([])).entry.view)), (J ((Aa tk3 2 4 3 ([])).entry.client)), (J ((Aa tk3 2 4 3 ([])).entry.seq)), (J ((Aa tk3 2 4 3 ([])).entry.op.kind)), (J ((Aa tk3 2 4 3 ([])).entry.op.h)), (J ((Aa tk3 2 4 3 ([])).entry.op.i)), (J ((Aa tk3 2 4 3 ([])).entry.op.n)), (J ((Aa tk3 2 4 3 ([])).entry.op.k)), (J ((Aa tk3 2 4 3 ([])).entry.op.v)), (J ((Aa tk3 2 4 3 ([])).entry.op.t)), (.slice A54 n55 c56)]) Tryz.sizeOf33 (H69.ob (i := 0) rfl) rfl rfl rfl rfl rfl rfl ?_
  intro w71 hz72 g73 o74
  have H75 : Sp [Af b63 33 [(J ((Aa tk3 2 4 3 ([])).kind)), (J ((Aa tk3 2 4 3 ([])).view)), (J ((Aa tk3 2 4 3 ([])).from_)), (J ((Aa tk3 2 4 3 ([])).number)), (.string (tx (Aa tk3 2 4 3 ([])).image)), (J ((Aa tk3 2 4 3 ([])).entry.num)), (J ((Aa tk3 2 4 3 ([])).entry.view)), (J ((Aa tk3 2 4 3 ([])).entry.client)), (J ((Aa tk3 2 4 3 ([])).entry.seq)), (J ((Aa tk3 2 4 3 ([])).entry.op.kind)), (J ((Aa tk3 2 4 3 ([])).entry.op.h)), (J ((Aa tk3 2 4 3 ([])).entry.op.i)), (J ((Aa tk3 2 4 3 ([])).entry.op.n)), (J ((Aa tk3 2 4 3 ([])).entry.op.k)), (J ((Aa tk3 2 4 3 ([])).entry.op.v)), (J ((Aa tk3 2 4 3 ([])).entry.op.t)), (.slice A54 n55 c56)], Ar 31 11 A54 n55 c56 (ents ((Aa tk3 2 4 3 ([])).ents)), Ar 31 11 A43 3 c44 (ents tk3.ents), Af b30 33 [(J ((Aa tk3 2 4 0 By).kind)), (J ((Aa tk3 2 4 0 By).view)), (J ((Aa tk3 2 4 0 By).from_)), (J ((Aa tk3 2 4 0 By).number)), (.string (tx (Aa tk3 2 4 0 By).image)), (J ((Aa tk3 2 4 0 By).entry.num)), (J ((Aa tk3 2 4 0 By).entry.view)), (J ((Aa tk3 2 4 0 By).entry.client)), (J ((Aa tk3 2 4 0 By).entry.seq)), (J ((Aa tk3 2 4 0 By).entry.op.kind)), (J ((Aa tk3 2 4 0 By).entry.op.h)), (J ((Aa tk3 2 4 0 By).entry.op.i)), (J ((Aa tk3 2 4 0 By).entry.op.n)), (J ((Aa tk3 2 4 0 By).entry.op.k)), (J ((Aa tk3 2 4 0 By).entry.op.v)), (J ((Aa tk3 2 4 0 By).entry.op.t)), (.slice A21 n22 c23)], Ar 31 11 A21 n22 c23 (ents ((Aa tk3 2 4 0 By).ents)), Ar 31 11 A8 4 c9 (ents By), Ar 31 11 A1 3 c2 (ents tk3.ents), Bd w Bl] w71 := H69.setB (i := 0) rfl g73 o74 rfl
  have z76 := g73.size
  refine za (.bool (Bx tk3 2 4 3 ([]))) rfl (RL.nil (thn.n (CW.seq (CW.region (RL.call Tryz.call92 (three17 _) rfl rfl rfl ?_)))))
  rintro _ w79 ⟨A77, c78, rfl, g80⟩
  have g81 := g80.fix (i := 1) rfl
  have H82 : Sp [Ar 31 11 A77 3 c78 (ents tk3.ents), Af b63 33 [(J ((Aa tk3 2 4 3 ([])).kind)), (J ((Aa tk3 2 4 3 ([])).view)), (J ((Aa tk3 2 4 3 ([])).from_)), (J ((Aa tk3 2 4 3 ([])).number)), (.string (tx (Aa tk3 2 4 3 ([])).image)), (J ((Aa tk3 2 4 3 ([])).entry.num)), (J ((Aa tk3 2 4 3 ([])).entry.view)), (J ((Aa tk3 2 4 3 ([])).entry.client)), (J ((Aa tk3 2 4 3 ([])).entry.seq)), (J ((Aa tk3 2 4 3 ([])).entry.op.kind)), (J ((Aa tk3 2 4 3 ([])).entry.op.h)), (J ((Aa tk3 2 4 3 ([])).entry.op.i)), (J ((Aa tk3 2 4 3 ([])).entry.op.n)), (J ((Aa tk3 2 4 3 ([])).entry.op.k)), (J ((Aa tk3 2 4 3 ([])).entry.op.v)), (J ((Aa tk3 2 4 3 ([])).entry.op.t)), (.slice A54 n55 c56)], Ar 31 11 A54 n55 c56 (ents ((Aa tk3 2 4 3 ([])).ents)), Ar 31 11 A43 3 c44 (ents tk3.ents), Af b30 33 [(J ((Aa tk3 2 4 0 By).kind)), (J ((Aa tk3 2 4 0 By).view)), (J ((Aa tk3 2 4 0 By).from_)), (J ((Aa tk3 2 4 0 By).number)), (.string (tx (Aa tk3 2 4 0 By).image)), (J ((Aa tk3 2 4 0 By).entry.num)), (J ((Aa tk3 2 4 0 By).entry.view)), (J ((Aa tk3 2 4 0 By).entry.client)), (J ((Aa tk3 2 4 0 By).entry.seq)), (J ((Aa tk3 2 4 0 By).entry.op.kind)), (J ((Aa tk3 2 4 0 By).entry.op.h)), (J ((Aa tk3 2 4 0 By).entry.op.i)), (J ((Aa tk3 2 4 0 By).entry.op.n)), (J ((Aa tk3 2 4 0 By).entry.op.k)), (J ((Aa tk3 2 4 0 By).entry.op.v)), (J ((Aa tk3 2 4 0 By).entry.op.t)), (.slice A21 n22 c23)], Ar 31 11 A21 n22 c23 (ents ((Aa tk3 2 4 0 By).ents)), Ar 31 11 A8 4 c9 (ents By), Ar 31 11 A1 3 c2 (ents tk3.ents), Bd w Bl] w79 := H75.join (m := [Ar 31 11 A77 3 c78 (ents tk3.ents)]) g80
  have z83 := g81.size
  refine RL.call Tryz.call93 (row17_1 _) rfl rfl rfl ?_
  rintro _ w86 ⟨A84, c85, rfl, g87⟩
  have g88 := g87.fix (i := 1) rfl
  have H89 : Sp [Ar 31 11 A84 1 c85 (ents tl1), Ar 31 11 A77 3 c78 (ents tk3.ents), Af b63 33 [(J ((Aa tk3 2 4 3 ([])).kind)), (J ((Aa tk3 2 4 3 ([])).view)), (J ((Aa tk3 2 4 3 ([])).from_)), (J ((Aa tk3 2 4 3 ([])).number)), (.string (tx (Aa tk3 2 4 3 ([])).image)), (J ((Aa tk3 2 4 3 ([])).entry.num)), (J ((Aa tk3 2 4 3 ([])).entry.view)), (J ((Aa tk3 2 4 3 ([])).entry.client)), (J ((Aa tk3 2 4 3 ([])).entry.seq)), (J ((Aa tk3 2 4 3 ([])).entry.op.kind)), (J ((Aa tk3 2 4 3 ([])).entry.op.h)), (J ((Aa tk3 2 4 3 ([])).entry.op.i)), (J ((Aa tk3 2 4 3 ([])).entry.op.n)), (J ((Aa tk3 2 4 3 ([])).entry.op.k)), (J ((Aa tk3 2 4 3 ([])).entry.op.v)), (J ((Aa tk3 2 4 3 ([])).entry.op.t)), (.slice A54 n55 c56)], Ar 31 11 A54 n55 c56 (ents ((Aa tk3 2 4 3 ([])).ents)), Ar 31 11 A43 3 c44 (ents tk3.ents), Af b30 33 [(J ((Aa tk3 2 4 0 By).kind)), (J ((Aa tk3 2 4 0 By).view)), (J ((Aa tk3 2 4 0 By).from_)), (J ((Aa tk3 2 4 0 By).number)), (.string (tx (Aa tk3 2 4 0 By).image)), (J ((Aa tk3 2 4 0 By).entry.num)), (J ((Aa tk3 2 4 0 By).entry.view)), (J ((Aa tk3 2 4 0 By).entry.client)), (J ((Aa tk3 2 4 0 By).entry.seq)), (J ((Aa tk3 2 4 0 By).entry.op.kind)), (J ((Aa tk3 2 4 0 By).entry.op.h)), (J ((Aa tk3 2 4 0 By).entry.op.i)), (J ((Aa tk3 2 4 0 By).entry.op.n)), (J ((Aa tk3 2 4 0 By).entry.op.k)), (J ((Aa tk3 2 4 0 By).entry.op.v)), (J ((Aa tk3 2 4 0 By).entry.op.t)), (.slice A21 n22 c23)], Ar 31 11 A21 n22 c23 (ents ((Aa tk3 2 4 0 By).ents)), Ar 31 11 A8 4 c9 (ents By), Ar 31 11 A1 3 c2 (ents tk3.ents), Bd w Bl] w86 := H82.join (m := [Ar 31 11 A84 1 c85 (ents tl1)]) g87
  have z90 := g88.size
  have hfl91 : tk3.ents.length ≤ 4000 := (by decide)
  have hfi92 : tk3.image.length ≤ 4136 := (by decide +kernel)
  have hl93 := H89.len (i := 1) rfl
  rw [Bb] at hl93
  have hc94 := H89.cap (i := 1) rfl
  have hl95 := H89.len (i := 0) rfl
  rw [Bb] at hl95
  have hc96 := H89.cap (i := 0) rfl
  refine RL.call Tryz.call25 (adopt_ _ w86.heap.size tk3 A77 3 c78 (H89.rowrd (i := 1) rfl) (Nat.le_refl _) (by first | assumption | rfl | omega | decide +kernel) (by first | assumption | rfl | omega | decide +kernel) (by first | assumption | rfl | omega | decide +kernel) (by first | assumption | rfl | omega | decide +kernel) 2 4 0 (by first | assumption | decide | (unfold rng; omega)) tl1 A84 1 c85 ((H89.rowrd (i := 0) rfl).more (Nat.le_refl _)) (by first | assumption | rfl | omega | decide +kernel) (by first | assumption | rfl | omega | decide +kernel) (by first | assumption | rfl | omega | decide +kernel)) rfl rfl rfl ?_
  rintro _ w100 ⟨A97, n98, c99, rfl, g101⟩
  have g102 := g101.fix (i := 1) rfl
  have H103 : Sp [Ar 31 11 A97 n98 c99 (ents ((Aa tk3 2 4 0 tl1).ents)), Ar 31 11 A84 1 c85 (ents tl1), Ar 31 11 A77 3 c78 (ents tk3.ents), Af b63 33 [(J ((Aa tk3 2 4 3 ([])).kind)), (J ((Aa tk3 2 4 3 ([])).view)), (J ((Aa tk3 2 4 3 ([])).from_)), (J ((Aa tk3 2 4 3 ([])).number)), (.string (tx (Aa tk3 2 4 3 ([])).image)), (J ((Aa tk3 2 4 3 ([])).entry.num)), (J ((Aa tk3 2 4 3 ([])).entry.view)), (J ((Aa tk3 2 4 3 ([])).entry.client)), (J ((Aa tk3 2 4 3 ([])).entry.seq)), (J ((Aa tk3 2 4 3 ([])).entry.op.kind)), (J ((Aa tk3 2 4 3 ([])).entry.op.h)), (J ((Aa tk3 2 4 3 ([])).entry.op.i)), (J ((Aa tk3 2 4 3 ([])).entry.op.n)), (J ((Aa tk3 2 4 3 ([])).entry.op.k)), (J ((Aa tk3 2 4 3 ([])).entry.op.v)), (J ((Aa tk3 2 4 3 ([])).entry.op.t)), (.slice A54 n55 c56)], Ar 31 11 A54 n55 c56 (ents ((Aa tk3 2 4 3 ([])).ents)), Ar 31 11 A43 3 c44 (ents tk3.ents), Af b30 33 [(J ((Aa tk3 2 4 0 By).kind)), (J ((Aa tk3 2 4 0 By).view)), (J ((Aa tk3 2 4 0 By).from_)), (J ((Aa tk3 2 4 0 By).number)), (.string (tx (Aa tk3 2 4 0 By).image)), (J ((Aa tk3 2 4 0 By).entry.num)), (J ((Aa tk3 2 4 0 By).entry.view)), (J ((Aa tk3 2 4 0 By).entry.client)), (J ((Aa tk3 2 4 0 By).entry.seq)), (J ((Aa tk3 2 4 0 By).entry.op.kind)), (J ((Aa tk3 2 4 0 By).entry.op.h)), (J ((Aa tk3 2 4 0 By).entry.op.i)), (J ((Aa tk3 2 4 0 By).entry.op.n)), (J ((Aa tk3 2 4 0 By).entry.op.k)), (J ((Aa tk3 2 4 0 By).entry.op.v)), (J ((Aa tk3 2 4 0 By).entry.op.t)), (.slice A21 n22 c23)], Ar 31 11 A21 n22 c23 (ents ((Aa tk3 2 4 0 By).ents)), Ar 31 11 A8 4 c9 (ents By), Ar 31 11 A1 3 c2 (ents tk3.ents), Bd w Bl] w100 := H89.join (m := [Ar 31 11 A97 n98 c99 (ents ((Aa tk3 2 4 0 tl1).ents))]) g101
  have z104 := g102.size
  refine zm (.tuple #[(.agg ([(J ((Aa tk3 2 4 0 tl1).kind)), (J ((Aa tk3 2 4 0 tl1).view)), (J ((Aa tk3 2 4 0 tl1).from_)), (J ((Aa tk3 2 4 0 tl1).number)), (.string (tx (Aa tk3 2 4 0 tl1).image)), (J ((Aa tk3 2 4 0 tl1).entry.num)), (J ((Aa tk3 2 4 0 tl1).entry.view)), (J ((Aa tk3 2 4 0 tl1).entry.client)), (J ((Aa tk3 2 4 0 tl1).entry.seq)), (J ((Aa tk3 2 4 0 tl1).entry.op.kind)), (J ((Aa tk3 2 4 0 tl1).entry.op.h)), (J ((Aa tk3 2 4 0 tl1).entry.op.i)), (J ((Aa tk3 2 4 0 tl1).entry.op.n)), (J ((Aa tk3 2 4 0 tl1).entry.op.k)), (J ((Aa tk3 2 4 0 tl1).entry.op.v)), (J ((Aa tk3 2 4 0 tl1).entry.op.t)), (.slice A97 n98 c99)]).toArray), (.bool (Bx tk3 2 4 0 tl1))]) rfl (zx (.agg ([(J ((Aa tk3 2 4 0 tl1).kind)), (J ((Aa tk3 2 4 0 tl1).view)), (J ((Aa tk3 2 4 0 tl1).from_)), (J ((Aa tk3 2 4 0 tl1).number)), (.string (tx (Aa tk3 2 4 0 tl1).image)), (J ((Aa tk3 2 4 0 tl1).entry.num)), (J ((Aa tk3 2 4 0 tl1).entry.view)), (J ((Aa tk3 2 4 0 tl1).entry.client)), (J ((Aa tk3 2 4 0 tl1).entry.seq)), (J ((Aa tk3 2 4 0 tl1).entry.op.kind)), (J ((Aa tk3 2 4 0 tl1).entry.op.h)), (J ((Aa tk3 2 4 0 tl1).entry.op.i)), (J ((Aa tk3 2 4 0 tl1).entry.op.n)), (J ((Aa tk3 2 4 0 tl1).entry.op.k)), (J ((Aa tk3 2 4 0 tl1).entry.op.v)), (J ((Aa tk3 2 4 0 tl1).entry.op.t)), (.slice A97 n98 c99)]).toArray) rfl ?_)
  refine zx (.bool (Bx tk3 2 4 0 tl1)) rfl (RL.al (cs := [(J 0), (J 0), (J 0), (J 0), (.string (⟨#[]⟩)), (J 0), (J 0), (J 0), (J 0), (J 0), (J 0), (J 0), (J 0), (J 0), (J 0), (J 0), (.slice none 0 0)]) Tryz.zeroValue33 rfl rfl rfl ?_)
  intro w105 b106 hb107 hz108 g109 o110
  have H111 := H103.newB g109 o110 (by omega)
  have z112 := g109.size
  refine RL.st (vs := [(J ((Aa tk3 2 4 0 tl1).kind)), (J ((Aa tk3 2 4 0 tl1).view)), (J ((Aa tk3 2 4 0 tl1).from_)), (J ((Aa tk3 2 4 0 tl1).number)), (.string (tx (Aa tk3 2 4 0 tl1).image)), (J ((Aa tk3 2 4 0 tl1).entry.num)), (J ((Aa tk3 2 4 0 tl1).entry.view)), (J ((Aa tk3 2 4 0 tl1).entry.client)), (J ((Aa tk3 2 4 0 tl1).entry.seq)), (J ((Aa tk3 2 4 0 tl1).entry.op.kind)), (J ((Aa tk3 2 4 0 tl1).entry.op.h)), (J ((Aa tk3 2 4 0 tl1).entry.op.i)), (J ((Aa tk3 2 4 0 tl1).entry.op.n)), (J ((Aa tk3 2 4 0 tl1).entry.op.k)), (J ((Aa tk3 2 4 0 tl1).entry.op.v)), (J ((Aa tk3 2 4 0 tl1).entry.op.t)), (.slice A97 n98 c99)]) (cs' := [(J ((Aa tk3 2 4 0 tl1).kind)), (J ((Aa tk3 2 4 0 tl1).view)), (J ((Aa tk3 2 4 0 tl1).from_)), (J ((Aa tk3 2 4 0 tl1).number)), (.string (tx (Aa tk3 2 4 0 tl1).image)), (J ((Aa tk3 2 4 0 tl1).entry.num)), (J ((Aa tk3 2 4 0 tl1).entry.view)), (J ((Aa tk3 2 4 0 tl1).entry.client)), (J ((Aa tk3 2 4 0 tl1).entry.seq)), (J ((Aa tk3 2 4 0 tl1).entry.op.kind)), (J ((Aa tk3 2 4 0 tl1).entry.op.h)), (J ((Aa tk3 2 4 0 tl1).entry.op.i)), (J ((Aa tk3 2 4 0 tl1).entry.op.n)), (J ((Aa tk3 2 4 0 tl1).entry.op.k)), (J ((Aa tk3 2 4 0 tl1).entry.op.v)), (J ((Aa tk3 2 4 0 tl1).entry.op.t)), (.slice A97 n98 c99)]) Tryz.sizeOf33 (H111.ob (i := 0) rfl) rfl rfl rfl rfl rfl rfl ?_
  intro w113 hz114 g115 o116
  have H117 : Sp [Af b106 33 [(J ((Aa tk3 2 4 0 tl1).kind)), (J ((Aa tk3 2 4 0 tl1).view)), (J ((Aa tk3 2 4 0 tl1).from_)), (J ((Aa tk3 2 4 0 tl1).number)), (.string (tx (Aa tk3 2 4 0 tl1).image)), (J ((Aa tk3 2 4 0 tl1).entry.num)), (J ((Aa tk3 2 4 0 tl1).entry.view)), (J ((Aa tk3 2 4 0 tl1).entry.client)), (J ((Aa tk3 2 4 0 tl1).entry.seq)), (J ((Aa tk3 2 4 0 tl1).entry.op.kind)), (J ((Aa tk3 2 4 0 tl1).entry.op.h)), (J ((Aa tk3 2 4 0 tl1).entry.op.i)), (J ((Aa tk3 2 4 0 tl1).entry.op.n)), (J ((Aa tk3 2 4 0 tl1).entry.op.k)), (J ((Aa tk3 2 4 0 tl1).entry.op.v)), (J ((Aa tk3 2 4 0 tl1).entry.op.t)), (.slice A97 n98 c99)], Ar 31 11 A97 n98 c99 (ents ((Aa tk3 2 4 0 tl1).ents)), Ar 31 11 A84 1 c85 (ents tl1), Ar 31 11 A77 3 c78 (ents tk3.ents), Af b63 33 [(J ((Aa tk3 2 4 3 ([])).kind)), (J ((Aa tk3 2 4 3 ([])).view)), (J ((Aa tk3 2 4 3 ([])).from_)), (J ((Aa tk3 2 4 3 ([])).number)), (.string (tx (Aa tk3 2 4 3 ([])).image)), (J ((Aa tk3 2 4 3 ([])).entry.num)), (J ((Aa tk3 2 4 3 ([])).entry.view)), (J ((Aa tk3 2 4 3 ([])).entry.client)), (J ((Aa tk3 2 4 3 ([])).entry.seq)), (J ((Aa tk3 2 4 3 ([])).entry.op.kind)), (J ((Aa tk3 2 4 3 ([])).entry.op.h)), (J ((Aa tk3 2 4 3 ([])).entry.op.i)), (J ((Aa tk3 2 4 3 ([])).entry.op.n)), (J ((Aa tk3 2 4 3 ([])).entry.op.k)), (J ((Aa tk3 2 4 3 ([])).entry.op.v)), (J ((Aa tk3 2 4 3 ([])).entry.op.t)), (.slice A54 n55 c56)], Ar 31 11 A54 n55 c56 (ents ((Aa tk3 2 4 3 ([])).ents)), Ar 31 11 A43 3 c44 (ents tk3.ents), Af b30 33 [(J ((Aa tk3 2 4 0 By).kind)), (J ((Aa tk3 2 4 0 By).view)), (J ((Aa tk3 2 4 0 By).from_)), (J ((Aa tk3 2 4 0 By).number)), (.string (tx (Aa tk3 2 4 0 By).image)), (J ((Aa tk3 2 4 0 By).entry.num)), (J ((Aa tk3 2 4 0 By).entry.view)), (J ((Aa tk3 2 4 0 By).entry.client)), (J ((Aa tk3 2 4 0 By).entry.seq)), (J ((Aa tk3 2 4 0 By).entry.op.kind)), (J ((Aa tk3 2 4 0 By).entry.op.h)), (J ((Aa tk3 2 4 0 By).entry.op.i)), (J ((Aa tk3 2 4 0 By).entry.op.n)), (J ((Aa tk3 2 4 0 By).entry.op.k)), (J ((Aa tk3 2 4 0 By).entry.op.v)), (J ((Aa tk3 2 4 0 By).entry.op.t)), (.slice A21 n22 c23)], Ar 31 11 A21 n22 c23 (ents ((Aa tk3 2 4 0 By).ents)), Ar 31 11 A8 4 c9 (ents By), Ar 31 11 A1 3 c2 (ents tk3.ents), Bd w Bl] w113 := H111.setB (i := 0) rfl g115 o116 rfl
  have z118 := g115.size
  refine za (.bool (Bx tk3 2 4 0 tl1)) rfl (RL.nil (thn.n (CW.seq (CW.region (zg rfl (Au (v := .bool true) (by show Value.bool (Bx tk3 2 4 0 By) = _; rw [ad_y])) (zm (bT) rfl (zg rfl (fa33_0 (b := ⟨b30, 0, none⟩) rfl rfl) (zl (J ((Aa tk3 2 4 0 By).kind)) lo26 (H117.ob (i := 7) rfl) rfl (zg rfl (Cb (r := true) rfl rfl (decide_eq_true (by rw [ad_r]; rfl))) (zT (bT) rfl (zm (bT) rfl (zg rfl (fa33_1 (b := ⟨b30, 1, none⟩) rfl rfl) (zl (J ((Aa tk3 2 4 0 By).view)) Cf (H117.ob (i := 7) rfl) rfl ?_)))))))))))))
  refine zg rfl (Cb (r := true) rfl rfl (decide_eq_true (by rw [ad_r]; rfl))) (zT (bT) rfl (zm (bT) rfl (zg rfl (fa33_2 (b := ⟨b30, 2, none⟩) rfl rfl) (zl (J ((Aa tk3 2 4 0 By).from_)) Cf (H117.ob (i := 7) rfl) rfl (zg rfl (Cb (r := true) rfl rfl (decide_eq_true (by rw [ad_r]; rfl))) (zT (bT) rfl (zm (bT) rfl ?_)))))))
  have hl119 := H117.len (i := 8) rfl
  rw [Bb, ad_r] at hl119
  simp only [ad3, List.length_cons, List.length_nil] at hl119
  have hl2 : (Aa tk3 2 4 0 By).ents.length = 2 := by rw [ad_r]; rfl
  refine zg rfl (fa33_6 (b := ⟨b30, 16, none⟩) rfl rfl) (zl (.slice A21 n22 c23) lo22 (H117.ob (i := 7) rfl) rfl (zg rfl (Ex.len Tryz.underlying22 rfl) (zg rfl (Cb (r := true) rfl rfl (decide_eq_true (by omega))) (zT (bT) rfl (zm (bT) rfl (zg rfl (fa33_6 (b := ⟨b30, 16, none⟩) rfl rfl) (zl (.slice A21 n22 c23) lo22 (H117.ob (i := 7) rfl) rfl ?_)))))))
  obtain ⟨e120, he121⟩ : ∃ e, ((Aa tk3 2 4 0 By).ents)[0]? = some e := ⟨_, List.getElem?_eq_getElem (by omega)⟩
  obtain ⟨ad122, hA123⟩ := Rd.sm (H117.rowrd (i := 8) rfl) (Bw he121)
  have hl124 := Eng.lt_len (Bw he121)
  refine zg rfl (Cq (b := (ad122.add (0 * 11))) (i := 0) Tryz.underlying22 Tryz.sizeOf31 (by rw [← hA123]; rfl) rfl (by omega) (by omega) rfl) (zg rfl (fa31_0 (b := ((ad122.add (0 * 11)))) rfl rfl) (zg rfl (Ai rfl (Ba Cf (Cl.at_ (v := (J e120.num)) (Rd.cl (H117.rowrd (i := 8) rfl) hA123 (Bw he121)) (i := 0) rfl))) ?_))
  have h3 : e120 = entR 3 := by rw [ad_r] at he121; injection he121 with h3; exact h3.symm
  refine zg rfl (Cb (r := true) rfl rfl (decide_eq_true (by rw [h3]; rfl))) (zT (bT) rfl (zm (bT) rfl (zg rfl (Au (v := .bool false) (by show Value.bool (Bx tk3 2 4 3 ([])) = _; rw [ad_n1])) (zg rfl (Ex.not (b := false) rfl) (zT (bT) rfl (zm (bT) rfl (zg rfl (Au (v := .bool false) (by show Value.bool (Bx tk3 2 4 0 tl1) = _; rw [ad_n2])) (zg rfl (Ex.not (b := false) rfl) (zT (bT) rfl (za (bT) rfl ?_))))))))))
  refine RL.nil (thn.n (CW.ret (finQ.r (v := bT) (Ax rfl rfl) ?_)))
  exact ⟨rfl, (H117.fix (i := 11) rfl)⟩
end Go.Proofs.YtfokljnhllflbaaGreat
namespace Go.Eng
open Go Go.RowKit
structure Vote where
  (node normal base number commit : Int)
  ents : List Entry
  deriving DecidableEq
structure RVote where
  v : Vote
  s : Sl
def RVote.cells (r : RVote) : List Value := [.int .i64 r.v.node, .int .i64 r.v.normal, .int .i64 r.v.base, .int .i64 r.v.number, .int .i64 r.v.commit, .slice r.s.a r.s.n r.s.c]
def VtR (w : World) (B : Nat) (l : List RVote) : Prop := ∀ r ∈ l, Rd w B 11 r.s.a (ents r.v.ents) ∧ r.s.n = r.v.ents.length ∧ r.s.n ≤ r.s.c
theorem VtR.st0 {w w' : World} {B : Nat} {l : List RVote} (h : VtR w B l) (g : w.grownBy w' none) : VtR w' B l := fun r hr => ⟨(h r hr).1.st0 g, (h r hr).2⟩
theorem VtR.more {w : World} {B B' : Nat} {l : List RVote} (h : VtR w B l) (hb : B ≤ B') : VtR w B' l := fun r hr => ⟨(h r hr).1.more hb, (h r hr).2⟩
section
variable {w w' w0 : World} {l m : List Atom} {A B C : Atom} {i j : Nat}
theorem Sp.merge (h : Sp (A :: B :: l) w) (hw : ∀ S T, A.ok S w → B.ok T w → C.ok (fun b => S b ∨ T b) w) : Sp (C :: l) w := by
  obtain ⟨S, h1, h2⟩ := h
  refine ⟨fun a b => if a = 0 then S 0 b ∨ S 1 b else S (a + 1) b, fun a c b ha hc => ?_, fun a D ha => ?_⟩
  · dsimp only at ha hc
    by_cases e1 : a = 0 <;> by_cases e2 : c = 0
    · rw [e1, e2]
    · rw [if_pos e1] at ha; rw [if_neg e2] at hc
      rcases ha with ha | ha <;> have := h1 _ _ b ha hc <;> omega
    · rw [if_neg e1] at ha; rw [if_pos e2] at hc
      rcases hc with hc | hc <;> have := h1 _ _ b ha hc <;> omega
    · rw [if_neg e1] at ha; rw [if_neg e2] at hc
      have := h1 _ _ b ha hc; omega
  · cases a with
    | zero => simp at ha; subst ha; exact C.mono (fun b hb => by show ite _ _ _; rw [if_pos rfl]; exact hb) (hw _ _ (h2 0 A rfl) (h2 1 B rfl))
    | succ a => exact D.mono (fun b hb => by show ite _ _ _; rw [if_neg (by omega)]; exact hb) (h2 (a + 2) D (by simpa using ha))
theorem VtR.get {w : World} {B : Nat} {l : List RVote} (h : VtR w B l) {k : Nat} {r : RVote} (hr : l[k]? = some r) : Rd w B 11 r.s.a (ents r.v.ents) ∧ r.s.n = r.v.ents.length ∧ r.s.n ≤ r.s.c := h r (List.mem_of_getElem? hr)
end
end Go.Eng
namespace Go.Eng
open Go
theorem iand_words : ∀ k : Nat, k < 9 → ∀ a : Nat, a < 257 → decide (iand .i64 (a : Int) (Ae (k : Int) - 1) = 0) = decide ((a : Int).tmod (Ae (k : Int)) = 0) := by decide +kernel
theorem ixor_words : ∀ k : Nat, k < 8 → ∀ a : Nat, a < 257 → (a : Int).tmod (Ae (k : Int)) = 0 → ixor .i64 (a : Int) (Ae (k : Int)) = if (a : Int).tmod (2 * Ae (k : Int)) = 0 then (a : Int) + Ae (k : Int) else (a : Int) - Ae (k : Int) := by decide +kernel
def meetB (a b : Blk) : Bool := decide (a.at_ < b.at_ + Ae b.ord) && decide (b.at_ < a.at_ + Ae a.ord)
theorem meetB_f {a b : Blk} : meetB a b = false ↔ (b.at_ + Ae b.ord ≤ a.at_ ∨ a.at_ + Ae a.ord ≤ b.at_) := by
  unfold meetB
  rw [Bool.and_eq_false_iff, decide_eq_false_iff_not, decide_eq_false_iff_not]
  omega
def mayR (o : Int) (b : Blk) : Bool := decide (0 ≤ b.ord) && decide (b.ord ≤ o) && decide (0 ≤ b.at_) && decide (b.at_ ≤ Ae o - Ae b.ord) && decide (b.at_.tmod (Ae b.ord) = 0)
theorem mayR_t {o : Int} {b : Blk} : mayR o b = true ↔ (0 ≤ b.ord ∧ b.ord ≤ o ∧ 0 ≤ b.at_ ∧ b.at_ ≤ Ae o - Ae b.ord ∧ b.at_.tmod (Ae b.ord) = 0) := by
  unfold mayR
  simp only [Bool.and_eq_true, decide_eq_true_eq, and_assoc]
theorem mayR_eq {o : Int} (b : Blk) (h0 : o ≤ 8) : mayR o b = mayB o b := by
  unfold mayR mayB
  by_cases h : 0 ≤ b.ord ∧ b.ord ≤ o ∧ 0 ≤ b.at_ ∧ b.at_ ≤ Ae o - Ae b.ord
  · obtain ⟨h1, h2, h3, h4⟩ := h
    have w1 := Az o
    have w2 := Az b.ord
    have e1 : b.ord = (b.ord.toNat : Int) := (Int.toNat_of_nonneg h1).symm
    have e2 : b.at_ = (b.at_.toNat : Int) := (Int.toNat_of_nonneg h3).symm
    have := iand_words b.ord.toNat (by omega) b.at_.toNat (by omega)
    rw [← e1, ← e2] at this
    rw [this]
  · have e : (decide (0 ≤ b.ord) && decide (b.ord ≤ o) && decide (0 ≤ b.at_) && decide (b.at_ ≤ Ae o - Ae b.ord)) = false := by
      cases hx : (decide (0 ≤ b.ord) && decide (b.ord ≤ o) && decide (0 ≤ b.at_) && decide (b.at_ ≤ Ae o - Ae b.ord)) with
      | false => rfl
      | true =>
        simp only [Bool.and_eq_true, decide_eq_true_eq] at hx
        exact absurd ⟨hx.1.1.1, hx.1.1.2, hx.1.2, hx.2⟩ h
    rw [e, Bool.false_and, Bool.false_and]
def twinR (b : Blk) : Blk := if b.at_.tmod (2 * Ae b.ord) = 0 then ⟨b.at_ + Ae b.ord, b.ord⟩ else ⟨b.at_ - Ae b.ord, b.ord⟩
theorem twinR_eq {o : Int} {b : Blk} (h : mayR o b = true) (ho : b.ord < o) (h8 : o ≤ 8) : twinR b = twinOf b := by
  obtain ⟨h1, h2, h3, h4, h5⟩ := mayR_t.1 h
  have w1 := Az o
  have w2 := Az b.ord
  have e1 : b.ord = (b.ord.toNat : Int) := (Int.toNat_of_nonneg h1).symm
  have e2 : b.at_ = (b.at_.toNat : Int) := (Int.toNat_of_nonneg h3).symm
  have := ixor_words b.ord.toNat (by omega) b.at_.toNat (by omega)
  rw [← e1, ← e2] at this
  unfold twinR twinOf
  rw [this h5]
  split <;> rfl
def okP (o : Int) (y x : Blk) : Prop := y.at_ < x.at_ ∧ meetB x y = false ∧ ¬ (x.ord < o ∧ twinR x = y)
theorem twinR_at {x y : Blk} (h : twinR x = y) : y.ord = x.ord ∧ (y.at_ = x.at_ + Ae x.ord ∨ y.at_ = x.at_ - Ae x.ord) := by
  unfold twinR at h
  split at h <;> subst h
  · exact ⟨rfl, .inl rfl⟩
  · exact ⟨rfl, .inr rfl⟩
theorem buddyGo_pw {o : Int} (h8 : o ≤ 8) : ∀ {l : List Blk} {e : Int} {last : Blk}, buddyGo o l e last = true ↔
    (∀ x ∈ l, mayR o x = true ∧ e ≤ x.at_) ∧ l.Pairwise (okP o) ∧ (∀ x, l.head? = some x → ¬ (x.ord < o ∧ last = twinOf x ∧ 0 ≤ last.at_))
  | [], _, _ => by simp [buddyGo]
  | b :: l, e, last => by
    have hd : buddyGo o (b :: l) e last = true ↔ (mayR o b = true ∧ e ≤ b.at_ ∧ ¬ (b.ord < o ∧ last = twinOf b ∧ 0 ≤ last.at_)) ∧ buddyGo o l (b.at_ + Ae b.ord) b = true := by
      rw [mayR_eq b h8]
      conv => lhs; unfold buddyGo
      simp only [Bool.and_eq_true, Bool.not_eq_true', decide_eq_false_iff_not, Bool.and_eq_false_iff, decide_eq_true_eq]
      constructor
      · rintro ⟨⟨⟨h1, h2⟩, h3⟩, h4⟩
        refine ⟨⟨h1, by omega, fun ⟨q1, q2, q3⟩ => ?_⟩, h4⟩
        rcases h3 with (h3 | h3) | h3
        · exact h3 q1
        · exact h3 q2
        · exact h3 q3
      · rintro ⟨⟨h1, h2, h3⟩, h4⟩
        refine ⟨⟨⟨h1, by omega⟩, ?_⟩, h4⟩
        by_cases q1 : b.ord < o
        · by_cases q2 : last = twinOf b
          · exact .inr fun q3 => h3 ⟨q1, q2, q3⟩
          · exact .inl (.inr q2)
        · exact .inl (.inl q1)
    rw [hd, buddyGo_pw h8 (l := l)]
    constructor
    · rintro ⟨⟨h1, h2, h3⟩, h4, h5, h6⟩
      obtain ⟨m1, m2, m3, m4, m5⟩ := mayR_t.1 h1
      have wb := Bm m1 (by omega)
      refine ⟨fun x hx => ?_, List.pairwise_cons.2 ⟨fun x hx => ?_, h5⟩, fun x hx => by simp at hx; subst hx; exact h3⟩
      · rcases List.mem_cons.1 hx with rfl | hx
        · exact ⟨h1, h2⟩
        · have := h4 x hx; exact ⟨this.1, by omega⟩
      · have hx4 := h4 x hx
        refine ⟨by omega, meetB_f.2 (.inl hx4.2), fun ⟨q1, q2⟩ => ?_⟩
        obtain ⟨t1, t2⟩ := twinR_at q2
        obtain ⟨n1, n2, n3, n4, n5⟩ := mayR_t.1 hx4.1
        have wx := Bm n1 (by omega)
        cases l with
        | nil => simp at hx
        | cons c l =>
          rcases List.mem_cons.1 hx with rfl | hx
          · refine h6 x rfl ⟨q1, ?_, m3⟩
            rw [← twinR_eq hx4.1 q1 h8]; exact q2.symm
          · have c1 := (h4 c (by simp)).2
            have c2 := ((List.pairwise_cons.1 h5).1 x hx).1
            rw [t1] at c1
            rcases t2 with t2 | t2 <;> omega
    · rintro ⟨h1, h2, h3⟩
      obtain ⟨p1, p2⟩ := List.pairwise_cons.1 h2
      have hb := h1 b (by simp)
      refine ⟨⟨hb.1, hb.2, h3 b rfl⟩, fun x hx => ?_, p2, fun x hx => ?_⟩
      · have hx1 := h1 x (List.mem_cons_of_mem _ hx)
        obtain ⟨q1, q2, q3⟩ := p1 x hx
        obtain ⟨n1, n2, n3, n4, n5⟩ := mayR_t.1 hx1.1
        have wx := Bm n1 (by omega)
        refine ⟨hx1.1, ?_⟩
        rcases meetB_f.1 q2 with q2 | q2 <;> omega
      · have hx' : x ∈ l := List.mem_of_mem_head? hx
        obtain ⟨q1, q2, q3⟩ := p1 x hx'
        rintro ⟨r1, r2, r3⟩
        refine q3 ⟨r1, ?_⟩
        rw [twinR_eq (h1 x (List.mem_cons_of_mem _ hx')).1 r1 h8]; exact r2.symm
theorem buddyGo_len2 {o : Int} (h8 : o ≤ 8) : ∀ {l : List Blk} {e : Int} {last : Blk}, buddyGo o l e last = true → l = [] ∨ e + l.length ≤ Ae o
  | [], _, _, _ => .inl rfl
  | b :: l, e, last, h => by
    obtain ⟨h1, _, _⟩ := (buddyGo_pw h8).1 h
    have hb := h1 b (by simp)
    obtain ⟨m1, m2, m3, m4, m5⟩ := mayR_t.1 hb.1
    have wb := Bm m1 (by omega)
    unfold buddyGo at h
    rw [Bool.and_eq_true] at h
    right
    rw [List.length_cons]
    rcases buddyGo_len2 h8 h.2 with h2 | h2
    · subst h2; simp only [List.length_nil]; omega
    · omega
def RightF (o : Int) (l : List Blk) : Prop := (3 ≤ o ∧ o ≤ 8) ∧ (l.length : Int) ≤ Ae o ∧ (∀ x ∈ l, mayR o x = true) ∧ l.Pairwise (okP o)
theorem buddy_right {o : Int} {l : List Blk} : buddyB o l = true ↔ RightF o l := by
  unfold buddyB RightF
  rw [Bool.and_eq_true]
  constructor
  · rintro ⟨h1, h2⟩
    have h1 := Bc h1
    obtain ⟨a1, a2, _⟩ := (buddyGo_pw h1.2).1 h2
    refine ⟨h1, ?_, fun x hx => (a1 x hx).1, a2⟩
    rcases buddyGo_len2 h1.2 h2 with h3 | h3
    · subst h3; exact (Az o).1
    · omega
  · rintro ⟨h1, h2, h3, h4⟩
    refine ⟨by simp [Aq]; exact h1, (buddyGo_pw h1.2).2 ⟨fun x hx => ⟨h3 x hx, (mayR_t.1 (h3 x hx)).2.2.1⟩, h4, fun x _ ⟨_, _, q⟩ => by simp at q⟩⟩
theorem bsGo_spec {hs : List Int} {t : Int} (hp : ∀ i j : Nat, i ≤ j → j < hs.length → hs.getD i 0 ≤ hs.getD j 0) : ∀ (n i j : Nat), j - i ≤ n → i ≤ j → j ≤ hs.length → (∀ k, k < i → hs.getD k 0 < t) → (∀ k, j ≤ k → k < hs.length → ¬ hs.getD k 0 < t) →
    (∀ k, k < bsGo hs t i j → hs.getD k 0 < t) ∧ (∀ k, bsGo hs t i j ≤ k → k < hs.length → ¬ hs.getD k 0 < t)
  | 0, i, j, hn, hij, hj, h1, h2 => by
    rw [bsGo_end (by omega)]
    exact ⟨h1, fun k hk hl => h2 k (by omega) hl⟩
  | n + 1, i, j, hn, hij, hj, h1, h2 => by
    by_cases hlt : i < j
    · by_cases hm : hs.getD ((i + j) / 2) 0 < t
      · rw [← bsGo_lo hlt rfl hm]
        refine bsGo_spec hp n _ _ (by omega) (by omega) hj (fun k hk => ?_) h2
        have := hp k ((i + j) / 2) (by omega) (by omega)
        omega
      · rw [← bsGo_hi hlt rfl hm]
        refine bsGo_spec hp n _ _ (by omega) (by omega) (by omega) h1 (fun k hk hl => ?_)
        have := hp ((i + j) / 2) k hk hl
        omega
    · rw [bsGo_end hlt]
      exact ⟨h1, fun k hk hl => h2 k (by omega) hl⟩
theorem found_of {hs : List Int} {t : Int} (hs1 : hs.Pairwise (· < ·)) (ht : t ∈ hs) : foundB hs t = true := by
  have hp : ∀ i j : Nat, i < j → j < hs.length → hs.getD i 0 < hs.getD j 0 := fun i j hij hj => by
    have := (List.pairwise_iff_getElem.1 hs1) i j (by omega) hj hij
    rw [List.getD_eq_getElem?_getD, List.getD_eq_getElem?_getD, List.getElem?_eq_getElem (show i < hs.length by omega), List.getElem?_eq_getElem hj]
    exact this
  have hp' : ∀ i j : Nat, i ≤ j → j < hs.length → hs.getD i 0 ≤ hs.getD j 0 := fun i j hij hj => by
    rcases Nat.lt_or_ge i j with h | h
    · have := hp i j h hj; omega
    · have : i = j := by omega
      subst this; exact Int.le_refl _
  obtain ⟨m, hm⟩ := List.mem_iff_getElem?.1 ht
  have hl := (List.getElem?_eq_some_iff.1 hm).1
  have em : hs.getD m 0 = t := by rw [List.getD_eq_getElem?_getD, hm]; rfl
  obtain ⟨a1, a2⟩ := bsGo_spec (t := t) hp' hs.length 0 hs.length (by omega) (Nat.zero_le _) (Nat.le_refl _) (fun k hk => by omega) (fun k hk hl => by omega)
  have e : bsI hs t = m := by
    have b1 : ¬ m < bsI hs t := fun h => by have := a1 m h; omega
    have b2 : ¬ bsI hs t < m := fun h => by
      have := hp _ m h hl
      have := a2 (bsI hs t) (Nat.le_refl _) (by omega)
      omega
    omega
  unfold foundB
  rw [e, em]
  simp [hl]
theorem asc_pw {next : Int} : ∀ {l : List Int} {last : Int}, ascB next last l = true ↔ (∀ x ∈ l, last < x ∧ x < next) ∧ l.Pairwise (· < ·)
  | [], last => by simp [ascB]
  | x :: l, last => by
    unfold ascB
    simp only [Bool.and_eq_true, decide_eq_true_eq]
    rw [asc_pw (l := l), List.pairwise_cons]
    constructor
    · rintro ⟨⟨h1, h2⟩, h3, h4⟩
      refine ⟨fun y hy => ?_, fun y hy => (h3 y hy).1, h4⟩
      rcases List.mem_cons.1 hy with rfl | hy
      · exact ⟨h1, h2⟩
      · have := h3 y hy; omega
    · rintro ⟨h1, h2, h3⟩
      refine ⟨h1 x (by simp), fun y hy => ⟨h2 y hy, (h1 y (List.mem_cons_of_mem _ hy)).2⟩, h3⟩
theorem lead_iff {hs : List Int} {t : Int} (h : hs.Pairwise (· < ·)) : leadB hs t = true ↔ (t = 0 ∨ t ∈ hs) := by
  unfold leadB
  rw [Bool.or_eq_true, decide_eq_true_eq]
  exact ⟨fun h1 => h1.imp id found_mem, fun h1 => h1.imp id (found_of h)⟩
def sumW (l : List Blk) : Int := (l.map fun b => Ae b.ord).sum
theorem sumW_cons (b : Blk) (l : List Blk) : sumW (b :: l) = Ae b.ord + sumW l := by simp [sumW]
theorem sumW_perm {l m : List Blk} (h : l.Perm m) : sumW l = sumW m := by
  induction h with
  | nil => rfl
  | cons x _ ih => rw [sumW_cons, sumW_cons, ih]
  | swap x y l => rw [sumW_cons, sumW_cons, sumW_cons, sumW_cons]; omega
  | trans _ _ h1 h2 => rw [h1, h2]
def apart (y x : Blk) : Prop := meetB x y = false
theorem apart_symm {x y : Blk} (h : apart x y) : apart y x := by
  unfold apart at h ⊢
  rw [meetB_f] at h ⊢
  omega
theorem sum_le {N : Int} : ∀ {l : List Blk} {e : Int}, e ≤ N → (∀ b ∈ l, 1 ≤ Ae b.ord ∧ e ≤ b.at_ ∧ b.at_ + Ae b.ord ≤ N) → l.Pairwise (fun a b => a.at_ ≤ b.at_) → l.Pairwise apart → sumW l ≤ N - e
  | [], e, h, _, _, _ => by show (0 : Int) ≤ _; omega
  | b :: l, e, h, h1, h2, h3 => by
    obtain ⟨p1, p2⟩ := List.pairwise_cons.1 h2
    obtain ⟨q1, q2⟩ := List.pairwise_cons.1 h3
    obtain ⟨b1, b2, b3⟩ := h1 b (by simp)
    have ih := sum_le (N := N) (l := l) (e := b.at_ + Ae b.ord) b3 (fun x hx => by
      obtain ⟨x1, x2, x3⟩ := h1 x (List.mem_cons_of_mem _ hx)
      refine ⟨x1, ?_, x3⟩
      have y1 := p1 x hx
      rcases meetB_f.1 (q1 x hx) with y2 | y2 <;> omega) p2 q2
    rw [sumW_cons]
    omega
theorem cover {N : Int} : ∀ {l : List Blk} {e : Int}, e ≤ N → (∀ b ∈ l, 1 ≤ Ae b.ord ∧ e ≤ b.at_ ∧ b.at_ + Ae b.ord ≤ N) → l.Pairwise (fun a b => a.at_ ≤ b.at_) → l.Pairwise apart → sumW l = N - e → Br e l = some N
  | [], e, h, _, _, _, hs => by
    have : (0 : Int) = N - e := hs
    unfold Br; rw [show e = N by omega]
  | b :: l, e, h, h1, h2, h3, hs => by
    obtain ⟨p1, p2⟩ := List.pairwise_cons.1 h2
    obtain ⟨q1, q2⟩ := List.pairwise_cons.1 h3
    obtain ⟨b1, b2, b3⟩ := h1 b (by simp)
    have hl : ∀ x ∈ l, 1 ≤ Ae x.ord ∧ b.at_ + Ae b.ord ≤ x.at_ ∧ x.at_ + Ae x.ord ≤ N := fun x hx => by
      obtain ⟨x1, x2, x3⟩ := h1 x (List.mem_cons_of_mem _ hx)
      refine ⟨x1, ?_, x3⟩
      have y1 := p1 x hx
      rcases meetB_f.1 (q1 x hx) with y2 | y2 <;> omega
    have := sum_le b3 hl p2 q2
    rw [sumW_cons] at hs
    have e0 : b.at_ = e := by omega
    unfold Br
    rw [if_pos e0]
    refine cover (by omega) (fun x hx => by have := hl x hx; omega) p2 q2 (by omega)
theorem contig_in {N : Int} : ∀ {l : List Blk} {e : Int}, (∀ b ∈ l, 1 ≤ Ae b.ord) → Br e l = some N → e ≤ N ∧ sumW l = N - e ∧ (∀ b ∈ l, e ≤ b.at_ ∧ b.at_ + Ae b.ord ≤ N) ∧ l.Pairwise apart
  | [], e, _, h => by
    unfold Br at h
    injection h with h
    subst h
    exact ⟨Int.le_refl _, by show (0 : Int) = _; omega, by simp, List.Pairwise.nil⟩
  | b :: l, e, hw, h => by
    unfold Br at h
    split at h
    · rename_i he
      obtain ⟨a1, a2, a3, a4⟩ := contig_in (fun x hx => hw x (List.mem_cons_of_mem _ hx)) h
      have wb := hw b (by simp)
      refine ⟨by omega, by rw [sumW_cons]; omega, fun x hx => ?_, List.pairwise_cons.2 ⟨fun x hx => ?_, a4⟩⟩
      · rcases List.mem_cons.1 hx with rfl | hx
        · omega
        · have := a3 x hx; omega
      · have := a3 x hx
        exact meetB_f.2 (.inl (by omega))
    · cases h
def RightH (h : Heap) : Prop := buddyB h.order h.free = true ∧ (1 ≤ h.next ∧ h.next - 1 ≤ 1000000) ∧ h.objs.length ≤ 256 ∧
  (∀ (i : Nat) (x : Obj), h.objs[i]? = some x → 1 ≤ x.handle ∧ x.handle < h.next ∧ (∀ y : Obj, 0 < i → h.objs[i - 1]? = some y → y.handle < x.handle) ∧ Bs x.words.length x.links.length = x.blk.ord ∧ mayR h.order x.blk = true ∧ ∀ t ∈ x.links, t = 0 ∨ t ∈ h.handles) ∧
  h.blocks.Pairwise apart ∧ (∀ t ∈ h.tops, t = 0 ∨ t ∈ h.handles) ∧ sumW h.blocks = Ae h.order
theorem pw_adj : ∀ {l : List Int}, (∀ (i : Nat) (x y : Int), l[i]? = some x → l[i + 1]? = some y → x < y) → l.Pairwise (· < ·)
  | [], _ => List.Pairwise.nil
  | [x], _ => List.pairwise_singleton _ _
  | x :: y :: l, h => by
    have ih := pw_adj (l := y :: l) (fun i a b ha hb => h (i + 1) a b (by simpa using ha) (by simpa using hb))
    refine List.pairwise_cons.2 ⟨fun z hz => ?_, ih⟩
    have hxy := h 0 x y rfl rfl
    rcases List.mem_cons.1 hz with rfl | hz
    · exact hxy
    · have := (List.pairwise_cons.1 ih).1 z hz; omega
theorem heap_right (h : Heap) : Cw h = true ↔ RightH h := by
  unfold Cw RightH
  simp only [Bool.and_eq_true, decide_eq_true_eq, Bool.not_eq_true']
  constructor
  · rintro ⟨⟨⟨⟨⟨⟨⟨h1, h2⟩, h3⟩, h4⟩, h5⟩, h6⟩, h7⟩, h8⟩
    have h2 := Bc h2
    obtain ⟨r1, r2, r3, r4⟩ := buddy_right.1 h1
    obtain ⟨a1, a2⟩ := asc_pw.1 h4
    have hw : ∀ b ∈ h.blocks, 1 ≤ Ae b.ord := fun b hb => by
      rcases List.mem_append.1 hb with hb | hb
      · obtain ⟨m1, m2, _⟩ := mayR_t.1 (r3 b hb); exact Bm m1 (by omega)
      · obtain ⟨x, hx, rfl⟩ := List.mem_map.1 hb; exact objB_pos r1.2 (List.all_eq_true.1 h5 x hx)
    have hp := isort_perm h.blocks
    obtain ⟨c1, c2, c3, c4⟩ := contig_in (fun b hb => hw b (hp.mem_iff.1 hb)) h6
    refine ⟨h1, by omega, h3, fun i x hx => ?_, (hp.pairwise_iff (fun h => apart_symm h)).1 c4, fun t ht => ?_, by rw [← sumW_perm hp, c2]; omega⟩
    · have hm := List.mem_of_getElem? hx
      have ho := List.all_eq_true.1 h5 x hm
      unfold objB at ho
      simp only [Bool.and_eq_true, decide_eq_true_eq] at ho
      obtain ⟨⟨⟨o1, o2⟩, o3⟩, o4⟩ := ho
      have o2 := Bc o2
      have hh := a1 x.handle (List.mem_map.2 ⟨x, hm, rfl⟩)
      have hc := c3 x.blk (hp.mem_iff.2 (List.mem_append.2 (.inr (List.mem_map.2 ⟨x, hm, rfl⟩))))
      refine ⟨by omega, hh.2, fun y hi hy => ?_, o1, mayR_t.2 ⟨o2.1, o2.2, hc.1, by omega, o4⟩, fun t ht => ?_⟩
      · have l1 := lt_len hx
        have := (List.pairwise_iff_getElem.1 a2) (i - 1) i (by simp [Heap.handles]; omega) (by simpa [Heap.handles] using l1) (by omega)
        have e1 : (h.objs[i - 1]'(by omega)) = y := by have := hy; rw [List.getElem?_eq_getElem (by omega)] at this; injection this
        have e2 : (h.objs[i]'l1) = x := by have := hx; rw [List.getElem?_eq_getElem l1] at this; injection this
        simp only [Heap.handles, List.getElem_map, e1, e2] at this
        exact this
      · have := List.any_eq_false.1 h7 t (List.mem_flatten.2 ⟨x.links, List.mem_map.2 ⟨x, hm, rfl⟩, ht⟩)
        unfold Heap.lost at this
        refine (lead_iff a2).1 ?_
        simpa using this
    · have := List.any_eq_false.1 h8 t ht
      unfold Heap.lost at this
      refine (lead_iff a2).1 ?_
      simpa using this
  · rintro ⟨h1, h2, h3, h4, h5, h6, h7⟩
    obtain ⟨r1, r2, r3, r4⟩ := buddy_right.1 h1
    have a2 : h.handles.Pairwise (· < ·) := pw_adj fun i x y hx hy => by
      unfold Heap.handles at hx hy
      rw [List.getElem?_map] at hx hy
      cases ex : h.objs[i]? with
      | none => rw [ex] at hx; cases hx
      | some u =>
        cases ey : h.objs[i + 1]? with
        | none => rw [ey] at hy; cases hy
        | some v =>
          rw [ex] at hx; rw [ey] at hy
          injection hx with hx; injection hy with hy
          rw [← hx, ← hy]
          exact (h4 (i + 1) v ey).2.2.1 u (by omega) ex
    have hob : ∀ x ∈ h.objs, 1 ≤ x.handle ∧ x.handle < h.next ∧ Bs x.words.length x.links.length = x.blk.ord ∧ mayR h.order x.blk = true ∧ ∀ t ∈ x.links, t = 0 ∨ t ∈ h.handles := fun x hx => by
      obtain ⟨i, hi⟩ := List.mem_iff_getElem?.1 hx
      obtain ⟨q1, q2, _, q4, q5, q6⟩ := h4 i x hi
      exact ⟨q1, q2, q4, q5, q6⟩
    have hw : ∀ b ∈ h.blocks, 1 ≤ Ae b.ord ∧ 0 ≤ b.at_ ∧ b.at_ + Ae b.ord ≤ Ae h.order := fun b hb => by
      have hm : mayR h.order b = true := by
        rcases List.mem_append.1 hb with hb | hb
        · exact r3 b hb
        · obtain ⟨x, hx, rfl⟩ := List.mem_map.1 hb; exact (hob x hx).2.2.2.1
      obtain ⟨m1, m2, m3, m4, _⟩ := mayR_t.1 hm
      exact ⟨Bm m1 (by omega), m3, by omega⟩
    have hp := isort_perm h.blocks
    have hwo := Bm (show 0 ≤ h.order by omega) r1.2
    refine ⟨⟨⟨⟨⟨⟨⟨h1, ?_⟩, h3⟩, asc_pw.2 ⟨fun t ht => ?_, a2⟩⟩, List.all_eq_true.2 fun x hx => ?_⟩, ?_⟩, List.any_eq_false.2 fun t ht => ?_⟩, List.any_eq_false.2 fun t ht => ?_⟩
    · simp [Aq]; omega
    · obtain ⟨x, hx, rfl⟩ := List.mem_map.1 ht
      have := hob x hx
      omega
    · obtain ⟨q1, q2, q3, q4, q5⟩ := hob x hx
      obtain ⟨m1, m2, m3, m4, m5⟩ := mayR_t.1 q4
      have w := Az x.blk.ord
      unfold objB
      simp only [Bool.and_eq_true, decide_eq_true_eq, Aq]
      exact ⟨⟨⟨q3, by omega⟩, by omega⟩, m5⟩
    · refine cover (by omega) (fun b hb => ?_) (isort_sorted _) ((hp.pairwise_iff (fun h => apart_symm h)).2 h5) (by rw [sumW_perm hp, h7]; omega)
      have := hw b (hp.mem_iff.1 hb)
      omega
    · obtain ⟨ll, hl, ht⟩ := List.mem_flatten.1 ht
      obtain ⟨x, hx, rfl⟩ := List.mem_map.1 hl
      have := (lead_iff a2).2 ((hob x hx).2.2.2.2 t ht)
      unfold Heap.lost
      simpa using this
    · have := (lead_iff a2).2 (h6 t ht)
      unfold Heap.lost
      simpa using this
def clearB (o : Int) (xs : List Blk) (b : Blk) : Bool := !(xs.any (fun x => meetB b x)) && mayR o b
def topO (o : Int) (xs : List Blk) (at_ : Int) : Nat → Nat
  | 0 => 0
  | j + 1 => if clearB o xs ⟨at_, ((j + 1 : Nat) : Int)⟩ then j + 1 else topO o xs at_ j
def scanF (o : Int) (xs : List Blk) : Nat → Int → List Blk
  | 0, _ => []
  | f + 1, a => if a < Ae o then
      let j := topO o xs a o.toNat
      (if clearB o xs ⟨a, (j : Int)⟩ then [⟨a, (j : Int)⟩] else []) ++ scanF o xs f (a + Ae (j : Int))
    else []
theorem scanF_fuel {o : Int} {xs : List Blk} (h8 : o ≤ 8) : ∀ (f g : Nat) (a : Int), Ae o - a ≤ f → Ae o - a ≤ g → scanF o xs f a = scanF o xs g a
  | 0, 0, _, _, _ => rfl
  | 0, g + 1, a, h1, _ => by unfold scanF; rw [if_neg (by omega)]
  | f + 1, 0, a, _, h2 => by unfold scanF; rw [if_neg (by omega)]
  | f + 1, g + 1, a, h1, h2 => by
    unfold scanF
    split
    · have hj : ((topO o xs a o.toNat : Nat) : Int) ≤ 8 := by
        have : ∀ j, topO o xs a j ≤ j := by
          intro j
          induction j with
          | zero => exact Nat.le_refl _
          | succ j ih => unfold topO; split <;> omega
        have := this o.toNat
        omega
      have := Bm (o := (topO o xs a o.toNat : Int)) (by omega) hj
      simp only
      rw [scanF_fuel h8 f g _ (by omega) (by omega)]
    · rfl
theorem topO_is {o : Int} {xs : List Blk} {a : Int} {k : Nat} : ∀ {j : Nat}, k ≤ j → (∀ i : Nat, k < i → i ≤ j → clearB o xs ⟨a, (i : Int)⟩ = false) → (k = 0 ∨ clearB o xs ⟨a, (k : Int)⟩ = true) → topO o xs a j = k
  | 0, h, _, _ => by unfold topO; omega
  | j + 1, h, h1, h2 => by
    unfold topO
    by_cases e : k = j + 1
    · subst e
      rcases h2 with h2 | h2
      · omega
      · rw [if_pos h2]
    · rw [if_neg (by rw [h1 (j + 1) (by omega) (Nat.le_refl _)]; decide)]
      exact topO_is (by omega) (fun i hi hij => h1 i hi (by omega)) h2
theorem hit_meet {o : Int} {xs : List Blk} {b : Blk} (hb : b.at_ + Ae b.ord ≤ Ae o) : xs.any (hitB (Ae o) b) = xs.any (fun x => meetB b x) := by
  congr 1
  funext x
  unfold hitB meetB
  by_cases h : x.at_ < b.at_ + Ae b.ord
  · rw [decide_eq_true h, decide_eq_true (show x.at_ ≤ Ae o by omega)]; simp
  · rw [decide_eq_false h]; simp
theorem scan_left {o : Int} {xs : List Blk} (h8 : o ≤ 8) : ∀ (j : Nat) (a : Int) (f : Nat), (j : Int) ≤ o → 0 ≤ a → a + Ae (j : Int) ≤ Ae o → a.tmod (Ae (j : Int)) = 0 → Ae o - a ≤ f →
    (∀ i : Nat, j < i → (i : Int) ≤ o → clearB o xs ⟨a, (i : Int)⟩ = false) → scanF o xs f a = leftB (Ae o) xs 9 ⟨a, (j : Int)⟩ ++ scanF o xs f (a + Ae (j : Int))
  | j, a, 0, hj, h0, ha, hal, hf, hc => by
    have := Bm (o := (j : Int)) (by omega) (by omega)
    omega
  | j, a, f + 1, hj, h0, ha, hal, hf, hc => by
    have wj := Bm (o := (j : Int)) (by omega) (by omega)
    have ot : j ≤ o.toNat := by omega
    have hm : mayR o ⟨a, (j : Int)⟩ = true := mayR_t.2 ⟨by simp only; omega, hj, h0, by simp only; omega, hal⟩
    have hh := hit_meet (o := o) (xs := xs) (b := ⟨a, (j : Int)⟩) ha
    cases hx : xs.any (fun x => meetB ⟨a, (j : Int)⟩ x) with
    | false =>
      have hcl : clearB o xs ⟨a, (j : Int)⟩ = true := by unfold clearB; rw [hx, hm]; rfl
      have htop : topO o xs a o.toNat = j := topO_is ot (fun i hi hio => hc i hi (by omega)) (.inr hcl)
      have e1 : leftB (Ae o) xs 9 ⟨a, (j : Int)⟩ = [⟨a, (j : Int)⟩] := by unfold leftB; rw [hh, hx]; rfl
      have e2 : scanF o xs (f + 1) (a + Ae (j : Int)) = scanF o xs f (a + Ae (j : Int)) := scanF_fuel h8 _ _ _ (by omega) (by omega)
      rw [e1, e2]
      conv => lhs; unfold scanF
      rw [if_pos (by omega)]
      simp only [htop, hcl, if_true]
    | true =>
      have hcl : clearB o xs ⟨a, (j : Int)⟩ = false := by unfold clearB; rw [hx]; rfl
      cases j with
      | zero =>
        have htop : topO o xs a o.toNat = 0 := topO_is (Nat.zero_le _) (fun i hi hio => hc i hi (by omega)) (.inl rfl)
        have e1 : leftB (Ae o) xs 9 ⟨a, ((0 : Nat) : Int)⟩ = [] := by unfold leftB; rw [hh, hx]; rfl
        have e2 : scanF o xs (f + 1) (a + Ae ((0 : Nat) : Int)) = scanF o xs f (a + Ae ((0 : Nat) : Int)) := scanF_fuel h8 _ _ _ (by omega) (by omega)
        rw [e1, e2]
        conv => lhs; unfold scanF
        rw [if_pos (by omega)]
        simp only [htop, hcl]
        rfl
      | succ j =>
        have ej : (((j + 1 : Nat) : Int)) - 1 = (j : Int) := by omega
        have wh := wordsI_half (o := ((j + 1 : Nat) : Int)) (by omega) (by omega)
        rw [ej] at wh
        have wj' := Bm (o := (j : Int)) (by omega) (by omega)
        have e1 : leftB (Ae o) xs 9 ⟨a, ((j + 1 : Nat) : Int)⟩ = leftB (Ae o) xs 9 ⟨a, (j : Int)⟩ ++ leftB (Ae o) xs 9 ⟨a + Ae (j : Int), (j : Int)⟩ := by
          conv => lhs; unfold leftB
          rw [hh, hx, if_pos rfl, if_pos (show ((j + 1 : Nat) : Int) > 0 by omega)]
          simp only [ej]
          rw [leftB_fuel (Ae o) xs 8 9 ⟨a, (j : Int)⟩ (by simp only; omega) (by simp only; omega) (by simp only; omega), leftB_fuel (Ae o) xs 8 9 ⟨a + Ae (j : Int), (j : Int)⟩ (by simp only; omega) (by simp only; omega) (by simp only; omega)]
        have hal0 : (Ae (j : Int)) ∣ a := by
          have h1 := Int.dvd_of_tmod_eq_zero hal
          rw [wh] at h1
          exact Int.dvd_trans ⟨2, by omega⟩ h1
        have hal1 : ¬ (2 * Ae (j : Int)) ∣ (a + Ae (j : Int)) := fun h => by
          have h1 := Int.dvd_of_tmod_eq_zero hal
          rw [wh, show Ae (j : Int) + Ae (j : Int) = 2 * Ae (j : Int) by omega] at h1
          have h2 := (Int.dvd_add_right h1).1 h
          have := Int.le_of_dvd (by omega) h2
          omega
        rw [e1, wh]
        rw [scan_left h8 j a (f + 1) (by omega) h0 (by omega) (Int.tmod_eq_zero_of_dvd hal0) hf (fun i hi hio => by
          by_cases e : i = j + 1
          · subst e; exact hcl
          · exact hc i (by omega) hio)]
        rw [scan_left h8 j (a + Ae (j : Int)) (f + 1) (by omega) (by omega) (by omega) (Int.tmod_eq_zero_of_dvd (Int.dvd_add hal0 (Int.dvd_refl _))) (by omega) (fun i hi hio => by
          unfold clearB
          rw [Bool.and_eq_false_iff]
          right
          cases hmm : mayR o ⟨a + Ae (j : Int), (i : Int)⟩ with
          | false => rfl
          | true =>
            exfalso
            have h5 := (mayR_t.1 hmm).2.2.2.2
            simp only at h5
            have h6 := Int.dvd_of_tmod_eq_zero h5
            refine hal1 (Int.dvd_trans ?_ h6)
            have : ∀ i : Nat, i < 9 → ∀ j : Nat, j < 9 → j < i → (Ae (i : Int)).tmod (2 * Ae (j : Int)) = 0 := by decide +kernel
            exact Int.dvd_of_tmod_eq_zero (this i (by omega) j (by omega) hi))]
        rw [List.append_assoc, show a + Ae (j : Int) + Ae (j : Int) = a + (Ae (j : Int) + Ae (j : Int)) by omega]
theorem scan_is {o : Int} {xs : List Blk} (h0 : 0 ≤ o) (h8 : o ≤ 8) (f : Nat) (hf : 256 ≤ f) : scanF o xs f 0 = Dg (Ae o) xs [⟨0, o⟩] := by
  have eo : ((o.toNat : Nat) : Int) = o := Int.toNat_of_nonneg h0
  have wo := Az o
  have h := scan_left (xs := xs) h8 o.toNat 0 f (by omega) (Int.le_refl _) (by rw [eo]; omega) (by simp) (by omega) (fun i hi hio => by omega)
  rw [h, eo]
  have e : scanF o xs f (0 + Ae o) = [] := by
    cases f with
    | zero => rfl
    | succ f => unfold scanF; rw [if_neg (by omega)]
  rw [e, List.append_nil]
  simp [Dg]
theorem rows_right : ∀ {l : List Row} {last : Int}, rowsB last l = true ↔ (∀ (i : Nat) (x : Row), l[i]? = some x → last < x.client ∧ x.client ≤ 4 ∧ (1 ≤ x.seq ∧ x.seq ≤ 1000000) ∧ (0 ≤ x.code ∧ x.code ≤ 65535) ∧ ∀ y : Row, 0 < i → l[i - 1]? = some y → y.client < x.client)
  | [], last => by simp [rowsB]
  | r :: l, last => by
    unfold rowsB
    simp only [Bool.and_eq_true, decide_eq_true_eq]
    rw [rows_right (l := l)]
    constructor
    · rintro ⟨⟨⟨⟨⟨⟨h1, h2⟩, h3⟩, h4⟩, h5⟩, h6⟩, h7⟩ i x hx
      cases i with
      | zero => simp at hx; subst hx; exact ⟨h1, h2, ⟨h3, h4⟩, ⟨h5, h6⟩, fun y hy => by omega⟩
      | succ i =>
        simp at hx
        obtain ⟨a1, a2, a3, a4, a5⟩ := h7 i x hx
        refine ⟨by omega, a2, a3, a4, fun y _ hy => ?_⟩
        cases i with
        | zero => simp at hy; subst hy; exact a1
        | succ i => simp at hy; exact a5 y (by omega) (by simpa using hy)
    · intro h
      obtain ⟨a1, a2, a3, a4, _⟩ := h 0 r rfl
      refine ⟨⟨⟨⟨⟨⟨a1, a2⟩, a3.1⟩, a3.2⟩, a4.1⟩, a4.2⟩, fun i x hx => ?_⟩
      obtain ⟨b1, b2, b3, b4, b5⟩ := h (i + 1) x (by simpa using hx)
      have key : ∀ (i : Nat) (x : Row), l[i]? = some x → r.client < x.client := by
        intro i
        induction i with
        | zero => intro x hx; exact (h 1 x (by simpa using hx)).2.2.2.2 r (by omega) rfl
        | succ i ih =>
          intro x hx
          have hlt : i < l.length := by have := lt_len hx; omega
          have h1 := ih _ (List.getElem?_eq_getElem hlt)
          have h2 := (h (i + 2) x (by simpa using hx)).2.2.2.2 l[i] (by omega) (by show l[i]? = some _; exact List.getElem?_eq_getElem hlt)
          omega
      refine ⟨key i x hx, b2, b3, b4, fun y hi hy => b5 y (by omega) ?_⟩
      cases i with
      | zero => omega
      | succ i => simpa using hy
end Go.Eng
namespace Go.Eng
open Go
abbrev SB := List UInt8 × Bool
def numF (s : SB) : Int × SB := match rdN s.1 with
  | some (x, r) => (x, (r, s.2))
  | none => (0, (s.1, true))
def intF (s : SB) : Int × SB := match rdI s.1 with
  | some (x, r) => (x, (r, s.2))
  | none => (0, (s.1, true))
def manyF {α : Type} (f : SB → α × SB) : Nat → SB → List α × SB
  | 0, s => ([], s)
  | k + 1, s => ((manyF f k s).1 ++ [(f (manyF f k s).2).1], (f (manyF f k s).2).2)
def objF (s : SB) : Obj × SB :=
  let h := numF s
  let a := numF h.2
  let nw := numF a.2
  let nl := numF nw.2
  if Bs nw.1 nl.1 < 0 then (⟨h.1, ⟨a.1, Bs nw.1 nl.1⟩, [], []⟩, (nl.2.1, true))
  else
    let ws := manyF intF nw.1.toNat nl.2
    let ls := manyF numF nl.1.toNat ws.2
    (⟨h.1, ⟨a.1, Bs nw.1 nl.1⟩, ws.1, ls.1⟩, ls.2)
def rowF (s : SB) : Row × SB :=
  let c := numF s
  let q := numF c.2
  let d := numF q.2
  let v := intF d.2
  (⟨c.1, q.1, d.1, v.1⟩, v.2)
structure Rds {α : Type} (f : SB → α × SB) (rd : List UInt8 → Option (α × List UInt8)) : Prop where
  ok : ∀ bs x r, rd bs = some (x, r) → f (bs, false) = (x, (r, false))
  no : ∀ bs, rd bs = none → (f (bs, false)).2.2 = true
  bad : ∀ bs, (f (bs, true)).2.2 = true
theorem Rds.bad' {α : Type} {f : SB → α × SB} {rd : List UInt8 → Option (α × List UInt8)} (h : Rds f rd) {s : SB} (hs : s.2 = true) : (f s).2.2 = true := by
  obtain ⟨bs, b⟩ := s
  simp only at hs
  subst hs
  exact h.bad bs
theorem Rds.get {α : Type} {f : SB → α × SB} {rd : List UInt8 → Option (α × List UInt8)} (h : Rds f rd) {s : SB} (hs : (f s).2.2 = false) : s.2 = false ∧ rd s.1 = some ((f s).1, (f s).2.1) := by
  obtain ⟨bs, b⟩ := s
  cases b with
  | true => rw [h.bad bs] at hs; cases hs
  | false =>
    refine ⟨rfl, ?_⟩
    cases e : rd bs with
    | none => rw [h.no bs e] at hs; cases hs
    | some x => obtain ⟨x, r⟩ := x; rw [h.ok bs x r e]
theorem num_rds : Rds numF rdN where
  ok bs x r h := by unfold numF; simp only [h]
  no bs h := by unfold numF; simp only [h]
  bad bs := by unfold numF; split <;> rfl
theorem int_rds : Rds intF rdI where
  ok bs x r h := by unfold intF; simp only [h]
  no bs h := by unfold intF; simp only [h]
  bad bs := by unfold intF; split <;> rfl
theorem many_rds {α : Type} {f : SB → α × SB} {rd : List UInt8 → Option (α × List UInt8)} (h : Rds f rd) : ∀ k, Rds (manyF f k) (rdL rd k)
  | 0 => ⟨fun bs x r e => by simp [rdL] at e; obtain ⟨rfl, rfl⟩ := e; rfl, fun bs e => by simp [rdL] at e, fun bs => rfl⟩
  | k + 1 => by
    have ih := many_rds h k
    refine ⟨fun bs x r e => ?_, fun bs e => ?_, fun bs => ?_⟩
    · unfold rdL at e
      split at e
      · cases e
      · rename_i l r1 e1
        split at e
        · cases e
        · rename_i y r2 e2
          simp only [Option.some.injEq, Prod.mk.injEq] at e
          obtain ⟨rfl, rfl⟩ := e
          unfold manyF
          rw [ih.ok bs l r1 e1]
          simp only [h.ok _ _ _ e2]
    · unfold rdL at e
      unfold manyF
      split at e
      · rename_i e1
        exact h.bad' (ih.no bs e1)
      · rename_i l r1 e1
        split at e
        · rename_i e2
          simp only [ih.ok bs l r1 e1]
          exact h.no _ e2
        · cases e
    · unfold manyF
      exact h.bad' (ih.bad bs)
theorem obj_rds : Rds objF rdObj := by
  have key : ∀ s : SB, (objF s).2.2 = false → s.2 = false ∧ rdObj s.1 = some ((objF s).1, (objF s).2.1) := by
    intro s hs
    unfold objF at hs ⊢
    simp only at hs ⊢
    by_cases hn : Bs (numF (numF (numF s).2).2).1 (numF (numF (numF (numF s).2).2).2).1 < 0
    · rw [if_pos hn] at hs; cases hs
    · rw [if_neg hn] at hs ⊢
      obtain ⟨h6, e6⟩ := (many_rds num_rds _).get hs
      obtain ⟨h5, e5⟩ := (many_rds int_rds _).get h6
      obtain ⟨h4, e4⟩ := num_rds.get h5
      obtain ⟨h3, e3⟩ := num_rds.get h4
      obtain ⟨h2, e2⟩ := num_rds.get h3
      obtain ⟨h1, e1⟩ := num_rds.get h2
      refine ⟨h1, ?_⟩
      unfold rdObj
      simp only [e1, e2, e3, e4]
      rw [if_neg hn]
      simp only [e5, e6]
  refine ⟨fun bs x r e => ?_, fun bs e => ?_, fun bs => ?_⟩
  · unfold rdObj at e
    split at e
    · cases e
    · rename_i a1 r1 e1
      split at e
      · cases e
      · rename_i a2 r2 e2
        split at e
        · cases e
        · rename_i a3 r3 e3
          split at e
          · cases e
          · rename_i a4 r4 e4
            split at e
            · cases e
            · rename_i hn
              split at e
              · cases e
              · rename_i l5 r5 e5
                split at e
                · cases e
                · rename_i l6 r6 e6
                  simp only [Option.some.injEq, Prod.mk.injEq] at e
                  obtain ⟨rfl, rfl⟩ := e
                  unfold objF
                  simp only [num_rds.ok _ _ _ e1, num_rds.ok _ _ _ e2, num_rds.ok _ _ _ e3, num_rds.ok _ _ _ e4]
                  rw [if_neg hn]
                  simp only [(many_rds int_rds _).ok _ _ _ e5, (many_rds num_rds _).ok _ _ _ e6]
  · cases h : (objF (bs, false)).2.2 with
    | true => rfl
    | false =>
      have e2 := (key _ h).2
      rw [show ((bs, false) : SB).1 = bs from rfl, e] at e2
      cases e2
  · cases h : (objF (bs, true)).2.2 with
    | true => rfl
    | false => cases (key _ h).1
theorem row_rds : Rds rowF rdRow := by
  have key : ∀ s : SB, (rowF s).2.2 = false → s.2 = false ∧ rdRow s.1 = some ((rowF s).1, (rowF s).2.1) := by
    intro s hs
    unfold rowF at hs ⊢
    simp only at hs ⊢
    obtain ⟨h4, e4⟩ := int_rds.get hs
    obtain ⟨h3, e3⟩ := num_rds.get h4
    obtain ⟨h2, e2⟩ := num_rds.get h3
    obtain ⟨h1, e1⟩ := num_rds.get h2
    refine ⟨h1, ?_⟩
    unfold rdRow
    simp only [e1, e2, e3, e4]
  refine ⟨fun bs x r e => ?_, fun bs e => ?_, fun bs => ?_⟩
  · unfold rdRow at e
    split at e
    · cases e
    · rename_i a1 r1 e1
      split at e
      · cases e
      · rename_i a2 r2 e2
        split at e
        · cases e
        · rename_i a3 r3 e3
          split at e
          · cases e
          · rename_i a4 r4 e4
            simp only [Option.some.injEq, Prod.mk.injEq] at e
            obtain ⟨rfl, rfl⟩ := e
            unfold rowF
            simp only [num_rds.ok _ _ _ e1, num_rds.ok _ _ _ e2, num_rds.ok _ _ _ e3, int_rds.ok _ _ _ e4]
  · cases h : (rowF (bs, false)).2.2 with
    | true => rfl
    | false =>
      have e2 := (key _ h).2
      rw [show ((bs, false) : SB).1 = bs from rfl, e] at e2
      cases e2
  · cases h : (rowF (bs, true)).2.2 with
    | true => rfl
    | false => cases (key _ h).1
theorem many_len {α : Type} {f : SB → α × SB} : ∀ (k : Nat) (s : SB), (manyF f k s).1.length = k
  | 0, _ => rfl
  | k + 1, s => by unfold manyF; rw [List.length_append, many_len k s]; rfl
theorem rdL_pre {α : Type} {rd : List UInt8 → Option (α × List UInt8)} {bs : List UInt8} : ∀ {n k : Nat}, k ≤ n → (rdL rd n bs).isSome = true → (rdL rd k bs).isSome = true
  | 0, k, hk, h => by have : k = 0 := by omega
                      subst this; exact h
  | n + 1, k, hk, h => by
    by_cases e : k = n + 1
    · subst e; exact h
    · refine rdL_pre (n := n) (by omega) ?_
      unfold rdL at h
      split at h
      · cases h
      · rename_i e1; rw [e1]; rfl
theorem getHeap_ref {bs r : List UInt8} {k : Nat} {order next t0 t1 t2 t3 n : Int} {s1 s2 s3 s4 s5 s6 s7 : SB} {os : List Obj} {bd : Bool}
    (h1 : numF (bs, false) = (order, s1)) (h2 : numF s1 = (next, s2)) (h3 : numF s2 = (t0, s3)) (h4 : numF s3 = (t1, s4)) (h5 : numF s4 = (t2, s5)) (h6 : numF s5 = (t3, s6)) (h7 : numF s6 = (n, s7))
    (h8 : manyF objF k s7 = (os, (r, bd))) (hk : (k : Int) ≤ n) (hx : ¬ (k : Int) < n ∨ 256 < k ∨ bd = true) :
    getHeap bs = if bd = false ∧ r = [] ∧ Aq order 3 8 = true ∧ n = os.length ∧ Cw ⟨order, os, next, t0, t1, t2, t3, Dg (Ae order) (os.map Obj.blk) [⟨0, order⟩]⟩ = true then some ⟨order, os, next, t0, t1, t2, t3, Dg (Ae order) (os.map Obj.blk) [⟨0, order⟩]⟩ else none := by
  have hl : os.length = k := by have := many_len (f := objF) k s7; rw [h8] at this; exact this
  split
  · rename_i hc
    obtain ⟨rfl, rfl, c3, c4, c5⟩ := hc
    have g8 := (many_rds obj_rds k).get (s := s7) (by rw [h8])
    have g7 := num_rds.get (s := s6) (by rw [h7]; exact g8.1)
    have g6 := num_rds.get (s := s5) (by rw [h6]; exact g7.1)
    have g5 := num_rds.get (s := s4) (by rw [h5]; exact g6.1)
    have g4 := num_rds.get (s := s3) (by rw [h4]; exact g5.1)
    have g3 := num_rds.get (s := s2) (by rw [h3]; exact g4.1)
    have g2 := num_rds.get (s := s1) (by rw [h2]; exact g3.1)
    have g1 := num_rds.get (s := (bs, false)) (by rw [h1]; exact g2.1)
    have f1 := g1.2; have f2 := g2.2; have f3 := g3.2; have f4 := g4.2; have f5 := g5.2; have f6 := g6.2; have f7 := g7.2; have f8 := g8.2
    rw [h1] at f1; rw [h2] at f2; rw [h3] at f3; rw [h4] at f4; rw [h5] at f5; rw [h6] at f6; rw [h7] at f7; rw [h8] at f8
    have hob := (heap_right _).1 c5
    have hle := hob.2.2.1
    simp only at hle
    unfold getHeap rdHeap
    simp only [f1, f2, f3, f4, f5, f6, f7]
    rw [if_neg (by omega)]
    have e : n.toNat = k := by omega
    rw [e]
    simp only [f8]
    rw [if_neg (by rw [c3]; simp), if_neg (by rw [c5]; simp)]
  · rename_i hc
    cases hg : getHeap bs with
    | none => rfl
    | some H =>
      exfalso
      apply hc
      unfold getHeap rdHeap at hg
      split at hg
      · rename_i H' e
        split at e
        · cases e
        · rename_i x1 r1 e1
          split at e
          · cases e
          · rename_i x2 r2 e2
            split at e
            · cases e
            · rename_i x3 r3 e3
              split at e
              · cases e
              · rename_i x4 r4 e4
                split at e
                · cases e
                · rename_i x5 r5 e5
                  split at e
                  · cases e
                  · rename_i x6 r6 e6
                    split at e
                    · cases e
                    · rename_i x7 r7 e7
                      split at e
                      · cases e
                      · rename_i hk7
                        split at e
                        · cases e
                        · rename_i l8 r8 e8
                          split at e
                          · cases e
                          · rename_i hw
                            split at e
                            · cases e
                            · rename_i hh
                              simp only [Option.some.injEq, Prod.mk.injEq] at e
                              obtain ⟨_, rfl⟩ := e
                              have a1 := num_rds.ok _ _ _ e1; rw [h1] at a1; injection a1 with b1 c1; subst b1; subst c1
                              have a2 := num_rds.ok _ _ _ e2; rw [h2] at a2; injection a2 with b2 c2; subst b2; subst c2
                              have a3 := num_rds.ok _ _ _ e3; rw [h3] at a3; injection a3 with b3 c3; subst b3; subst c3
                              have a4 := num_rds.ok _ _ _ e4; rw [h4] at a4; injection a4 with b4 c4; subst b4; subst c4
                              have a5 := num_rds.ok _ _ _ e5; rw [h5] at a5; injection a5 with b5 c5; subst b5; subst c5
                              have a6 := num_rds.ok _ _ _ e6; rw [h6] at a6; injection a6 with b6 c6; subst b6; subst c6
                              have a7 := num_rds.ok _ _ _ e7; rw [h7] at a7; injection a7 with b7 c7; subst b7; subst c7
                              have hpre := rdL_pre (rd := rdObj) (bs := r7) (n := n.toNat) (k := k) (by omega) (by rw [e8]; rfl)
                              obtain ⟨⟨l9, r9⟩, e9⟩ := Option.isSome_iff_exists.1 hpre
                              have a8 := (many_rds obj_rds k).ok _ _ _ e9
                              rw [h8] at a8
                              injection a8 with b8 c8
                              injection c8 with c8 d8
                              subst b8; subst c8; subst d8
                              have ek : n.toNat = k := by
                                rcases hx with hx | hx | hx
                                · omega
                                · omega
                                · cases hx
                              rw [ek, e9] at e8
                              injection e8 with e8
                              injection e8 with b9 c9
                              subst b9; subst c9
                              refine ⟨rfl, rfl, by simpa using hw, by omega, by simpa using hh⟩
      · cases hg
theorem getState_ref {bs t r1 r : List UInt8} {h : Heap} {k : Nat} {n : Int} {s1 : SB} {l : List Row} {bd : Bool} (ht : rdT bs = some (t, r1)) (hh : getHeap t = some h) (h1 : numF (r1, false) = (n, s1))
    (h2 : manyF rowF k s1 = (l, (r, bd))) (hk : (k : Int) ≤ n) (hx : ¬ (k : Int) < n ∨ 4 < k ∨ bd = true) :
    De bs = if bd = false ∧ r = [] ∧ n = l.length ∧ Cu ⟨h, l⟩ = true then some ⟨h, l⟩ else none := by
  have hl : l.length = k := by have := many_len (f := rowF) k s1; rw [h2] at this; exact this
  split
  · rename_i hc
    obtain ⟨rfl, rfl, c3, c4⟩ := hc
    have g2 := (many_rds row_rds k).get (s := s1) (by rw [h2])
    have g1 := num_rds.get (s := (r1, false)) (by rw [h1]; exact g2.1)
    have f1 := g1.2; have f2 := g2.2
    rw [h1] at f1; rw [h2] at f2
    have hle := rowsB_len (by omega) (stateB_t c4).2
    simp only at hle
    unfold De rdState
    simp only [ht, hh, f1]
    rw [if_neg (by omega)]
    have e : n.toNat = k := by omega
    rw [e]
    simp only [f2]
    rw [if_neg (by rw [c4]; simp)]
  · rename_i hc
    cases hg : De bs with
    | none => rfl
    | some H =>
      exfalso
      apply hc
      unfold De rdState at hg
      simp only [ht, hh] at hg
      split at hg
      · rename_i H' e
        split at e
        · cases e
        · rename_i x7 r7 e7
          split at e
          · cases e
          · rename_i hk7
            split at e
            · cases e
            · rename_i l8 r8 e8
              split at e
              · cases e
              · rename_i hh'
                simp only [Option.some.injEq, Prod.mk.injEq] at e
                obtain ⟨_, rfl⟩ := e
                have a7 := num_rds.ok _ _ _ e7; rw [h1] at a7; injection a7 with b7 c7; subst b7; subst c7
                have hpre := rdL_pre (rd := rdRow) (bs := r7) (n := n.toNat) (k := k) (by omega) (by rw [e8]; rfl)
                obtain ⟨⟨l9, r9⟩, e9⟩ := Option.isSome_iff_exists.1 hpre
                have a8 := (many_rds row_rds k).ok _ _ _ e9
                rw [h2] at a8
                injection a8 with b8 c8
                injection c8 with c8 d8
                subst b8; subst c8; subst d8
                have ek : n.toNat = k := by
                  rcases hx with hx | hx | hx
                  · omega
                  · omega
                  · cases hx
                rw [ek, e9] at e8
                injection e8 with e8
                injection e8 with b9 c9
                subst b9; subst c9
                refine ⟨rfl, rfl, by omega, by simpa using hh'⟩
      · cases hg
theorem getState_no1 {bs : List UInt8} (ht : rdT bs = none) : De bs = none := by unfold De rdState; simp only [ht]
theorem getState_no2 {bs t r1 : List UInt8} (ht : rdT bs = some (t, r1)) (hh : getHeap t = none) : De bs = none := by unfold De rdState; simp only [ht, hh]
end Go.Eng
namespace Go.Eng
open Go Go.RowKit
section
variable {P : Program} {ρ : Cv} {w : World} {d : Option Nat} {x y z : Operand} {ty : TypeId} {ps : String} {af : Array Edge} {gu : Option (Nat × Bool)}
theorem Ex.slLH {t e : TypeId} {A : Option Addr} {n c i j k : Nat} {I J : Int} {v : Value} (ht : P.underlying t = some (.slice e)) (hs : ∀ w : World, (sizeOf e).run P w = .ok k w) (hx : ev ρ x = .slice A n c) (hy : ev ρ y = .int .i64 I) (hz : ev ρ z = .int .i64 J)
    (hI : I = (i : Int)) (hJ : J = (j : Int)) (hi : i ≤ j) (hj : j ≤ c) (hv : .slice (if c = i then A else A.map (·.add (i * k))) (j - i) (c - i) = v) : Ex P ρ ⟨d, .slice t x (some y) (some z) none, ty, ps, af, gu⟩ w v w := by
  subst hI; subst hJ; subst hv
  unfold Ex; refine Bv ?_
  simp [Instr.sliceAt, Instr.slice, Instr.sliceBounds, Instr.sliceBound, hx, hy, hz, asIntOf, run_underlying ht, hs, hi, hj]
theorem eqBool {t : TypeId} (ht : P.underlying t = some .bool) (a b : Bool) (n : Nat) : (Op.equalIn (n + 1) t (.bool a) (.bool b)).run P w = .ok (a == b) w := by
  simp [Op.equalIn, run_underlying ht]
theorem Ex.eqB {t t' : TypeId} {a b r : Bool} (ht : P.underlying t = some .bool) (hx : ev ρ x = .bool a) (hy : ev ρ y = .bool b) (hr : (a == b) = r) : Ex P ρ ⟨d, .binOp .eql t x y t', ty, ps, af, gu⟩ w (.bool r) w := by
  subst hr
  unfold Ex; refine Bv ?_
  have h : (Op.equal t (.bool a) (.bool b)).run P w = .ok (a == b) w := eqBool ht a b 9999
  simp [hx, hy, eqGuard, binOp, h]
end
theorem Ret.sure {P : Program} {f : FuncId} {args : List Value} {w : World} {b : Bool} (h : Ret P f args w (fun v w' => v = .bool b ∧ w.grownBy w' none)) (hb : b = true) : Ret P f args w (fun v w' => v = .bool true ∧ w.grownBy w' none) := by
  subst hb; exact h
def RB (w : World) (B : Nat) (A : Option Addr) (n c : Nat) (bs : List UInt8) : Prop := Rd w B 1 A (Cz bs) ∧ n = bs.length ∧ n ≤ c ∧ n ≤ 140737488351232
def RBM (w : World) (S : Nat → Prop) (A : Option Addr) (n c : Nat) (bs : List UInt8) : Prop := RdN w S 1 A (Cz bs) ∧ n = bs.length ∧ n ≤ c ∧ n ≤ 140737488351232
theorem RdN.dropN {w : World} {S : Nat → Prop} {k n c : Nat} {A : Option Addr} {xss : List (List Value)} (h : RdN w S k A xss) (hn : n ≤ c) (hc : xss.length ≤ c) : RdN w S k (dropA A c n k) (xss.drop n) :=
  ⟨h.rd.dropN hn hc, fun hne g hg => h.out (fun e => hne (by rw [e]; simp)) g (by rwa [dropA_bk] at hg)⟩
theorem RB.drop {w : World} {B n c k : Nat} {A : Option Addr} {bs : List UInt8} (h : RB w B A n c bs) (hk : k ≤ n) : RB w B (dropA A c k 1) (n - k) (c - k) (bs.drop k) := by
  obtain ⟨h1, h2, h3, h4⟩ := h
  refine ⟨bcs_drop bs k ▸ h1.dropN (by omega) (by rw [As]; omega), by rw [List.length_drop]; omega, by omega, by omega⟩
theorem RBM.drop {w : World} {S : Nat → Prop} {n c k : Nat} {A : Option Addr} {bs : List UInt8} (h : RBM w S A n c bs) (hk : k ≤ n) : RBM w S (dropA A c k 1) (n - k) (c - k) (bs.drop k) := by
  obtain ⟨h1, h2, h3, h4⟩ := h
  refine ⟨bcs_drop bs k ▸ h1.dropN (by omega) (by rw [As]; omega), by rw [List.length_drop]; omega, by omega, by omega⟩
structure InD (A : Option Addr) (n c : Nat) (bs : List UInt8) (A' : Option Addr) (n' c' : Nat) (bs' : List UInt8) : Prop where
  r : ∀ w B, RB w B A n c bs → RB w B A' n' c' bs'
  m : ∀ w S, RBM w S A n c bs → RBM w S A' n' c' bs'
theorem InD.refl (A : Option Addr) (n c : Nat) (bs : List UInt8) : InD A n c bs A n c bs := ⟨fun _ _ h => h, fun _ _ h => h⟩
theorem InD.drop {A : Option Addr} {n c k : Nat} {bs : List UInt8} (hk : k ≤ n) : InD A n c bs (dropA A c k 1) (n - k) (c - k) (bs.drop k) := ⟨fun _ _ h => h.drop hk, fun _ _ h => h.drop hk⟩
theorem InD.trans {A A' A2 : Option Addr} {n c n' c' n2 c2 : Nat} {bs bs' bs2 : List UInt8} (h : InD A n c bs A' n' c' bs') (h2 : InD A' n' c' bs' A2 n2 c2 bs2) : InD A n c bs A2 n2 c2 bs2 := ⟨fun w B q => h2.r w B (h.r w B q), fun w S q => h2.m w S (h.m w S q)⟩
theorem manyF_go {α : Type} {f : SB → α × SB} {k : Nat} {s s1 s2 : SB} {l : List α} {x : α} (h : manyF f k s = (l, s1)) (hx : f s1 = (x, s2)) : manyF f (k + 1) s = (l ++ [x], s2) := by
  unfold manyF; rw [h]; simp only [hx]
theorem rdN_short {bs : List UInt8} (h : bs.length < 4) : rdN bs = none := by unfold rdN; rw [if_pos h]
theorem rdI_short {bs : List UInt8} (h : bs.length < 8) : rdI bs = none := by unfold rdI; rw [if_pos h]
theorem be_take0 (bs : List UInt8) : be (bs.take 0) = 0 := rfl
theorem rdN_big {bs : List UInt8} {a : UInt8} (h : 4 ≤ bs.length) (ha : bs[0]? = some a) (hb : 127 < a.toNat) : rdN bs = none := by
  have e0 := be_take0 bs
  have e1 : be (bs.take 1) = be (bs.take 0) * 256 + a.toNat := be_take ha
  have e2 : be (bs.take 2) = be (bs.take 1) * 256 + _ := be_take (List.getElem?_eq_getElem (show 1 < bs.length by omega))
  have e3 : be (bs.take 3) = be (bs.take 2) * 256 + _ := be_take (List.getElem?_eq_getElem (show 2 < bs.length by omega))
  have e4 : be (bs.take 4) = be (bs.take 3) * 256 + _ := be_take (List.getElem?_eq_getElem (show 3 < bs.length by omega))
  unfold rdN
  rw [if_neg (by omega), if_pos (by omega)]
theorem rdN_four {bs : List UInt8} {a b c d : UInt8} (h : 4 ≤ bs.length) (ha : bs[0]? = some a) (hb : bs[1]? = some b) (hc : bs[2]? = some c) (hd : bs[3]? = some d) (hs : ¬ 127 < a.toNat) :
    rdN bs = some (((16777216 * a.toNat + 65536 * b.toNat + 256 * c.toNat + d.toNat : Nat) : Int), bs.drop 4) := by
  have e0 := be_take0 bs
  have e1 : be (bs.take 1) = be (bs.take 0) * 256 + a.toNat := be_take ha
  have e2 : be (bs.take 2) = be (bs.take 1) * 256 + b.toNat := be_take hb
  have e3 : be (bs.take 3) = be (bs.take 2) * 256 + c.toNat := be_take hc
  have e4 : be (bs.take 4) = be (bs.take 3) * 256 + d.toNat := be_take hd
  have h1 := b.toNat_lt
  have h2 := c.toNat_lt
  have h3 := d.toNat_lt
  unfold rdN
  rw [if_neg (by omega), if_neg (by omega), show be (bs.take 4) = 16777216 * a.toNat + 65536 * b.toNat + 256 * c.toNat + d.toNat by omega]
def ObjA (ro : RObj) (o : Obj) : Atom where
  ok S w := (ro.handle = o.handle ∧ ro.blk = o.blk ∧ ro.words.n ≤ 140737488351232 ∧ ro.links.n ≤ 140737488351232) ∧ (Ar 3 1 ro.words.a ro.words.n ro.words.c (ics o.words)).ok S w ∧ (Ar 3 1 ro.links.a ro.links.n ro.links.c (ics o.links)).ok S w
  mono h h2 := ⟨h2.1, (Ar 3 1 ro.words.a ro.words.n ro.words.c (ics o.words)).mono h h2.2.1, (Ar 3 1 ro.links.a ro.links.n ro.links.c (ics o.links)).mono h h2.2.2⟩
  st ch hT h := ⟨h.1, (Ar 3 1 ro.words.a ro.words.n ro.words.c (ics o.words)).st ch hT h.2.1, (Ar 3 1 ro.links.a ro.links.n ro.links.c (ics o.links)).st ch hT h.2.2⟩
theorem ObjA.r {ro : RObj} {o : Obj} {S : Nat → Prop} {w : World} (h : (ObjA ro o).ok S w) : ObjR w w.heap.size ro o := by
  obtain ⟨⟨h1, h2, h3, h4⟩, h5, h6⟩ := h
  have l5 := h5.1.len
  have l6 := h6.1.len
  rw [Av] at l5 l6
  exact ⟨h1, h2, l5.symm, l6.symm, h3, h4, h5.1.rd, h6.1.rd⟩
def ObjsA (ros : List RObj) (os : List Obj) : Atom where
  ok S w := ros.length = os.length ∧ ∀ (i : Nat) (ro : RObj) (o : Obj), ros[i]? = some ro → os[i]? = some o → (ObjA ro o).ok S w
  mono h h2 := ⟨h2.1, fun i ro o hr ho => (ObjA ro o).mono h (h2.2 i ro o hr ho)⟩
  st ch hT h := ⟨h.1, fun i ro o hr ho => (ObjA ro o).st ch hT (h.2 i ro o hr ho)⟩
def PairA (A B : Atom) : Atom where
  ok S w := ∃ S1 S2 : Nat → Prop, A.ok S1 w ∧ B.ok S2 w ∧ (∀ b, S1 b → S b) ∧ (∀ b, S2 b → S b)
  mono h := fun ⟨S1, S2, h1, h2, h3, h4⟩ => ⟨S1, S2, h1, h2, fun b hb => h b (h3 b hb), fun b hb => h b (h4 b hb)⟩
  st ch hT := fun ⟨S1, S2, h1, h2, h3, h4⟩ => ⟨_, _, A.st ch (fun b hb => hT b (h3 b hb)) h1, B.st ch (fun b hb => hT b (h4 b hb)) h2, fun b hb => ⟨h3 b hb.1, hb.2⟩, fun b hb => ⟨h4 b hb.1, hb.2⟩⟩
section
variable {w w' w0 : World} {l m : List Atom} {i j : Nat} {ros : List RObj} {os : List Obj}
theorem Sp.obNil (h : Sp l w) : Sp (ObjsA [] [] :: l) w := h.new1 (S := fun _ => False) (Bo _ _) ⟨rfl, fun i ro o hr => by simp at hr⟩ (fun _ hk => hk.elim)
theorem Sp.merge3 {A B C D : Atom} (h : Sp (A :: B :: C :: l) w) (hw : ∀ S T U, A.ok S w → B.ok T w → C.ok U w → D.ok (fun b => (S b ∨ T b) ∨ U b) w) : Sp (D :: l) w :=
  Sp.merge (A := PairA A B) (Sp.merge (C := PairA A B) h fun S T h1 h2 => ⟨S, T, h1, h2, fun _ hb => .inl hb, fun _ hb => .inr hb⟩) fun S T ⟨S1, S2, h1, h2, h3, h4⟩ h5 =>
    D.mono (fun b hb => hb.elim (fun h => h.elim (fun h => .inl (h3 b h)) (fun h => .inl (h4 b h))) .inr) (hw S1 S2 T h1 h2 h5)
theorem Sp.obSnoc {o : Obj} {Aw Al : Option Addr} {nw cw nl cl : Nat} (h : Sp (ObjsA ros os :: Ar 3 1 Aw nw cw (ics o.words) :: Ar 3 1 Al nl cl (ics o.links) :: l) w) (hw : nw ≤ 140737488351232) (hl : nl ≤ 140737488351232) :
    Sp (ObjsA (ros ++ [⟨o.handle, o.blk, ⟨Aw, nw, cw⟩, ⟨Al, nl, cl⟩⟩]) (os ++ [o]) :: l) w := by
  refine h.merge3 fun S T U q1 q2 q3 => ⟨by rw [List.length_append, List.length_append, q1.1]; rfl, fun i ro ob hr ho => ?_⟩
  by_cases hi : i < ros.length
  · rw [List.getElem?_append_left hi] at hr
    rw [List.getElem?_append_left (by rw [← q1.1]; exact hi)] at ho
    exact (ObjA ro ob).mono (fun b hb => .inl (.inl hb)) (q1.2 i ro ob hr ho)
  · rw [List.getElem?_append_right (by omega)] at hr
    rw [List.getElem?_append_right (by rw [← q1.1]; omega)] at ho
    have e : i - ros.length = 0 := by have := lt_len hr; simp at this; omega
    rw [e] at hr
    rw [← q1.1, e] at ho
    simp at hr ho
    subst hr; subst ho
    exact ⟨⟨rfl, rfl, hw, hl⟩, (Ar 3 1 Aw nw cw (ics o.words)).mono (fun b hb => .inl (.inr hb)) q2, (Ar 3 1 Al nl cl (ics o.links)).mono (fun b hb => .inr hb) q3⟩
theorem Sp.obR (h : Sp l w) (hi : l[i]? = some (ObjsA ros os)) : ros.length = os.length ∧ ∀ (i : Nat) (ro : RObj) (o : Obj), ros[i]? = some ro → os[i]? = some o → ObjR w w.heap.size ro o := by
  obtain ⟨S, h1, h2⟩ := h.get hi
  exact ⟨h1, fun i ro o hr ho => ObjA.r (h2 i ro o hr ho)⟩
end
end Go.Eng
