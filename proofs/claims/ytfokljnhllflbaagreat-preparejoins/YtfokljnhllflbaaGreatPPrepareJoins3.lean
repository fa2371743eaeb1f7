/- Part 4 of the proof of PrepareJoins: C13, C14, C15, C16, C17, Spec13, C18, Spec14, EngVote. -/
import Derived.Deep.Quiet
import Derived.Ground.NamesProg
import Derived.Ground.SlgcProg
import Derived.Ground.SlsfProg
import Derived.JoinedOf
import Derived.Laws.BytesString
import Derived.Laws.MakeOwn
import Derived.Laws.Strings
import Derived.Lib.AppendZeros
import Derived.Lib.ConvBytes
import Derived.Lib.Overlaps
import Derived.Maps.AppendAt
import Derived.OrdersHeld
import Derived.ProofKit
import Derived.Recover
import Derived.ScopeJumps
import Derived.Shelf.SlSortCmp.NoneTotal
import Derived.Shelf.SlSortCmp.WholeK
import Derived.Shelf.SlicesG.Cmp
import Derived.Shelf.Small.Bits
import Derived.Sort.OwnSortedInts
import Derived.StillTail
import Derived.Test.YtfokljnhllflbaaGreatProg
import Derived.WalkKit
import Derived.WalkLawsBesides
import Derived.WalkSpells
import Derived.Test.YtfokljnhllflbaaGreatPPrepareJoins2
set_option linter.unusedSimpArgs false
set_option linter.unusedVariables false
namespace Go.Proofs.YtfokljnhllflbaaGreat
open Go Go.Eng Go.RowKit
set_option maxHeartbeats 1000000 in
set_option maxRecDepth 20000 in
theorem put4_ (w : World) (B n c : Nat) (A : Option Addr) (l : List UInt8) (u : Nat) (hr : Rd w B 1 A (Db l)) (hn : n = l.length) (hm : n ≤ 1099511627776) : Ret Tryz.prog 214 [(.slice A n c), (.int .u64 ((u : Nat) : Int)), (J 4)] w (fun v w' => ∃ (A' : Option Addr) (m c' : Nat), v = .slice A' m c' ∧ w.grownBy w' none ∧ m = n + 4 ∧ Ow w' w.heap.size 5 1 A' c' (Db (l ++ Cq u))) := by
  refine Ret.body Tryz.func214 Z Z Z ?_
  refine CW.seq (CW.region (za (.slice none 0 0) Z (RL.nil (thn.n (CW.seq (CW.region (zm (.slice A n c) Z (zg Z (Ex.len Tryz.underlying97 Z) (zm (J 4) Z (zg Z (Ex.add (r := (n : Nat) + 4) Z Z (Dd (by omega) (by omega))) (RL.mk0 (c := (n + 4)) el97 Z Z (by omega) (by omega) (by omega) Z Z ?_)))))))))))
  intro w1 b2 hb3 g4 ow5
  have z6 := g4.size
  refine zm (.slice A n c) Z ?_
  have r7 := (hr.st0 g4)
  refine RL.app (base := w.heap.size) (xss := []) (yss := Db (l)) el97 Z ow5 Z (by simp [Ap, Ar, Aq, Aj, Ai]; try omega) r7 Z (by simp [Ap, Ar, Aq, Aj, Ai]; try omega) (bcs_one _) (by omega) (by omega) (by omega) Z Z ?_
  intro w8 A9 c10 g11 ow12
  have z13 := g11.size
  refine za (.slice A9 (0 + n) c10) Z (RL.nil (thn.n (CW.seq (CW.seq (CW.region (zm (J 4) Z (zg Z (Ci (r := 3) Z Z Z) (za (J 3) Z (RL.nil (thn.n (CW.block (CW.unroll (Cs (CW.seq (CW.seq (CW.region (zm (J 3) Z ?_)))))))))))))))))
  refine zg Z (Dp (r := true) Z Z (by decide)) (RL.nil (thn.n (Aa Z (CW.skip (thn.n (CW.seq (CW.block (CW.region (zm (.slice A9 (0 + n) c10) Z (zm (.int .u64 ((u : Nat) : Int)) Z (zm (J 3) Z (zg Z (Ex.mul (r := 24) Z Z Z) (zg Z (Ex.shr (r := ((u / 16777216 : Nat) : Int)) Z Z (by decide) (shrN (n := 24) (k := 24) (by decide) (by decide) Z)) (zg Z (Da (r := ((UInt8.ofNat (u / 16777216)).toNat : Int)) Tryz.underlying234 Tryz.underlying5 Z (wrapB (u / 16777216))) (RL.bs (cs := [(.int .u8 ((UInt8.ofNat (u / 16777216)).toNat : Int))]) Tryz.underlying97 Tryz.sizeOf5 ze97 Z Z Z (by decide) Z Z Z ?_)))))))))))))))
  intro w14 b15 hb16 hz17 g18 o19
  have o20 := (ow12.st0 g18)
  refine RL.app (base := w.heap.size) (xss := [] ++ (Db (l))) (yss := [[(.int .u8 ((UInt8.ofNat (u / 16777216)).toNat : Int))]]) el97 Z o20 Z (by simp [Ap, Ar, Aq, Aj, Ai]; try omega) (Do o19 Z) Z Z (by simp [Value.oneCell']) (by omega) (by omega) (by omega) Z Z ?_
  intro w21 A22 c23 g24 ow25
  have z26 := g24.size
  refine za (.slice A22 ((0 + n) + 1) c23) Z (RL.nil (inB.n (thn.n (CW.region (zm (J 3) Z (zg Z (Ci (r := 2) Z Z Z) (za (J 2) Z (RL.nil (thn.n (Cs (CW.seq (CW.seq (CW.region (zm (J 2) Z (zg Z (Dp (r := true) Z Z (by decide)) ?_)))))))))))))))
  refine RL.nil (thn.n (Aa Z (CW.skip (thn.n (CW.seq (CW.block (CW.region (zm (.slice A22 ((0 + n) + 1) c23) Z (zm (.int .u64 ((u : Nat) : Int)) Z (zm (J 2) Z (zg Z (Ex.mul (r := 16) Z Z Z) (zg Z (Ex.shr (r := ((u / 65536 : Nat) : Int)) Z Z (by decide) (shrN (n := 16) (k := 16) (by decide) (by decide) Z)) (zg Z (Da (r := ((UInt8.ofNat (u / 65536)).toNat : Int)) Tryz.underlying234 Tryz.underlying5 Z (wrapB (u / 65536))) (RL.bs (cs := [(.int .u8 ((UInt8.ofNat (u / 65536)).toNat : Int))]) Tryz.underlying97 Tryz.sizeOf5 ze97 Z Z Z (by decide) Z Z Z ?_))))))))))))))
  intro w27 b28 hb29 hz30 g31 o32
  have o33 := (ow25.st0 g31)
  refine RL.app (base := w.heap.size) (xss := ([] ++ (Db (l))) ++ ([[(.int .u8 ((UInt8.ofNat (u / 16777216)).toNat : Int))]])) (yss := [[(.int .u8 ((UInt8.ofNat (u / 65536)).toNat : Int))]]) el97 Z o33 Z (by simp [Ap, Ar, Aq, Aj, Ai]; try omega) (Do o32 Z) Z Z (by simp [Value.oneCell']) (by omega) (by omega) (by omega) Z Z ?_
  intro w34 A35 c36 g37 ow38
  have z39 := g37.size
  refine za (.slice A35 (((0 + n) + 1) + 1) c36) Z (RL.nil (inB.n (thn.n (CW.region (zm (J 2) Z (zg Z (Ci (r := 1) Z Z Z) (za (J 1) Z (RL.nil (thn.n (Cs (CW.seq (CW.seq (CW.region (zm (J 1) Z (zg Z (Dp (r := true) Z Z (by decide)) ?_)))))))))))))))
  refine RL.nil (thn.n (Aa Z (CW.skip (thn.n (CW.seq (CW.block (CW.region (zm (.slice A35 (((0 + n) + 1) + 1) c36) Z (zm (.int .u64 ((u : Nat) : Int)) Z (zm (J 1) Z (zg Z (Ex.mul (r := 8) Z Z Z) (zg Z (Ex.shr (r := ((u / 256 : Nat) : Int)) Z Z (by decide) (shrN (n := 8) (k := 8) (by decide) (by decide) Z)) (zg Z (Da (r := ((UInt8.ofNat (u / 256)).toNat : Int)) Tryz.underlying234 Tryz.underlying5 Z (wrapB (u / 256))) (RL.bs (cs := [(.int .u8 ((UInt8.ofNat (u / 256)).toNat : Int))]) Tryz.underlying97 Tryz.sizeOf5 ze97 Z Z Z (by decide) Z Z Z ?_))))))))))))))
  intro w40 b41 hb42 hz43 g44 o45
  have o46 := (ow38.st0 g44)
  refine RL.app (base := w.heap.size) (xss := (([] ++ (Db (l))) ++ ([[(.int .u8 ((UInt8.ofNat (u / 16777216)).toNat : Int))]])) ++ ([[(.int .u8 ((UInt8.ofNat (u / 65536)).toNat : Int))]])) (yss := [[(.int .u8 ((UInt8.ofNat (u / 256)).toNat : Int))]]) el97 Z o46 Z (by simp [Ap, Ar, Aq, Aj, Ai]; try omega) (Do o45 Z) Z Z (by simp [Value.oneCell']) (by omega) (by omega) (by omega) Z Z ?_
  intro w47 A48 c49 g50 ow51
  have z52 := g50.size
  refine za (.slice A48 ((((0 + n) + 1) + 1) + 1) c49) Z (RL.nil (inB.n (thn.n (CW.region (zm (J 1) Z (zg Z (Ci (r := 0) Z Z Z) (za (J 0) Z (RL.nil (thn.n (Cs (CW.seq (CW.seq (CW.region (zm (J 0) Z (zg Z (Dp (r := true) Z Z (by decide)) ?_)))))))))))))))
  refine RL.nil (thn.n (Aa Z (CW.skip (thn.n (CW.seq (CW.block (CW.region (zm (.slice A48 ((((0 + n) + 1) + 1) + 1) c49) Z (zm (.int .u64 ((u : Nat) : Int)) Z (zm (J 0) Z (zg Z (Ex.mul (r := 0) Z Z Z) (zg Z (Ex.shr (r := ((u / 1 : Nat) : Int)) Z Z (by decide) (shrN (n := 0) (k := 0) (by decide) (by decide) Z)) (zg Z (Da (r := ((UInt8.ofNat (u / 1)).toNat : Int)) Tryz.underlying234 Tryz.underlying5 Z (wrapB (u / 1))) (RL.bs (cs := [(.int .u8 ((UInt8.ofNat (u / 1)).toNat : Int))]) Tryz.underlying97 Tryz.sizeOf5 ze97 Z Z Z (by decide) Z Z Z ?_))))))))))))))
  intro w53 b54 hb55 hz56 g57 o58
  have o59 := (ow51.st0 g57)
  refine RL.app (base := w.heap.size) (xss := ((([] ++ (Db (l))) ++ ([[(.int .u8 ((UInt8.ofNat (u / 16777216)).toNat : Int))]])) ++ ([[(.int .u8 ((UInt8.ofNat (u / 65536)).toNat : Int))]])) ++ ([[(.int .u8 ((UInt8.ofNat (u / 256)).toNat : Int))]])) (yss := [[(.int .u8 ((UInt8.ofNat (u / 1)).toNat : Int))]]) el97 Z o59 Z (by simp [Ap, Ar, Aq, Aj, Ai]; try omega) (Do o58 Z) Z Z (by simp [Value.oneCell']) (by omega) (by omega) (by omega) Z Z ?_
  intro w60 A61 c62 g63 ow65
  have z66 := g63.size
  refine za (.slice A61 (((((0 + n) + 1) + 1) + 1) + 1) c62) Z (RL.nil (inB.n (thn.n (CW.region (zm (J 0) Z (zg Z (Ci (r := -1) Z Z Z) (za (J (-1)) Z (RL.nil (thn.n (Cs (CW.seq (CW.seq (CW.region (zm (J (-1)) Z (zg Z (Dp (r := false) Z Z (by decide)) ?_)))))))))))))))
  refine RL.nil (thn.n (Ad Z (CW.exit (thn.x (thn.x (Bh (thn.n (CW.seq (CW.region (zm (.slice A61 (((((0 + n) + 1) + 1) + 1) + 1) c62) Z (za (.slice A61 (((((0 + n) + 1) + 1) + 1) + 1) c62) Z (RL.nil (thn.n (CW.ret (finQ.r (v := (.slice A61 (((((0 + n) + 1) + 1) + 1) + 1) c62)) (Ax Z Z) ?_)))))))))))))))
  have hx : (((([] ++ (Db (l))) ++ ([[(.int .u8 ((UInt8.ofNat (u / 16777216)).toNat : Int))]])) ++ ([[(.int .u8 ((UInt8.ofNat (u / 65536)).toNat : Int))]])) ++ ([[(.int .u8 ((UInt8.ofNat (u / 256)).toNat : Int))]])) ++ ([[(.int .u8 ((UInt8.ofNat (u / 1)).toNat : Int))]]) = Db (l ++ Cq u) := by simp [Db, bc, Cq]
  exact ⟨_, _, _, Z, (Cu (Ab (Cu (Ab (Cu (Ab (Cu (Ab (Cu (g4) g11 ow5 (by omega)) g18) g24 o20 (by omega)) g31) g37 o33 (by omega)) g44) g50 o46 (by omega)) g57) g63 o59 (by omega)), by omega, (hx ▸ ow65).weak (by omega)⟩
set_option maxHeartbeats 1000000 in
set_option maxRecDepth 20000 in
theorem put8_ (w : World) (B n c : Nat) (A : Option Addr) (l : List UInt8) (u : Nat) (hr : Rd w B 1 A (Db l)) (hn : n = l.length) (hm : n ≤ 1099511627776) : Ret Tryz.prog 214 [(.slice A n c), (.int .u64 ((u : Nat) : Int)), (J 8)] w (fun v w' => ∃ (A' : Option Addr) (m c' : Nat), v = .slice A' m c' ∧ w.grownBy w' none ∧ m = n + 8 ∧ Ow w' w.heap.size 5 1 A' c' (Db (l ++ Dk u))) := by
  refine Ret.body Tryz.func214 Z Z Z ?_
  refine CW.seq (CW.region (za (.slice none 0 0) Z (RL.nil (thn.n (CW.seq (CW.region (zm (.slice A n c) Z (zg Z (Ex.len Tryz.underlying97 Z) (zm (J 8) Z (zg Z (Ex.add (r := (n : Nat) + 8) Z Z (Dd (by omega) (by omega))) (RL.mk0 (c := (n + 8)) el97 Z Z (by omega) (by omega) (by omega) Z Z ?_)))))))))))
  intro w1 b2 hb3 g4 ow5
  have z6 := g4.size
  refine zm (.slice A n c) Z ?_
  have r7 := (hr.st0 g4)
  refine RL.app (base := w.heap.size) (xss := []) (yss := Db (l)) el97 Z ow5 Z (by simp [Ap, Ar, Aq, Aj, Ai]; try omega) r7 Z (by simp [Ap, Ar, Aq, Aj, Ai]; try omega) (bcs_one _) (by omega) (by omega) (by omega) Z Z ?_
  intro w8 A9 c10 g11 ow12
  have z13 := g11.size
  refine za (.slice A9 (0 + n) c10) Z (RL.nil (thn.n (CW.seq (CW.seq (CW.region (zm (J 8) Z (zg Z (Ci (r := 7) Z Z Z) (za (J 7) Z (RL.nil (thn.n (CW.block (CW.unroll (Cs (CW.seq (CW.seq (CW.region (zm (J 7) Z ?_)))))))))))))))))
  refine zg Z (Dp (r := true) Z Z (by decide)) (RL.nil (thn.n (Aa Z (CW.skip (thn.n (CW.seq (CW.block (CW.region (zm (.slice A9 (0 + n) c10) Z (zm (.int .u64 ((u : Nat) : Int)) Z (zm (J 7) Z (zg Z (Ex.mul (r := 56) Z Z Z) (zg Z (Ex.shr (r := ((u / 72057594037927936 : Nat) : Int)) Z Z (by decide) (shrN (n := 56) (k := 56) (by decide) (by decide) Z)) (zg Z (Da (r := ((UInt8.ofNat (u / 72057594037927936)).toNat : Int)) Tryz.underlying234 Tryz.underlying5 Z (wrapB (u / 72057594037927936))) (RL.bs (cs := [(.int .u8 ((UInt8.ofNat (u / 72057594037927936)).toNat : Int))]) Tryz.underlying97 Tryz.sizeOf5 ze97 Z Z Z (by decide) Z Z Z ?_)))))))))))))))
  intro w14 b15 hb16 hz17 g18 o19
  have o20 := (ow12.st0 g18)
  refine RL.app (base := w.heap.size) (xss := [] ++ (Db (l))) (yss := [[(.int .u8 ((UInt8.ofNat (u / 72057594037927936)).toNat : Int))]]) el97 Z o20 Z (by simp [Ap, Ar, Aq, Aj, Ai]; try omega) (Do o19 Z) Z Z (by simp [Value.oneCell']) (by omega) (by omega) (by omega) Z Z ?_
  intro w21 A22 c23 g24 ow25
  have z26 := g24.size
  refine za (.slice A22 ((0 + n) + 1) c23) Z (RL.nil (inB.n (thn.n (CW.region (zm (J 7) Z (zg Z (Ci (r := 6) Z Z Z) (za (J 6) Z (RL.nil (thn.n (Cs (CW.seq (CW.seq (CW.region (zm (J 6) Z (zg Z (Dp (r := true) Z Z (by decide)) ?_)))))))))))))))
  refine RL.nil (thn.n (Aa Z (CW.skip (thn.n (CW.seq (CW.block (CW.region (zm (.slice A22 ((0 + n) + 1) c23) Z (zm (.int .u64 ((u : Nat) : Int)) Z (zm (J 6) Z (zg Z (Ex.mul (r := 48) Z Z Z) (zg Z (Ex.shr (r := ((u / 281474976710656 : Nat) : Int)) Z Z (by decide) (shrN (n := 48) (k := 48) (by decide) (by decide) Z)) (zg Z (Da (r := ((UInt8.ofNat (u / 281474976710656)).toNat : Int)) Tryz.underlying234 Tryz.underlying5 Z (wrapB (u / 281474976710656))) (RL.bs (cs := [(.int .u8 ((UInt8.ofNat (u / 281474976710656)).toNat : Int))]) Tryz.underlying97 Tryz.sizeOf5 ze97 Z Z Z (by decide) Z Z Z ?_))))))))))))))
  intro w27 b28 hb29 hz30 g31 o32
  have o33 := (ow25.st0 g31)
  refine RL.app (base := w.heap.size) (xss := ([] ++ (Db (l))) ++ ([[(.int .u8 ((UInt8.ofNat (u / 72057594037927936)).toNat : Int))]])) (yss := [[(.int .u8 ((UInt8.ofNat (u / 281474976710656)).toNat : Int))]]) el97 Z o33 Z (by simp [Ap, Ar, Aq, Aj, Ai]; try omega) (Do o32 Z) Z Z (by simp [Value.oneCell']) (by omega) (by omega) (by omega) Z Z ?_
  intro w34 A35 c36 g37 ow38
  have z39 := g37.size
  refine za (.slice A35 (((0 + n) + 1) + 1) c36) Z (RL.nil (inB.n (thn.n (CW.region (zm (J 6) Z (zg Z (Ci (r := 5) Z Z Z) (za (J 5) Z (RL.nil (thn.n (Cs (CW.seq (CW.seq (CW.region (zm (J 5) Z (zg Z (Dp (r := true) Z Z (by decide)) ?_)))))))))))))))
  refine RL.nil (thn.n (Aa Z (CW.skip (thn.n (CW.seq (CW.block (CW.region (zm (.slice A35 (((0 + n) + 1) + 1) c36) Z (zm (.int .u64 ((u : Nat) : Int)) Z (zm (J 5) Z (zg Z (Ex.mul (r := 40) Z Z Z) (zg Z (Ex.shr (r := ((u / 1099511627776 : Nat) : Int)) Z Z (by decide) (shrN (n := 40) (k := 40) (by decide) (by decide) Z)) (zg Z (Da (r := ((UInt8.ofNat (u / 1099511627776)).toNat : Int)) Tryz.underlying234 Tryz.underlying5 Z (wrapB (u / 1099511627776))) (RL.bs (cs := [(.int .u8 ((UInt8.ofNat (u / 1099511627776)).toNat : Int))]) Tryz.underlying97 Tryz.sizeOf5 ze97 Z Z Z (by decide) Z Z Z ?_))))))))))))))
  intro w40 b41 hb42 hz43 g44 o45
  have o46 := (ow38.st0 g44)
  refine RL.app (base := w.heap.size) (xss := (([] ++ (Db (l))) ++ ([[(.int .u8 ((UInt8.ofNat (u / 72057594037927936)).toNat : Int))]])) ++ ([[(.int .u8 ((UInt8.ofNat (u / 281474976710656)).toNat : Int))]])) (yss := [[(.int .u8 ((UInt8.ofNat (u / 1099511627776)).toNat : Int))]]) el97 Z o46 Z (by simp [Ap, Ar, Aq, Aj, Ai]; try omega) (Do o45 Z) Z Z (by simp [Value.oneCell']) (by omega) (by omega) (by omega) Z Z ?_
  intro w47 A48 c49 g50 ow51
  have z52 := g50.size
  refine za (.slice A48 ((((0 + n) + 1) + 1) + 1) c49) Z (RL.nil (inB.n (thn.n (CW.region (zm (J 5) Z (zg Z (Ci (r := 4) Z Z Z) (za (J 4) Z (RL.nil (thn.n (Cs (CW.seq (CW.seq (CW.region (zm (J 4) Z (zg Z (Dp (r := true) Z Z (by decide)) ?_)))))))))))))))
  refine RL.nil (thn.n (Aa Z (CW.skip (thn.n (CW.seq (CW.block (CW.region (zm (.slice A48 ((((0 + n) + 1) + 1) + 1) c49) Z (zm (.int .u64 ((u : Nat) : Int)) Z (zm (J 4) Z (zg Z (Ex.mul (r := 32) Z Z Z) (zg Z (Ex.shr (r := ((u / 4294967296 : Nat) : Int)) Z Z (by decide) (shrN (n := 32) (k := 32) (by decide) (by decide) Z)) (zg Z (Da (r := ((UInt8.ofNat (u / 4294967296)).toNat : Int)) Tryz.underlying234 Tryz.underlying5 Z (wrapB (u / 4294967296))) (RL.bs (cs := [(.int .u8 ((UInt8.ofNat (u / 4294967296)).toNat : Int))]) Tryz.underlying97 Tryz.sizeOf5 ze97 Z Z Z (by decide) Z Z Z ?_))))))))))))))
  intro w53 b54 hb55 hz56 g57 o58
  have o59 := (ow51.st0 g57)
  refine RL.app (base := w.heap.size) (xss := ((([] ++ (Db (l))) ++ ([[(.int .u8 ((UInt8.ofNat (u / 72057594037927936)).toNat : Int))]])) ++ ([[(.int .u8 ((UInt8.ofNat (u / 281474976710656)).toNat : Int))]])) ++ ([[(.int .u8 ((UInt8.ofNat (u / 1099511627776)).toNat : Int))]])) (yss := [[(.int .u8 ((UInt8.ofNat (u / 4294967296)).toNat : Int))]]) el97 Z o59 Z (by simp [Ap, Ar, Aq, Aj, Ai]; try omega) (Do o58 Z) Z Z (by simp [Value.oneCell']) (by omega) (by omega) (by omega) Z Z ?_
  intro w60 A61 c62 g63 ow65
  have z66 := g63.size
  refine za (.slice A61 (((((0 + n) + 1) + 1) + 1) + 1) c62) Z (RL.nil (inB.n (thn.n (CW.region (zm (J 4) Z (zg Z (Ci (r := 3) Z Z Z) (za (J 3) Z (RL.nil (thn.n (Cs (CW.seq (CW.seq (CW.region (zm (J 3) Z (zg Z (Dp (r := true) Z Z (by decide)) ?_)))))))))))))))
  refine RL.nil (thn.n (Aa Z (CW.skip (thn.n (CW.seq (CW.block (CW.region (zm (.slice A61 (((((0 + n) + 1) + 1) + 1) + 1) c62) Z (zm (.int .u64 ((u : Nat) : Int)) Z (zm (J 3) Z (zg Z (Ex.mul (r := 24) Z Z Z) (zg Z (Ex.shr (r := ((u / 16777216 : Nat) : Int)) Z Z (by decide) (shrN (n := 24) (k := 24) (by decide) (by decide) Z)) (zg Z (Da (r := ((UInt8.ofNat (u / 16777216)).toNat : Int)) Tryz.underlying234 Tryz.underlying5 Z (wrapB (u / 16777216))) (RL.bs (cs := [(.int .u8 ((UInt8.ofNat (u / 16777216)).toNat : Int))]) Tryz.underlying97 Tryz.sizeOf5 ze97 Z Z Z (by decide) Z Z Z ?_))))))))))))))
  intro w67 b68 hb69 hz70 g71 o72
  have o73 := (ow65.st0 g71)
  refine RL.app (base := w.heap.size) (xss := (((([] ++ (Db (l))) ++ ([[(.int .u8 ((UInt8.ofNat (u / 72057594037927936)).toNat : Int))]])) ++ ([[(.int .u8 ((UInt8.ofNat (u / 281474976710656)).toNat : Int))]])) ++ ([[(.int .u8 ((UInt8.ofNat (u / 1099511627776)).toNat : Int))]])) ++ ([[(.int .u8 ((UInt8.ofNat (u / 4294967296)).toNat : Int))]])) (yss := [[(.int .u8 ((UInt8.ofNat (u / 16777216)).toNat : Int))]]) el97 Z o73 Z (by simp [Ap, Ar, Aq, Aj, Ai]; try omega) (Do o72 Z) Z Z (by simp [Value.oneCell']) (by omega) (by omega) (by omega) Z Z ?_
  intro w74 A75 c76 g77 ow78
  have z79 := g77.size
  refine za (.slice A75 ((((((0 + n) + 1) + 1) + 1) + 1) + 1) c76) Z (RL.nil (inB.n (thn.n (CW.region (zm (J 3) Z (zg Z (Ci (r := 2) Z Z Z) (za (J 2) Z (RL.nil (thn.n (Cs (CW.seq (CW.seq (CW.region (zm (J 2) Z (zg Z (Dp (r := true) Z Z (by decide)) ?_)))))))))))))))
  refine RL.nil (thn.n (Aa Z (CW.skip (thn.n (CW.seq (CW.block (CW.region (zm (.slice A75 ((((((0 + n) + 1) + 1) + 1) + 1) + 1) c76) Z (zm (.int .u64 ((u : Nat) : Int)) Z (zm (J 2) Z (zg Z (Ex.mul (r := 16) Z Z Z) (zg Z (Ex.shr (r := ((u / 65536 : Nat) : Int)) Z Z (by decide) (shrN (n := 16) (k := 16) (by decide) (by decide) Z)) (zg Z (Da (r := ((UInt8.ofNat (u / 65536)).toNat : Int)) Tryz.underlying234 Tryz.underlying5 Z (wrapB (u / 65536))) (RL.bs (cs := [(.int .u8 ((UInt8.ofNat (u / 65536)).toNat : Int))]) Tryz.underlying97 Tryz.sizeOf5 ze97 Z Z Z (by decide) Z Z Z ?_))))))))))))))
  intro w80 b81 hb82 hz83 g84 o85
  have o86 := (ow78.st0 g84)
  refine RL.app (base := w.heap.size) (xss := ((((([] ++ (Db (l))) ++ ([[(.int .u8 ((UInt8.ofNat (u / 72057594037927936)).toNat : Int))]])) ++ ([[(.int .u8 ((UInt8.ofNat (u / 281474976710656)).toNat : Int))]])) ++ ([[(.int .u8 ((UInt8.ofNat (u / 1099511627776)).toNat : Int))]])) ++ ([[(.int .u8 ((UInt8.ofNat (u / 4294967296)).toNat : Int))]])) ++ ([[(.int .u8 ((UInt8.ofNat (u / 16777216)).toNat : Int))]])) (yss := [[(.int .u8 ((UInt8.ofNat (u / 65536)).toNat : Int))]]) el97 Z o86 Z (by simp [Ap, Ar, Aq, Aj, Ai]; try omega) (Do o85 Z) Z Z (by simp [Value.oneCell']) (by omega) (by omega) (by omega) Z Z ?_
  intro w87 A88 c89 g90 ow91
  have z92 := g90.size
  refine za (.slice A88 (((((((0 + n) + 1) + 1) + 1) + 1) + 1) + 1) c89) Z (RL.nil (inB.n (thn.n (CW.region (zm (J 2) Z (zg Z (Ci (r := 1) Z Z Z) (za (J 1) Z (RL.nil (thn.n (Cs (CW.seq (CW.seq (CW.region (zm (J 1) Z (zg Z (Dp (r := true) Z Z (by decide)) ?_)))))))))))))))
  refine RL.nil (thn.n (Aa Z (CW.skip (thn.n (CW.seq (CW.block (CW.region (zm (.slice A88 (((((((0 + n) + 1) + 1) + 1) + 1) + 1) + 1) c89) Z (zm (.int .u64 ((u : Nat) : Int)) Z (zm (J 1) Z (zg Z (Ex.mul (r := 8) Z Z Z) (zg Z (Ex.shr (r := ((u / 256 : Nat) : Int)) Z Z (by decide) (shrN (n := 8) (k := 8) (by decide) (by decide) Z)) (zg Z (Da (r := ((UInt8.ofNat (u / 256)).toNat : Int)) Tryz.underlying234 Tryz.underlying5 Z (wrapB (u / 256))) (RL.bs (cs := [(.int .u8 ((UInt8.ofNat (u / 256)).toNat : Int))]) Tryz.underlying97 Tryz.sizeOf5 ze97 Z Z Z (by decide) Z Z Z ?_))))))))))))))
  intro w93 b94 hb95 hz96 g97 o98
  have o99 := (ow91.st0 g97)
  refine RL.app (base := w.heap.size) (xss := (((((([] ++ (Db (l))) ++ ([[(.int .u8 ((UInt8.ofNat (u / 72057594037927936)).toNat : Int))]])) ++ ([[(.int .u8 ((UInt8.ofNat (u / 281474976710656)).toNat : Int))]])) ++ ([[(.int .u8 ((UInt8.ofNat (u / 1099511627776)).toNat : Int))]])) ++ ([[(.int .u8 ((UInt8.ofNat (u / 4294967296)).toNat : Int))]])) ++ ([[(.int .u8 ((UInt8.ofNat (u / 16777216)).toNat : Int))]])) ++ ([[(.int .u8 ((UInt8.ofNat (u / 65536)).toNat : Int))]])) (yss := [[(.int .u8 ((UInt8.ofNat (u / 256)).toNat : Int))]]) el97 Z o99 Z (by simp [Ap, Ar, Aq, Aj, Ai]; try omega) (Do o98 Z) Z Z (by simp [Value.oneCell']) (by omega) (by omega) (by omega) Z Z ?_
  intro w100 A101 c102 g103 ow104
  have z105 := g103.size
  refine za (.slice A101 ((((((((0 + n) + 1) + 1) + 1) + 1) + 1) + 1) + 1) c102) Z (RL.nil (inB.n (thn.n (CW.region (zm (J 1) Z (zg Z (Ci (r := 0) Z Z Z) (za (J 0) Z (RL.nil (thn.n (Cs (CW.seq (CW.seq (CW.region (zm (J 0) Z (zg Z (Dp (r := true) Z Z (by decide)) ?_)))))))))))))))
  refine RL.nil (thn.n (Aa Z (CW.skip (thn.n (CW.seq (CW.block (CW.region (zm (.slice A101 ((((((((0 + n) + 1) + 1) + 1) + 1) + 1) + 1) + 1) c102) Z (zm (.int .u64 ((u : Nat) : Int)) Z (zm (J 0) Z (zg Z (Ex.mul (r := 0) Z Z Z) (zg Z (Ex.shr (r := ((u / 1 : Nat) : Int)) Z Z (by decide) (shrN (n := 0) (k := 0) (by decide) (by decide) Z)) (zg Z (Da (r := ((UInt8.ofNat (u / 1)).toNat : Int)) Tryz.underlying234 Tryz.underlying5 Z (wrapB (u / 1))) (RL.bs (cs := [(.int .u8 ((UInt8.ofNat (u / 1)).toNat : Int))]) Tryz.underlying97 Tryz.sizeOf5 ze97 Z Z Z (by decide) Z Z Z ?_))))))))))))))
  intro w106 b107 hb108 hz109 g110 o111
  have o112 := (ow104.st0 g110)
  refine RL.app (base := w.heap.size) (xss := ((((((([] ++ (Db (l))) ++ ([[(.int .u8 ((UInt8.ofNat (u / 72057594037927936)).toNat : Int))]])) ++ ([[(.int .u8 ((UInt8.ofNat (u / 281474976710656)).toNat : Int))]])) ++ ([[(.int .u8 ((UInt8.ofNat (u / 1099511627776)).toNat : Int))]])) ++ ([[(.int .u8 ((UInt8.ofNat (u / 4294967296)).toNat : Int))]])) ++ ([[(.int .u8 ((UInt8.ofNat (u / 16777216)).toNat : Int))]])) ++ ([[(.int .u8 ((UInt8.ofNat (u / 65536)).toNat : Int))]])) ++ ([[(.int .u8 ((UInt8.ofNat (u / 256)).toNat : Int))]])) (yss := [[(.int .u8 ((UInt8.ofNat (u / 1)).toNat : Int))]]) el97 Z o112 Z (by simp [Ap, Ar, Aq, Aj, Ai]; try omega) (Do o111 Z) Z Z (by simp [Value.oneCell']) (by omega) (by omega) (by omega) Z Z ?_
  intro w113 A114 c115 g116 ow117
  have z118 := g116.size
  refine za (.slice A114 (((((((((0 + n) + 1) + 1) + 1) + 1) + 1) + 1) + 1) + 1) c115) Z (RL.nil (inB.n (thn.n (CW.region (zm (J 0) Z (zg Z (Ci (r := -1) Z Z Z) (za (J (-1)) Z (RL.nil (thn.n (Cs (CW.seq (CW.seq (CW.region (zm (J (-1)) Z (zg Z (Dp (r := false) Z Z (by decide)) ?_)))))))))))))))
  refine RL.nil (thn.n (Ad Z (CW.exit (thn.x (thn.x (Bh (thn.n (CW.seq (CW.region (zm (.slice A114 (((((((((0 + n) + 1) + 1) + 1) + 1) + 1) + 1) + 1) + 1) c115) Z (za (.slice A114 (((((((((0 + n) + 1) + 1) + 1) + 1) + 1) + 1) + 1) + 1) c115) Z (RL.nil (thn.n (CW.ret (finQ.r (v := (.slice A114 (((((((((0 + n) + 1) + 1) + 1) + 1) + 1) + 1) + 1) + 1) c115)) (Ax Z Z) ?_)))))))))))))))
  have hx : (((((((([] ++ (Db (l))) ++ ([[(.int .u8 ((UInt8.ofNat (u / 72057594037927936)).toNat : Int))]])) ++ ([[(.int .u8 ((UInt8.ofNat (u / 281474976710656)).toNat : Int))]])) ++ ([[(.int .u8 ((UInt8.ofNat (u / 1099511627776)).toNat : Int))]])) ++ ([[(.int .u8 ((UInt8.ofNat (u / 4294967296)).toNat : Int))]])) ++ ([[(.int .u8 ((UInt8.ofNat (u / 16777216)).toNat : Int))]])) ++ ([[(.int .u8 ((UInt8.ofNat (u / 65536)).toNat : Int))]])) ++ ([[(.int .u8 ((UInt8.ofNat (u / 256)).toNat : Int))]])) ++ ([[(.int .u8 ((UInt8.ofNat (u / 1)).toNat : Int))]]) = Db (l ++ Dk u) := by simp [Db, bc, Dk]
  exact ⟨_, _, _, Z, (Cu (Ab (Cu (Ab (Cu (Ab (Cu (Ab (Cu (Ab (Cu (Ab (Cu (Ab (Cu (Ab (Cu (g4) g11 ow5 (by omega)) g18) g24 o20 (by omega)) g31) g37 o33 (by omega)) g44) g50 o46 (by omega)) g57) g63 o59 (by omega)) g71) g77 o73 (by omega)) g84) g90 o86 (by omega)) g97) g103 o99 (by omega)) g110) g116 o112 (by omega)), by omega, (hx ▸ ow117).weak (by omega)⟩
set_option maxHeartbeats 400000 in
set_option maxRecDepth 20000 in
theorem putNumber_ (w : World) (B n c : Nat) (A : Option Addr) (l : List UInt8) (hr : Rd w B 1 A (Db l)) (hn : n = l.length) (hm : n ≤ 1099511627776) (u : Nat) (hu : u ≤ 2147483647) : Ret Tryz.prog 215 [(.slice A n c), (J ((u : Nat) : Int))] w (fun v w' => ∃ (A' : Option Addr) (m c' : Nat), v = .tuple #[.slice A' m c', .int .i64 0] ∧ w.grownBy w' none ∧ m = n + 4 ∧ Ow w' w.heap.size 5 1 A' c' (Db (l ++ Cq u))) := by
  refine Ret.body Tryz.func215 Z Z Z ?_
  refine CW.seq (CW.region (za (.slice none 0 0) Z (za (J 0) Z (RL.nil (thn.n (CW.seq (CW.seq (CW.region (zm (J ((u : Nat) : Int)) Z (zg Z (Ex.lt (r := false) Z Z (decide_eq_false (by omega))) (zm bF Z (zm (J ((u : Nat) : Int)) Z (zg Z (Cv (r := false) Z Z (decide_eq_false (by omega))) (zF bF Z (RL.nil (thn.n (Ad Z (CW.skip (thn.n (CW.seq (CW.region ?_)))))))))))))))))))))
  refine zm (.slice A n c) Z (zm (J ((u : Nat) : Int)) Z (zg Z (Da (r := ((u : Nat) : Int)) Tryz.underlying3 Tryz.underlying234 Z (IntWalk.u64_in _ (by omega))) (RL.call Tryz.call214 (put4_ _ _ n c _ l u hr (by omega) (by omega)) Z Z Z ?_)))
  rintro _ w6 ⟨A1, m2, c3, rfl, g7, hm4, ow5⟩
  have z8 := g7.size
  refine za (.slice A1 m2 c3) Z (za (J 0) Z (RL.nil (thn.n (CW.ret (finQ.r (v := (.tuple #[(.slice A1 m2 c3), (J 0)])) (res2 Z Z Z) ?_)))))
  exact ⟨_, _, _, Z, (g7), by omega, ow5.weak (by omega)⟩
set_option maxHeartbeats 400000 in
set_option maxRecDepth 20000 in
theorem putInt_ (w : World) (B n c : Nat) (A : Option Addr) (l : List UInt8) (hr : Rd w B 1 A (Db l)) (hn : n = l.length) (hm : n ≤ 1099511627776) (x : Int) : Ret Tryz.prog 216 [(.slice A n c), (J x)] w (fun v w' => ∃ (A' : Option Addr) (m c' : Nat), v = .slice A' m c' ∧ w.grownBy w' none ∧ m = n + 8 ∧ Ow w' w.heap.size 5 1 A' c' (Db (l ++ Dk (u64of x)))) := by
  refine Ret.body Tryz.func216 Z Z Z ?_
  refine CW.seq (CW.region (za (.slice none 0 0) Z (RL.nil (thn.n (CW.seq (CW.region (zm (.slice A n c) Z (zm (J x) Z (zg Z (Da (r := ((u64of x : Nat) : Int)) Tryz.underlying3 Tryz.underlying234 Z (u64of_eq x)) (RL.call Tryz.call214 (put8_ _ _ n c _ l (u64of x) hr (by omega) (by omega)) Z Z Z ?_))))))))))
  rintro _ w6 ⟨A1, m2, c3, rfl, g7, hm4, ow5⟩
  have z8 := g7.size
  refine za (.slice A1 m2 c3) Z (RL.nil (thn.n (CW.ret (finQ.r (v := (.slice A1 m2 c3)) (Ax Z Z) ?_))))
  exact ⟨_, _, _, Z, (g7), by omega, ow5.weak (by omega)⟩
end Go.Proofs.YtfokljnhllflbaaGreat
namespace Go.Proofs.YtfokljnhllflbaaGreat
open Go Go.Eng Go.RowKit
theorem putNumberI (w : World) (B n c : Nat) (A : Option Addr) (l : List UInt8) (hr : Rd w B 1 A (Db l)) (hn : n = l.length) (hm : n ≤ 1099511627776) (x : Int) (hx : 0 ≤ x ∧ x ≤ 2147483647) : Ret Tryz.prog 215 [.slice A n c, .int .i64 x] w (fun v w' => ∃ (A' : Option Addr) (m c' : Nat), v = .tuple #[.slice A' m c', .int .i64 0] ∧ w.grownBy w' none ∧ m = n + 4 ∧ Ow w' w.heap.size 5 1 A' c' (Db (l ++ Cq x.toNat))) := by
  have h := putNumber_ w B n c A l hr hn hm x.toNat (by omega)
  rw [Int.toNat_of_nonneg hx.1] at h
  exact h
set_option maxHeartbeats 400000 in
set_option maxRecDepth 20000 in
theorem putText_ (w : World) (B n c : Nat) (A : Option Addr) (l : List UInt8) (hr : Rd w B 1 A (Db l)) (hn : n = l.length) (hm : n ≤ 1099511627776) (t : List UInt8) (ht : t.length ≤ 65536) : Ret Tryz.prog 144 [(.slice A n c), (.string (tx t))] w (fun v w' => ∃ (A' : Option Addr) (m c' : Nat), v = .tuple #[.slice A' m c', .int .i64 0] ∧ w.grownBy w' none ∧ m = n + 4 + t.length ∧ Wr w' w.heap.size 5 1 A' m c' (Db (l ++ Cq t.length ++ t))) := by
  refine Ret.body Tryz.func144 Z Z Z ?_
  refine CW.seq (CW.region (za (.slice none 0 0) Z (za (J 0) Z (RL.nil (thn.n (CW.seq (CW.seq (CW.region (zm (.string (tx t)) Z (zg Z (Ex.lenS Tryz.underlying9 Z) (zg Z (Cv (r := false) Z Z (decide_eq_false (by rw [tx_size]; omega))) (RL.nil (thn.n (Ad Z (CW.skip (thn.n (CW.seq (CW.region (zm (.slice A n c) Z (zm (.string (tx t)) Z (zg Z (Ex.lenS Tryz.underlying9 Z) ?_)))))))))))))))))))))
  refine zg Z (Da (r := ((t.length : Nat) : Int)) Tryz.underlying3 Tryz.underlying234 Z (IntWalk.u64_in _ (by have := tx_size t; omega))) (RL.call Tryz.call214 (put4_ _ _ n c _ l t.length hr (by omega) (by omega)) Z Z Z ?_)
  rintro _ w6 ⟨A1, m2, c3, rfl, g7, hm4, ow5⟩
  have z8 := g7.size
  refine zm (.string (tx t)) Z ?_
  have owr15 : Wr w6 (w.heap.size) 5 1 A1 m2 c3 (Db (l ++ Cq t.length)) := (ow5.wr (by simp only [Ap, List.length_append, Cq, Dk, List.length_cons, List.length_nil]; omega))
  refine RL.appT (base := w.heap.size) (xs := (l ++ Cq t.length)) (l := t) el97 Tryz.underlying9 owr15 Z Z (ow5.ne_none (by simp only [Ap, List.length_append, Cq, Dk, List.length_cons, List.length_nil]; omega)) (by omega) (by omega) (by omega) Z Z ?_
  intro w9 A10 c11 g12 ow13 nx14
  have z16 := g12.size
  refine za (.slice A10 (m2 + t.length) c11) Z (za (J 0) Z (RL.nil (thn.n (CW.ret (finQ.r (v := (.tuple #[(.slice A10 (m2 + t.length) c11), (J 0)])) (res2 Z Z Z) ?_)))))
  exact ⟨_, _, _, Z, (grow_wr (g7) g12 owr15 (by omega)), by omega, ow13.weak (by omega)⟩
end Go.Proofs.YtfokljnhllflbaaGreat
namespace Go.Proofs.YtfokljnhllflbaaGreat
open Go Go.Eng Go.RowKit
set_option maxHeartbeats 2000000 in
set_option maxRecDepth 20000 in
theorem fold_ (w : World) (S : Nat → Prop) (p : Nat) (k : Kept) (A : Option Addr) (n c : Nat) (hS : (AllA [Ae p 141 [(J k.view), (J k.normal), (J k.base), (.string (tx k.image)), (.slice A n c)], At 31 11 A n c (ents k.ents)]).ok S w) (hkk : Cj k = true) (hi : k.image.length ≤ 140737488351232) (r : Rec) (A2 : Option Addr) (n2 c2 : Nat) (hr2 : RdN w S 11 A2 (ents r.ents)) (hn2 : n2 = r.ents.length) (hm2 : n2 ≤ 1099511627776) (hc2 : n2 ≤ c2) (hi2 : r.image.length ≤ 140737488351232) : Ret Tryz.prog 109 [(.pointer (some ⟨p, 0, none⟩)), (.agg ([(J r.kind), (J r.view), (J r.from_), (J r.number), (.string (tx r.image)), (J r.entry.num), (J r.entry.view), (J r.entry.client), (J r.entry.seq), (J r.entry.op.kind), (J r.entry.op.h), (J r.entry.op.i), (J r.entry.op.n), (J r.entry.op.k), (J r.entry.op.v), (J r.entry.op.t), (.slice A2 n2 c2)]).toArray)] w (fun v w' => ∃ (k' : Kept) (A' : Option Addr) (n' c' : Nat), v = .int .i64 (Ca (Cc k r)).1 ∧ Sp ([Ae p 141 [.int .i64 k'.view, .int .i64 k'.normal, .int .i64 k'.base, .string (tx k'.image), .slice A' n' c'], At 31 11 A' n' c' (ents k'.ents)] ++ [Bc w S]) w' ∧ ((Ca (Cc k r)).1 = 0 → k' = (Ca (Cc k r)).2)) := by
  have hkt := keptB_t hkk
  have H0 := Sp.startL hS
  have hnl := H0.len (i := 1) rfl
  have hnc := H0.cap (i := 1) rfl
  simp only [Au] at hnl
  have H0 : Sp [Ae p 141 [(J k.view), (J k.normal), (J k.base), (.string (tx k.image)), (.slice A n c)], At 31 11 A n c (ents k.ents), Bc w S] w := H0
  refine Ret.body Tryz.func109 Z Z Z ?_
  refine CW.seq (CW.region (RL.bx (cs := [(J r.kind), (J r.view), (J r.from_), (J r.number), (.string (tx r.image)), (J r.entry.num), (J r.entry.view), (J r.entry.client), (J r.entry.seq), (J r.entry.op.kind), (J r.entry.op.h), (J r.entry.op.i), (J r.entry.op.n), (J r.entry.op.k), (J r.entry.op.v), (J r.entry.op.t), (.slice A2 n2 c2)]) Z Z Z ?_))
  intro w1 b2 hb3 hz4 g5 o6
  have H7 := H0.newB g5 o6 (by omega)
  have z8 := g5.size
  refine za (J 0) Z (RL.nil (thn.n (CW.seq (CW.seq (CW.region (zg Z (fa33_0 (b := ⟨b2, 0, none⟩) Z Z) (zl (J r.kind) lo26 (H7.ob (i := 0) Z) Z (RL.nil (thn.n (CW.block (CW.seq (CW.seq (CW.region ?_)))))))))))))
  refine zc ((r.kind : Int) = (1 : Int)) Z (fun r hr => Bm Z Z hr) (fun h9 => ?_) (fun h9 => ?_)
  ·skip
   refine za bT Z (RL.nil (thn.n (Aa Z (CW.skip (thn.n (Aa Z (CW.seq (CW.quiet (fun wq => World.grownBy w1 wq none) Tryz.mixed (by kernel_rfl) ⟨Z, Z, Z, Nat.le_refl _, fun _ _ _ => rfl⟩ (QL.go Z Z Z (fun wq gq => fa33_1 (b := ⟨b2, 1, none⟩) Z Z) (QL.go Z Z Z (fun wq gq => Ag Z (Av Bw (Ob.cell (v := (J r.view)) ((H7.grow gq).ob (i := 0) Z) Z))) (QL.go Z Z Z (fun wq gq => As (v := (.pointer (some ⟨p, 0, none⟩))) Z) (QL.go Z Z Z (fun wq gq => Bj Z) (QL.go Z Z Z (fun wq gq => Cm (b := ⟨p, 0, none⟩) Z Z) (QL.go Z Z Z (fun wq gq => fa24_0 (b := ⟨p, 0, none⟩) Z Z) (QL.go Z Z Z (fun wq gq => Ag Z (Av Bw (Ob.cell (v := (J k.view)) ((H7.grow gq).ob (i := 1) Z) Z))) ?_)))))))))))))))
   refine QL.br (p := (r.view : Int) < (k.view : Int)) Z Z Z (fun r hr wq gq => Ex.lt Z Z hr) (fun h10 => ?_) (fun h10 => ?_)
   ·skip
    refine QL.nil ?_
    intro w11 g12
    have H13 := H7.grow g12
    have z14 := g12.size
    refine thn.n (Aa Z (CW.seq (CW.region (za (J 141) Z (RL.nil (thn.n (CW.ret (inB.r (thn.r (finQ.r (v := (J 141)) (Ax Z Z) ?_))))))))))
    have hx : (Ca (Cc k r)).1 = 141 := by
      unfold Cc Dm
      simp [Ca, h9, h10]
    exact ⟨k, _, _, _, Bb hx.symm, (H13.sel [1, 2, 3] (by decide) rfl), fun h0 => by rw [hx] at h0; cases h0⟩
   ·skip
    refine QL.nil ?_
    intro w15 g16
    have H17 := H7.grow g16
    have z18 := g16.size
    refine thn.n (Ad Z (CW.skip (inB.n (thn.n (CW.seq (CW.region (zm (.pointer (some ⟨p, 0, none⟩)) Z (zg Z (Bj Z) (zg Z (Cm (b := ⟨p, 0, none⟩) Z Z) (zg Z (Ag Z (Ak (cs := [(J k.view), (J k.normal), (J k.base), (.string (tx k.image)), (.slice A n c)]) wh24 (H17.ob (i := 1) Z).cl)) (RL.call Tryz.call125 (last_ _ _ _ k (KeptR.of (k := k) (n := n) (c := c) (H17.rowrd (i := 2) Z) (by show n = (k.ents).length; (try simp only [List.length_append, List.length_cons, List.length_nil, List.length_take, List.length_drop]); all_goals omega) (by omega) (by omega) (by first | assumption | (show List.length _ ≤ _; first | assumption | decide | omega))) (Nat.le_refl _) hkk) Z Z Z ?_)))))))))))
    rintro _ w19 ⟨rfl, g20⟩
    have H21 := H17.grow g20
    have z22 := g20.size
    refine za (J (k.base + (k.ents.length : Int))) Z (RL.nil (thn.n (CW.seq (CW.seq (CW.region (zg Z (fa33_0 (b := ⟨b2, 0, none⟩) Z Z) (zl (J r.kind) lo26 (H21.ob (i := 0) Z) Z (RL.nil (thn.n (CW.block (CW.seq (CW.region (zg Z (Bm (r := true) Z Z (decide_eq_true (by omega))) (za bT Z (RL.nil (thn.n (Aa Z (CW.region (zm (.pointer (some ⟨p, 0, none⟩)) Z (zg Z (fa33_1 (b := ⟨b2, 1, none⟩) Z Z) (zl (J r.view) Bw (H21.ob (i := 0) Z) Z ?_)))))))))))))))))))))
    refine zg Z (Bj Z) (zg Z (Cm (b := ⟨p, 0, none⟩) Z Z) (zg Z (fa24_0 (b := ⟨p, 0, none⟩) Z Z) (RL.st (vs := [(J r.view)]) (cs' := [(J r.view), (J k.normal), (J k.base), (.string (tx k.image)), (.slice A n c)]) Tryz.sizeOf3 (H21.ob (i := 1) Z) Z Z Z Z Z Z ?_)))
    intro w23 hz24 g25 o26
    have H27 : Sp [Ae b2 33 [(J r.kind), (J r.view), (J r.from_), (J r.number), (.string (tx r.image)), (J r.entry.num), (J r.entry.view), (J r.entry.client), (J r.entry.seq), (J r.entry.op.kind), (J r.entry.op.h), (J r.entry.op.i), (J r.entry.op.n), (J r.entry.op.k), (J r.entry.op.v), (J r.entry.op.t), (.slice A2 n2 c2)], Ae p 141 [(J r.view), (J k.normal), (J k.base), (.string (tx k.image)), (.slice A n c)], At 31 11 A n c (ents k.ents), Bc w S] w23 := H21.setB (i := 1) rfl g25 o26 rfl
    have z28 := g25.size
    refine RL.nil (inB.n (thn.n (CW.seq (CW.block (CW.seq (CW.region (zm (.pointer (some ⟨p, 0, none⟩)) Z (zg Z (Bj Z) (zg Z (Cm (b := ⟨p, 0, none⟩) Z Z) (zg Z (Df (b := ⟨p, 4, none⟩) Z Z) (zl (.slice A n c) lo22 (H27.ob (i := 1) Z) Z ?_)))))))))))
    have hmk29 : Cc k r = (0, (⟨r.view, k.normal, k.base, k.image, k.ents⟩ : Kept)) := by
        unfold Cc Dm
        simp [h9, h10]
    have hln := H27.len (i := 2) rfl
    have hcn := H27.cap (i := 2) rfl
    simp only [Ap, Ar, Aq, Aj, Ai, Au, List.length_append, List.length_cons, List.length_nil, List.length_take, List.length_drop, List.length_map, Cq, Dk, Be, Bg] at hln
    refine zg Z (Ex.len Tryz.underlying22 Z) ?_
    refine zc ((4000 : Int) < ((n : Nat) : Int)) Z (fun r hr => Cv Z Z hr) (fun h30 => ?_) (fun h30 => ?_)
    ·skip
     refine za bT Z (RL.nil (thn.n (Aa Z (CW.seq (CW.region (za (J 2) Z (RL.nil (thn.n (CW.ret (inB.r (thn.r (finQ.r (v := (J 2)) (Ax Z Z) ?_))))))))))))
     have hx : (Ca (Cc k r)).1 = 2 := by
       rw [hmk29]; unfold Ca
       rw [if_pos rfl, if_pos (by show 4000 < (List.length _); simp only [Ap, Ar, Aq, Aj, Ai, Au, List.length_append, List.length_cons, List.length_nil, List.length_take, List.length_drop, List.length_map, Cq, Dk, Be, Bg]; omega)]
     exact ⟨(⟨r.view, k.normal, k.base, k.image, k.ents⟩ : Kept), _, _, _, Bb hx.symm, (H27.sel [1, 2, 3] (by decide) rfl), fun h0 => by rw [hx] at h0; cases h0⟩
    ·skip
     refine za bF Z (RL.nil (thn.n (Ad Z (CW.seq (CW.region (zm (.pointer (some ⟨p, 0, none⟩)) Z (zg Z (Bj Z) (zg Z (Cm (b := ⟨p, 0, none⟩) Z Z) (zg Z (Ag Z (Ak (cs := [(J r.view), (J k.normal), (J k.base), (.string (tx k.image)), (.slice A n c)]) wh24 (H27.ob (i := 1) Z).cl)) (RL.call Tryz.call57 (opCheck_ _ _ _ (⟨r.view, k.normal, k.base, k.image, k.ents⟩ : Kept) (KeptR.of (k := (⟨r.view, k.normal, k.base, k.image, k.ents⟩ : Kept)) (n := n) (c := c) (H27.rowrd (i := 2) Z) (by show n = (k.ents).length; (try simp only [List.length_append, List.length_cons, List.length_nil, List.length_take, List.length_drop]); all_goals omega) (by omega) (by omega) (by first | assumption | (show List.length _ ≤ _; first | assumption | decide | omega))) (Nat.le_refl _)) Z Z Z ?_))))))))))
     rintro _ w31 ⟨rfl, g32⟩
     have H33 := H27.grow g32
     have z34 := g32.size
     refine zc (((if Cj (⟨r.view, k.normal, k.base, k.image, k.ents⟩ : Kept) then 0 else 1) : Int) ≠ (0 : Int)) Z (fun r hr => Cd Z Z hr) (fun h35 => ?_) (fun h35 => ?_)
     ·skip
      refine za bT Z (RL.nil (thn.n (Aa Z (CW.seq (CW.region (za (J 141) Z (RL.nil (thn.n (CW.ret (inB.r (thn.r (finQ.r (v := (J 141)) (Ax Z Z) ?_))))))))))))
      have hx : (Ca (Cc k r)).1 = 141 := by
        rw [hmk29]; unfold Ca
        rw [if_pos rfl, if_neg (by show ¬ 4000 < (List.length _); simp only [Ap, Ar, Aq, Aj, Ai, Au, List.length_append, List.length_cons, List.length_nil, List.length_take, List.length_drop, List.length_map, Cq, Dk, Be, Bg]; omega), if_neg (by have := ite_ne0 h35; intro h0; rw [h0] at this; cases this)]
      exact ⟨(⟨r.view, k.normal, k.base, k.image, k.ents⟩ : Kept), _, _, _, Bb hx.symm, (H33.sel [1, 2, 3] (by decide) rfl), fun h0 => by rw [hx] at h0; cases h0⟩
     ·skip
      refine za bF Z (RL.nil (thn.n (Ad Z (CW.skip (inB.n (thn.n (CW.seq (CW.region (za (J 0) Z (RL.nil (thn.n (CW.ret (finQ.r (v := (J 0)) (Ax Z Z) ?_)))))))))))))
      have hx : Ca (Cc k r) = (0, (⟨r.view, k.normal, k.base, k.image, k.ents⟩ : Kept)) := by
        rw [hmk29]; unfold Ca
        rw [if_pos rfl, if_neg (by show ¬ 4000 < (List.length _); simp only [Ap, Ar, Aq, Aj, Ai, Au, List.length_append, List.length_cons, List.length_nil, List.length_take, List.length_drop, List.length_map, Cq, Dk, Be, Bg]; omega), if_pos (by exact ite_eq0 h35)]
      exact ⟨(⟨r.view, k.normal, k.base, k.image, k.ents⟩ : Kept), _, _, _, by rw [hx], (H33.sel [1, 2, 3] (by decide) Z), fun _ => by rw [hx]⟩
  ·skip
   refine za bF Z (RL.nil (thn.n (Ad Z (CW.seq (CW.region ?_)))))
   refine zc ((r.kind : Int) = (3 : Int)) Z (fun r hr => Bm Z Z hr) (fun h36 => ?_) (fun h36 => ?_)
   ·skip
    refine za bT Z (RL.nil (thn.n (Aa Z (CW.skip (thn.n (Aa Z (CW.seq (CW.quiet (fun wq => World.grownBy w1 wq none) Tryz.mixed (by kernel_rfl) ⟨Z, Z, Z, Nat.le_refl _, fun _ _ _ => rfl⟩ (QL.go Z Z Z (fun wq gq => fa33_1 (b := ⟨b2, 1, none⟩) Z Z) (QL.go Z Z Z (fun wq gq => Ag Z (Av Bw (Ob.cell (v := (J r.view)) ((H7.grow gq).ob (i := 0) Z) Z))) (QL.go Z Z Z (fun wq gq => As (v := (.pointer (some ⟨p, 0, none⟩))) Z) (QL.go Z Z Z (fun wq gq => Bj Z) (QL.go Z Z Z (fun wq gq => Cm (b := ⟨p, 0, none⟩) Z Z) (QL.go Z Z Z (fun wq gq => fa24_0 (b := ⟨p, 0, none⟩) Z Z) (QL.go Z Z Z (fun wq gq => Ag Z (Av Bw (Ob.cell (v := (J k.view)) ((H7.grow gq).ob (i := 1) Z) Z))) ?_)))))))))))))))
    refine QL.br (p := (r.view : Int) < (k.view : Int)) Z Z Z (fun r hr wq gq => Ex.lt Z Z hr) (fun h37 => ?_) (fun h37 => ?_)
    ·skip
     refine QL.nil ?_
     intro w38 g39
     have H40 := H7.grow g39
     have z41 := g39.size
     refine thn.n (Aa Z (CW.seq (CW.region (za (J 141) Z (RL.nil (thn.n (CW.ret (inB.r (thn.r (finQ.r (v := (J 141)) (Ax Z Z) ?_))))))))))
     have hx : (Ca (Cc k r)).1 = 141 := by
       unfold Cc Dm
       simp [Ca, h9, h36, h37]
     exact ⟨k, _, _, _, Bb hx.symm, (H40.sel [1, 2, 3] (by decide) rfl), fun h0 => by rw [hx] at h0; cases h0⟩
    ·skip
     refine QL.nil ?_
     intro w42 g43
     have H44 := H7.grow g43
     have z45 := g43.size
     refine thn.n (Ad Z (CW.skip (inB.n (thn.n (CW.seq (CW.region (zm (.pointer (some ⟨p, 0, none⟩)) Z (zg Z (Bj Z) (zg Z (Cm (b := ⟨p, 0, none⟩) Z Z) (zg Z (Ag Z (Ak (cs := [(J k.view), (J k.normal), (J k.base), (.string (tx k.image)), (.slice A n c)]) wh24 (H44.ob (i := 1) Z).cl)) (RL.call Tryz.call125 (last_ _ _ _ k (KeptR.of (k := k) (n := n) (c := c) (H44.rowrd (i := 2) Z) (by show n = (k.ents).length; (try simp only [List.length_append, List.length_cons, List.length_nil, List.length_take, List.length_drop]); all_goals omega) (by omega) (by omega) (by first | assumption | (show List.length _ ≤ _; first | assumption | decide | omega))) (Nat.le_refl _) hkk) Z Z Z ?_)))))))))))
     rintro _ w46 ⟨rfl, g47⟩
     have H48 := H44.grow g47
     have z49 := g47.size
     refine za (J (k.base + (k.ents.length : Int))) Z (RL.nil (thn.n (CW.seq (CW.seq (CW.region (zg Z (fa33_0 (b := ⟨b2, 0, none⟩) Z Z) (zl (J r.kind) lo26 (H48.ob (i := 0) Z) Z (RL.nil (thn.n (CW.block (CW.seq (CW.region (zg Z (Bm (r := false) Z Z (decide_eq_false (by omega))) (za bF Z (RL.nil (thn.n (Ad Z (CW.seq (CW.region (zg Z (Bm (r := false) Z Z (decide_eq_false (by omega))) (za bF Z (RL.nil (thn.n (Ad Z (CW.seq (CW.region ?_))))))))))))))))))))))))))
     refine zg Z (Bm (r := true) Z Z (decide_eq_true (by omega))) (za bT Z (RL.nil (thn.n (Aa Z (CW.seq (CW.seq (Di (fun wq => Sp [Ae b2 33 [(J r.kind), (J r.view), (J r.from_), (J r.number), (.string (tx r.image)), (J r.entry.num), (J r.entry.view), (J r.entry.client), (J r.entry.seq), (J r.entry.op.kind), (J r.entry.op.h), (J r.entry.op.i), (J r.entry.op.n), (J r.entry.op.k), (J r.entry.op.v), (J r.entry.op.t), (.slice A2 n2 c2)], Ae p 141 [(J k.view), (J k.normal), (J k.base), (.string (tx k.image)), (.slice A n c)], At 31 11 A n c (ents k.ents), Bc w S] wq) Tryz.mixed Z ?_)))))))
     intro w50 g51
     have H52 := H48.grow g51
     have z53 := g51.size
     refine zr 0 1 Z (by kernel_rfl) H52 (fun wq hq => fa33_2 (b := ⟨b2, 2, none⟩) Z Z) (zr 2 5 Z (by kernel_rfl) H52 (fun wq hq => As (v := (.pointer (some ⟨p, 0, none⟩))) Z) (zr 3 13 Z (by kernel_rfl) H52 (fun wq hq => Bj Z) (zr 4 29 Z (by kernel_rfl) H52 (fun wq hq => Cm (b := ⟨p, 0, none⟩) Z Z) (zr 5 61 Z (by kernel_rfl) H52 (fun wq hq => fa24_2 (b := ⟨p, 2, none⟩) Z Z) (zr 7 189 Z (by kernel_rfl) H52 (fun wq hq => As (v := (J (k.base + (k.ents.length : Int)))) Z) (zr 1 191 Z (by kernel_rfl) H52 (fun wq hq => Ag Z (Av Bw (Ob.cell (v := (J r.from_)) (hq.ob (i := 0) Z) Z))) (zr 6 255 Z (by kernel_rfl) H52 (fun wq hq => Ag Z (Av Bw (Ob.cell (v := (J k.base)) (hq.ob (i := 1) Z) Z))) (RA.one (i := 8) (by kernel_rfl) ?_))))))))
     refine ⟨_, 511, Z, by kernel_rfl, ?_⟩
     refine RL.call Tryz.call122 (within_oplog _ r.from_ k.base (k.base + (k.ents.length : Int))) Z Z Z ?_
     rintro _ _ ⟨rfl, rfl⟩
     rcases hb57 : (Ay r.from_ k.base (k.base + (k.ents.length : Int))) with _ | _
     ·skip
      refine RL.nil ?_
      refine ⟨H52, ?_⟩
      refine zr 9 1023 Z (by kernel_rfl) H52 (fun wq hq => Ex.not (b := false) Z) (zr 10 2047 Z (by kernel_rfl) H52 (fun wq hq => As (v := bT) Z) (zq 11 4095 Z (by kernel_rfl) H52 (zq 13 12287 Z (by kernel_rfl) H52 (zq 12 16383 Z (by kernel_rfl) H52 (zq 14 32767 Z (by kernel_rfl) H52 (zq 15 65535 Z (by kernel_rfl) H52 (zq 16 131071 Z (by kernel_rfl) H52 (zr 17 262143 Z (by kernel_rfl) H52 (fun wq hq => Bs (v := bT) Z Z) (Bi (by kernel_rfl) (thn.n (Aa Z ?_)))))))))))
      refine CW.seq (CW.region (za (J 140) Z (RL.nil (thn.n (CW.ret (thn.r (inB.r (thn.r (finQ.r (v := (J 140)) (Ax Z Z) ?_)))))))))
      have hx : (Ca (Cc k r)).1 = 140 := by
        unfold Cc Dm
        simp [Ca, h9, h36, h37, hb57]
      exact ⟨k, _, _, _, Bb hx.symm, (H52.sel [1, 2, 3] (by decide) rfl), fun h0 => by rw [hx] at h0; cases h0⟩
     ·have hw54 := Bd hb57
      refine RL.nil ?_
      refine ⟨H52, ?_⟩
      refine zr 9 1023 Z (by kernel_rfl) H52 (fun wq hq => Ex.not (b := true) Z) (zr 10 2047 Z (by kernel_rfl) H52 (fun wq hq => As (v := bF) Z) (zr 11 4095 Z (by kernel_rfl) H52 (fun wq hq => fa33_6 (b := ⟨b2, 16, none⟩) Z Z) (zr 13 12287 Z (by kernel_rfl) H52 (fun wq hq => fa33_2 (b := ⟨b2, 2, none⟩) Z Z) (zr 12 16383 Z (by kernel_rfl) H52 (fun wq hq => Ag Z (Av lo22 (Ob.cell (v := (.slice A2 n2 c2)) (hq.ob (i := 0) Z) Z))) (zr 14 32767 Z (by kernel_rfl) H52 (fun wq hq => Ag Z (Av Bw (Ob.cell (v := (J r.from_)) (hq.ob (i := 0) Z) Z))) (RA.one (i := 15) (by kernel_rfl) ?_))))))
      refine ⟨_, 65535, Z, by kernel_rfl, ?_⟩
      refine RL.call Tryz.call123 (follows_ _ ⟨A2, n2, c2⟩ r.ents r.from_ _ (by first | assumption | rfl | omega) (by show n2 ≤ _; omega) ((hr2.st (H52.chg (i := 3) Z)).rd)) Z Z Z ?_
      rintro _ w58 ⟨rfl, g59⟩
      have H60 := H52.grow g59
      have z61 := g59.size
      rcases hb62 : (follB r.ents r.from_) with _ | _
      ·skip
       refine RL.nil ?_
       refine ⟨H60, ?_⟩
       refine zr 16 131071 Z (by kernel_rfl) H60 (fun wq hq => Ex.not (b := false) Z) (zr 17 262143 Z (by kernel_rfl) H60 (fun wq hq => Bo (v := bT) Z Z) (Bi (by kernel_rfl) (thn.n (Aa Z (CW.seq (CW.region (za (J 140) Z (RL.nil (thn.n (CW.ret (thn.r (inB.r (thn.r (finQ.r (v := (J 140)) (Ax Z Z) ?_))))))))))))))
       have hx : (Ca (Cc k r)).1 = 140 := by
         unfold Cc Dm
         simp [Ca, h9, h36, h37, hb57, hb62]
       exact ⟨k, _, _, _, Bb hx.symm, (H60.sel [1, 2, 3] (by decide) rfl), fun h0 => by rw [hx] at h0; cases h0⟩
      ·skip
       refine RL.nil ?_
       refine ⟨H60, ?_⟩
       refine zr 16 131071 Z (by kernel_rfl) H60 (fun wq hq => Ex.not (b := true) Z) (zr 17 262143 Z (by kernel_rfl) H60 (fun wq hq => Bo (v := bF) Z Z) (Bi (by kernel_rfl) (thn.n (Ad Z (CW.skip (thn.n (CW.seq (Di (fun wq => Sp [Ae b2 33 [(J r.kind), (J r.view), (J r.from_), (J r.number), (.string (tx r.image)), (J r.entry.num), (J r.entry.view), (J r.entry.client), (J r.entry.seq), (J r.entry.op.kind), (J r.entry.op.h), (J r.entry.op.i), (J r.entry.op.n), (J r.entry.op.k), (J r.entry.op.v), (J r.entry.op.t), (.slice A2 n2 c2)], At 31 11 A n c (ents k.ents), Bc w S] wq) Tryz.mixed Z ?_))))))))
       intro w63 g65
       have H66 := H60.grow g65
       have z67 := g65.size
       refine zr 0 1 Z (by kernel_rfl) (H66.sel [0, 2, 3] (by decide) Z) (fun wq hq => As (v := (.pointer (some ⟨p, 0, none⟩))) Z) (zr 1 3 Z (by kernel_rfl) (H66.sel [0, 2, 3] (by decide) Z) (fun wq hq => As (v := (.pointer (some ⟨p, 0, none⟩))) Z) (zr 2 7 Z (by kernel_rfl) (H66.sel [0, 2, 3] (by decide) Z) (fun wq hq => fa33_1 (b := ⟨b2, 1, none⟩) Z Z) (zr 4 23 Z (by kernel_rfl) (H66.sel [0, 2, 3] (by decide) Z) (fun wq hq => fa33_1 (b := ⟨b2, 1, none⟩) Z Z) (zr 3 31 Z (by kernel_rfl) (H66.sel [0, 2, 3] (by decide) Z) (fun wq hq => Ag Z (Av Bw (Ob.cell (v := (J r.view)) (hq.ob (i := 0) Z) Z))) (zr 6 95 Z (by kernel_rfl) (H66.sel [0, 2, 3] (by decide) Z) (fun wq hq => Bj Z) (zr 7 223 Z (by kernel_rfl) (H66.sel [0, 2, 3] (by decide) Z) (fun wq hq => Cm (b := ⟨p, 0, none⟩) Z Z) (zr 8 479 Z (by kernel_rfl) (H66.sel [0, 2, 3] (by decide) Z) (fun wq hq => fa24_0 (b := ⟨p, 0, none⟩) Z Z) ?_)))))))
       refine zr 5 511 Z (by kernel_rfl) (H66.sel [0, 2, 3] (by decide) Z) (fun wq hq => Ag Z (Av Bw (Ob.cell (v := (J r.view)) (hq.ob (i := 0) Z) Z))) (RA.one (i := 9) (by kernel_rfl) ?_)
       refine ⟨_, 1023, Z, by kernel_rfl, ?_⟩
       refine RL.st (vs := [(J r.view)]) (cs' := [(J r.view), (J k.normal), (J k.base), (.string (tx k.image)), (.slice A n c)]) Tryz.sizeOf3 (H66.ob (i := 1) Z) Z Z Z Z Z Z ?_
       intro w68 hz69 g70 o71
       have H72 : Sp [Ae b2 33 [(J r.kind), (J r.view), (J r.from_), (J r.number), (.string (tx r.image)), (J r.entry.num), (J r.entry.view), (J r.entry.client), (J r.entry.seq), (J r.entry.op.kind), (J r.entry.op.h), (J r.entry.op.i), (J r.entry.op.n), (J r.entry.op.k), (J r.entry.op.v), (J r.entry.op.t), (.slice A2 n2 c2)], Ae p 141 [(J r.view), (J k.normal), (J k.base), (.string (tx k.image)), (.slice A n c)], At 31 11 A n c (ents k.ents), Bc w S] w68 := H66.setB (i := 1) rfl g70 o71 rfl
       have z73 := g70.size
       refine RL.nil ?_
       refine ⟨(H72.sel [0, 2, 3] (by decide) Z), ?_⟩
       refine zr 10 2047 Z (by kernel_rfl) (H72.sel [0, 2, 3] (by decide) Z) (fun wq hq => Bj Z) (zr 11 4095 Z (by kernel_rfl) (H72.sel [0, 2, 3] (by decide) Z) (fun wq hq => Cm (b := ⟨p, 0, none⟩) Z Z) (zr 12 8191 Z (by kernel_rfl) (H72.sel [0, 2, 3] (by decide) Z) (fun wq hq => fa24_1 (b := ⟨p, 1, none⟩) Z Z) (RA.one (i := 13) (by kernel_rfl) ?_)))
       refine ⟨_, 16383, Z, by kernel_rfl, ?_⟩
       refine RL.st (vs := [(J r.view)]) (cs' := [(J r.view), (J r.view), (J k.base), (.string (tx k.image)), (.slice A n c)]) Tryz.sizeOf3 (H72.ob (i := 1) Z) Z Z Z Z Z Z ?_
       intro w74 hz75 g76 o77
       have H78 : Sp [Ae b2 33 [(J r.kind), (J r.view), (J r.from_), (J r.number), (.string (tx r.image)), (J r.entry.num), (J r.entry.view), (J r.entry.client), (J r.entry.seq), (J r.entry.op.kind), (J r.entry.op.h), (J r.entry.op.i), (J r.entry.op.n), (J r.entry.op.k), (J r.entry.op.v), (J r.entry.op.t), (.slice A2 n2 c2)], Ae p 141 [(J r.view), (J r.view), (J k.base), (.string (tx k.image)), (.slice A n c)], At 31 11 A n c (ents k.ents), Bc w S] w74 := H72.setB (i := 1) rfl g76 o77 rfl
       have z79 := g76.size
       refine RL.nil ?_
       refine ⟨(H78.sel [0, 2, 3] (by decide) Z), ?_⟩
       refine Bi (by kernel_rfl) (thn.n ?_)
       refine CW.mid (fun t => (Nat.ble 88 t && Nat.ble t 108)) (fun ρ wl => ∃ (A109 : Option Addr) (c110 : Nat), Sp [Ae b2 33 [(J r.kind), (J r.view), (J r.from_), (J r.number), (.string (tx r.image)), (J r.entry.num), (J r.entry.view), (J r.entry.client), (J r.entry.seq), (J r.entry.op.kind), (J r.entry.op.h), (J r.entry.op.i), (J r.entry.op.n), (J r.entry.op.k), (J r.entry.op.v), (J r.entry.op.t), (.slice A2 n2 c2)], Ae p 141 [(J r.view), (J r.view), (J k.base), (.string (tx k.image)), (.slice A109 (((r.from_ - k.base).toNat) + n2) c110)], At 31 11 A109 (((r.from_ - k.base).toNat) + n2) c110 (ents ((k.ents).take ((r.from_ - k.base).toNat) ++ r.ents)), Bc w S] wl) ?_ ?_
       ·skip
        refine Di (fun wq => Sp [Ae b2 33 [(J r.kind), (J r.view), (J r.from_), (J r.number), (.string (tx r.image)), (J r.entry.num), (J r.entry.view), (J r.entry.client), (J r.entry.seq), (J r.entry.op.kind), (J r.entry.op.h), (J r.entry.op.i), (J r.entry.op.n), (J r.entry.op.k), (J r.entry.op.v), (J r.entry.op.t), (.slice A2 n2 c2)], Bc w S] wq) Tryz.mixed Z ?_
        intro w123 g124
        have H125 := H78.grow g124
        have z126 := g124.size
        refine zr 0 1 Z (by kernel_rfl) (H125.sel [0, 3] (by decide) Z) (fun wq hq => As (v := (.pointer (some ⟨p, 0, none⟩))) Z) (zr 1 3 Z (by kernel_rfl) (H125.sel [0, 3] (by decide) Z) (fun wq hq => As (v := (.pointer (some ⟨p, 0, none⟩))) Z) (zr 2 7 Z (by kernel_rfl) (H125.sel [0, 3] (by decide) Z) (fun wq hq => Bj Z) (zr 3 15 Z (by kernel_rfl) (H125.sel [0, 3] (by decide) Z) (fun wq hq => Cm (b := ⟨p, 0, none⟩) Z Z) (zr 4 31 Z (by kernel_rfl) (H125.sel [0, 3] (by decide) Z) (fun wq hq => Df (b := ⟨p, 4, none⟩) Z Z) (zr 6 95 Z (by kernel_rfl) (H125.sel [0, 3] (by decide) Z) (fun wq hq => fa33_2 (b := ⟨b2, 2, none⟩) Z Z) (zr 8 351 Z (by kernel_rfl) (H125.sel [0, 3] (by decide) Z) (fun wq hq => As (v := (.pointer (some ⟨p, 0, none⟩))) Z) (zr 9 863 Z (by kernel_rfl) (H125.sel [0, 3] (by decide) Z) (fun wq hq => Bj Z) ?_)))))))
        refine zr 10 1887 Z (by kernel_rfl) (H125.sel [0, 3] (by decide) Z) (fun wq hq => Cm (b := ⟨p, 0, none⟩) Z Z) (zr 11 3935 Z (by kernel_rfl) (H125.sel [0, 3] (by decide) Z) (fun wq hq => fa24_2 (b := ⟨p, 2, none⟩) Z Z) (zr 15 36703 Z (by kernel_rfl) (H125.sel [0, 3] (by decide) Z) (fun wq hq => fa33_6 (b := ⟨b2, 16, none⟩) Z Z) (zr 7 36831 Z (by kernel_rfl) (H125.sel [0, 3] (by decide) Z) (fun wq hq => Ag Z (Av Bw (Ob.cell (v := (J r.from_)) (hq.ob (i := 0) Z) Z))) (zr 16 102367 Z (by kernel_rfl) (H125.sel [0, 3] (by decide) Z) (fun wq hq => Ag Z (Av lo22 (Ob.cell (v := (.slice A2 n2 c2)) (hq.ob (i := 0) Z) Z))) ?_))))
        refine RA.two (i := 5) (j := 12) (by kernel_rfl) ?_ ?_
        ·skip
         refine ⟨_, 102399, Z, by kernel_rfl, ?_⟩
         refine zl (.slice A n c) lo22 (H125.ob (i := 1) Z) Z (RL.nil ?_)
         refine ⟨(H125.sel [0, 3] (by decide) Z), ?_⟩
         refine RA.one (i := 12) (by kernel_rfl) ?_
         refine ⟨_, 106495, Z, by kernel_rfl, ?_⟩
         refine zl (J k.base) Bw (H125.ob (i := 1) Z) Z (RL.nil ?_)
         refine ⟨(H125.sel [0, 3] (by decide) Z), ?_⟩
         try have hw127 := Bd hb57
         try have hw128 := Bd hb62
         refine zr 13 114687 Z (by kernel_rfl) (H125.sel [0, 3] (by decide) Z) (fun wq hq => Ci (r := (((r.from_ - k.base).toNat : Nat) : Int)) Z Z (by rw [Dd (by omega) (by omega)]; omega)) (zr 14 131071 Z (by kernel_rfl) (H125.sel [0, 3] (by decide) Z) (fun wq hq => Ex.slHi (i := ((r.from_ - k.base).toNat)) Tryz.underlying22 Tryz.sizeOf31 Z Z Z (by omega)) (RA.one (i := 17) (by kernel_rfl) ?_))
         refine ⟨_, 262143, Z, by kernel_rfl, ?_⟩
         have H129 : Sp [Ae b2 33 [(J r.kind), (J r.view), (J r.from_), (J r.number), (.string (tx r.image)), (J r.entry.num), (J r.entry.view), (J r.entry.client), (J r.entry.seq), (J r.entry.op.kind), (J r.entry.op.h), (J r.entry.op.i), (J r.entry.op.n), (J r.entry.op.k), (J r.entry.op.v), (J r.entry.op.t), (.slice A2 n2 c2)], Ae p 141 [(J r.view), (J r.view), (J k.base), (.string (tx k.image)), (.slice A n c)], At 31 11 A ((r.from_ - k.base).toNat) c (ents ((k.ents).take ((r.from_ - k.base).toNat))), Bc w S] w123 := H125.takeR (i := 2) rfl (by omega) (ents_take _ _) rfl
         refine RL.apW (base := 0) (xss := (ents ((k.ents).take ((r.from_ - k.base).toNat)))) (yss := (ents r.ents)) el22 (H129.wr (i := 2) Z) Z ((hr2.st (H129.chg (i := 3) Z)).rd) Z (by simp only [Ap, Ar, Aq, Aj, Ai, Au, List.length_append, List.length_cons, List.length_nil, List.length_take, List.length_drop, List.length_map, Cq, Dk, Be, Bg]; try omega) (ents_one _) (by omega) (by omega) (by omega) Z Z ?_
         intro w130 A131 c132 g133 ow134 nx135
         have H136 : Sp [Ae b2 33 [(J r.kind), (J r.view), (J r.from_), (J r.number), (.string (tx r.image)), (J r.entry.num), (J r.entry.view), (J r.entry.client), (J r.entry.seq), (J r.entry.op.kind), (J r.entry.op.h), (J r.entry.op.i), (J r.entry.op.n), (J r.entry.op.k), (J r.entry.op.v), (J r.entry.op.t), (.slice A2 n2 c2)], Ae p 141 [(J r.view), (J r.view), (J k.base), (.string (tx k.image)), (.slice A n c)], At 31 11 A131 (((r.from_ - k.base).toNat) + n2) c132 (ents ((k.ents).take ((r.from_ - k.base).toNat) ++ r.ents)), Bc w S] w130 := H129.setR (i := 2) rfl g133 ((ents_app _ _).symm ▸ ow134) nx135 rfl
         have z137 := g133.size
         refine RL.nil ?_
         refine ⟨(H136.sel [0, 3] (by decide) Z), ?_⟩
         refine zr 18 524287 Z (by kernel_rfl) (H136.sel [0, 3] (by decide) Z) (fun wq hq => Bj Z) (zr 19 1048575 Z (by kernel_rfl) (H136.sel [0, 3] (by decide) Z) (fun wq hq => Cm (b := ⟨p, 0, none⟩) Z Z) (zr 20 2097151 Z (by kernel_rfl) (H136.sel [0, 3] (by decide) Z) (fun wq hq => Df (b := ⟨p, 4, none⟩) Z Z) (RA.one (i := 21) (by kernel_rfl) ?_)))
         refine ⟨_, 4194303, Z, by kernel_rfl, ?_⟩
         refine RL.st (vs := [(.slice A131 (((r.from_ - k.base).toNat) + n2) c132)]) (cs' := [(J r.view), (J r.view), (J k.base), (.string (tx k.image)), (.slice A131 (((r.from_ - k.base).toNat) + n2) c132)]) Tryz.sizeOf22 (H136.ob (i := 1) Z) Z Z Z Z Z Z ?_
         intro w138 hz139 g140 o141
         have H142 : Sp [Ae b2 33 [(J r.kind), (J r.view), (J r.from_), (J r.number), (.string (tx r.image)), (J r.entry.num), (J r.entry.view), (J r.entry.client), (J r.entry.seq), (J r.entry.op.kind), (J r.entry.op.h), (J r.entry.op.i), (J r.entry.op.n), (J r.entry.op.k), (J r.entry.op.v), (J r.entry.op.t), (.slice A2 n2 c2)], Ae p 141 [(J r.view), (J r.view), (J k.base), (.string (tx k.image)), (.slice A131 (((r.from_ - k.base).toNat) + n2) c132)], At 31 11 A131 (((r.from_ - k.base).toNat) + n2) c132 (ents ((k.ents).take ((r.from_ - k.base).toNat) ++ r.ents)), Bc w S] w138 := H136.setB (i := 1) rfl g140 o141 rfl
         have z143 := g140.size
         refine RL.nil ?_
         refine ⟨(H142.sel [0, 3] (by decide) Z), ?_⟩
         refine Bi (by kernel_rfl) (thn.n ?_)
         exact ⟨(by repeat (first | exact Out.mix _ _ | exact Out.refl _ _ | refine Bf ?_ Z _)), A131, c132, (H142.sel [0, 1, 2, 3] (by decide) Z)⟩
        ·skip
         refine ⟨_, 106463, Z, by kernel_rfl, ?_⟩
         refine zl (J k.base) Bw (H125.ob (i := 1) Z) Z (RL.nil ?_)
         refine ⟨(H125.sel [0, 3] (by decide) Z), ?_⟩
         try have hw144 := Bd hb57
         try have hw145 := Bd hb62
         refine zr 13 114655 Z (by kernel_rfl) (H125.sel [0, 3] (by decide) Z) (fun wq hq => Ci (r := (((r.from_ - k.base).toNat : Nat) : Int)) Z Z (by rw [Dd (by omega) (by omega)]; omega)) (RA.one (i := 5) (by kernel_rfl) ?_)
         refine ⟨_, 114687, Z, by kernel_rfl, ?_⟩
         refine zl (.slice A n c) lo22 (H125.ob (i := 1) Z) Z (RL.nil ?_)
         refine ⟨(H125.sel [0, 3] (by decide) Z), ?_⟩
         refine zr 14 131071 Z (by kernel_rfl) (H125.sel [0, 3] (by decide) Z) (fun wq hq => Ex.slHi (i := ((r.from_ - k.base).toNat)) Tryz.underlying22 Tryz.sizeOf31 Z Z Z (by omega)) (RA.one (i := 17) (by kernel_rfl) ?_)
         refine ⟨_, 262143, Z, by kernel_rfl, ?_⟩
         have H146 : Sp [Ae b2 33 [(J r.kind), (J r.view), (J r.from_), (J r.number), (.string (tx r.image)), (J r.entry.num), (J r.entry.view), (J r.entry.client), (J r.entry.seq), (J r.entry.op.kind), (J r.entry.op.h), (J r.entry.op.i), (J r.entry.op.n), (J r.entry.op.k), (J r.entry.op.v), (J r.entry.op.t), (.slice A2 n2 c2)], Ae p 141 [(J r.view), (J r.view), (J k.base), (.string (tx k.image)), (.slice A n c)], At 31 11 A ((r.from_ - k.base).toNat) c (ents ((k.ents).take ((r.from_ - k.base).toNat))), Bc w S] w123 := H125.takeR (i := 2) rfl (by omega) (ents_take _ _) rfl
         refine RL.apW (base := 0) (xss := (ents ((k.ents).take ((r.from_ - k.base).toNat)))) (yss := (ents r.ents)) el22 (H146.wr (i := 2) Z) Z ((hr2.st (H146.chg (i := 3) Z)).rd) Z (by simp only [Ap, Ar, Aq, Aj, Ai, Au, List.length_append, List.length_cons, List.length_nil, List.length_take, List.length_drop, List.length_map, Cq, Dk, Be, Bg]; try omega) (ents_one _) (by omega) (by omega) (by omega) Z Z ?_
         intro w147 A148 c149 g150 ow151 nx152
         have H153 : Sp [Ae b2 33 [(J r.kind), (J r.view), (J r.from_), (J r.number), (.string (tx r.image)), (J r.entry.num), (J r.entry.view), (J r.entry.client), (J r.entry.seq), (J r.entry.op.kind), (J r.entry.op.h), (J r.entry.op.i), (J r.entry.op.n), (J r.entry.op.k), (J r.entry.op.v), (J r.entry.op.t), (.slice A2 n2 c2)], Ae p 141 [(J r.view), (J r.view), (J k.base), (.string (tx k.image)), (.slice A n c)], At 31 11 A148 (((r.from_ - k.base).toNat) + n2) c149 (ents ((k.ents).take ((r.from_ - k.base).toNat) ++ r.ents)), Bc w S] w147 := H146.setR (i := 2) rfl g150 ((ents_app _ _).symm ▸ ow151) nx152 rfl
         have z154 := g150.size
         refine RL.nil ?_
         refine ⟨(H153.sel [0, 3] (by decide) Z), ?_⟩
         refine zr 18 524287 Z (by kernel_rfl) (H153.sel [0, 3] (by decide) Z) (fun wq hq => Bj Z) (zr 19 1048575 Z (by kernel_rfl) (H153.sel [0, 3] (by decide) Z) (fun wq hq => Cm (b := ⟨p, 0, none⟩) Z Z) (zr 20 2097151 Z (by kernel_rfl) (H153.sel [0, 3] (by decide) Z) (fun wq hq => Df (b := ⟨p, 4, none⟩) Z Z) (RA.one (i := 21) (by kernel_rfl) ?_)))
         refine ⟨_, 4194303, Z, by kernel_rfl, ?_⟩
         refine RL.st (vs := [(.slice A148 (((r.from_ - k.base).toNat) + n2) c149)]) (cs' := [(J r.view), (J r.view), (J k.base), (.string (tx k.image)), (.slice A148 (((r.from_ - k.base).toNat) + n2) c149)]) Tryz.sizeOf22 (H153.ob (i := 1) Z) Z Z Z Z Z Z ?_
         intro w155 hz156 g157 o158
         have H159 : Sp [Ae b2 33 [(J r.kind), (J r.view), (J r.from_), (J r.number), (.string (tx r.image)), (J r.entry.num), (J r.entry.view), (J r.entry.client), (J r.entry.seq), (J r.entry.op.kind), (J r.entry.op.h), (J r.entry.op.i), (J r.entry.op.n), (J r.entry.op.k), (J r.entry.op.v), (J r.entry.op.t), (.slice A2 n2 c2)], Ae p 141 [(J r.view), (J r.view), (J k.base), (.string (tx k.image)), (.slice A148 (((r.from_ - k.base).toNat) + n2) c149)], At 31 11 A148 (((r.from_ - k.base).toNat) + n2) c149 (ents ((k.ents).take ((r.from_ - k.base).toNat) ++ r.ents)), Bc w S] w155 := H153.setB (i := 1) rfl g157 o158 rfl
         have z160 := g157.size
         refine RL.nil ?_
         refine ⟨(H159.sel [0, 3] (by decide) Z), ?_⟩
         refine Bi (by kernel_rfl) (thn.n ?_)
         exact ⟨(by repeat (first | exact Out.mix _ _ | exact Out.refl _ _ | refine Bf ?_ Z _)), A148, c149, (H159.sel [0, 1, 2, 3] (by decide) Z)⟩
       ·rintro ρc122 w161 ho162 ⟨A109, c110, H163⟩
        obtain ⟨jc122, rfl⟩ := ho162.shape0
        clear ho162
        have z164 := (H163.chg (i := 3) rfl).size
        refine inB.n (thn.n (CW.seq (CW.block (CW.seq (CW.region (zm (.pointer (some ⟨p, 0, none⟩)) Z (zg Z (Bj Z) (zg Z (Cm (b := ⟨p, 0, none⟩) Z Z) (zg Z (Df (b := ⟨p, 4, none⟩) Z Z) (zl (.slice A109 (((r.from_ - k.base).toNat) + n2) c110) lo22 (H163.ob (i := 1) Z) Z ?_))))))))))
        have hmk165 : Cc k r = (0, (⟨r.view, r.view, k.base, k.image, (k.ents).take ((r.from_ - k.base).toNat) ++ r.ents⟩ : Kept)) := by
                unfold Cc Dm
                simp [h9, h36, h37, hb57, hb62]
        have hln := H163.len (i := 2) rfl
        have hcn := H163.cap (i := 2) rfl
        simp only [Ap, Ar, Aq, Aj, Ai, Au, List.length_append, List.length_cons, List.length_nil, List.length_take, List.length_drop, List.length_map, Cq, Dk, Be, Bg] at hln
        refine zg Z (Ex.len Tryz.underlying22 Z) ?_
        refine zc ((4000 : Int) < ((((r.from_ - k.base).toNat) + n2 : Nat) : Int)) Z (fun r hr => Cv Z Z hr) (fun h166 => ?_) (fun h166 => ?_)
        ·skip
         refine za bT Z (RL.nil (thn.n (Aa Z (CW.seq (CW.region (za (J 2) Z (RL.nil (thn.n (CW.ret (inB.r (thn.r (finQ.r (v := (J 2)) (Ax Z Z) ?_))))))))))))
         have hx : (Ca (Cc k r)).1 = 2 := by
           rw [hmk165]; unfold Ca
           rw [if_pos rfl, if_pos (by show 4000 < (List.length _); simp only [Ap, Ar, Aq, Aj, Ai, Au, List.length_append, List.length_cons, List.length_nil, List.length_take, List.length_drop, List.length_map, Cq, Dk, Be, Bg]; omega)]
         exact ⟨(⟨r.view, r.view, k.base, k.image, (k.ents).take ((r.from_ - k.base).toNat) ++ r.ents⟩ : Kept), _, _, _, Bb hx.symm, (H163.sel [1, 2, 3] (by decide) rfl), fun h0 => by rw [hx] at h0; cases h0⟩
        ·skip
         refine za bF Z (RL.nil (thn.n (Ad Z (CW.seq (CW.region (zm (.pointer (some ⟨p, 0, none⟩)) Z (zg Z (Bj Z) (zg Z (Cm (b := ⟨p, 0, none⟩) Z Z) (zg Z (Ag Z (Ak (cs := [(J r.view), (J r.view), (J k.base), (.string (tx k.image)), (.slice A109 (((r.from_ - k.base).toNat) + n2) c110)]) wh24 (H163.ob (i := 1) Z).cl)) (RL.call Tryz.call57 (opCheck_ _ _ _ (⟨r.view, r.view, k.base, k.image, (k.ents).take ((r.from_ - k.base).toNat) ++ r.ents⟩ : Kept) (KeptR.of (k := (⟨r.view, r.view, k.base, k.image, (k.ents).take ((r.from_ - k.base).toNat) ++ r.ents⟩ : Kept)) (n := ((r.from_ - k.base).toNat) + n2) (c := c110) (H163.rowrd (i := 2) Z) (by show ((r.from_ - k.base).toNat) + n2 = ((k.ents).take ((r.from_ - k.base).toNat) ++ r.ents).length; (try simp only [List.length_append, List.length_cons, List.length_nil, List.length_take, List.length_drop]); all_goals omega) (by omega) (by omega) (by first | assumption | (show List.length _ ≤ _; first | assumption | decide | omega))) (Nat.le_refl _)) Z Z Z ?_))))))))))
         rintro _ w167 ⟨rfl, g168⟩
         have H169 := H163.grow g168
         have z170 := g168.size
         refine zc (((if Cj (⟨r.view, r.view, k.base, k.image, (k.ents).take ((r.from_ - k.base).toNat) ++ r.ents⟩ : Kept) then 0 else 1) : Int) ≠ (0 : Int)) Z (fun r hr => Cd Z Z hr) (fun h171 => ?_) (fun h171 => ?_)
         ·skip
          refine za bT Z (RL.nil (thn.n (Aa Z (CW.seq (CW.region (za (J 141) Z (RL.nil (thn.n (CW.ret (inB.r (thn.r (finQ.r (v := (J 141)) (Ax Z Z) ?_))))))))))))
          have hx : (Ca (Cc k r)).1 = 141 := by
            rw [hmk165]; unfold Ca
            rw [if_pos rfl, if_neg (by show ¬ 4000 < (List.length _); simp only [Ap, Ar, Aq, Aj, Ai, Au, List.length_append, List.length_cons, List.length_nil, List.length_take, List.length_drop, List.length_map, Cq, Dk, Be, Bg]; omega), if_neg (by have := ite_ne0 h171; intro h0; rw [h0] at this; cases this)]
          exact ⟨(⟨r.view, r.view, k.base, k.image, (k.ents).take ((r.from_ - k.base).toNat) ++ r.ents⟩ : Kept), _, _, _, Bb hx.symm, (H169.sel [1, 2, 3] (by decide) rfl), fun h0 => by rw [hx] at h0; cases h0⟩
         ·skip
          refine za bF Z (RL.nil (thn.n (Ad Z (CW.skip (inB.n (thn.n (CW.seq (CW.region (za (J 0) Z (RL.nil (thn.n (CW.ret (finQ.r (v := (J 0)) (Ax Z Z) ?_)))))))))))))
          have hx : Ca (Cc k r) = (0, (⟨r.view, r.view, k.base, k.image, (k.ents).take ((r.from_ - k.base).toNat) ++ r.ents⟩ : Kept)) := by
            rw [hmk165]; unfold Ca
            rw [if_pos rfl, if_neg (by show ¬ 4000 < (List.length _); simp only [Ap, Ar, Aq, Aj, Ai, Au, List.length_append, List.length_cons, List.length_nil, List.length_take, List.length_drop, List.length_map, Cq, Dk, Be, Bg]; omega), if_pos (by exact ite_eq0 h171)]
          exact ⟨(⟨r.view, r.view, k.base, k.image, (k.ents).take ((r.from_ - k.base).toNat) ++ r.ents⟩ : Kept), _, _, _, by rw [hx], (H169.sel [1, 2, 3] (by decide) Z), fun _ => by rw [hx]⟩
   ·skip
    refine za bF Z (RL.nil (thn.n (Ad Z (CW.region ?_))))
    refine zc ((r.kind : Int) = (5 : Int)) Z (fun r hr => Bm Z Z hr) (fun h172 => ?_) (fun h172 => ?_)
    ·skip
     refine za bT Z (RL.nil (thn.n (Aa Z (CW.seq (CW.quiet (fun wq => World.grownBy w1 wq none) Tryz.mixed (by kernel_rfl) ⟨Z, Z, Z, Nat.le_refl _, fun _ _ _ => rfl⟩ (QL.go Z Z Z (fun wq gq => fa33_1 (b := ⟨b2, 1, none⟩) Z Z) (QL.go Z Z Z (fun wq gq => Ag Z (Av Bw (Ob.cell (v := (J r.view)) ((H7.grow gq).ob (i := 0) Z) Z))) (QL.go Z Z Z (fun wq gq => As (v := (.pointer (some ⟨p, 0, none⟩))) Z) (QL.go Z Z Z (fun wq gq => Bj Z) (QL.go Z Z Z (fun wq gq => Cm (b := ⟨p, 0, none⟩) Z Z) (QL.go Z Z Z (fun wq gq => fa24_0 (b := ⟨p, 0, none⟩) Z Z) (QL.go Z Z Z (fun wq gq => Ag Z (Av Bw (Ob.cell (v := (J k.view)) ((H7.grow gq).ob (i := 1) Z) Z))) ?_))))))))))))
     refine QL.br (p := (r.view : Int) < (k.view : Int)) Z Z Z (fun r hr wq gq => Ex.lt Z Z hr) (fun h173 => ?_) (fun h173 => ?_)
     ·skip
      refine QL.nil ?_
      intro w174 g175
      have H176 := H7.grow g175
      have z177 := g175.size
      refine thn.n (Aa Z (CW.seq (CW.region (za (J 141) Z (RL.nil (thn.n (CW.ret (inB.r (thn.r (finQ.r (v := (J 141)) (Ax Z Z) ?_))))))))))
      have hx : (Ca (Cc k r)).1 = 141 := by
        unfold Cc Dm
        simp [Ca, h9, h36, h172, h173]
      exact ⟨k, _, _, _, Bb hx.symm, (H176.sel [1, 2, 3] (by decide) rfl), fun h0 => by rw [hx] at h0; cases h0⟩
     ·skip
      refine QL.nil ?_
      intro w178 g179
      have H180 := H7.grow g179
      have z181 := g179.size
      refine thn.n (Ad Z (CW.skip (inB.n (thn.n (CW.seq (CW.region (zm (.pointer (some ⟨p, 0, none⟩)) Z (zg Z (Bj Z) (zg Z (Cm (b := ⟨p, 0, none⟩) Z Z) (zg Z (Ag Z (Ak (cs := [(J k.view), (J k.normal), (J k.base), (.string (tx k.image)), (.slice A n c)]) wh24 (H180.ob (i := 1) Z).cl)) (RL.call Tryz.call125 (last_ _ _ _ k (KeptR.of (k := k) (n := n) (c := c) (H180.rowrd (i := 2) Z) (by show n = (k.ents).length; (try simp only [List.length_append, List.length_cons, List.length_nil, List.length_take, List.length_drop]); all_goals omega) (by omega) (by omega) (by first | assumption | (show List.length _ ≤ _; first | assumption | decide | omega))) (Nat.le_refl _) hkk) Z Z Z ?_)))))))))))
      rintro _ w182 ⟨rfl, g183⟩
      have H184 := H180.grow g183
      have z185 := g183.size
      refine za (J (k.base + (k.ents.length : Int))) Z (RL.nil (thn.n (CW.seq (CW.seq (CW.region (zg Z (fa33_0 (b := ⟨b2, 0, none⟩) Z Z) (zl (J r.kind) lo26 (H184.ob (i := 0) Z) Z (RL.nil (thn.n (CW.block (CW.seq (CW.region (zg Z (Bm (r := false) Z Z (decide_eq_false (by omega))) (za bF Z (RL.nil (thn.n (Ad Z (CW.seq (CW.region (zg Z (Bm (r := false) Z Z (decide_eq_false (by omega))) (za bF Z (RL.nil (thn.n (Ad Z (CW.seq (CW.region ?_))))))))))))))))))))))))))
      refine zg Z (Bm (r := false) Z Z (decide_eq_false (by omega))) (za bF Z (RL.nil (thn.n (Ad Z (CW.seq (CW.region (zg Z (Bm (r := false) Z Z (decide_eq_false (by omega))) (za bF Z (RL.nil (thn.n (Ad Z (CW.seq (CW.region (zg Z (Bm (r := true) Z Z (decide_eq_true (by omega))) (za bT Z (RL.nil (thn.n (Aa Z (CW.seq (CW.seq (CW.region (zg Z (fa33_3 (b := ⟨b2, 3, none⟩) Z Z) (zl (J r.number) Bw (H184.ob (i := 0) Z) Z ?_)))))))))))))))))))))))
      refine RL.call Tryz.call122 (within_oplog _ r.number 0 900000000) Z Z Z ?_
      rintro _ _ ⟨rfl, rfl⟩
      rcases hb189 : (Ay r.number 0 900000000) with _ | _
      ·skip
       refine zg Z (Ex.not (b := false) Z) (zm bT Z (zo Z (zo Z (zo Z (zo Z (zo Z (zo Z (zT bT Z (RL.nil (thn.n (Aa Z (CW.seq (CW.region (za (J 140) Z ?_))))))))))))))
       refine RL.nil (thn.n (CW.ret (thn.r (inB.r (thn.r (finQ.r (v := (J 140)) (Ax Z Z) ?_))))))
       have hx : (Ca (Cc k r)).1 = 140 := by
         unfold Cc Dm
         simp [Ca, h9, h36, h172, h173, hb189]
       exact ⟨k, _, _, _, Bb hx.symm, (H184.sel [1, 2, 3] (by decide) rfl), fun h0 => by rw [hx] at h0; cases h0⟩
      ·have hw186 := Bd hb189
       refine zg Z (Ex.not (b := true) Z) (zm bF Z (zg Z (fa33_6 (b := ⟨b2, 16, none⟩) Z Z) (zl (.slice A2 n2 c2) lo22 (H184.ob (i := 0) Z) Z (zg Z (fa33_3 (b := ⟨b2, 3, none⟩) Z Z) (zl (J r.number) Bw (H184.ob (i := 0) Z) Z (RL.call Tryz.call123 (follows_ _ ⟨A2, n2, c2⟩ r.ents r.number _ (by first | assumption | rfl | omega) (by show n2 ≤ _; omega) ((hr2.st (H184.chg (i := 3) Z)).rd)) Z Z Z ?_))))))
       rintro _ w190 ⟨rfl, g191⟩
       have H192 := H184.grow g191
       have z193 := g191.size
       rcases hb194 : (follB r.ents r.number) with _ | _
       ·skip
        refine zg Z (Ex.not (b := false) Z) (zF bT Z (RL.nil (thn.n (Aa Z (CW.seq (CW.region (za (J 140) Z (RL.nil (thn.n (CW.ret (thn.r (inB.r (thn.r (finQ.r (v := (J 140)) (Ax Z Z) ?_))))))))))))))
        have hx : (Ca (Cc k r)).1 = 140 := by
          unfold Cc Dm
          simp [Ca, h9, h36, h172, h173, hb189, hb194]
        exact ⟨k, _, _, _, Bb hx.symm, (H192.sel [1, 2, 3] (by decide) rfl), fun h0 => by rw [hx] at h0; cases h0⟩
       ·skip
        refine zg Z (Ex.not (b := true) Z) (zF bF Z (RL.nil (thn.n (Ad Z (CW.skip (thn.n (Di (fun wq => Sp [Ae b2 33 [(J r.kind), (J r.view), (J r.from_), (J r.number), (.string (tx r.image)), (J r.entry.num), (J r.entry.view), (J r.entry.client), (J r.entry.seq), (J r.entry.op.kind), (J r.entry.op.h), (J r.entry.op.i), (J r.entry.op.n), (J r.entry.op.k), (J r.entry.op.v), (J r.entry.op.t), (.slice A2 n2 c2)], At 31 11 A n c (ents k.ents), Bc w S] wq) Tryz.mixed Z ?_)))))))
        intro w195 g196
        have H197 := H192.grow g196
        have z198 := g196.size
        refine zr 0 1 Z (by kernel_rfl) (H197.sel [0, 2, 3] (by decide) Z) (fun wq hq => As (v := (.pointer (some ⟨p, 0, none⟩))) Z) (zr 1 3 Z (by kernel_rfl) (H197.sel [0, 2, 3] (by decide) Z) (fun wq hq => fa33_1 (b := ⟨b2, 1, none⟩) Z Z) (zr 3 11 Z (by kernel_rfl) (H197.sel [0, 2, 3] (by decide) Z) (fun wq hq => fa33_1 (b := ⟨b2, 1, none⟩) Z Z) (zr 5 43 Z (by kernel_rfl) (H197.sel [0, 2, 3] (by decide) Z) (fun wq hq => fa33_3 (b := ⟨b2, 3, none⟩) Z Z) (zr 7 171 Z (by kernel_rfl) (H197.sel [0, 2, 3] (by decide) Z) (fun wq hq => fa33_4 (b := ⟨b2, 4, none⟩) Z Z) (zr 9 683 Z (by kernel_rfl) (H197.sel [0, 2, 3] (by decide) Z) (fun wq hq => fa33_6 (b := ⟨b2, 16, none⟩) Z Z) (zr 2 687 Z (by kernel_rfl) (H197.sel [0, 2, 3] (by decide) Z) (fun wq hq => Ag Z (Av Bw (Ob.cell (v := (J r.view)) (hq.ob (i := 0) Z) Z))) (zr 4 703 Z (by kernel_rfl) (H197.sel [0, 2, 3] (by decide) Z) (fun wq hq => Ag Z (Av Bw (Ob.cell (v := (J r.view)) (hq.ob (i := 0) Z) Z))) ?_)))))))
        refine zr 6 767 Z (by kernel_rfl) (H197.sel [0, 2, 3] (by decide) Z) (fun wq hq => Ag Z (Av Bw (Ob.cell (v := (J r.number)) (hq.ob (i := 0) Z) Z))) (zr 8 1023 Z (by kernel_rfl) (H197.sel [0, 2, 3] (by decide) Z) (fun wq hq => Ag Z (Av lo9 (Ob.cell (v := (.string (tx r.image))) (hq.ob (i := 0) Z) Z))) (zr 10 2047 Z (by kernel_rfl) (H197.sel [0, 2, 3] (by decide) Z) (fun wq hq => Ag Z (Av lo22 (Ob.cell (v := (.slice A2 n2 c2)) (hq.ob (i := 0) Z) Z))) (RA.one (i := 11) (by kernel_rfl) ?_)))
        refine ⟨_, 4095, Z, by kernel_rfl, ?_⟩
        refine RL.call Tryz.call89 (cloneEnt _ r.ents _ _ _ _ ((hr2.st (H197.chg (i := 3) Z)).rd) (by (try simp only [List.length_append, List.length_cons, List.length_nil, List.length_take, List.length_drop]); all_goals omega) (by omega)) Z Z Z ?_
        rintro _ w202 ⟨A199, c200, rfl, g203, ow201⟩
        have H204 : Sp [At 31 11 A199 n2 c200 (ents r.ents), Ae b2 33 [(J r.kind), (J r.view), (J r.from_), (J r.number), (.string (tx r.image)), (J r.entry.num), (J r.entry.view), (J r.entry.client), (J r.entry.seq), (J r.entry.op.kind), (J r.entry.op.h), (J r.entry.op.i), (J r.entry.op.n), (J r.entry.op.k), (J r.entry.op.v), (J r.entry.op.t), (.slice A2 n2 c2)], Ae p 141 [(J k.view), (J k.normal), (J k.base), (.string (tx k.image)), (.slice A n c)], At 31 11 A n c (ents k.ents), Bc w S] w202 := H197.newO g203 ow201 (by simp only [Ap, Ar, Aq, Aj, Ai, Au, List.length_append, List.length_cons, List.length_nil, List.length_take, List.length_drop, List.length_map, Cq, Dk, Be, Bg]; omega) (Nat.le_refl _)
        have z205 := g203.size
        refine RL.nil ?_
        refine ⟨(H204.sel [1, 3, 4] (by decide) Z), ?_⟩
        refine zr 12 8191 Z (by kernel_rfl) (H204.sel [1, 3, 4] (by decide) Z) (fun wq hq => Ce (cs := [(J r.view), (J r.view), (J r.number), (.string (tx r.image)), (.slice A199 n2 c200)]) bd24 Z) (zr 13 16383 Z (by kernel_rfl) (H204.sel [1, 3, 4] (by decide) Z) (fun wq hq => Bj Z) (zr 14 32767 Z (by kernel_rfl) (H204.sel [1, 3, 4] (by decide) Z) (fun wq hq => Cm (b := ⟨p, 0, none⟩) Z Z) (RA.one (i := 15) (by kernel_rfl) ?_)))
        refine ⟨_, 65535, Z, by kernel_rfl, ?_⟩
        refine RL.st (vs := [(J r.view), (J r.view), (J r.number), (.string (tx r.image)), (.slice A199 n2 c200)]) (cs' := [(J r.view), (J r.view), (J r.number), (.string (tx r.image)), (.slice A199 n2 c200)]) Tryz.sizeOf24 (H204.ob (i := 2) Z) Z Z Z Z Z Z ?_
        intro w206 hz207 g208 o209
        have H210 : Sp [At 31 11 A199 n2 c200 (ents r.ents), Ae b2 33 [(J r.kind), (J r.view), (J r.from_), (J r.number), (.string (tx r.image)), (J r.entry.num), (J r.entry.view), (J r.entry.client), (J r.entry.seq), (J r.entry.op.kind), (J r.entry.op.h), (J r.entry.op.i), (J r.entry.op.n), (J r.entry.op.k), (J r.entry.op.v), (J r.entry.op.t), (.slice A2 n2 c2)], Ae p 141 [(J r.view), (J r.view), (J r.number), (.string (tx r.image)), (.slice A199 n2 c200)], At 31 11 A n c (ents k.ents), Bc w S] w206 := H204.setB (i := 2) rfl g208 o209 rfl
        have z211 := g208.size
        refine RL.nil ?_
        refine ⟨(H210.sel [1, 3, 4] (by decide) Z), ?_⟩
        refine Bi (by kernel_rfl) (inB.n (thn.n (CW.seq (CW.block (CW.seq (CW.region (zm (.pointer (some ⟨p, 0, none⟩)) Z (zg Z (Bj Z) (zg Z (Cm (b := ⟨p, 0, none⟩) Z Z) (zg Z (Df (b := ⟨p, 4, none⟩) Z Z) (zl (.slice A199 n2 c200) lo22 (H210.ob (i := 2) Z) Z ?_)))))))))))
        have hmk212 : Cc k r = (0, (⟨r.view, r.view, r.number, r.image, r.ents⟩ : Kept)) := by
                unfold Cc Dm
                simp [h9, h36, h172, h173, hb189, hb194]
        have hln := H210.len (i := 0) rfl
        have hcn := H210.cap (i := 0) rfl
        simp only [Ap, Ar, Aq, Aj, Ai, Au, List.length_append, List.length_cons, List.length_nil, List.length_take, List.length_drop, List.length_map, Cq, Dk, Be, Bg] at hln
        refine zg Z (Ex.len Tryz.underlying22 Z) ?_
        refine zc ((4000 : Int) < ((n2 : Nat) : Int)) Z (fun r hr => Cv Z Z hr) (fun h213 => ?_) (fun h213 => ?_)
        ·skip
         refine za bT Z (RL.nil (thn.n (Aa Z (CW.seq (CW.region (za (J 2) Z (RL.nil (thn.n (CW.ret (inB.r (thn.r (finQ.r (v := (J 2)) (Ax Z Z) ?_))))))))))))
         have hx : (Ca (Cc k r)).1 = 2 := by
           rw [hmk212]; unfold Ca
           rw [if_pos rfl, if_pos (by show 4000 < (List.length _); simp only [Ap, Ar, Aq, Aj, Ai, Au, List.length_append, List.length_cons, List.length_nil, List.length_take, List.length_drop, List.length_map, Cq, Dk, Be, Bg]; omega)]
         exact ⟨(⟨r.view, r.view, r.number, r.image, r.ents⟩ : Kept), _, _, _, Bb hx.symm, (H210.sel [2, 0, 4] (by decide) rfl), fun h0 => by rw [hx] at h0; cases h0⟩
        ·skip
         refine za bF Z (RL.nil (thn.n (Ad Z (CW.seq (CW.region (zm (.pointer (some ⟨p, 0, none⟩)) Z (zg Z (Bj Z) (zg Z (Cm (b := ⟨p, 0, none⟩) Z Z) (zg Z (Ag Z (Ak (cs := [(J r.view), (J r.view), (J r.number), (.string (tx r.image)), (.slice A199 n2 c200)]) wh24 (H210.ob (i := 2) Z).cl)) (RL.call Tryz.call57 (opCheck_ _ _ _ (⟨r.view, r.view, r.number, r.image, r.ents⟩ : Kept) (KeptR.of (k := (⟨r.view, r.view, r.number, r.image, r.ents⟩ : Kept)) (n := n2) (c := c200) (H210.rowrd (i := 0) Z) (by show n2 = (r.ents).length; (try simp only [List.length_append, List.length_cons, List.length_nil, List.length_take, List.length_drop]); all_goals omega) (by omega) (by omega) (by first | assumption | (show List.length _ ≤ _; first | assumption | decide | omega))) (Nat.le_refl _)) Z Z Z ?_))))))))))
         rintro _ w214 ⟨rfl, g215⟩
         have H216 := H210.grow g215
         have z217 := g215.size
         refine zc (((if Cj (⟨r.view, r.view, r.number, r.image, r.ents⟩ : Kept) then 0 else 1) : Int) ≠ (0 : Int)) Z (fun r hr => Cd Z Z hr) (fun h218 => ?_) (fun h218 => ?_)
         ·skip
          refine za bT Z (RL.nil (thn.n (Aa Z (CW.seq (CW.region (za (J 141) Z (RL.nil (thn.n (CW.ret (inB.r (thn.r (finQ.r (v := (J 141)) (Ax Z Z) ?_))))))))))))
          have hx : (Ca (Cc k r)).1 = 141 := by
            rw [hmk212]; unfold Ca
            rw [if_pos rfl, if_neg (by show ¬ 4000 < (List.length _); simp only [Ap, Ar, Aq, Aj, Ai, Au, List.length_append, List.length_cons, List.length_nil, List.length_take, List.length_drop, List.length_map, Cq, Dk, Be, Bg]; omega), if_neg (by have := ite_ne0 h218; intro h0; rw [h0] at this; cases this)]
          exact ⟨(⟨r.view, r.view, r.number, r.image, r.ents⟩ : Kept), _, _, _, Bb hx.symm, (H216.sel [2, 0, 4] (by decide) rfl), fun h0 => by rw [hx] at h0; cases h0⟩
         ·skip
          refine za bF Z (RL.nil (thn.n (Ad Z (CW.skip (inB.n (thn.n (CW.seq (CW.region (za (J 0) Z (RL.nil (thn.n (CW.ret (finQ.r (v := (J 0)) (Ax Z Z) ?_)))))))))))))
          have hx : Ca (Cc k r) = (0, (⟨r.view, r.view, r.number, r.image, r.ents⟩ : Kept)) := by
            rw [hmk212]; unfold Ca
            rw [if_pos rfl, if_neg (by show ¬ 4000 < (List.length _); simp only [Ap, Ar, Aq, Aj, Ai, Au, List.length_append, List.length_cons, List.length_nil, List.length_take, List.length_drop, List.length_map, Cq, Dk, Be, Bg]; omega), if_pos (by exact ite_eq0 h218)]
          exact ⟨(⟨r.view, r.view, r.number, r.image, r.ents⟩ : Kept), _, _, _, by rw [hx], (H216.sel [2, 0, 4] (by decide) Z), fun _ => by rw [hx]⟩
    ·skip
     refine za bF Z (RL.nil (thn.n (Ad Z (CW.skip (inB.n (thn.n (CW.seq (CW.region (zm (.pointer (some ⟨p, 0, none⟩)) Z (zg Z (Bj Z) (zg Z (Cm (b := ⟨p, 0, none⟩) Z Z) (zg Z (Ag Z (Ak (cs := [(J k.view), (J k.normal), (J k.base), (.string (tx k.image)), (.slice A n c)]) wh24 (H7.ob (i := 1) Z).cl)) (RL.call Tryz.call125 (last_ _ _ _ k (KeptR.of (k := k) (n := n) (c := c) (H7.rowrd (i := 2) Z) (by show n = (k.ents).length; (try simp only [List.length_append, List.length_cons, List.length_nil, List.length_take, List.length_drop]); all_goals omega) (by omega) (by omega) (by first | assumption | (show List.length _ ≤ _; first | assumption | decide | omega))) (Nat.le_refl _) hkk) Z Z Z ?_)))))))))))))
     rintro _ w219 ⟨rfl, g220⟩
     have H221 := H7.grow g220
     have z222 := g220.size
     refine za (J (k.base + (k.ents.length : Int))) Z (RL.nil (thn.n (CW.seq (CW.seq (CW.region (zg Z (fa33_0 (b := ⟨b2, 0, none⟩) Z Z) (zl (J r.kind) lo26 (H221.ob (i := 0) Z) Z (RL.nil (thn.n (CW.block (CW.seq (CW.region (zg Z (Bm (r := false) Z Z (decide_eq_false (by omega))) (za bF Z (RL.nil (thn.n (Ad Z (CW.seq (CW.region ?_)))))))))))))))))))
     refine zc ((r.kind : Int) = (2 : Int)) Z (fun r hr => Bm Z Z hr) (fun h223 => ?_) (fun h223 => ?_)
     ·skip
      refine za bT Z (RL.nil (thn.n (Aa Z (CW.seq (CW.seq (CW.region (zg Z (fa33_5 (b := ⟨b2, 5, none⟩) Z Z) (zg Z (Ag Z (Ak (cs := [(J r.entry.num), (J r.entry.view), (J r.entry.client), (J r.entry.seq), (J r.entry.op.kind), (J r.entry.op.h), (J r.entry.op.i), (J r.entry.op.n), (J r.entry.op.k), (J r.entry.op.v), (J r.entry.op.t)]) wh31 ((H221.ob (i := 0) Z).sub 5 11))) (RL.bs (cs := [(J r.entry.num), (J r.entry.view), (J r.entry.client), (J r.entry.seq), (J r.entry.op.kind), (J r.entry.op.h), (J r.entry.op.i), (J r.entry.op.n), (J r.entry.op.k), (J r.entry.op.v), (J r.entry.op.t)]) Tryz.underlying22 Tryz.sizeOf31 ze22 Z Z Z (by decide) Z Z Z ?_)))))))))
      intro w224 b225 hb226 hz227 g228 o229
      have H230 := H221.newB g228 o229 (by omega)
      have z231 := g228.size
      refine zm (J (k.base + (k.ents.length : Int))) Z (RL.call Tryz.call123 (follows_ _ ⟨(some ⟨b225, 0, none⟩), 1, 1⟩ ([r.entry]) (k.base + (k.ents.length : Int)) _ (by first | assumption | rfl | omega) (by show 1 ≤ _; omega) (Do (H230.ob (i := 0) Z) Z)) Z Z Z ?_)
      rintro _ w232 ⟨rfl, g233⟩
      have H234 := H230.grow g233
      have z235 := g233.size
      rcases hb236 : (follB ([r.entry]) (k.base + (k.ents.length : Int))) with _ | _
      ·skip
       refine zg Z (Ex.not (b := false) Z) (RL.nil (thn.n (Aa Z (CW.seq (CW.region (za (J 140) Z (RL.nil (thn.n (CW.ret (thn.r (inB.r (thn.r (finQ.r (v := (J 140)) (Ax Z Z) ?_)))))))))))))
       have hx : (Ca (Cc k r)).1 = 140 := by
         unfold Cc Dm
         simp [Ca, h9, h36, h172, h223, hb236]
       exact ⟨k, _, _, _, Bb hx.symm, (H234.sel [2, 3, 4] (by decide) rfl), fun h0 => by rw [hx] at h0; cases h0⟩
      ·skip
       refine zg Z (Ex.not (b := true) Z) (RL.nil (thn.n (Ad Z (CW.skip (thn.n ?_)))))
       refine CW.mid (fun t => (Nat.ble 43 t && Nat.ble t 55)) (fun ρ wl => ∃ (A276 : Option Addr) (c277 : Nat), Sp [Ae b225 31 [(J r.entry.num), (J r.entry.view), (J r.entry.client), (J r.entry.seq), (J r.entry.op.kind), (J r.entry.op.h), (J r.entry.op.i), (J r.entry.op.n), (J r.entry.op.k), (J r.entry.op.v), (J r.entry.op.t)], Ae b2 33 [(J r.kind), (J r.view), (J r.from_), (J r.number), (.string (tx r.image)), (J r.entry.num), (J r.entry.view), (J r.entry.client), (J r.entry.seq), (J r.entry.op.kind), (J r.entry.op.h), (J r.entry.op.i), (J r.entry.op.n), (J r.entry.op.k), (J r.entry.op.v), (J r.entry.op.t), (.slice A2 n2 c2)], Ae p 141 [(J k.view), (J k.normal), (J k.base), (.string (tx k.image)), (.slice A276 (n + 1) c277)], At 31 11 A276 (n + 1) c277 (ents (k.ents ++ [r.entry])), Bc w S] wl) ?_ ?_
       ·skip
        refine Di (fun wq => Sp [Ae b225 31 [(J r.entry.num), (J r.entry.view), (J r.entry.client), (J r.entry.seq), (J r.entry.op.kind), (J r.entry.op.h), (J r.entry.op.i), (J r.entry.op.n), (J r.entry.op.k), (J r.entry.op.v), (J r.entry.op.t)], Ae b2 33 [(J r.kind), (J r.view), (J r.from_), (J r.number), (.string (tx r.image)), (J r.entry.num), (J r.entry.view), (J r.entry.client), (J r.entry.seq), (J r.entry.op.kind), (J r.entry.op.h), (J r.entry.op.i), (J r.entry.op.n), (J r.entry.op.k), (J r.entry.op.v), (J r.entry.op.t), (.slice A2 n2 c2)], Bc w S] wq) Tryz.mixed Z ?_
        intro w290 g291
        have H292 := H234.grow g291
        have z293 := g291.size
        refine zr 0 1 Z (by kernel_rfl) (H292.sel [0, 1, 4] (by decide) Z) (fun wq hq => As (v := (.pointer (some ⟨p, 0, none⟩))) Z) (zr 1 3 Z (by kernel_rfl) (H292.sel [0, 1, 4] (by decide) Z) (fun wq hq => As (v := (.pointer (some ⟨p, 0, none⟩))) Z) (zr 2 7 Z (by kernel_rfl) (H292.sel [0, 1, 4] (by decide) Z) (fun wq hq => Bj Z) (zr 3 15 Z (by kernel_rfl) (H292.sel [0, 1, 4] (by decide) Z) (fun wq hq => Cm (b := ⟨p, 0, none⟩) Z Z) (zr 4 31 Z (by kernel_rfl) (H292.sel [0, 1, 4] (by decide) Z) (fun wq hq => Df (b := ⟨p, 4, none⟩) Z Z) (zr 6 95 Z (by kernel_rfl) (H292.sel [0, 1, 4] (by decide) Z) (fun wq hq => fa33_5 (b := ⟨b2, 5, none⟩) Z Z) (zr 7 223 Z (by kernel_rfl) (H292.sel [0, 1, 4] (by decide) Z) (fun wq hq => Ag Z (Ak (cs := [(J r.entry.num), (J r.entry.view), (J r.entry.client), (J r.entry.seq), (J r.entry.op.kind), (J r.entry.op.h), (J r.entry.op.i), (J r.entry.op.n), (J r.entry.op.k), (J r.entry.op.v), (J r.entry.op.t)]) wh31 ((hq.ob (i := 1) Z).sub 5 11))) ?_))))))
        refine RA.two (i := 5) (j := 8) (by kernel_rfl) ?_ ?_
        ·skip
         refine ⟨_, 255, Z, by kernel_rfl, ?_⟩
         refine zl (.slice A n c) lo22 (H292.ob (i := 2) Z) Z (RL.nil ?_)
         refine ⟨(H292.sel [0, 1, 4] (by decide) Z), ?_⟩
         refine RA.one (i := 8) (by kernel_rfl) ?_
         refine ⟨_, 511, Z, by kernel_rfl, ?_⟩
         refine RL.bs (cs := [(J r.entry.num), (J r.entry.view), (J r.entry.client), (J r.entry.seq), (J r.entry.op.kind), (J r.entry.op.h), (J r.entry.op.i), (J r.entry.op.n), (J r.entry.op.k), (J r.entry.op.v), (J r.entry.op.t)]) Tryz.underlying22 Tryz.sizeOf31 ze22 Z Z Z (by decide) Z Z Z ?_
         intro w294 b295 hb296 hz297 g298 o299
         have H300 := H292.newB g298 o299 (by omega)
         have z301 := g298.size
         refine RL.nil ?_
         refine ⟨(H300.sel [1, 2, 5] (by decide) Z), ?_⟩
         refine RA.one (i := 9) (by kernel_rfl) ?_
         refine ⟨_, 1023, Z, by kernel_rfl, ?_⟩
         refine RL.apW (base := 0) (xss := (ents k.ents)) (yss := (ents ([r.entry]))) el22 (H300.wr (i := 4) Z) Z (Do (H300.ob (i := 0) Z) Z) Z (by simp only [Ap, Ar, Aq, Aj, Ai, Au, List.length_append, List.length_cons, List.length_nil, List.length_take, List.length_drop, List.length_map, Cq, Dk, Be, Bg]; try omega) (ents_one _) (by omega) (by omega) (by omega) Z Z ?_
         intro w302 A303 c304 g305 ow306 nx307
         have H308 : Sp [Ae b295 31 [(J r.entry.num), (J r.entry.view), (J r.entry.client), (J r.entry.seq), (J r.entry.op.kind), (J r.entry.op.h), (J r.entry.op.i), (J r.entry.op.n), (J r.entry.op.k), (J r.entry.op.v), (J r.entry.op.t)], Ae b225 31 [(J r.entry.num), (J r.entry.view), (J r.entry.client), (J r.entry.seq), (J r.entry.op.kind), (J r.entry.op.h), (J r.entry.op.i), (J r.entry.op.n), (J r.entry.op.k), (J r.entry.op.v), (J r.entry.op.t)], Ae b2 33 [(J r.kind), (J r.view), (J r.from_), (J r.number), (.string (tx r.image)), (J r.entry.num), (J r.entry.view), (J r.entry.client), (J r.entry.seq), (J r.entry.op.kind), (J r.entry.op.h), (J r.entry.op.i), (J r.entry.op.n), (J r.entry.op.k), (J r.entry.op.v), (J r.entry.op.t), (.slice A2 n2 c2)], Ae p 141 [(J k.view), (J k.normal), (J k.base), (.string (tx k.image)), (.slice A n c)], At 31 11 A303 (n + 1) c304 (ents (k.ents ++ [r.entry])), Bc w S] w302 := H300.setR (i := 4) rfl g305 ((ents_app _ _).symm ▸ ow306) nx307 rfl
         have z309 := g305.size
         refine RL.nil ?_
         refine ⟨(H308.sel [1, 2, 5] (by decide) Z), ?_⟩
         refine zr 10 2047 Z (by kernel_rfl) (H308.sel [1, 2, 5] (by decide) Z) (fun wq hq => Bj Z) (zr 11 4095 Z (by kernel_rfl) (H308.sel [1, 2, 5] (by decide) Z) (fun wq hq => Cm (b := ⟨p, 0, none⟩) Z Z) (zr 12 8191 Z (by kernel_rfl) (H308.sel [1, 2, 5] (by decide) Z) (fun wq hq => Df (b := ⟨p, 4, none⟩) Z Z) (RA.one (i := 13) (by kernel_rfl) ?_)))
         refine ⟨_, 16383, Z, by kernel_rfl, ?_⟩
         refine RL.st (vs := [(.slice A303 (n + 1) c304)]) (cs' := [(J k.view), (J k.normal), (J k.base), (.string (tx k.image)), (.slice A303 (n + 1) c304)]) Tryz.sizeOf22 (H308.ob (i := 3) Z) Z Z Z Z Z Z ?_
         intro w310 hz311 g312 o313
         have H314 : Sp [Ae b295 31 [(J r.entry.num), (J r.entry.view), (J r.entry.client), (J r.entry.seq), (J r.entry.op.kind), (J r.entry.op.h), (J r.entry.op.i), (J r.entry.op.n), (J r.entry.op.k), (J r.entry.op.v), (J r.entry.op.t)], Ae b225 31 [(J r.entry.num), (J r.entry.view), (J r.entry.client), (J r.entry.seq), (J r.entry.op.kind), (J r.entry.op.h), (J r.entry.op.i), (J r.entry.op.n), (J r.entry.op.k), (J r.entry.op.v), (J r.entry.op.t)], Ae b2 33 [(J r.kind), (J r.view), (J r.from_), (J r.number), (.string (tx r.image)), (J r.entry.num), (J r.entry.view), (J r.entry.client), (J r.entry.seq), (J r.entry.op.kind), (J r.entry.op.h), (J r.entry.op.i), (J r.entry.op.n), (J r.entry.op.k), (J r.entry.op.v), (J r.entry.op.t), (.slice A2 n2 c2)], Ae p 141 [(J k.view), (J k.normal), (J k.base), (.string (tx k.image)), (.slice A303 (n + 1) c304)], At 31 11 A303 (n + 1) c304 (ents (k.ents ++ [r.entry])), Bc w S] w310 := H308.setB (i := 3) rfl g312 o313 rfl
         have z315 := g312.size
         refine RL.nil ?_
         refine ⟨(H314.sel [1, 2, 5] (by decide) Z), ?_⟩
         refine Bi (by kernel_rfl) (thn.n ?_)
         exact ⟨(by repeat (first | exact Out.mix _ _ | exact Out.refl _ _ | refine Bf ?_ Z _)), A303, c304, (H314.sel [1, 2, 3, 4, 5] (by decide) Z)⟩
        ·skip
         refine ⟨_, 479, Z, by kernel_rfl, ?_⟩
         refine RL.bs (cs := [(J r.entry.num), (J r.entry.view), (J r.entry.client), (J r.entry.seq), (J r.entry.op.kind), (J r.entry.op.h), (J r.entry.op.i), (J r.entry.op.n), (J r.entry.op.k), (J r.entry.op.v), (J r.entry.op.t)]) Tryz.underlying22 Tryz.sizeOf31 ze22 Z Z Z (by decide) Z Z Z ?_
         intro w316 b317 hb318 hz319 g320 o321
         have H322 := H292.newB g320 o321 (by omega)
         have z323 := g320.size
         refine RL.nil ?_
         refine ⟨(H322.sel [1, 2, 5] (by decide) Z), ?_⟩
         refine RA.one (i := 5) (by kernel_rfl) ?_
         refine ⟨_, 511, Z, by kernel_rfl, ?_⟩
         refine zl (.slice A n c) lo22 (H322.ob (i := 3) Z) Z (RL.nil ?_)
         refine ⟨(H322.sel [1, 2, 5] (by decide) Z), ?_⟩
         refine RA.one (i := 9) (by kernel_rfl) ?_
         refine ⟨_, 1023, Z, by kernel_rfl, ?_⟩
         refine RL.apW (base := 0) (xss := (ents k.ents)) (yss := (ents ([r.entry]))) el22 (H322.wr (i := 4) Z) Z (Do (H322.ob (i := 0) Z) Z) Z (by simp only [Ap, Ar, Aq, Aj, Ai, Au, List.length_append, List.length_cons, List.length_nil, List.length_take, List.length_drop, List.length_map, Cq, Dk, Be, Bg]; try omega) (ents_one _) (by omega) (by omega) (by omega) Z Z ?_
         intro w324 A325 c326 g327 ow328 nx329
         have H330 : Sp [Ae b317 31 [(J r.entry.num), (J r.entry.view), (J r.entry.client), (J r.entry.seq), (J r.entry.op.kind), (J r.entry.op.h), (J r.entry.op.i), (J r.entry.op.n), (J r.entry.op.k), (J r.entry.op.v), (J r.entry.op.t)], Ae b225 31 [(J r.entry.num), (J r.entry.view), (J r.entry.client), (J r.entry.seq), (J r.entry.op.kind), (J r.entry.op.h), (J r.entry.op.i), (J r.entry.op.n), (J r.entry.op.k), (J r.entry.op.v), (J r.entry.op.t)], Ae b2 33 [(J r.kind), (J r.view), (J r.from_), (J r.number), (.string (tx r.image)), (J r.entry.num), (J r.entry.view), (J r.entry.client), (J r.entry.seq), (J r.entry.op.kind), (J r.entry.op.h), (J r.entry.op.i), (J r.entry.op.n), (J r.entry.op.k), (J r.entry.op.v), (J r.entry.op.t), (.slice A2 n2 c2)], Ae p 141 [(J k.view), (J k.normal), (J k.base), (.string (tx k.image)), (.slice A n c)], At 31 11 A325 (n + 1) c326 (ents (k.ents ++ [r.entry])), Bc w S] w324 := H322.setR (i := 4) rfl g327 ((ents_app _ _).symm ▸ ow328) nx329 rfl
         have z331 := g327.size
         refine RL.nil ?_
         refine ⟨(H330.sel [1, 2, 5] (by decide) Z), ?_⟩
         refine zr 10 2047 Z (by kernel_rfl) (H330.sel [1, 2, 5] (by decide) Z) (fun wq hq => Bj Z) (zr 11 4095 Z (by kernel_rfl) (H330.sel [1, 2, 5] (by decide) Z) (fun wq hq => Cm (b := ⟨p, 0, none⟩) Z Z) (zr 12 8191 Z (by kernel_rfl) (H330.sel [1, 2, 5] (by decide) Z) (fun wq hq => Df (b := ⟨p, 4, none⟩) Z Z) (RA.one (i := 13) (by kernel_rfl) ?_)))
         refine ⟨_, 16383, Z, by kernel_rfl, ?_⟩
         refine RL.st (vs := [(.slice A325 (n + 1) c326)]) (cs' := [(J k.view), (J k.normal), (J k.base), (.string (tx k.image)), (.slice A325 (n + 1) c326)]) Tryz.sizeOf22 (H330.ob (i := 3) Z) Z Z Z Z Z Z ?_
         intro w332 hz333 g334 o335
         have H336 : Sp [Ae b317 31 [(J r.entry.num), (J r.entry.view), (J r.entry.client), (J r.entry.seq), (J r.entry.op.kind), (J r.entry.op.h), (J r.entry.op.i), (J r.entry.op.n), (J r.entry.op.k), (J r.entry.op.v), (J r.entry.op.t)], Ae b225 31 [(J r.entry.num), (J r.entry.view), (J r.entry.client), (J r.entry.seq), (J r.entry.op.kind), (J r.entry.op.h), (J r.entry.op.i), (J r.entry.op.n), (J r.entry.op.k), (J r.entry.op.v), (J r.entry.op.t)], Ae b2 33 [(J r.kind), (J r.view), (J r.from_), (J r.number), (.string (tx r.image)), (J r.entry.num), (J r.entry.view), (J r.entry.client), (J r.entry.seq), (J r.entry.op.kind), (J r.entry.op.h), (J r.entry.op.i), (J r.entry.op.n), (J r.entry.op.k), (J r.entry.op.v), (J r.entry.op.t), (.slice A2 n2 c2)], Ae p 141 [(J k.view), (J k.normal), (J k.base), (.string (tx k.image)), (.slice A325 (n + 1) c326)], At 31 11 A325 (n + 1) c326 (ents (k.ents ++ [r.entry])), Bc w S] w332 := H330.setB (i := 3) rfl g334 o335 rfl
         have z337 := g334.size
         refine RL.nil ?_
         refine ⟨(H336.sel [1, 2, 5] (by decide) Z), ?_⟩
         refine Bi (by kernel_rfl) (thn.n ?_)
         exact ⟨(by repeat (first | exact Out.mix _ _ | exact Out.refl _ _ | refine Bf ?_ Z _)), A325, c326, (H336.sel [1, 2, 3, 4, 5] (by decide) Z)⟩
       ·rintro ρc289 w338 ho339 ⟨A276, c277, H340⟩
        obtain ⟨jc289, rfl⟩ := ho339.shape0
        clear ho339
        have z341 := (H340.chg (i := 4) rfl).size
        refine inB.n (thn.n (CW.seq (CW.block (CW.seq (CW.region (zm (.pointer (some ⟨p, 0, none⟩)) Z (zg Z (Bj Z) (zg Z (Cm (b := ⟨p, 0, none⟩) Z Z) (zg Z (Df (b := ⟨p, 4, none⟩) Z Z) (zl (.slice A276 (n + 1) c277) lo22 (H340.ob (i := 2) Z) Z ?_))))))))))
        have hmk342 : Cc k r = (0, (⟨k.view, k.normal, k.base, k.image, k.ents ++ [r.entry]⟩ : Kept)) := by
                unfold Cc Dm
                simp [h9, h36, h172, h223, hb236]
        have hln := H340.len (i := 3) rfl
        have hcn := H340.cap (i := 3) rfl
        simp only [Ap, Ar, Aq, Aj, Ai, Au, List.length_append, List.length_cons, List.length_nil, List.length_take, List.length_drop, List.length_map, Cq, Dk, Be, Bg] at hln
        refine zg Z (Ex.len Tryz.underlying22 Z) ?_
        refine zc ((4000 : Int) < ((n + 1 : Nat) : Int)) Z (fun r hr => Cv Z Z hr) (fun h343 => ?_) (fun h343 => ?_)
        ·skip
         refine za bT Z (RL.nil (thn.n (Aa Z (CW.seq (CW.region (za (J 2) Z (RL.nil (thn.n (CW.ret (inB.r (thn.r (finQ.r (v := (J 2)) (Ax Z Z) ?_))))))))))))
         have hx : (Ca (Cc k r)).1 = 2 := by
           rw [hmk342]; unfold Ca
           rw [if_pos rfl, if_pos (by show 4000 < (List.length _); simp only [Ap, Ar, Aq, Aj, Ai, Au, List.length_append, List.length_cons, List.length_nil, List.length_take, List.length_drop, List.length_map, Cq, Dk, Be, Bg]; omega)]
         exact ⟨(⟨k.view, k.normal, k.base, k.image, k.ents ++ [r.entry]⟩ : Kept), _, _, _, Bb hx.symm, (H340.sel [2, 3, 4] (by decide) rfl), fun h0 => by rw [hx] at h0; cases h0⟩
        ·skip
         refine za bF Z (RL.nil (thn.n (Ad Z (CW.seq (CW.region (zm (.pointer (some ⟨p, 0, none⟩)) Z (zg Z (Bj Z) (zg Z (Cm (b := ⟨p, 0, none⟩) Z Z) (zg Z (Ag Z (Ak (cs := [(J k.view), (J k.normal), (J k.base), (.string (tx k.image)), (.slice A276 (n + 1) c277)]) wh24 (H340.ob (i := 2) Z).cl)) (RL.call Tryz.call57 (opCheck_ _ _ _ (⟨k.view, k.normal, k.base, k.image, k.ents ++ [r.entry]⟩ : Kept) (KeptR.of (k := (⟨k.view, k.normal, k.base, k.image, k.ents ++ [r.entry]⟩ : Kept)) (n := n + 1) (c := c277) (H340.rowrd (i := 3) Z) (by show n + 1 = (k.ents ++ [r.entry]).length; (try simp only [List.length_append, List.length_cons, List.length_nil, List.length_take, List.length_drop]); all_goals omega) (by omega) (by omega) (by first | assumption | (show List.length _ ≤ _; first | assumption | decide | omega))) (Nat.le_refl _)) Z Z Z ?_))))))))))
         rintro _ w344 ⟨rfl, g345⟩
         have H346 := H340.grow g345
         have z347 := g345.size
         refine zc (((if Cj (⟨k.view, k.normal, k.base, k.image, k.ents ++ [r.entry]⟩ : Kept) then 0 else 1) : Int) ≠ (0 : Int)) Z (fun r hr => Cd Z Z hr) (fun h348 => ?_) (fun h348 => ?_)
         ·skip
          refine za bT Z (RL.nil (thn.n (Aa Z (CW.seq (CW.region (za (J 141) Z (RL.nil (thn.n (CW.ret (inB.r (thn.r (finQ.r (v := (J 141)) (Ax Z Z) ?_))))))))))))
          have hx : (Ca (Cc k r)).1 = 141 := by
            rw [hmk342]; unfold Ca
            rw [if_pos rfl, if_neg (by show ¬ 4000 < (List.length _); simp only [Ap, Ar, Aq, Aj, Ai, Au, List.length_append, List.length_cons, List.length_nil, List.length_take, List.length_drop, List.length_map, Cq, Dk, Be, Bg]; omega), if_neg (by have := ite_ne0 h348; intro h0; rw [h0] at this; cases this)]
          exact ⟨(⟨k.view, k.normal, k.base, k.image, k.ents ++ [r.entry]⟩ : Kept), _, _, _, Bb hx.symm, (H346.sel [2, 3, 4] (by decide) rfl), fun h0 => by rw [hx] at h0; cases h0⟩
         ·skip
          refine za bF Z (RL.nil (thn.n (Ad Z (CW.skip (inB.n (thn.n (CW.seq (CW.region (za (J 0) Z (RL.nil (thn.n (CW.ret (finQ.r (v := (J 0)) (Ax Z Z) ?_)))))))))))))
          have hx : Ca (Cc k r) = (0, (⟨k.view, k.normal, k.base, k.image, k.ents ++ [r.entry]⟩ : Kept)) := by
            rw [hmk342]; unfold Ca
            rw [if_pos rfl, if_neg (by show ¬ 4000 < (List.length _); simp only [Ap, Ar, Aq, Aj, Ai, Au, List.length_append, List.length_cons, List.length_nil, List.length_take, List.length_drop, List.length_map, Cq, Dk, Be, Bg]; omega), if_pos (by exact ite_eq0 h348)]
          exact ⟨(⟨k.view, k.normal, k.base, k.image, k.ents ++ [r.entry]⟩ : Kept), _, _, _, by rw [hx], (H346.sel [2, 3, 4] (by decide) Z), fun _ => by rw [hx]⟩
     ·skip
      refine za bF Z (RL.nil (thn.n (Ad Z (CW.seq (CW.region (zg Z (Bm (r := false) Z Z (decide_eq_false (by omega))) (za bF Z (RL.nil (thn.n (Ad Z (CW.seq (CW.region ?_))))))))))))
      refine zc ((r.kind : Int) = (4 : Int)) Z (fun r hr => Bm Z Z hr) (fun h349 => ?_) (fun h349 => ?_)
      ·skip
       refine za bT Z (RL.nil (thn.n (Aa Z (CW.seq (CW.seq (CW.quiet (fun wq => World.grownBy w219 wq none) Tryz.mixed (by kernel_rfl) ⟨Z, Z, Z, Nat.le_refl _, fun _ _ _ => rfl⟩ (QL.go Z Z Z (fun wq gq => fa33_3 (b := ⟨b2, 3, none⟩) Z Z) (QL.go Z Z Z (fun wq gq => Ag Z (Av Bw (Ob.cell (v := (J r.number)) ((H221.grow gq).ob (i := 0) Z) Z))) (QL.go Z Z Z (fun wq gq => As (v := (.pointer (some ⟨p, 0, none⟩))) Z) (QL.go Z Z Z (fun wq gq => Bj Z) (QL.go Z Z Z (fun wq gq => Cm (b := ⟨p, 0, none⟩) Z Z) (QL.go Z Z Z (fun wq gq => fa24_2 (b := ⟨p, 2, none⟩) Z Z) (QL.go Z Z Z (fun wq gq => Ag Z (Av Bw (Ob.cell (v := (J k.base)) ((H221.grow gq).ob (i := 1) Z) Z))) ?_)))))))))))))
       refine QL.br (p := (r.number : Int) ≤ (k.base : Int)) Z Z Z (fun r hr wq gq => Ex.le Z Z hr) (fun h350 => ?_) (fun h350 => ?_)
       ·skip
        refine QL.go Z Z Z (fun wq gq => As (v := bT) Z) (QL.out Z Z Z (QL.out Z Z Z (QL.out Z Z Z (QL.out Z Z Z (QL.go Z Z Z (fun wq gq => Bs (v := bT) Z Z) (QL.nil ?_))))))
        intro w351 g352
        have H353 := H221.grow g352
        have z354 := g352.size
        refine thn.n (Aa Z (CW.seq (CW.region (za (J 140) Z (RL.nil (thn.n (CW.ret (thn.r (inB.r (thn.r (finQ.r (v := (J 140)) (Ax Z Z) ?_)))))))))))
        have hx : (Ca (Cc k r)).1 = 140 := by
          unfold Cc Dm
          simp [Ca, h9, h36, h172, h223, h349, h350]
        exact ⟨k, _, _, _, Bb hx.symm, (H353.sel [1, 2, 3] (by decide) rfl), fun h0 => by rw [hx] at h0; cases h0⟩
       ·skip
        refine QL.go Z Z Z (fun wq gq => As (v := bF) Z) (QL.go Z Z Z (fun wq gq => fa33_3 (b := ⟨b2, 3, none⟩) Z Z) (QL.go Z Z Z (fun wq gq => Ag Z (Av Bw (Ob.cell (v := (J r.number)) ((H221.grow gq).ob (i := 0) Z) Z))) (QL.go Z Z Z (fun wq gq => As (v := (J (k.base + (k.ents.length : Int)))) Z) ?_)))
        refine QL.br (p := ((k.base + (k.ents.length : Int)) : Int) < (r.number : Int)) Z Z Z (fun r hr wq gq => Cv Z Z hr) (fun h355 => ?_) (fun h355 => ?_)
        ·skip
         refine QL.go Z Z Z (fun wq gq => Bo (v := bT) Z Z) (QL.nil ?_)
         intro w356 g357
         have H358 := H221.grow g357
         have z359 := g357.size
         refine thn.n (Aa Z (CW.seq (CW.region (za (J 140) Z (RL.nil (thn.n (CW.ret (thn.r (inB.r (thn.r (finQ.r (v := (J 140)) (Ax Z Z) ?_)))))))))))
         have hx : (Ca (Cc k r)).1 = 140 := by
           unfold Cc Dm
           simp [Ca, h9, h36, h172, h223, h349, h350, h355]
         exact ⟨k, _, _, _, Bb hx.symm, (H358.sel [1, 2, 3] (by decide) rfl), fun h0 => by rw [hx] at h0; cases h0⟩
        ·skip
         refine QL.go Z Z Z (fun wq gq => Bo (v := bF) Z Z) (QL.nil ?_)
         intro w360 g361
         have H362 := H221.grow g361
         have z363 := g361.size
         refine thn.n (Ad Z (CW.skip (thn.n (CW.seq (CW.quietTail 18 (fun wq => World.grownBy w360 wq none) Tryz.mixed (by kernel_rfl) ⟨Z, Z, Z, Nat.le_refl _, fun _ _ _ => rfl⟩ (QL.go Z Z Z (fun wq gq => As (v := (.pointer (some ⟨p, 0, none⟩))) Z) (QL.go Z Z Z (fun wq gq => As (v := (.pointer (some ⟨p, 0, none⟩))) Z) (QL.go Z Z Z (fun wq gq => Bj Z) (QL.go Z Z Z (fun wq gq => Cm (b := ⟨p, 0, none⟩) Z Z) (QL.go Z Z Z (fun wq gq => Df (b := ⟨p, 4, none⟩) Z Z) (QL.go Z Z Z (fun wq gq => Ag Z (Av lo22 (Ob.cell (v := (.slice A n c)) ((H362.grow gq).ob (i := 1) Z) Z))) (QL.go Z Z Z (fun wq gq => fa33_3 (b := ⟨b2, 3, none⟩) Z Z) (QL.go Z Z Z (fun wq gq => Ag Z (Av Bw (Ob.cell (v := (J r.number)) ((H362.grow gq).ob (i := 0) Z) Z))) ?_)))))))))))))
         refine QL.go Z Z Z (fun wq gq => As (v := (.pointer (some ⟨p, 0, none⟩))) Z) (QL.go Z Z Z (fun wq gq => Bj Z) (QL.go Z Z Z (fun wq gq => Cm (b := ⟨p, 0, none⟩) Z Z) (QL.go Z Z Z (fun wq gq => fa24_2 (b := ⟨p, 2, none⟩) Z Z) (QL.go Z Z Z (fun wq gq => Ag Z (Av Bw (Ob.cell (v := (J k.base)) ((H362.grow gq).ob (i := 1) Z) Z))) (QL.go Z Z Z (fun wq gq => Ci (r := (((r.number - k.base).toNat : Nat) : Int)) Z Z (by rw [Dd (by omega) (by omega)]; omega)) (QL.go Z Z Z (fun wq gq => Ex.slLo (i := ((r.number - k.base).toNat)) Tryz.underlying22 Tryz.sizeOf31 Z Z (by omega) (by omega) Z) (QL.go Z Z Z (fun wq gq => Bj Z) (QL.go Z Z Z (fun wq gq => Cm (b := ⟨p, 0, none⟩) Z Z) (QL.go Z Z Z (fun wq gq => Df (b := ⟨p, 4, none⟩) Z Z) (QL.nil ?_))))))))))
         intro w367 g368
         have H369 := H362.grow g368
         have z370 := g368.size
         have H371 : Sp [Ae b2 33 [(J r.kind), (J r.view), (J r.from_), (J r.number), (.string (tx r.image)), (J r.entry.num), (J r.entry.view), (J r.entry.client), (J r.entry.seq), (J r.entry.op.kind), (J r.entry.op.h), (J r.entry.op.i), (J r.entry.op.n), (J r.entry.op.k), (J r.entry.op.v), (J r.entry.op.t), (.slice A2 n2 c2)], Ae p 141 [(J k.view), (J k.normal), (J k.base), (.string (tx k.image)), (.slice A n c)], At 31 11 (dropA A c ((r.number - k.base).toNat) 11) (n - ((r.number - k.base).toNat)) (c - ((r.number - k.base).toNat)) (ents ((k.ents).drop ((r.number - k.base).toNat))), Bc w S] w367 := H369.dropR (i := 2) rfl (by omega) (ents_drop _ _) rfl
         refine RL.st (vs := [(.slice (dropA A c ((r.number - k.base).toNat) 11) (n - ((r.number - k.base).toNat)) (c - ((r.number - k.base).toNat)))]) (cs' := [(J k.view), (J k.normal), (J k.base), (.string (tx k.image)), (.slice (dropA A c ((r.number - k.base).toNat) 11) (n - ((r.number - k.base).toNat)) (c - ((r.number - k.base).toNat)))]) Tryz.sizeOf22 (H371.ob (i := 1) Z) Z Z Z Z Z Z ?_
         intro w372 hz373 g374 o375
         have H376 : Sp [Ae b2 33 [(J r.kind), (J r.view), (J r.from_), (J r.number), (.string (tx r.image)), (J r.entry.num), (J r.entry.view), (J r.entry.client), (J r.entry.seq), (J r.entry.op.kind), (J r.entry.op.h), (J r.entry.op.i), (J r.entry.op.n), (J r.entry.op.k), (J r.entry.op.v), (J r.entry.op.t), (.slice A2 n2 c2)], Ae p 141 [(J k.view), (J k.normal), (J k.base), (.string (tx k.image)), (.slice (dropA A c ((r.number - k.base).toNat) 11) (n - ((r.number - k.base).toNat)) (c - ((r.number - k.base).toNat)))], At 31 11 (dropA A c ((r.number - k.base).toNat) 11) (n - ((r.number - k.base).toNat)) (c - ((r.number - k.base).toNat)) (ents ((k.ents).drop ((r.number - k.base).toNat))), Bc w S] w372 := H371.setB (i := 1) rfl g374 o375 rfl
         have z377 := g374.size
         refine RL.nil (thn.n (Di (fun wq => Sp [Ae b2 33 [(J r.kind), (J r.view), (J r.from_), (J r.number), (.string (tx r.image)), (J r.entry.num), (J r.entry.view), (J r.entry.client), (J r.entry.seq), (J r.entry.op.kind), (J r.entry.op.h), (J r.entry.op.i), (J r.entry.op.n), (J r.entry.op.k), (J r.entry.op.v), (J r.entry.op.t), (.slice A2 n2 c2)], At 31 11 (dropA A c ((r.number - k.base).toNat) 11) (n - ((r.number - k.base).toNat)) (c - ((r.number - k.base).toNat)) (ents ((k.ents).drop ((r.number - k.base).toNat))), Bc w S] wq) Tryz.mixed Z ?_))
         intro w378 g379
         have H380 := H376.grow g379
         have z381 := g379.size
         refine zr 0 1 Z (by kernel_rfl) (H380.sel [0, 2, 3] (by decide) Z) (fun wq hq => As (v := (.pointer (some ⟨p, 0, none⟩))) Z) (zr 1 3 Z (by kernel_rfl) (H380.sel [0, 2, 3] (by decide) Z) (fun wq hq => As (v := (.pointer (some ⟨p, 0, none⟩))) Z) (zr 2 7 Z (by kernel_rfl) (H380.sel [0, 2, 3] (by decide) Z) (fun wq hq => fa33_3 (b := ⟨b2, 3, none⟩) Z Z) (zr 4 23 Z (by kernel_rfl) (H380.sel [0, 2, 3] (by decide) Z) (fun wq hq => fa33_4 (b := ⟨b2, 4, none⟩) Z Z) (zr 3 31 Z (by kernel_rfl) (H380.sel [0, 2, 3] (by decide) Z) (fun wq hq => Ag Z (Av Bw (Ob.cell (v := (J r.number)) (hq.ob (i := 0) Z) Z))) (zr 6 95 Z (by kernel_rfl) (H380.sel [0, 2, 3] (by decide) Z) (fun wq hq => Bj Z) (zr 7 223 Z (by kernel_rfl) (H380.sel [0, 2, 3] (by decide) Z) (fun wq hq => Cm (b := ⟨p, 0, none⟩) Z Z) (zr 8 479 Z (by kernel_rfl) (H380.sel [0, 2, 3] (by decide) Z) (fun wq hq => fa24_2 (b := ⟨p, 2, none⟩) Z Z) ?_)))))))
         refine zr 5 511 Z (by kernel_rfl) (H380.sel [0, 2, 3] (by decide) Z) (fun wq hq => Ag Z (Av lo9 (Ob.cell (v := (.string (tx r.image))) (hq.ob (i := 0) Z) Z))) (RA.one (i := 9) (by kernel_rfl) ?_)
         refine ⟨_, 1023, Z, by kernel_rfl, ?_⟩
         refine RL.st (vs := [(J r.number)]) (cs' := [(J k.view), (J k.normal), (J r.number), (.string (tx k.image)), (.slice (dropA A c ((r.number - k.base).toNat) 11) (n - ((r.number - k.base).toNat)) (c - ((r.number - k.base).toNat)))]) Tryz.sizeOf3 (H380.ob (i := 1) Z) Z Z Z Z Z Z ?_
         intro w382 hz383 g384 o385
         have H386 : Sp [Ae b2 33 [(J r.kind), (J r.view), (J r.from_), (J r.number), (.string (tx r.image)), (J r.entry.num), (J r.entry.view), (J r.entry.client), (J r.entry.seq), (J r.entry.op.kind), (J r.entry.op.h), (J r.entry.op.i), (J r.entry.op.n), (J r.entry.op.k), (J r.entry.op.v), (J r.entry.op.t), (.slice A2 n2 c2)], Ae p 141 [(J k.view), (J k.normal), (J r.number), (.string (tx k.image)), (.slice (dropA A c ((r.number - k.base).toNat) 11) (n - ((r.number - k.base).toNat)) (c - ((r.number - k.base).toNat)))], At 31 11 (dropA A c ((r.number - k.base).toNat) 11) (n - ((r.number - k.base).toNat)) (c - ((r.number - k.base).toNat)) (ents ((k.ents).drop ((r.number - k.base).toNat))), Bc w S] w382 := H380.setB (i := 1) rfl g384 o385 rfl
         have z387 := g384.size
         refine RL.nil ?_
         refine ⟨(H386.sel [0, 2, 3] (by decide) Z), ?_⟩
         refine zr 10 2047 Z (by kernel_rfl) (H386.sel [0, 2, 3] (by decide) Z) (fun wq hq => Bj Z) (zr 11 4095 Z (by kernel_rfl) (H386.sel [0, 2, 3] (by decide) Z) (fun wq hq => Cm (b := ⟨p, 0, none⟩) Z Z) (zr 12 8191 Z (by kernel_rfl) (H386.sel [0, 2, 3] (by decide) Z) (fun wq hq => fa24_3 (b := ⟨p, 3, none⟩) Z Z) (RA.one (i := 13) (by kernel_rfl) ?_)))
         refine ⟨_, 16383, Z, by kernel_rfl, ?_⟩
         refine RL.st (vs := [(.string (tx r.image))]) (cs' := [(J k.view), (J k.normal), (J r.number), (.string (tx r.image)), (.slice (dropA A c ((r.number - k.base).toNat) 11) (n - ((r.number - k.base).toNat)) (c - ((r.number - k.base).toNat)))]) Tryz.sizeOf9 (H386.ob (i := 1) Z) Z Z Z Z Z Z ?_
         intro w388 hz389 g390 o391
         have H392 : Sp [Ae b2 33 [(J r.kind), (J r.view), (J r.from_), (J r.number), (.string (tx r.image)), (J r.entry.num), (J r.entry.view), (J r.entry.client), (J r.entry.seq), (J r.entry.op.kind), (J r.entry.op.h), (J r.entry.op.i), (J r.entry.op.n), (J r.entry.op.k), (J r.entry.op.v), (J r.entry.op.t), (.slice A2 n2 c2)], Ae p 141 [(J k.view), (J k.normal), (J r.number), (.string (tx r.image)), (.slice (dropA A c ((r.number - k.base).toNat) 11) (n - ((r.number - k.base).toNat)) (c - ((r.number - k.base).toNat)))], At 31 11 (dropA A c ((r.number - k.base).toNat) 11) (n - ((r.number - k.base).toNat)) (c - ((r.number - k.base).toNat)) (ents ((k.ents).drop ((r.number - k.base).toNat))), Bc w S] w388 := H386.setB (i := 1) rfl g390 o391 rfl
         have z393 := g390.size
         refine RL.nil ?_
         refine ⟨(H392.sel [0, 2, 3] (by decide) Z), ?_⟩
         refine Bi (by kernel_rfl) (inB.n (thn.n (CW.seq (CW.block (CW.seq (CW.region (zm (.pointer (some ⟨p, 0, none⟩)) Z (zg Z (Bj Z) (zg Z (Cm (b := ⟨p, 0, none⟩) Z Z) (zg Z (Df (b := ⟨p, 4, none⟩) Z Z) (zl (.slice (dropA A c ((r.number - k.base).toNat) 11) (n - ((r.number - k.base).toNat)) (c - ((r.number - k.base).toNat))) lo22 (H392.ob (i := 1) Z) Z ?_)))))))))))
         have hmk394 : Cc k r = (0, (⟨k.view, k.normal, r.number, r.image, (k.ents).drop ((r.number - k.base).toNat)⟩ : Kept)) := by
                  unfold Cc Dm
                  simp [h9, h36, h172, h223, h349, h350, h355]
         have hln := H392.len (i := 2) rfl
         have hcn := H392.cap (i := 2) rfl
         simp only [Ap, Ar, Aq, Aj, Ai, Au, List.length_append, List.length_cons, List.length_nil, List.length_take, List.length_drop, List.length_map, Cq, Dk, Be, Bg] at hln
         refine zg Z (Ex.len Tryz.underlying22 Z) ?_
         refine zc ((4000 : Int) < ((n - ((r.number - k.base).toNat) : Nat) : Int)) Z (fun r hr => Cv Z Z hr) (fun h395 => ?_) (fun h395 => ?_)
         ·skip
          refine za bT Z (RL.nil (thn.n (Aa Z (CW.seq (CW.region (za (J 2) Z (RL.nil (thn.n (CW.ret (inB.r (thn.r (finQ.r (v := (J 2)) (Ax Z Z) ?_))))))))))))
          have hx : (Ca (Cc k r)).1 = 2 := by
            rw [hmk394]; unfold Ca
            rw [if_pos rfl, if_pos (by show 4000 < (List.length _); simp only [Ap, Ar, Aq, Aj, Ai, Au, List.length_append, List.length_cons, List.length_nil, List.length_take, List.length_drop, List.length_map, Cq, Dk, Be, Bg]; omega)]
          exact ⟨(⟨k.view, k.normal, r.number, r.image, (k.ents).drop ((r.number - k.base).toNat)⟩ : Kept), _, _, _, Bb hx.symm, (H392.sel [1, 2, 3] (by decide) rfl), fun h0 => by rw [hx] at h0; cases h0⟩
         ·skip
          refine za bF Z (RL.nil (thn.n (Ad Z (CW.seq (CW.region (zm (.pointer (some ⟨p, 0, none⟩)) Z (zg Z (Bj Z) (zg Z (Cm (b := ⟨p, 0, none⟩) Z Z) (zg Z (Ag Z (Ak (cs := [(J k.view), (J k.normal), (J r.number), (.string (tx r.image)), (.slice (dropA A c ((r.number - k.base).toNat) 11) (n - ((r.number - k.base).toNat)) (c - ((r.number - k.base).toNat)))]) wh24 (H392.ob (i := 1) Z).cl)) (RL.call Tryz.call57 (opCheck_ _ _ _ (⟨k.view, k.normal, r.number, r.image, (k.ents).drop ((r.number - k.base).toNat)⟩ : Kept) (KeptR.of (k := (⟨k.view, k.normal, r.number, r.image, (k.ents).drop ((r.number - k.base).toNat)⟩ : Kept)) (n := n - ((r.number - k.base).toNat)) (c := c - ((r.number - k.base).toNat)) (H392.rowrd (i := 2) Z) (by show n - ((r.number - k.base).toNat) = ((k.ents).drop ((r.number - k.base).toNat)).length; (try simp only [List.length_append, List.length_cons, List.length_nil, List.length_take, List.length_drop]); all_goals omega) (by omega) (by omega) (by first | assumption | (show List.length _ ≤ _; first | assumption | decide | omega))) (Nat.le_refl _)) Z Z Z ?_))))))))))
          rintro _ w396 ⟨rfl, g397⟩
          have H398 := H392.grow g397
          have z399 := g397.size
          refine zc (((if Cj (⟨k.view, k.normal, r.number, r.image, (k.ents).drop ((r.number - k.base).toNat)⟩ : Kept) then 0 else 1) : Int) ≠ (0 : Int)) Z (fun r hr => Cd Z Z hr) (fun h400 => ?_) (fun h400 => ?_)
          ·skip
           refine za bT Z (RL.nil (thn.n (Aa Z (CW.seq (CW.region (za (J 141) Z (RL.nil (thn.n (CW.ret (inB.r (thn.r (finQ.r (v := (J 141)) (Ax Z Z) ?_))))))))))))
           have hx : (Ca (Cc k r)).1 = 141 := by
             rw [hmk394]; unfold Ca
             rw [if_pos rfl, if_neg (by show ¬ 4000 < (List.length _); simp only [Ap, Ar, Aq, Aj, Ai, Au, List.length_append, List.length_cons, List.length_nil, List.length_take, List.length_drop, List.length_map, Cq, Dk, Be, Bg]; omega), if_neg (by have := ite_ne0 h400; intro h0; rw [h0] at this; cases this)]
           exact ⟨(⟨k.view, k.normal, r.number, r.image, (k.ents).drop ((r.number - k.base).toNat)⟩ : Kept), _, _, _, Bb hx.symm, (H398.sel [1, 2, 3] (by decide) rfl), fun h0 => by rw [hx] at h0; cases h0⟩
          ·skip
           refine za bF Z (RL.nil (thn.n (Ad Z (CW.skip (inB.n (thn.n (CW.seq (CW.region (za (J 0) Z (RL.nil (thn.n (CW.ret (finQ.r (v := (J 0)) (Ax Z Z) ?_)))))))))))))
           have hx : Ca (Cc k r) = (0, (⟨k.view, k.normal, r.number, r.image, (k.ents).drop ((r.number - k.base).toNat)⟩ : Kept)) := by
             rw [hmk394]; unfold Ca
             rw [if_pos rfl, if_neg (by show ¬ 4000 < (List.length _); simp only [Ap, Ar, Aq, Aj, Ai, Au, List.length_append, List.length_cons, List.length_nil, List.length_take, List.length_drop, List.length_map, Cq, Dk, Be, Bg]; omega), if_pos (by exact ite_eq0 h400)]
           exact ⟨(⟨k.view, k.normal, r.number, r.image, (k.ents).drop ((r.number - k.base).toNat)⟩ : Kept), _, _, _, by rw [hx], (H398.sel [1, 2, 3] (by decide) Z), fun _ => by rw [hx]⟩
      ·skip
       refine za bF Z (RL.nil (thn.n (Ad Z (CW.seq (CW.region (zg Z (Bm (r := false) Z Z (decide_eq_false (by omega))) (za bF Z (RL.nil (thn.n (Ad Z (CW.seq (CW.region (za (J 141) Z (RL.nil (thn.n (CW.ret (inB.r (thn.r (finQ.r (v := (J 141)) (Ax Z Z) ?_)))))))))))))))))))
       have hx : (Ca (Cc k r)).1 = 141 := by
         unfold Cc Dm
         simp [Ca, h9, h36, h172, h223, h349]
       exact ⟨k, _, _, _, Bb hx.symm, (H221.sel [1, 2, 3] (by decide) rfl), fun h0 => by rw [hx] at h0; cases h0⟩
set_option maxHeartbeats 1000000 in
set_option maxRecDepth 20000 in
theorem Fold_ (w : World) (B : Nat) (k : Kept) (A : Option Addr) (n c : Nat) (hr : Rd w B 11 A (ents k.ents)) (hB : B ≤ w.heap.size) (hn : n = k.ents.length) (hm : n ≤ 1099511627776) (hc : n ≤ c) (hi : k.image.length ≤ 140737488351232) (r : Rec) (A2 : Option Addr) (n2 c2 : Nat) (hr2 : Rd w B 11 A2 (ents r.ents)) (hn2 : n2 = r.ents.length) (hm2 : n2 ≤ 1099511627776) (hc2 : n2 ≤ c2) (hi2 : r.image.length ≤ 140737488351232) : Ret Tryz.prog 40 [(.agg ([(J k.view), (J k.normal), (J k.base), (.string (tx k.image)), (.slice A n c)]).toArray), (.agg ([(J r.kind), (J r.view), (J r.from_), (J r.number), (.string (tx r.image)), (J r.entry.num), (J r.entry.view), (J r.entry.client), (J r.entry.seq), (J r.entry.op.kind), (J r.entry.op.h), (J r.entry.op.i), (J r.entry.op.n), (J r.entry.op.k), (J r.entry.op.v), (J r.entry.op.t), (.slice A2 n2 c2)]).toArray)] w (fun v w' => ∃ (A' : Option Addr) (n' c' : Nat), v = .tuple #[.agg [.int .i64 (foldK k r).2.view, .int .i64 (foldK k r).2.normal, .int .i64 (foldK k r).2.base, .string (tx (foldK k r).2.image), .slice A' n' c'].toArray, .int .i64 (foldK k r).1] ∧ Sp ([At 31 11 A' n' c' (ents (foldK k r).2.ents)] ++ [Bc w Bp]) w') := by
  have H0 : Sp [Bc w Bp] w := Bl w
  refine Ret.body Tryz.func40 Z Z Z ?_
  refine CW.seq (CW.region (RL.bx (cs := [(J k.view), (J k.normal), (J k.base), (.string (tx k.image)), (.slice A n c)]) Z Z Z ?_))
  intro w1 b2 hb3 hz4 g5 o6
  have H7 := H0.newB g5 o6 (by omega)
  have z8 := g5.size
  refine RL.bx (cs := [(J r.kind), (J r.view), (J r.from_), (J r.number), (.string (tx r.image)), (J r.entry.num), (J r.entry.view), (J r.entry.client), (J r.entry.seq), (J r.entry.op.kind), (J r.entry.op.h), (J r.entry.op.i), (J r.entry.op.n), (J r.entry.op.k), (J r.entry.op.v), (J r.entry.op.t), (.slice A2 n2 c2)]) Z Z Z ?_
  intro w9 b10 hb11 hz12 g13 o14
  have H15 := H7.newB g13 o14 (by omega)
  have z16 := g13.size
  refine RL.al (cs := [(J 0), (J 0), (J 0), (.string (⟨#[]⟩)), (.slice none 0 0)]) Tryz.zeroValue24 Z Z Z ?_
  intro w17 b18 hb19 hz20 g21 o22
  have H23 := H15.newB g21 o22 (by omega)
  have z24 := g21.size
  refine za (J 0) Z (RL.nil (thn.n (CW.seq (CW.seq (CW.region (zg Z (Ag Z (Ak (cs := [(J k.view), (J k.normal), (J k.base), (.string (tx k.image)), (.slice A n c)]) wh24 (H23.ob (i := 2) Z).cl)) (RL.call Tryz.call57 (opCheck_ _ _ _ k (KeptR.of (k := k) (n := n) (c := c) (hr.st0 (H23.fix (i := 3) Z)) (by show n = (k.ents).length; (try simp only [List.length_append, List.length_cons, List.length_nil, List.length_take, List.length_drop]); all_goals omega) (by omega) (by omega) (by first | assumption | (show List.length _ ≤ _; first | assumption | decide | omega))) (by omega)) Z Z Z ?_)))))))
  rintro _ w25 ⟨rfl, g26⟩
  have H27 := H23.grow g26
  have z28 := g26.size
  refine za (J (if Cj k then 0 else 1)) Z (RL.nil (thn.n (CW.seq (CW.region (zm (J (if Cj k then 0 else 1)) Z ?_)))))
  refine zc (((if Cj k then 0 else 1) : Int) ≠ (0 : Int)) Z (fun r hr => Cd Z Z hr) (fun h29 => ?_) (fun h29 => ?_)
  ·skip
   refine RL.nil (thn.n (Aa Z (CW.seq (CW.region (zg Z (Ce (cs := [(J 0), (J 0), (J 0), (.string (⟨#[]⟩)), (.slice none 0 0)]) bd24 Z) (zm (J (if Cj k then 0 else 1)) Z (RL.st (vs := [(J 0), (J 0), (J 0), (.string (⟨#[]⟩)), (.slice none 0 0)]) (cs' := [(J 0), (J 0), (J 0), (.string (⟨#[]⟩)), (.slice none 0 0)]) Tryz.sizeOf24 (H27.ob (i := 0) Z) Z Z Z Z Z Z ?_)))))))
   intro w30 hz31 g32 o33
   have H34 : Sp [Ae b18 24 [(J 0), (J 0), (J 0), (.string (⟨#[]⟩)), (.slice none 0 0)], Ae b10 33 [(J r.kind), (J r.view), (J r.from_), (J r.number), (.string (tx r.image)), (J r.entry.num), (J r.entry.view), (J r.entry.client), (J r.entry.seq), (J r.entry.op.kind), (J r.entry.op.h), (J r.entry.op.i), (J r.entry.op.n), (J r.entry.op.k), (J r.entry.op.v), (J r.entry.op.t), (.slice A2 n2 c2)], Ae b2 24 [(J k.view), (J k.normal), (J k.base), (.string (tx k.image)), (.slice A n c)], Bc w Bp] w30 := H27.setB (i := 0) rfl g32 o33 rfl
   have z35 := g32.size
   refine za (J (if Cj k then 0 else 1)) Z (RL.nil (thn.n (CW.ret (thn.r (finQ.r (v := (.tuple #[(.agg ([(J 0), (J 0), (J 0), (.string (⟨#[]⟩)), (.slice none 0 0)]).toArray), (J (if Cj k then 0 else 1))])) (Dc Z (Rv.cell Z (Ak (cs := [(J 0), (J 0), (J 0), (.string (⟨#[]⟩)), (.slice none 0 0)]) wh24 (H34.ob (i := 0) Z).cl)) (Rv.tmp Z)) ?_)))))
   have H36 := H34.nil_ 31 11
   have hkk : Cj k = false := by
     cases hkb : Cj k with
     | false => rfl
     | true => rw [hkb] at h29; exact absurd rfl h29
   have hx : foldK k r = (1, zKept) := by unfold foldK; rw [if_neg (by rw [hkk]; decide)]
   exact ⟨none, 0, 0, by rw [hx, hkk]; rfl, by rw [hx]; exact (H36.sel [0, 4] (by decide) Z)⟩
  ·skip
   refine RL.nil (thn.n (Ad Z (CW.skip (thn.n (CW.seq (CW.region ?_))))))
   have hkk : Cj k = true := by
      cases hkb : Cj k with
      | true => rfl
      | false => rw [hkb] at h29; exact absurd h29 (by decide)
   refine zg Z (Df (b := ⟨b2, 4, none⟩) Z Z) (zl (.slice A n c) lo22 (H27.ob (i := 2) Z) Z (RL.call Tryz.call89 (cloneEnt _ k.ents _ _ _ _ (hr.st0 (H27.fix (i := 3) Z)) (by (try simp only [List.length_append, List.length_cons, List.length_nil, List.length_take, List.length_drop]); all_goals omega) (by omega)) Z Z Z ?_))
   rintro _ w40 ⟨A37, c38, rfl, g41, ow39⟩
   have H42 : Sp [At 31 11 A37 n c38 (ents k.ents), Ae b18 24 [(J 0), (J 0), (J 0), (.string (⟨#[]⟩)), (.slice none 0 0)], Ae b10 33 [(J r.kind), (J r.view), (J r.from_), (J r.number), (.string (tx r.image)), (J r.entry.num), (J r.entry.view), (J r.entry.client), (J r.entry.seq), (J r.entry.op.kind), (J r.entry.op.h), (J r.entry.op.i), (J r.entry.op.n), (J r.entry.op.k), (J r.entry.op.v), (J r.entry.op.t), (.slice A2 n2 c2)], Ae b2 24 [(J k.view), (J k.normal), (J k.base), (.string (tx k.image)), (.slice A n c)], Bc w Bp] w40 := H27.newO g41 ow39 (by simp only [Ap, Ar, Aq, Aj, Ai, Au, List.length_append, List.length_cons, List.length_nil, List.length_take, List.length_drop, List.length_map, Cq, Dk, Be, Bg]; omega) (Nat.le_refl _)
   have z43 := g41.size
   refine zg Z (Df (b := ⟨b2, 4, none⟩) Z Z) (RL.st (vs := [(.slice A37 n c38)]) (cs' := [(J k.view), (J k.normal), (J k.base), (.string (tx k.image)), (.slice A37 n c38)]) Tryz.sizeOf22 (H42.ob (i := 3) Z) Z Z Z Z Z Z ?_)
   intro w44 hz45 g46 o47
   have H48 : Sp [At 31 11 A37 n c38 (ents k.ents), Ae b18 24 [(J 0), (J 0), (J 0), (.string (⟨#[]⟩)), (.slice none 0 0)], Ae b10 33 [(J r.kind), (J r.view), (J r.from_), (J r.number), (.string (tx r.image)), (J r.entry.num), (J r.entry.view), (J r.entry.client), (J r.entry.seq), (J r.entry.op.kind), (J r.entry.op.h), (J r.entry.op.i), (J r.entry.op.n), (J r.entry.op.k), (J r.entry.op.v), (J r.entry.op.t), (.slice A2 n2 c2)], Ae b2 24 [(J k.view), (J k.normal), (J k.base), (.string (tx k.image)), (.slice A37 n c38)], Bc w Bp] w44 := H42.setB (i := 3) rfl g46 o47 rfl
   have z49 := g46.size
   refine RL.nil (thn.n (CW.seq (CW.region (zg Z (Ag Z (Ak (cs := [(J k.view), (J k.normal), (J k.base), (.string (tx k.image)), (.slice A37 n c38)]) wh24 (H48.ob (i := 3) Z).cl)) (zg Z (Ce (cs := [(J k.view), (J k.normal), (J k.base), (.string (tx k.image)), (.slice A37 n c38)]) bd141 Z) (RL.bx (cs := [(J k.view), (J k.normal), (J k.base), (.string (tx k.image)), (.slice A37 n c38)]) Z Z Z ?_))))))
   intro w50 b51 hb52 hz53 g54 o55
   have H56 := H48.newB g54 o55 (by omega)
   have z57 := g54.size
   refine za (.pointer (some ⟨b51, 0, none⟩)) Z (RL.nil (thn.n (CW.seq (CW.seq (CW.region (zm (.pointer (some ⟨b51, 0, none⟩)) Z (zg Z (Ag Z (Ak (cs := [(J r.kind), (J r.view), (J r.from_), (J r.number), (.string (tx r.image)), (J r.entry.num), (J r.entry.view), (J r.entry.client), (J r.entry.seq), (J r.entry.op.kind), (J r.entry.op.h), (J r.entry.op.i), (J r.entry.op.n), (J r.entry.op.k), (J r.entry.op.v), (J r.entry.op.t), (.slice A2 n2 c2)]) wh33 (H56.ob (i := 3) Z).cl)) ?_)))))))
   obtain ⟨S63, hS65, hO66, K67⟩ := H56.takeN 2
   refine RL.call Tryz.call109 (fold_ _ S63 b51 k _ _ _ hS65 hkk (by first | assumption | omega) r A2 n2 c2 (Dg hO66 (j := 3) Z hr2 (by omega)) (by first | assumption | omega) (by first | assumption | omega) (by first | assumption | omega) (by first | assumption | omega)) Z Z Z ?_
   rintro _ w68 ⟨k58, A59, n60, c61, rfl, g69, hk62⟩
   have H70 : Sp [Ae b51 141 [(J k58.view), (J k58.normal), (J k58.base), (.string (tx k58.image)), (.slice A59 n60 c61)], At 31 11 A59 n60 c61 (ents k58.ents), Ae b18 24 [(J 0), (J 0), (J 0), (.string (⟨#[]⟩)), (.slice none 0 0)], Ae b10 33 [(J r.kind), (J r.view), (J r.from_), (J r.number), (.string (tx r.image)), (J r.entry.num), (J r.entry.view), (J r.entry.client), (J r.entry.seq), (J r.entry.op.kind), (J r.entry.op.h), (J r.entry.op.i), (J r.entry.op.n), (J r.entry.op.k), (J r.entry.op.v), (J r.entry.op.t), (.slice A2 n2 c2)], Ae b2 24 [(J k.view), (J k.normal), (J k.base), (.string (tx k.image)), (.slice A37 n c38)], Bc w Bp] w68 := K67 _ _ g69
   have z71 := (H70.fix (i := 5) rfl).size
   refine za (J ((Ca (Cc k r)).1)) Z (RL.nil (thn.n (CW.seq (CW.region (zm (J ((Ca (Cc k r)).1)) Z ?_)))))
   refine zc (((Ca (Cc k r)).1 : Int) ≠ (0 : Int)) Z (fun r hr => Cd Z Z hr) (fun h72 => ?_) (fun h72 => ?_)
   ·skip
    refine RL.nil (thn.n (Aa Z (CW.seq (CW.region (zg Z (Ce (cs := [(J 0), (J 0), (J 0), (.string (⟨#[]⟩)), (.slice none 0 0)]) bd24 Z) (zm (J ((Ca (Cc k r)).1)) Z (RL.st (vs := [(J 0), (J 0), (J 0), (.string (⟨#[]⟩)), (.slice none 0 0)]) (cs' := [(J 0), (J 0), (J 0), (.string (⟨#[]⟩)), (.slice none 0 0)]) Tryz.sizeOf24 (H70.ob (i := 2) Z) Z Z Z Z Z Z ?_)))))))
    intro w73 hz74 g75 o76
    have H77 : Sp [Ae b51 141 [(J k58.view), (J k58.normal), (J k58.base), (.string (tx k58.image)), (.slice A59 n60 c61)], At 31 11 A59 n60 c61 (ents k58.ents), Ae b18 24 [(J 0), (J 0), (J 0), (.string (⟨#[]⟩)), (.slice none 0 0)], Ae b10 33 [(J r.kind), (J r.view), (J r.from_), (J r.number), (.string (tx r.image)), (J r.entry.num), (J r.entry.view), (J r.entry.client), (J r.entry.seq), (J r.entry.op.kind), (J r.entry.op.h), (J r.entry.op.i), (J r.entry.op.n), (J r.entry.op.k), (J r.entry.op.v), (J r.entry.op.t), (.slice A2 n2 c2)], Ae b2 24 [(J k.view), (J k.normal), (J k.base), (.string (tx k.image)), (.slice A37 n c38)], Bc w Bp] w73 := H70.setB (i := 2) rfl g75 o76 rfl
    have z78 := g75.size
    refine za (J ((Ca (Cc k r)).1)) Z (RL.nil (thn.n (CW.ret (thn.r (finQ.r (v := (.tuple #[(.agg ([(J 0), (J 0), (J 0), (.string (⟨#[]⟩)), (.slice none 0 0)]).toArray), (J ((Ca (Cc k r)).1))])) (Dc Z (Rv.cell Z (Ak (cs := [(J 0), (J 0), (J 0), (.string (⟨#[]⟩)), (.slice none 0 0)]) wh24 (H77.ob (i := 2) Z).cl)) (Rv.tmp Z)) ?_)))))
    have H79 := H77.nil_ 31 11
    have hx : foldK k r = (Ca (Cc k r)) := by unfold foldK; rw [if_pos hkk]
    have hz := seenK_err (x := Cc k r) h72
    exact ⟨none, 0, 0, by rw [hx, hz]; rfl, by rw [hx, hz]; exact (H79.sel [0, 6] (by decide) Z)⟩
   ·skip
    refine RL.nil (thn.n (Ad Z (CW.skip (thn.n (CW.seq (CW.region (zm (.pointer (some ⟨b51, 0, none⟩)) Z (zg Z (Bj Z) (zg Z (Cm (b := ⟨b51, 0, none⟩) Z Z) (zg Z (Ag Z (Ak (cs := [(J k58.view), (J k58.normal), (J k58.base), (.string (tx k58.image)), (.slice A59 n60 c61)]) wh24 (H70.ob (i := 0) Z).cl)) (RL.st (vs := [(J k58.view), (J k58.normal), (J k58.base), (.string (tx k58.image)), (.slice A59 n60 c61)]) (cs' := [(J k58.view), (J k58.normal), (J k58.base), (.string (tx k58.image)), (.slice A59 n60 c61)]) Tryz.sizeOf24 (H70.ob (i := 2) Z) Z Z Z Z Z Z ?_)))))))))))
    intro w80 hz81 g82 o83
    have H84 : Sp [Ae b51 141 [(J k58.view), (J k58.normal), (J k58.base), (.string (tx k58.image)), (.slice A59 n60 c61)], At 31 11 A59 n60 c61 (ents k58.ents), Ae b18 24 [(J k58.view), (J k58.normal), (J k58.base), (.string (tx k58.image)), (.slice A59 n60 c61)], Ae b10 33 [(J r.kind), (J r.view), (J r.from_), (J r.number), (.string (tx r.image)), (J r.entry.num), (J r.entry.view), (J r.entry.client), (J r.entry.seq), (J r.entry.op.kind), (J r.entry.op.h), (J r.entry.op.i), (J r.entry.op.n), (J r.entry.op.k), (J r.entry.op.v), (J r.entry.op.t), (.slice A2 n2 c2)], Ae b2 24 [(J k.view), (J k.normal), (J k.base), (.string (tx k.image)), (.slice A37 n c38)], Bc w Bp] w80 := H70.setB (i := 2) rfl g82 o83 rfl
    have z85 := g82.size
    refine za (J 0) Z (RL.nil (thn.n (CW.ret (finQ.r (v := (.tuple #[(.agg ([(J k58.view), (J k58.normal), (J k58.base), (.string (tx k58.image)), (.slice A59 n60 c61)]).toArray), (J 0)])) (Dc Z (Rv.cell Z (Ak (cs := [(J k58.view), (J k58.normal), (J k58.base), (.string (tx k58.image)), (.slice A59 n60 c61)]) wh24 (H84.ob (i := 2) Z).cl)) (Rv.tmp Z)) ?_))))
    have hx : foldK k r = (Ca (Cc k r)) := by unfold foldK; rw [if_pos hkk]
    have h0 : (Ca (Cc k r)).1 = 0 := by omega
    have hk3 := hk62 h0
    exact ⟨_, _, _, by rw [hx, ← hk3, h0], by rw [hx, ← hk3]; exact (H84.sel [1, 5] (by decide) Z)⟩
end Go.Proofs.YtfokljnhllflbaaGreat
namespace Go.Proofs.YtfokljnhllflbaaGreat
open Go Go.Eng Go.RowKit
set_option maxHeartbeats 1000000 in
set_option maxRecDepth 20000 in
theorem outN2 (w : World) (S : Nat → Prop) (p n0 c : Nat) (A : Option Addr) (l : List UInt8) (hS : (AllA [Ae p 166 [.slice A n0 c], At 5 1 A n0 c (Db l)]).ok S w) (xs : List Int) (A2 : Option Addr) (m c2 : Nat) (hr : RdN w S 1 A2 (ics xs)) (hm : m = xs.length) (hx : ∀ x ∈ xs, 0 ≤ x ∧ x ≤ 2147483647) (hlen : l.length + 4 * xs.length ≤ 1099511627000) : Ret Tryz.prog 145 [(.pointer (some ⟨p, 0, none⟩)), (.slice A2 m c2)] w (fun v w' => ∃ (A' : Option Addr) (n' c' : Nat), v = .tuple #[] ∧ Sp ([Ae p 166 [.slice A' n' c'], At 5 1 A' n' c' (Db (l ++ Cf xs))] ++ [Bc w S]) w' ∧ n' = (l ++ Cf xs).length) := by
  have H0 := Sp.startL hS
  have hnl := H0.len (i := 1) rfl
  simp only [Ap] at hnl
  have H0 : Sp [Ae p 166 [.slice A n0 c], At 5 1 A n0 c (Db l), Bc w S] w := H0
  refine Ret.body Tryz.func145 Z Z Z ?_
  refine CW.seq (CW.region (zm (.slice A2 m c2) Z (zg Z (Ex.len Tryz.underlying134 Z) (zm (J 0) Z (RL.nil (thn.n (CW.block ?_)))))))
  refine CW.loop (fun t => Nat.beq t 5 || (Nat.ble 8 t && Nat.ble t 24)) (fun nL ρ wl => ∃ (k n1 c1 : Nat) (A1 : Option Addr), ρ 8 = (J (k : Int)) ∧ nL = xs.length - k ∧ Sp [Ae p 166 [.slice A1 n1 c1], At 5 1 A1 n1 c1 (Db (l ++ Cf (xs.take k))), Bc w S] wl ∧ k ≤ xs.length ∧ n1 = l.length + 4 * k) (xs.length) ?aa0 ?bb0
  case aa0 =>
   have H0 : Sp [Ae p 166 [.slice A n0 c], At 5 1 A n0 c (Db (l ++ Cf (xs.take 0))), Bc w S] w := (by simpa [Cf] using H0)
   exact ⟨0, n0, c, A, Z, Z, H0, Nat.zero_le _, by omega⟩
  case bb0 =>
   rintro n2 ρ0 w1 ho3 ⟨k, n1, c1, A1, hs0_8, hn0, H4, hk, hn1⟩
   obtain ⟨j0, rfl⟩ := ho3.shape1 hs0_8
   clear ho3 hs0_8
   subst hn0
   have z5 := (H4.chg (i := 2) rfl).size
   have hel : (l ++ Cf (xs.take k)).length = l.length + 4 * k := by rw [List.length_append, Be, List.length_take]; omega
   refine CW.seq (CW.region ?_)
   refine zc (((k : Int) : Int) < ((m : Nat) : Int)) Z (fun r hr => Ex.lt Z Z hr) (fun h6 => ?_) (fun h6 => ?_)
   ·skip
    refine RL.nil (thn.n (CW.seq (Aa Z (CW.skip (thn.n (CW.seq (CW.block (CW.seq (CW.region ?_)))))))))
    obtain ⟨e7, he8⟩ : ∃ e, (xs)[k]? = some e := ⟨_, List.getElem?_eq_getElem (by omega)⟩
    obtain ⟨ad9, hA10⟩ := Rd.sm ((hr.st (H4.chg (i := 2) rfl)).rd) (ics_get he8)
    have hl11 := Eng.lt_len (ics_get he8)
    refine zg Z (Ck (b := (ad9.add (k * 1))) (i := k) Tryz.underlying134 Tryz.sizeOf3 (by rw [← hA10]; rfl) Z (by omega) (by omega) Z) (zg Z (Ag Z (Av Bw (Cl.at_ (v := (J e7)) (Rd.cl ((hr.st (H4.chg (i := 2) Z)).rd) hA10 (ics_get he8)) (i := 0) Z))) (za (J e7) Z (RL.nil (thn.n (CW.region (zm (.pointer (some ⟨p, 0, none⟩)) Z (zm (.pointer (some ⟨p, 0, none⟩)) Z (zg Z (Bj Z) (zg Z (fa166_0 (b := ⟨p, 0, none⟩) Z Z) (zl (.slice A1 n1 c1) lo97 (H4.ob (i := 0) Z) Z (zm (J e7) Z ?_)))))))))))
    refine RL.call Tryz.call215 (putNumberI _ _ n1 c1 _ (l ++ Cf (xs.take k)) (H4.rowrd (i := 1) Z) (by first | assumption | omega) (by omega) e7 (by have := hx e7 (List.mem_of_getElem? he8); omega)) Z Z Z ?_
    rintro _ w17 ⟨A12, m13, c14, rfl, g18, hm15, ow16⟩
    have H19 : Sp [At 5 1 A12 m13 c14 (Db ((l ++ Cf (xs.take k)) ++ Cq e7.toNat)), Ae p 166 [.slice A1 n1 c1], At 5 1 A1 n1 c1 (Db (l ++ Cf (xs.take k))), Bc w S] w17 := H4.newO g18 ow16 (by simp only [Ap, Ar, Aq, Aj, Ai, Au, List.length_append, List.length_cons, List.length_nil, List.length_take, List.length_drop, List.length_map, Cq, Dk, Be, Bg]; omega) (Nat.le_refl _)
    have z20 := g18.size
    refine zm (.tuple #[(.slice A12 m13 c14), (J 0)]) Z (zx (.slice A12 m13 c14) Z (zx (J 0) Z (zg Z (Bj Z) (zg Z (fa166_0 (b := ⟨p, 0, none⟩) Z Z) (RL.st (vs := [(.slice A12 m13 c14)]) (cs' := [(.slice A12 m13 c14)]) Tryz.sizeOf97 (H19.ob (i := 1) Z) Z Z Z Z Z Z ?_)))))
    intro w21 hz22 g23 o24
    have H25 : Sp [At 5 1 A12 m13 c14 (Db ((l ++ Cf (xs.take k)) ++ Cq e7.toNat)), Ae p 166 [(.slice A12 m13 c14)], At 5 1 A1 n1 c1 (Db (l ++ Cf (xs.take k))), Bc w S] w21 := H19.setB (i := 1) rfl g23 o24 rfl
    have z26 := g23.size
    refine RL.nil (inB.n (thn.n (CW.region (zg Z (Ex.add (r := (k : Int) + 1) Z Z (Dd (by omega) (by omega))) (zm (J ((k : Int) + 1)) Z (RL.nil (thn.n ?_)))))))
    have H27 : Sp [At 5 1 A12 m13 c14 (Db (l ++ Cf (xs.take (k + 1)))), Ae p 166 [(.slice A12 m13 c14)], At 5 1 A1 n1 c1 (Db (l ++ Cf (xs.take k))), Bc w S] w21 := H25.eqR (i := 0) rfl rfl (by rw [take_snoc he8, encN_snoc, ← List.append_assoc]) rfl
    refine ⟨(by repeat (first | exact Out.mix _ _ | exact Out.refl _ _ | refine Bf ?_ Z _)), _, ?_, k + 1, m13, c14, A12, Z, Z, (H27.sel [1, 0, 3] (by decide) Z), by omega, by omega⟩
    omega
   ·skip
    refine RL.nil (thn.n (CW.seq (Ad Z (CW.exit (thn.x (thn.x (Bh (finQ.n (v := (.tuple #[])) (res0 Z) ?_))))))))
    have hkk : xs.take k = xs := List.take_of_length_le (by omega)
    rw [hkk] at hel H4
    exact ⟨_, _, _, Z, (H4.sel [0, 1, 2] (by decide) Z), by omega⟩
set_option maxHeartbeats 1000000 in
set_option maxRecDepth 20000 in
theorem outI2 (w : World) (S : Nat → Prop) (p n0 c : Nat) (A : Option Addr) (l : List UInt8) (hS : (AllA [Ae p 166 [.slice A n0 c], At 5 1 A n0 c (Db l)]).ok S w) (xs : List Int) (A2 : Option Addr) (m c2 : Nat) (hr : RdN w S 1 A2 (ics xs)) (hm : m = xs.length) (hlen : l.length + 8 * xs.length ≤ 1099511627000) : Ret Tryz.prog 146 [(.pointer (some ⟨p, 0, none⟩)), (.slice A2 m c2)] w (fun v w' => ∃ (A' : Option Addr) (n' c' : Nat), v = .tuple #[] ∧ Sp ([Ae p 166 [.slice A' n' c'], At 5 1 A' n' c' (Db (l ++ encW xs))] ++ [Bc w S]) w' ∧ n' = (l ++ encW xs).length) := by
  have H0 := Sp.startL hS
  have hnl := H0.len (i := 1) rfl
  simp only [Ap] at hnl
  have H0 : Sp [Ae p 166 [.slice A n0 c], At 5 1 A n0 c (Db l), Bc w S] w := H0
  refine Ret.body Tryz.func146 Z Z Z ?_
  refine CW.seq (CW.region (zm (.slice A2 m c2) Z (zg Z (Ex.len Tryz.underlying134 Z) (zm (J 0) Z (RL.nil (thn.n (CW.block ?_)))))))
  refine CW.loop (fun t => Nat.beq t 5 || (Nat.ble 8 t && Nat.ble t 21)) (fun nL ρ wl => ∃ (k n1 c1 : Nat) (A1 : Option Addr), ρ 8 = (J (k : Int)) ∧ nL = xs.length - k ∧ Sp [Ae p 166 [.slice A1 n1 c1], At 5 1 A1 n1 c1 (Db (l ++ encW (xs.take k))), Bc w S] wl ∧ k ≤ xs.length ∧ n1 = l.length + 8 * k) (xs.length) ?aa0 ?bb0
  case aa0 =>
   have H0 : Sp [Ae p 166 [.slice A n0 c], At 5 1 A n0 c (Db (l ++ encW (xs.take 0))), Bc w S] w := (by simpa [encW] using H0)
   exact ⟨0, n0, c, A, Z, Z, H0, Nat.zero_le _, by omega⟩
  case bb0 =>
   rintro n2 ρ0 w1 ho3 ⟨k, n1, c1, A1, hs0_8, hn0, H4, hk, hn1⟩
   obtain ⟨j0, rfl⟩ := ho3.shape1 hs0_8
   clear ho3 hs0_8
   subst hn0
   have z5 := (H4.chg (i := 2) rfl).size
   have hel : (l ++ encW (xs.take k)).length = l.length + 8 * k := by rw [List.length_append, Bg, List.length_take]; omega
   refine CW.seq (CW.region ?_)
   refine zc (((k : Int) : Int) < ((m : Nat) : Int)) Z (fun r hr => Ex.lt Z Z hr) (fun h6 => ?_) (fun h6 => ?_)
   ·skip
    refine RL.nil (thn.n (CW.seq (Aa Z (CW.skip (thn.n (CW.seq (CW.block (CW.seq (CW.region ?_)))))))))
    obtain ⟨e7, he8⟩ : ∃ e, (xs)[k]? = some e := ⟨_, List.getElem?_eq_getElem (by omega)⟩
    obtain ⟨ad9, hA10⟩ := Rd.sm ((hr.st (H4.chg (i := 2) rfl)).rd) (ics_get he8)
    have hl11 := Eng.lt_len (ics_get he8)
    refine zg Z (Ck (b := (ad9.add (k * 1))) (i := k) Tryz.underlying134 Tryz.sizeOf3 (by rw [← hA10]; rfl) Z (by omega) (by omega) Z) (zg Z (Ag Z (Av Bw (Cl.at_ (v := (J e7)) (Rd.cl ((hr.st (H4.chg (i := 2) Z)).rd) hA10 (ics_get he8)) (i := 0) Z))) (za (J e7) Z (RL.nil (thn.n (CW.region (zm (.pointer (some ⟨p, 0, none⟩)) Z (zm (.pointer (some ⟨p, 0, none⟩)) Z (zg Z (Bj Z) (zg Z (fa166_0 (b := ⟨p, 0, none⟩) Z Z) (zl (.slice A1 n1 c1) lo97 (H4.ob (i := 0) Z) Z (zm (J e7) Z (RL.call Tryz.call216 (putInt_ _ _ n1 c1 _ (l ++ encW (xs.take k)) (H4.rowrd (i := 1) Z) (by first | assumption | omega) (by omega) e7) Z Z Z ?_))))))))))))
    rintro _ w17 ⟨A12, m13, c14, rfl, g18, hm15, ow16⟩
    have H19 : Sp [At 5 1 A12 m13 c14 (Db (((l ++ encW (xs.take k)) ++ Dk (u64of e7)))), Ae p 166 [.slice A1 n1 c1], At 5 1 A1 n1 c1 (Db (l ++ encW (xs.take k))), Bc w S] w17 := H4.newO g18 ow16 (by simp only [Ap, Ar, Aq, Aj, Ai, Au, List.length_append, List.length_cons, List.length_nil, List.length_take, List.length_drop, List.length_map, Cq, Dk, Be, Bg]; omega) (Nat.le_refl _)
    have z20 := g18.size
    refine zg Z (Bj Z) (zg Z (fa166_0 (b := ⟨p, 0, none⟩) Z Z) (RL.st (vs := [(.slice A12 m13 c14)]) (cs' := [(.slice A12 m13 c14)]) Tryz.sizeOf97 (H19.ob (i := 1) Z) Z Z Z Z Z Z ?_))
    intro w21 hz22 g23 o24
    have H25 : Sp [At 5 1 A12 m13 c14 (Db (((l ++ encW (xs.take k)) ++ Dk (u64of e7)))), Ae p 166 [(.slice A12 m13 c14)], At 5 1 A1 n1 c1 (Db (l ++ encW (xs.take k))), Bc w S] w21 := H19.setB (i := 1) rfl g23 o24 rfl
    have z26 := g23.size
    refine RL.nil (inB.n (thn.n (CW.region (zg Z (Ex.add (r := (k : Int) + 1) Z Z (Dd (by omega) (by omega))) (zm (J ((k : Int) + 1)) Z (RL.nil (thn.n ?_)))))))
    have H27 : Sp [At 5 1 A12 m13 c14 (Db (l ++ encW (xs.take (k + 1)))), Ae p 166 [(.slice A12 m13 c14)], At 5 1 A1 n1 c1 (Db (l ++ encW (xs.take k))), Bc w S] w21 := H25.eqR (i := 0) rfl rfl (by rw [take_snoc he8, encW_snoc, ← List.append_assoc]) rfl
    refine ⟨(by repeat (first | exact Out.mix _ _ | exact Out.refl _ _ | refine Bf ?_ Z _)), _, ?_, k + 1, m13, c14, A12, Z, Z, (H27.sel [1, 0, 3] (by decide) Z), by omega, by omega⟩
    omega
   ·skip
    refine RL.nil (thn.n (CW.seq (Ad Z (CW.exit (thn.x (thn.x (Bh (finQ.n (v := (.tuple #[])) (res0 Z) ?_))))))))
    have hkk : xs.take k = xs := List.take_of_length_le (by omega)
    rw [hkk] at hel H4
    exact ⟨_, _, _, Z, (H4.sel [0, 1, 2] (by decide) Z), by omega⟩
set_option maxHeartbeats 1000000 in
set_option maxRecDepth 20000 in
theorem putHeap_ (w : World) (B : Nat) (rh : RHeap) (ros : List RObj) (h : Heap) (H : HeapR w B rh ros h) (hB : B ≤ w.heap.size) : Ret Tryz.prog 77 [(.agg (rh.cells).toArray)] w (fun v w' => ∃ (A' : Option Addr) (n' c' : Nat), v = .tuple #[.slice A' n' c', .int .i64 (putHeapX h).2] ∧ Sp ([At 5 1 A' n' c' (Db (putHeapX h).1)] ++ [Bc w Bp]) w') := by
  have hord := H.order
  have hnx := H.next
  have hfn := H.fn
  have hfm := H.fm
  have hon := H.objs.n
  have hom := H.objs.m
  have hol := H.objs.len
  have H0 : Sp [Bc w Bp] w := Bl w
  refine Ret.body Tryz.func77 Z Z Z ?_
  refine CW.seq (CW.region (RL.bx (cs := rh.cells) Z Z Z ?_))
  intro w1 b2 hb3 hz4 g5 o6
  have H7 := H0.newB g5 o6 (by omega)
  have z8 := g5.size
  refine za (.slice none 0 0) Z (za (J 0) Z (RL.nil (thn.n (CW.seq (CW.seq (CW.region (zg Z (Ag Z (Ak (cs := rh.cells) wh47 (H7.ob (i := 0) Z).cl)) (RL.call Tryz.call140 (heapCheck_ _ _ rh _ _ (H.st0 (H7.fix (i := 1) Z)) (by omega)) Z Z Z ?_))))))))
  rintro _ w9 ⟨rfl, g10⟩
  have H11 := H7.grow g10
  have z12 := g10.size
  refine zc (((if Cz h then 0 else 1) : Int) ≠ (0 : Int)) Z (fun r hr => Cd Z Z hr) (fun h13 => ?_) (fun h13 => ?_)
  ·skip
   refine RL.nil (thn.n (Aa Z (CW.seq (CW.region (za (.slice none 0 0) Z (za (J 60) Z (RL.nil (thn.n (CW.ret (thn.r (finQ.r (v := (.tuple #[(.slice none 0 0), (J 60)])) (res2 Z Z Z) ?_)))))))))))
   have H14 := H11.nil_ 5 1
   have hbb : Cz h = false := by
     cases hkb : Cz h with
     | false => rfl
     | true => rw [hkb] at h13; exact absurd rfl h13
   exact ⟨none, 0, 0, by unfold putHeapX; rw [hbb]; rfl, by unfold putHeapX; rw [hbb]; exact (H14.sel [0, 2] (by decide) Z)⟩
  ·skip
   refine RL.nil (thn.n (Ad Z (CW.skip (thn.n (CW.seq (CW.region ?_))))))
   have hbb : Cz h = true := by
      cases hkb : Cz h with
      | true => rfl
      | false => rw [hkb] at h13; exact absurd h13 (by decide)
   have hrg := heapB_rng hbb
   obtain ⟨hr1, hr2, hr3, hr4, hr5⟩ := hrg
   have htp := H.tops
   rw [← htp] at hr4
   have hq1 : (Cf [rh.order, rh.next]).length = 8 := rfl
   refine zg Z (Ce (cs := [(.slice none 0 0)]) bd166 Z) (RL.bx (cs := [(.slice none 0 0)]) Z Z Z ?_)
   intro w15 b16 hb17 hz18 g19 o20
   have H21 := H11.newB g19 o20 (by omega)
   have z22 := g19.size
   refine za (.pointer (some ⟨b16, 0, none⟩)) Z (RL.nil (thn.n (CW.seq (CW.region (zm (.pointer (some ⟨b16, 0, none⟩)) Z (zg Z (fa47_0 (b := ⟨b2, 0, none⟩) Z Z) (zl (J rh.order) Bw (H21.ob (i := 1) Z) Z (zg Z (fa47_2 (b := ⟨b2, 2, none⟩) Z Z) (zl (J rh.next) Bw (H21.ob (i := 1) Z) Z (RL.bs (cs := [(J rh.order), (J rh.next)]) Tryz.underlying134 Tryz.sizeOf3 ze134 Z Z Z (by decide) Z Z Z ?_))))))))))
   intro w23 b24 hb25 hz26 g27 o28
   have H29 := H21.newB g27 o28 (by omega)
   have z30 := g27.size
   have H31 := H29.nil_ 5 1
   obtain ⟨S36, hS37, hO38, K39⟩ := Sp.takeL (l1 := [Ae b16 166 [(.slice none 0 0)], At 5 1 none 0 0 (Db ([]))]) (l2 := [Ae b24 3 [(J rh.order), (J rh.next)], Ae b2 47 rh.cells, Bc w Bp]) (w := w23) (H31.sel [2, 0, 1, 3, 4] (by decide) rfl)
   refine RL.call Tryz.call145 (outN2 _ S36 b16 0 0 none ([]) hS37 ([rh.order, rh.next]) _ 2 2 (RdN.of_blk hO38 (j := 0) Z (Ob.rdI (l := [rh.order, rh.next]) (H31.ob (i := 1) Z) Z)) (by first | rfl | assumption | omega) (by intro x hx; simp only [List.mem_cons, List.not_mem_nil, or_false] at hx; omega) (by simp only [Ap, Ar, Aq, Aj, Ai, Au, List.length_append, List.length_cons, List.length_nil, List.length_take, List.length_drop, List.length_map, Cq, Dk, Be, Bg] at *; omega)) Z Z Z ?_
   rintro _ w40 ⟨A32, n33, c34, rfl, g41, hn35⟩
   have H42 : Sp [Ae b16 166 [.slice A32 n33 c34], At 5 1 A32 n33 c34 (Db ([] ++ Cf ([rh.order, rh.next]))), Ae b24 3 [(J rh.order), (J rh.next)], Ae b2 47 rh.cells, Bc w Bp] w40 := K39 _ _ g41
   have z43 := (H42.fix (i := 4) rfl).size
   refine RL.nil (thn.n (CW.seq (CW.region (zm (.pointer (some ⟨b16, 0, none⟩)) Z (zg Z (fa47_3 (b := ⟨b2, 3, none⟩) Z Z) (zg Z (Ex.slA Tryz.underlying44 Tryz.sizeOf3 Z Z) ?_))))))
   obtain ⟨S48, hS49, hO50, K51⟩ := H42.takeN 2
   refine RL.call Tryz.call145 (outN2 _ S48 b16 n33 c34 A32 ([] ++ Cf ([rh.order, rh.next])) hS49 ([rh.t0, rh.t1, rh.t2, rh.t3]) _ 4 4 (RdN.of_blk hO50 (j := 1) Z (Ob.rdI (l := [rh.t0, rh.t1, rh.t2, rh.t3]) (H42.ob (i := 3) Z) Z)) (by first | rfl | assumption | omega) (hr4) (by simp only [Ap, Ar, Aq, Aj, Ai, Au, List.length_append, List.length_cons, List.length_nil, List.length_take, List.length_drop, List.length_map, Cq, Dk, Be, Bg] at *; omega)) Z Z Z ?_
   rintro _ w52 ⟨A44, n45, c46, rfl, g53, hn47⟩
   have H54 : Sp [Ae b16 166 [.slice A44 n45 c46], At 5 1 A44 n45 c46 (Db ((([] ++ Cf ([rh.order, rh.next])) ++ Cf ([rh.t0, rh.t1, rh.t2, rh.t3])))), Ae b24 3 [(J rh.order), (J rh.next)], Ae b2 47 rh.cells, Bc w Bp] w52 := K51 _ _ g53
   have z55 := (H54.fix (i := 4) rfl).size
   refine RL.nil (thn.n (CW.seq (CW.region (zm (.pointer (some ⟨b16, 0, none⟩)) Z (zg Z (fa47_1 (b := ⟨b2, 1, none⟩) Z Z) (zl (.slice rh.objs.a rh.objs.n rh.objs.c) lo43 (H54.ob (i := 3) Z) Z (zg Z (Ex.len Tryz.underlying43 Z) (RL.bs (cs := [(J (rh.objs.n : Nat))]) Tryz.underlying134 Tryz.sizeOf3 ze134 Z Z Z (by decide) Z Z Z ?_))))))))
   intro w56 b57 hb58 hz59 g60 o61
   have H62 := H54.newB g60 o61 (by omega)
   have z63 := g60.size
   obtain ⟨S69, hS70, hO71, K72⟩ := Sp.takeL (l1 := [Ae b16 166 [.slice A44 n45 c46], At 5 1 A44 n45 c46 (Db ((([] ++ Cf ([rh.order, rh.next])) ++ Cf ([rh.t0, rh.t1, rh.t2, rh.t3]))))]) (l2 := [Ae b57 3 [(J (rh.objs.n : Nat))], Ae b24 3 [(J rh.order), (J rh.next)], Ae b2 47 rh.cells, Bc w Bp]) (w := w56) (H62.sel [1, 2, 0, 3, 4, 5] (by decide) rfl)
   refine RL.call Tryz.call145 (outN2 _ S69 b16 n45 c46 A44 ((([] ++ Cf ([rh.order, rh.next])) ++ Cf ([rh.t0, rh.t1, rh.t2, rh.t3]))) hS70 ([(rh.objs.n : Nat)]) _ 1 1 (RdN.of_blk hO71 (j := 0) Z (Ob.rdI (l := [(rh.objs.n : Nat)]) (H62.ob (i := 0) Z) Z)) (by first | rfl | assumption | omega) (by intro x hx; simp only [List.mem_cons, List.not_mem_nil, or_false] at hx; omega) (by simp only [Ap, Ar, Aq, Aj, Ai, Au, List.length_append, List.length_cons, List.length_nil, List.length_take, List.length_drop, List.length_map, Cq, Dk, Be, Bg] at *; omega)) Z Z Z ?_
   rintro _ w73 ⟨A65, n66, c67, rfl, g74, hn68⟩
   have H75 : Sp [Ae b16 166 [.slice A65 n66 c67], At 5 1 A65 n66 c67 (Db (((([] ++ Cf ([rh.order, rh.next])) ++ Cf ([rh.t0, rh.t1, rh.t2, rh.t3])) ++ Cf ([(rh.objs.n : Nat)])))), Ae b57 3 [(J (rh.objs.n : Nat))], Ae b24 3 [(J rh.order), (J rh.next)], Ae b2 47 rh.cells, Bc w Bp] w73 := K72 _ _ g74
   have z76 := (H75.fix (i := 5) rfl).size
   refine RL.nil (thn.n (CW.seq (CW.seq (CW.region (zg Z (fa47_1 (b := ⟨b2, 1, none⟩) Z Z) (zl (.slice rh.objs.a rh.objs.n rh.objs.c) lo43 (H75.ob (i := 4) Z) Z (zg Z (Ex.len Tryz.underlying43 Z) (zm (J 0) Z (RL.nil (thn.n (CW.block ?_)))))))))))
   have hz0 : ((([] ++ Cf ([rh.order, rh.next])) ++ Cf ([rh.t0, rh.t1, rh.t2, rh.t3])) ++ Cf ([(rh.objs.n : Nat)])) = (((Cf [rh.order, rh.next] ++ Cf [rh.t0, rh.t1, rh.t2, rh.t3]) ++ Cf [((rh.objs.n : Nat) : Int)]) ++ putObjs (h.objs.take 0)) := by simp [putObjs]
   refine CW.loop (fun t => Nat.beq t 6 || (Nat.ble 32 t && Nat.ble t 58)) (fun nL ρ wl => ∃ (k n1 c1 : Nat) (A1 : Option Addr), ρ 32 = (J (k : Int)) ∧ nL = rh.objs.n - k ∧ Sp [Ae b16 166 [.slice A1 n1 c1], At 5 1 A1 n1 c1 (Db ((((Cf [rh.order, rh.next] ++ Cf [rh.t0, rh.t1, rh.t2, rh.t3]) ++ Cf [((rh.objs.n : Nat) : Int)]) ++ putObjs (h.objs.take k)))), Ae b2 47 rh.cells, Bc w Bp] wl ∧ k ≤ rh.objs.n ∧ n1 ≤ 28 + 336 * k) (rh.objs.n) ?aa0 ?bb0
   case aa0 =>
    have H77 : Sp [Ae b16 166 [.slice A65 n66 c67], At 5 1 A65 n66 c67 (Db ((((Cf [rh.order, rh.next] ++ Cf [rh.t0, rh.t1, rh.t2, rh.t3]) ++ Cf [((rh.objs.n : Nat) : Int)]) ++ putObjs (h.objs.take 0)))), Ae b57 3 [(J (rh.objs.n : Nat))], Ae b24 3 [(J rh.order), (J rh.next)], Ae b2 47 rh.cells, Bc w Bp] w73 := H75.eqR (i := 1) rfl rfl (congrArg Db hz0) rfl
    exact ⟨0, n66, c67, A65, Z, Z, (H77.sel [0, 1, 4, 5] (by decide) Z), Nat.zero_le _, by simp only [Ap, Ar, Aq, Aj, Ai, Au, List.length_append, List.length_cons, List.length_nil, List.length_take, List.length_drop, List.length_map, Cq, Dk, Be, Bg] at *; omega⟩
   case bb0 =>
    rintro n79 ρ0 w78 ho80 ⟨k, n1, c1, A1, hs0_32, hn0, H81, hk, hn1⟩
    obtain ⟨j0, rfl⟩ := ho80.shape1 hs0_32
    clear ho80 hs0_32
    subst hn0
    have z82 := (H81.fix (i := 3) rfl).size
    have hlen := (H81.len (i := 1) rfl)
    rw [Ap] at hlen
    refine CW.seq (CW.region ?_)
    refine zc (((k : Int) : Int) < ((rh.objs.n : Nat) : Int)) Z (fun r hr => Ex.lt Z Z hr) (fun h83 => ?_) (fun h83 => ?_)
    ·skip
     refine RL.nil (thn.n (CW.seq (Aa Z (CW.skip (thn.n (CW.seq (CW.block (CW.seq (CW.region ?_)))))))))
     obtain ⟨e84, he85⟩ : ∃ e, ros[k]? = some e := ⟨_, List.getElem?_eq_getElem (by omega)⟩
     obtain ⟨o86, ho87⟩ : ∃ e, h.objs[k]? = some e := ⟨_, List.getElem?_eq_getElem (by omega)⟩
     have oR88 := H.objs.all k e84 o86 he85 ho87
     have e89 := oR88.wl
     have e90 := oR88.ll
     have e91 := oR88.b
     have e92 := oR88.wm
     have e93 := oR88.lm
     have e94 := oR88.h
     obtain ⟨ad95, hA96⟩ := Rd.sm (H.objs.rd.st0 (H81.fix (i := 3) rfl)) (Cg he85)
     have hl97 := Eng.lt_len (Cg he85)
     refine zg Z (Ck (b := (ad95.add (k * 5))) (i := k) Tryz.underlying43 Tryz.sizeOf136 (by rw [← hA96]; rfl) Z (by omega) (by omega) Z) (zg Z (Ag Z (Ak (cs := e84.cells) wh136 (Rd.cl (H.objs.rd.st0 (H81.fix (i := 3) Z)) hA96 (Cg he85)))) (RL.al (cs := [(J 0), (J 0), (J 0), (.slice none 0 0), (.slice none 0 0)]) Tryz.zeroValue136 Z Z Z ?_))
     intro w98 b99 hb100 hz101 g102 o103
     have H104 := H81.newB g102 o103 (by omega)
     have z105 := g102.size
     refine RL.st (vs := e84.cells) (cs' := e84.cells) Tryz.sizeOf136 (H104.ob (i := 0) Z) Z Z Z Z Z Z ?_
     intro w106 hz107 g108 o109
     have H110 : Sp [Ae b99 136 e84.cells, Ae b16 166 [.slice A1 n1 c1], At 5 1 A1 n1 c1 (Db ((((Cf [rh.order, rh.next] ++ Cf [rh.t0, rh.t1, rh.t2, rh.t3]) ++ Cf [((rh.objs.n : Nat) : Int)]) ++ putObjs (h.objs.take k)))), Ae b2 47 rh.cells, Bc w Bp] w106 := H104.setB (i := 0) rfl g108 o109 rfl
     have z111 := g108.size
     refine RL.nil (thn.n (CW.seq (CW.region ?_)))
     have hob := hr5 o86 (List.mem_of_getElem? ho87)
     obtain ⟨ho1, ho2, ho3, ho4, ho5⟩ := hob
     rw [← oR88.h] at ho1
     rw [← oR88.b] at ho2
     refine zm (.pointer (some ⟨b16, 0, none⟩)) Z (zg Z (fa136_0 (b := ⟨b99, 0, none⟩) Z Z) (zl (J e84.handle) Bw (H110.ob (i := 0) Z) Z (zg Z (fa136_1 (b := ⟨b99, 1, none⟩) Z Z) (zg Z (Cr (b := ⟨b99, 1, none⟩) Z Z) (zl (J e84.blk.at_) Bw (H110.ob (i := 0) Z) Z (zg Z (fa136_2 (b := ⟨b99, 3, none⟩) Z Z) (zl (.slice e84.words.a e84.words.n e84.words.c) lo134 (H110.ob (i := 0) Z) Z (zg Z (Ex.len Tryz.underlying134 Z) (zg Z (fa136_3 (b := ⟨b99, 4, none⟩) Z Z) (zl (.slice e84.links.a e84.links.n e84.links.c) lo134 (H110.ob (i := 0) Z) Z ?_))))))))))
     refine zg Z (Ex.len Tryz.underlying134 Z) (RL.bs (cs := [(J e84.handle), (J e84.blk.at_), (J (e84.words.n : Nat)), (J (e84.links.n : Nat))]) Tryz.underlying134 Tryz.sizeOf3 ze134 Z Z Z (by decide) Z Z Z ?_)
     intro w112 b113 hb114 hz115 g116 o117
     have H118 := H110.newB g116 o117 (by omega)
     have z119 := g116.size
     obtain ⟨S124, hS125, hO126, K127⟩ := Sp.takeL (l1 := [Ae b16 166 [.slice A1 n1 c1], At 5 1 A1 n1 c1 (Db ((((Cf [rh.order, rh.next] ++ Cf [rh.t0, rh.t1, rh.t2, rh.t3]) ++ Cf [((rh.objs.n : Nat) : Int)]) ++ putObjs (h.objs.take k))))]) (l2 := [Ae b113 3 [(J e84.handle), (J e84.blk.at_), (J (e84.words.n : Nat)), (J (e84.links.n : Nat))], Ae b99 136 e84.cells, Ae b2 47 rh.cells, Bc w Bp]) (w := w112) (H118.sel [2, 3, 0, 1, 4, 5] (by decide) rfl)
     refine RL.call Tryz.call145 (outN2 _ S124 b16 n1 c1 A1 ((((Cf [rh.order, rh.next] ++ Cf [rh.t0, rh.t1, rh.t2, rh.t3]) ++ Cf [((rh.objs.n : Nat) : Int)]) ++ putObjs (h.objs.take k))) hS125 ([e84.handle, e84.blk.at_, (e84.words.n : Nat), (e84.links.n : Nat)]) _ 4 4 (RdN.of_blk hO126 (j := 0) Z (Ob.rdI (l := [e84.handle, e84.blk.at_, (e84.words.n : Nat), (e84.links.n : Nat)]) (H118.ob (i := 0) Z) Z)) (by first | rfl | assumption | omega) (by intro x hx; simp only [List.mem_cons, List.not_mem_nil, or_false] at hx; omega) (by simp only [Ap, Ar, Aq, Aj, Ai, Au, List.length_append, List.length_cons, List.length_nil, List.length_take, List.length_drop, List.length_map, Cq, Dk, Be, Bg] at *; omega)) Z Z Z ?_
     rintro _ w128 ⟨A120, n121, c122, rfl, g129, hn123⟩
     have H130 : Sp [Ae b16 166 [.slice A120 n121 c122], At 5 1 A120 n121 c122 (Db (((((Cf [rh.order, rh.next] ++ Cf [rh.t0, rh.t1, rh.t2, rh.t3]) ++ Cf [((rh.objs.n : Nat) : Int)]) ++ putObjs (h.objs.take k)) ++ Cf ([e84.handle, e84.blk.at_, (e84.words.n : Nat), (e84.links.n : Nat)])))), Ae b113 3 [(J e84.handle), (J e84.blk.at_), (J (e84.words.n : Nat)), (J (e84.links.n : Nat))], Ae b99 136 e84.cells, Ae b2 47 rh.cells, Bc w Bp] w128 := K127 _ _ g129
     have z131 := (H130.fix (i := 5) rfl).size
     refine RL.nil (thn.n (CW.seq (CW.region (zm (.pointer (some ⟨b16, 0, none⟩)) Z (zg Z (fa136_2 (b := ⟨b99, 3, none⟩) Z Z) (zl (.slice e84.words.a e84.words.n e84.words.c) lo134 (H130.ob (i := 3) Z) Z ?_))))))
     obtain ⟨S136, hS137, hO138, K139⟩ := H130.takeN 2
     refine RL.call Tryz.call146 (outI2 _ S136 b16 n121 c122 A120 (((((Cf [rh.order, rh.next] ++ Cf [rh.t0, rh.t1, rh.t2, rh.t3]) ++ Cf [((rh.objs.n : Nat) : Int)]) ++ putObjs (h.objs.take k)) ++ Cf ([e84.handle, e84.blk.at_, (e84.words.n : Nat), (e84.links.n : Nat)]))) hS137 o86.words _ e84.words.n e84.words.c (Dg hO138 (j := 3) Z oR88.rw_ (by omega)) (by first | rfl | assumption | omega) (by simp only [Ap, Ar, Aq, Aj, Ai, Au, List.length_append, List.length_cons, List.length_nil, List.length_take, List.length_drop, List.length_map, Cq, Dk, Be, Bg] at *; omega)) Z Z Z ?_
     rintro _ w140 ⟨A132, n133, c134, rfl, g141, hn135⟩
     have H142 : Sp [Ae b16 166 [.slice A132 n133 c134], At 5 1 A132 n133 c134 (Db ((((((Cf [rh.order, rh.next] ++ Cf [rh.t0, rh.t1, rh.t2, rh.t3]) ++ Cf [((rh.objs.n : Nat) : Int)]) ++ putObjs (h.objs.take k)) ++ Cf ([e84.handle, e84.blk.at_, (e84.words.n : Nat), (e84.links.n : Nat)])) ++ encW o86.words))), Ae b113 3 [(J e84.handle), (J e84.blk.at_), (J (e84.words.n : Nat)), (J (e84.links.n : Nat))], Ae b99 136 e84.cells, Ae b2 47 rh.cells, Bc w Bp] w140 := K139 _ _ g141
     have z143 := (H142.fix (i := 5) rfl).size
     refine RL.nil (thn.n (CW.region (zm (.pointer (some ⟨b16, 0, none⟩)) Z (zg Z (fa136_3 (b := ⟨b99, 4, none⟩) Z Z) (zl (.slice e84.links.a e84.links.n e84.links.c) lo134 (H142.ob (i := 3) Z) Z ?_)))))
     obtain ⟨S148, hS149, hO150, K151⟩ := H142.takeN 2
     refine RL.call Tryz.call145 (outN2 _ S148 b16 n133 c134 A132 ((((((Cf [rh.order, rh.next] ++ Cf [rh.t0, rh.t1, rh.t2, rh.t3]) ++ Cf [((rh.objs.n : Nat) : Int)]) ++ putObjs (h.objs.take k)) ++ Cf ([e84.handle, e84.blk.at_, (e84.words.n : Nat), (e84.links.n : Nat)])) ++ encW o86.words)) hS149 o86.links _ e84.links.n e84.links.c (Dg hO150 (j := 3) Z oR88.rl (by omega)) (by first | rfl | assumption | omega) (ho5) (by simp only [Ap, Ar, Aq, Aj, Ai, Au, List.length_append, List.length_cons, List.length_nil, List.length_take, List.length_drop, List.length_map, Cq, Dk, Be, Bg] at *; omega)) Z Z Z ?_
     rintro _ w152 ⟨A144, n145, c146, rfl, g153, hn147⟩
     have H154 : Sp [Ae b16 166 [.slice A144 n145 c146], At 5 1 A144 n145 c146 (Db (((((((Cf [rh.order, rh.next] ++ Cf [rh.t0, rh.t1, rh.t2, rh.t3]) ++ Cf [((rh.objs.n : Nat) : Int)]) ++ putObjs (h.objs.take k)) ++ Cf ([e84.handle, e84.blk.at_, (e84.words.n : Nat), (e84.links.n : Nat)])) ++ encW o86.words) ++ Cf o86.links))), Ae b113 3 [(J e84.handle), (J e84.blk.at_), (J (e84.words.n : Nat)), (J (e84.links.n : Nat))], Ae b99 136 e84.cells, Ae b2 47 rh.cells, Bc w Bp] w152 := K151 _ _ g153
     have z155 := (H154.fix (i := 5) rfl).size
     refine RL.nil (inB.n (thn.n (CW.region (zg Z (Ex.add (r := (k : Int) + 1) Z Z (Dd (by omega) (by omega))) (zm (J ((k : Int) + 1)) Z (RL.nil (thn.n ?_)))))))
     have H156 : Sp [Ae b16 166 [.slice A144 n145 c146], At 5 1 A144 n145 c146 (Db ((((Cf [rh.order, rh.next] ++ Cf [rh.t0, rh.t1, rh.t2, rh.t3]) ++ Cf [((rh.objs.n : Nat) : Int)]) ++ putObjs (h.objs.take (k + 1))))), Ae b113 3 [(J e84.handle), (J e84.blk.at_), (J (e84.words.n : Nat)), (J (e84.links.n : Nat))], Ae b99 136 e84.cells, Ae b2 47 rh.cells, Bc w Bp] w152 := H154.eqR (i := 1) rfl rfl (by rw [take_snoc ho87, putObjs_snoc, putObj, ← oR88.wl, ← oR88.ll, ← oR88.h, ← oR88.b]; simp only [List.append_assoc]) rfl
     refine ⟨(by repeat (first | exact Out.mix _ _ | exact Out.refl _ _ | refine Bf ?_ Z _)), _, ?_, k + 1, n145, c146, A144, Z, Z, (H156.sel [0, 1, 4, 5] (by decide) Z), by omega, by simp only [Ap, Ar, Aq, Aj, Ai, Au, List.length_append, List.length_cons, List.length_nil, List.length_take, List.length_drop, List.length_map, Cq, Dk, Be, Bg] at *; omega⟩
     omega
    ·skip
     refine RL.nil (thn.n (CW.seq (Ad Z (CW.exit (thn.x (thn.x (Bh (thn.n (CW.seq (CW.region (zm (.pointer (some ⟨b16, 0, none⟩)) Z (zg Z (Bj Z) (zg Z (fa166_0 (b := ⟨b16, 0, none⟩) Z Z) (zl (.slice A1 n1 c1) lo97 (H81.ob (i := 0) Z) Z (za (.slice A1 n1 c1) Z (za (J 0) Z (RL.nil (thn.n (CW.ret (finQ.r (v := (.tuple #[(.slice A1 n1 c1), (J 0)])) (res2 Z Z Z) ?_))))))))))))))))))))
     have hkk : h.objs.take k = h.objs := List.take_of_length_le (by omega)
     have hx : (((Cf [rh.order, rh.next] ++ Cf [rh.t0, rh.t1, rh.t2, rh.t3]) ++ Cf [((rh.objs.n : Nat) : Int)]) ++ putObjs (h.objs.take k)) = Bk h := by rw [hkk]; unfold Bk; rw [← H.order, ← H.next, ← H.tops, ← hol, ← hon]
     rw [hx] at H81
     exact ⟨_, _, _, by unfold putHeapX; rw [hbb]; rfl, by unfold putHeapX; rw [hbb]; exact (H81.sel [1, 3] (by decide) Z)⟩
set_option maxHeartbeats 1000000 in
set_option maxRecDepth 20000 in
theorem putState_ (w : World) (B : Nat) (rs : RState) (ros : List RObj) (s : State) (H : StateR w B rs ros s) (hB : B ≤ w.heap.size) : Ret Tryz.prog 74 [(.agg (rs.cells).toArray)] w (fun v w' => ∃ (A' : Option Addr) (n' c' : Nat), v = .tuple #[.slice A' n' c', .int .i64 (Dn s).2] ∧ Sp ([At 5 1 A' n' c' (Db (Dn s).1)] ++ [Bc w Bp]) w') := by
  have hrn := H.rn
  have hrm := H.rm
  have H0 : Sp [Bc w Bp] w := Bl w
  refine Ret.body Tryz.func74 Z Z Z ?_
  refine CW.seq (CW.region (RL.bx (cs := rs.cells) Z Z Z ?_))
  intro w1 b2 hb3 hz4 g5 o6
  have H7 := H0.newB g5 o6 (by omega)
  have z8 := g5.size
  refine za (.slice none 0 0) Z (za (J 0) Z (RL.nil (thn.n (CW.seq (CW.seq (CW.region (zg Z (Ag Z (Ak (cs := rs.cells) wh50 (H7.ob (i := 0) Z).cl)) (RL.call Tryz.call96 (imgCheck_ _ _ rs _ _ (H.st0 (H7.fix (i := 1) Z)) (by omega)) Z Z Z ?_))))))))
  rintro _ w9 ⟨rfl, g10⟩
  have H11 := H7.grow g10
  have z12 := g10.size
  refine za (J (if Cx s then 0 else 60)) Z (RL.nil (thn.n (CW.seq (CW.region (zm (J (if Cx s then 0 else 60)) Z ?_)))))
  refine zc (((if Cx s then 0 else 60) : Int) ≠ (0 : Int)) Z (fun r hr => Cd Z Z hr) (fun h13 => ?_) (fun h13 => ?_)
  ·skip
   refine RL.nil (thn.n (Aa Z (CW.seq (CW.region (zm (J (if Cx s then 0 else 60)) Z (za (.slice none 0 0) Z (za (J (if Cx s then 0 else 60)) Z (RL.nil (thn.n (CW.ret (thn.r (finQ.r (v := (.tuple #[(.slice none 0 0), (J (if Cx s then 0 else 60))])) (res2 Z Z Z) ?_))))))))))))
   have H14 := H11.nil_ 5 1
   have hbb : Cx s = false := by
     cases hkb : Cx s with
     | false => rfl
     | true => rw [hkb] at h13; exact absurd rfl h13
   exact ⟨none, 0, 0, by unfold Dn; rw [hbb]; rfl, by unfold Dn; rw [hbb]; exact (H14.sel [0, 2] (by decide) Z)⟩
  ·skip
   refine RL.nil (thn.n (Ad Z (CW.skip (thn.n (CW.seq (CW.region (zg Z (fa50_0 (b := ⟨b2, 0, none⟩) Z Z) (zg Z (Ag Z (Ak (cs := [(J rs.heap.order), (.slice rs.heap.objs.a rs.heap.objs.n rs.heap.objs.c), (J rs.heap.next), (J rs.heap.t0), (J rs.heap.t1), (J rs.heap.t2), (J rs.heap.t3), (.slice rs.heap.free.a rs.heap.free.n rs.heap.free.c)]) wh47 ((H11.ob (i := 0) Z).sub 0 8))) (RL.call Tryz.call77 (putHeap_ _ _ rs.heap _ _ (H.heap.st0 (H11.fix (i := 1) Z)) (by omega)) Z Z Z ?_)))))))))
   rintro _ w18 ⟨A15, n16, c17, rfl, g19⟩
   have g20 := g19.fix (i := 1) rfl
   have H21 : Sp [At 5 1 A15 n16 c17 (Db ((putHeapX s.heap).1)), Ae b2 50 rs.cells, Bc w Bp] w18 := H11.join (m := [At 5 1 A15 n16 c17 (Db ((putHeapX s.heap).1))]) g19
   have z22 := g20.size
   refine zm (.tuple #[(.slice A15 n16 c17), (J ((putHeapX s.heap).2))]) Z (zx (.slice A15 n16 c17) Z (zx (J ((putHeapX s.heap).2)) Z (za (.slice A15 n16 c17) Z (za (J ((putHeapX s.heap).2)) Z (RL.nil (thn.n (CW.seq (CW.region (zg Z (Ce (cs := [(.slice none 0 0)]) bd166 Z) (RL.bx (cs := [(.slice none 0 0)]) Z Z Z ?_))))))))))
   intro w23 b24 hb25 hz26 g27 o28
   have H29 := H21.newB g27 o28 (by omega)
   have z30 := g27.size
   refine za (.pointer (some ⟨b24, 0, none⟩)) Z (RL.nil (thn.n (CW.seq (CW.region (zm (.pointer (some ⟨b24, 0, none⟩)) Z (zm (.slice A15 n16 c17) Z ?_))))))
   have hln := H29.len (i := 1) rfl
   rw [Ap] at hln
   have hsb : Cx s = true := by
      cases hkb : Cx s with
      | true => rfl
      | false => rw [hkb] at h13; exact absurd h13 (by decide)
   have hsb2 := stateB_t hsb
   have hph : (putHeapX s.heap).1 = Bk s.heap := by unfold putHeapX; rw [if_pos hsb2.1]
   have hpl := putHeapL_len hsb2.1
   have hrl := rowsB_len (by omega) hsb2.2
   have hrr := rowsB_rng (Int.le_refl 0) hsb2.2
   rw [hph] at hln H29
   refine zg Z (Ex.b2s (bs := Bk s.heap) Tryz.underlying97 Tryz.underlying5 Tryz.underlying9 Z (H29.rowrd (i := 1) Z) (by omega)) ?_
   have htk : (Bk s.heap).take n16 = Bk s.heap := List.take_of_length_le (by omega)
   rw [htk]
   refine RL.call Tryz.call144 (putText_ _ 0 0 0 _ ([]) (Rd.nil_ _ 0 1 none) (by first | rfl | omega) (by omega) (Bk s.heap) (by omega)) Z Z Z ?_
   rintro _ w36 ⟨A31, m32, c33, rfl, g37, hm34, ow35⟩
   have H38 := H29.newR g37 ow35 (Nat.le_refl _)
   have z39 := g37.size
   refine zm (.tuple #[(.slice A31 m32 c33), (J 0)]) Z (zx (.slice A31 m32 c33) Z (zx (J 0) Z (zg Z (Bj Z) (zg Z (fa166_0 (b := ⟨b24, 0, none⟩) Z Z) (RL.st (vs := [(.slice A31 m32 c33)]) (cs' := [(.slice A31 m32 c33)]) Tryz.sizeOf97 (H38.ob (i := 1) Z) Z Z Z Z Z Z ?_)))))
   intro w40 hz41 g42 o43
   have H44 : Sp [At 5 1 A31 m32 c33 (Db (([] ++ Cq (Bk s.heap).length ++ (Bk s.heap)))), Ae b24 166 [(.slice A31 m32 c33)], At 5 1 A15 n16 c17 (Db (Bk s.heap)), Ae b2 50 rs.cells, Bc w Bp] w40 := H38.setB (i := 1) rfl g42 o43 rfl
   have z45 := g42.size
   refine RL.nil (thn.n (CW.seq (CW.region (zm (.pointer (some ⟨b24, 0, none⟩)) Z (zg Z (fa50_1 (b := ⟨b2, 8, none⟩) Z Z) (zl (.slice rs.rows.a rs.rows.n rs.rows.c) lo48 (H44.ob (i := 3) Z) Z (zg Z (Ex.len Tryz.underlying48 Z) (RL.bs (cs := [(J (rs.rows.n : Nat))]) Tryz.underlying134 Tryz.sizeOf3 ze134 Z Z Z (by decide) Z Z Z ?_))))))))
   intro w46 b47 hb48 hz49 g50 o51
   have H52 := H44.newB g50 o51 (by omega)
   have z53 := g50.size
   obtain ⟨S58, hS59, hO60, K61⟩ := Sp.takeL (l1 := [Ae b24 166 [(.slice A31 m32 c33)], At 5 1 A31 m32 c33 (Db (([] ++ Cq (Bk s.heap).length ++ (Bk s.heap))))]) (l2 := [Ae b47 3 [(J (rs.rows.n : Nat))], At 5 1 A15 n16 c17 (Db (Bk s.heap)), Ae b2 50 rs.cells, Bc w Bp]) (w := w46) (H52.sel [2, 1, 0, 3, 4, 5] (by decide) rfl)
   refine RL.call Tryz.call145 (outN2 _ S58 b24 m32 c33 A31 (([] ++ Cq (Bk s.heap).length ++ (Bk s.heap))) hS59 ([(rs.rows.n : Nat)]) _ 1 1 (RdN.of_blk hO60 (j := 0) Z (Ob.rdI (l := [(rs.rows.n : Nat)]) (H52.ob (i := 0) Z) Z)) (by first | rfl | assumption | omega) (by intro x hx; simp only [List.mem_cons, List.not_mem_nil, or_false] at hx; omega) (by simp only [Ap, Ar, Aq, Aj, Ai, Au, List.length_append, List.length_cons, List.length_nil, List.length_take, List.length_drop, List.length_map, Cq, Dk, Be, Bg] at *; omega)) Z Z Z ?_
   rintro _ w62 ⟨A54, n55, c56, rfl, g63, hn57⟩
   have H65 : Sp [Ae b24 166 [.slice A54 n55 c56], At 5 1 A54 n55 c56 (Db ((([] ++ Cq (Bk s.heap).length ++ (Bk s.heap)) ++ Cf ([(rs.rows.n : Nat)])))), Ae b47 3 [(J (rs.rows.n : Nat))], At 5 1 A15 n16 c17 (Db (Bk s.heap)), Ae b2 50 rs.cells, Bc w Bp] w62 := K61 _ _ g63
   have z66 := (H65.fix (i := 5) rfl).size
   refine RL.nil (thn.n (CW.seq (CW.seq (CW.region (zg Z (fa50_1 (b := ⟨b2, 8, none⟩) Z Z) (zl (.slice rs.rows.a rs.rows.n rs.rows.c) lo48 (H65.ob (i := 4) Z) Z (zg Z (Ex.len Tryz.underlying48 Z) (zm (J 0) Z (RL.nil (thn.n (CW.block ?_)))))))))))
   have hz0 : (([] ++ Cq (Bk s.heap).length ++ (Bk s.heap)) ++ Cf ([(rs.rows.n : Nat)])) = ((([] ++ Cq (Bk s.heap).length ++ Bk s.heap) ++ Cf [((rs.rows.n : Nat) : Int)]) ++ putRows (s.rows.take 0)) := by simp [putRows]
   refine CW.loop (fun t => Nat.beq t 9 || (Nat.ble 41 t && Nat.ble t 61)) (fun nL ρ wl => ∃ (k n1 c1 : Nat) (A1 : Option Addr), ρ 41 = (J (k : Int)) ∧ nL = rs.rows.n - k ∧ Sp [Ae b24 166 [.slice A1 n1 c1], At 5 1 A1 n1 c1 (Db (((([] ++ Cq (Bk s.heap).length ++ Bk s.heap) ++ Cf [((rs.rows.n : Nat) : Int)]) ++ putRows (s.rows.take k)))), Ae b2 50 rs.cells, Bc w Bp] wl ∧ k ≤ rs.rows.n ∧ n1 ≤ 4132 + 20 * k) (rs.rows.n) ?aa0 ?bb0
   case aa0 =>
    have H67 : Sp [Ae b24 166 [.slice A54 n55 c56], At 5 1 A54 n55 c56 (Db (((([] ++ Cq (Bk s.heap).length ++ Bk s.heap) ++ Cf [((rs.rows.n : Nat) : Int)]) ++ putRows (s.rows.take 0)))), Ae b47 3 [(J (rs.rows.n : Nat))], At 5 1 A15 n16 c17 (Db (Bk s.heap)), Ae b2 50 rs.cells, Bc w Bp] w62 := H65.eqR (i := 1) rfl rfl (congrArg Db hz0) rfl
    exact ⟨0, n55, c56, A54, Z, Z, (H67.sel [0, 1, 4, 5] (by decide) Z), Nat.zero_le _, by simp only [Ap, Ar, Aq, Aj, Ai, Au, List.length_append, List.length_cons, List.length_nil, List.length_take, List.length_drop, List.length_map, Cq, Dk, Be, Bg] at *; omega⟩
   case bb0 =>
    rintro n69 ρ0 w68 ho70 ⟨k, n1, c1, A1, hs0_41, hn0, H71, hk, hn1⟩
    obtain ⟨j0, rfl⟩ := ho70.shape1 hs0_41
    clear ho70 hs0_41
    subst hn0
    have z72 := (H71.fix (i := 3) rfl).size
    have hlen := (H71.len (i := 1) rfl)
    rw [Ap] at hlen
    refine CW.seq (CW.region ?_)
    refine zc (((k : Int) : Int) < ((rs.rows.n : Nat) : Int)) Z (fun r hr => Ex.lt Z Z hr) (fun h73 => ?_) (fun h73 => ?_)
    ·skip
     refine RL.nil (thn.n (CW.seq (Aa Z (CW.skip (thn.n (CW.seq (CW.block (CW.seq (CW.region ?_)))))))))
     obtain ⟨e74, he75⟩ : ∃ e, (s.rows)[k]? = some e := ⟨_, List.getElem?_eq_getElem (by omega)⟩
     obtain ⟨ad76, hA77⟩ := Rd.sm (H.rr.st0 (H71.fix (i := 3) rfl)) (rows_get he75)
     have hl78 := Eng.lt_len (rows_get he75)
     refine zg Z (Ck (b := (ad76.add (k * 4))) (i := k) Tryz.underlying48 Tryz.sizeOf123 (by rw [← hA77]; rfl) Z (by omega) (by omega) Z) (zg Z (Ag Z (Ak (cs := e74.cells) wh123 (Rd.cl (H.rr.st0 (H71.fix (i := 3) Z)) hA77 (rows_get he75)))) (RL.al (cs := [(J 0), (J 0), (J 0), (J 0)]) Tryz.zeroValue123 Z Z Z ?_))
     intro w79 b80 hb81 hz82 g83 o84
     have H85 := H71.newB g83 o84 (by omega)
     have z86 := g83.size
     refine RL.st (vs := e74.cells) (cs' := e74.cells) Tryz.sizeOf123 (H85.ob (i := 0) Z) Z Z Z Z Z Z ?_
     intro w87 hz88 g89 o90
     have H91 : Sp [Ae b80 123 e74.cells, Ae b24 166 [.slice A1 n1 c1], At 5 1 A1 n1 c1 (Db (((([] ++ Cq (Bk s.heap).length ++ Bk s.heap) ++ Cf [((rs.rows.n : Nat) : Int)]) ++ putRows (s.rows.take k)))), Ae b2 50 rs.cells, Bc w Bp] w87 := H85.setB (i := 0) rfl g89 o90 rfl
     have z92 := g89.size
     refine RL.nil (thn.n (CW.seq (CW.region ?_)))
     have hob := hrr e74 (List.mem_of_getElem? he75)
     refine zm (.pointer (some ⟨b24, 0, none⟩)) Z (zg Z (Dh (b := ⟨b80, 0, none⟩) Z Z) (zl (J e74.client) Bw (H91.ob (i := 0) Z) Z (zg Z (fa123_1 (b := ⟨b80, 1, none⟩) Z Z) (zl (J e74.seq) Bw (H91.ob (i := 0) Z) Z (zg Z (fa123_2 (b := ⟨b80, 2, none⟩) Z Z) (zg Z (fa55_0 (b := ⟨b80, 2, none⟩) Z Z) (zl (J e74.code) lo53 (H91.ob (i := 0) Z) Z (RL.bs (cs := [(J e74.client), (J e74.seq), (J e74.code)]) Tryz.underlying134 Tryz.sizeOf3 ze134 Z Z Z (by decide) Z Z Z ?_))))))))
     intro w93 b94 hb95 hz96 g97 o98
     have H99 := H91.newB g97 o98 (by omega)
     have z100 := g97.size
     obtain ⟨S105, hS106, hO107, K108⟩ := Sp.takeL (l1 := [Ae b24 166 [.slice A1 n1 c1], At 5 1 A1 n1 c1 (Db (((([] ++ Cq (Bk s.heap).length ++ Bk s.heap) ++ Cf [((rs.rows.n : Nat) : Int)]) ++ putRows (s.rows.take k))))]) (l2 := [Ae b94 3 [(J e74.client), (J e74.seq), (J e74.code)], Ae b80 123 e74.cells, Ae b2 50 rs.cells, Bc w Bp]) (w := w93) (H99.sel [2, 3, 0, 1, 4, 5] (by decide) rfl)
     refine RL.call Tryz.call145 (outN2 _ S105 b24 n1 c1 A1 (((([] ++ Cq (Bk s.heap).length ++ Bk s.heap) ++ Cf [((rs.rows.n : Nat) : Int)]) ++ putRows (s.rows.take k))) hS106 ([e74.client, e74.seq, e74.code]) _ 3 3 (RdN.of_blk hO107 (j := 0) Z (Ob.rdI (l := [e74.client, e74.seq, e74.code]) (H99.ob (i := 0) Z) Z)) (by first | rfl | assumption | omega) (by intro x hx; simp only [List.mem_cons, List.not_mem_nil, or_false] at hx; omega) (by simp only [Ap, Ar, Aq, Aj, Ai, Au, List.length_append, List.length_cons, List.length_nil, List.length_take, List.length_drop, List.length_map, Cq, Dk, Be, Bg] at *; omega)) Z Z Z ?_
     rintro _ w109 ⟨A101, n102, c103, rfl, g110, hn104⟩
     have H111 : Sp [Ae b24 166 [.slice A101 n102 c103], At 5 1 A101 n102 c103 (Db ((((([] ++ Cq (Bk s.heap).length ++ Bk s.heap) ++ Cf [((rs.rows.n : Nat) : Int)]) ++ putRows (s.rows.take k)) ++ Cf ([e74.client, e74.seq, e74.code])))), Ae b94 3 [(J e74.client), (J e74.seq), (J e74.code)], Ae b80 123 e74.cells, Ae b2 50 rs.cells, Bc w Bp] w109 := K108 _ _ g110
     have z112 := (H111.fix (i := 5) rfl).size
     refine RL.nil (thn.n (CW.region (zm (.pointer (some ⟨b24, 0, none⟩)) Z (zg Z (fa123_2 (b := ⟨b80, 2, none⟩) Z Z) (zg Z (fa55_1 (b := ⟨b80, 3, none⟩) Z Z) (zl (J e74.value) Bw (H111.ob (i := 3) Z) Z (RL.bs (cs := [(J e74.value)]) Tryz.underlying134 Tryz.sizeOf3 ze134 Z Z Z (by decide) Z Z Z ?_)))))))
     intro w113 b114 hb115 hz116 g117 o118
     have H119 := H111.newB g117 o118 (by omega)
     have z120 := g117.size
     obtain ⟨S125, hS126, hO127, K128⟩ := Sp.takeL (l1 := [Ae b24 166 [.slice A101 n102 c103], At 5 1 A101 n102 c103 (Db ((((([] ++ Cq (Bk s.heap).length ++ Bk s.heap) ++ Cf [((rs.rows.n : Nat) : Int)]) ++ putRows (s.rows.take k)) ++ Cf ([e74.client, e74.seq, e74.code]))))]) (l2 := [Ae b114 3 [(J e74.value)], Ae b94 3 [(J e74.client), (J e74.seq), (J e74.code)], Ae b80 123 e74.cells, Ae b2 50 rs.cells, Bc w Bp]) (w := w113) (H119.sel [1, 2, 0, 3, 4, 5, 6] (by decide) rfl)
     refine RL.call Tryz.call146 (outI2 _ S125 b24 n102 c103 A101 ((((([] ++ Cq (Bk s.heap).length ++ Bk s.heap) ++ Cf [((rs.rows.n : Nat) : Int)]) ++ putRows (s.rows.take k)) ++ Cf ([e74.client, e74.seq, e74.code]))) hS126 ([e74.value]) _ 1 1 (RdN.of_blk hO127 (j := 0) Z (Ob.rdI (l := [e74.value]) (H119.ob (i := 0) Z) Z)) (by first | rfl | assumption | omega) (by simp only [Ap, Ar, Aq, Aj, Ai, Au, List.length_append, List.length_cons, List.length_nil, List.length_take, List.length_drop, List.length_map, Cq, Dk, Be, Bg] at *; omega)) Z Z Z ?_
     rintro _ w129 ⟨A121, n122, c123, rfl, g130, hn124⟩
     have H131 : Sp [Ae b24 166 [.slice A121 n122 c123], At 5 1 A121 n122 c123 (Db (((((([] ++ Cq (Bk s.heap).length ++ Bk s.heap) ++ Cf [((rs.rows.n : Nat) : Int)]) ++ putRows (s.rows.take k)) ++ Cf ([e74.client, e74.seq, e74.code])) ++ encW ([e74.value])))), Ae b114 3 [(J e74.value)], Ae b94 3 [(J e74.client), (J e74.seq), (J e74.code)], Ae b80 123 e74.cells, Ae b2 50 rs.cells, Bc w Bp] w129 := K128 _ _ g130
     have z132 := (H131.fix (i := 6) rfl).size
     refine RL.nil (inB.n (thn.n (CW.region (zg Z (Ex.add (r := (k : Int) + 1) Z Z (Dd (by omega) (by omega))) (zm (J ((k : Int) + 1)) Z (RL.nil (thn.n ?_)))))))
     have H133 : Sp [Ae b24 166 [.slice A121 n122 c123], At 5 1 A121 n122 c123 (Db (((([] ++ Cq (Bk s.heap).length ++ Bk s.heap) ++ Cf [((rs.rows.n : Nat) : Int)]) ++ putRows (s.rows.take (k + 1))))), Ae b114 3 [(J e74.value)], Ae b94 3 [(J e74.client), (J e74.seq), (J e74.code)], Ae b80 123 e74.cells, Ae b2 50 rs.cells, Bc w Bp] w129 := H131.eqR (i := 1) rfl rfl (by rw [take_snoc he75, putRows_snoc, putRow]; simp only [List.append_assoc]) rfl
     refine ⟨(by repeat (first | exact Out.mix _ _ | exact Out.refl _ _ | refine Bf ?_ Z _)), _, ?_, k + 1, n122, c123, A121, Z, Z, (H133.sel [0, 1, 5, 6] (by decide) Z), by omega, by simp only [Ap, Ar, Aq, Aj, Ai, Au, List.length_append, List.length_cons, List.length_nil, List.length_take, List.length_drop, List.length_map, Cq, Dk, Be, Bg] at *; omega⟩
     omega
    ·skip
     refine RL.nil (thn.n (CW.seq (Ad Z (CW.exit (thn.x (thn.x (Bh (thn.n (CW.seq (CW.region (zm (.pointer (some ⟨b24, 0, none⟩)) Z (zg Z (Bj Z) (zg Z (fa166_0 (b := ⟨b24, 0, none⟩) Z Z) (zl (.slice A1 n1 c1) lo97 (H71.ob (i := 0) Z) Z (za (.slice A1 n1 c1) Z (za (J 0) Z (RL.nil (thn.n (CW.ret (finQ.r (v := (.tuple #[(.slice A1 n1 c1), (J 0)])) (res2 Z Z Z) ?_))))))))))))))))))))
     have hkk : s.rows.take k = s.rows := List.take_of_length_le (by omega)
     have hx : ((([] ++ Cq (Bk s.heap).length ++ Bk s.heap) ++ Cf [((rs.rows.n : Nat) : Int)]) ++ putRows (s.rows.take k)) = putStateL s := by rw [hkk]; unfold putStateL; rw [H.rn]; rfl
     rw [hx] at H71
     exact ⟨_, _, _, by unfold Dn; rw [hsb]; rfl, by unfold Dn; rw [hsb]; exact (H71.sel [1, 3] (by decide) Z)⟩
set_option maxHeartbeats 400000 in
set_option maxRecDepth 20000 in
theorem oplogNew_ (w : World) (o : Int) : Ret Tryz.prog 55 [(J o)] w (fun v w' => v = .tuple #[.agg [.int .i64 (newK o).2.view, .int .i64 (newK o).2.normal, .int .i64 (newK o).2.base, .string (tx (newK o).2.image), .slice none 0 0].toArray, .int .i64 (newK o).1] ∧ w.grownBy w' none) := by
  have H0 : Sp [Bc w Bp] w := Bl w
  refine Ret.body Tryz.func55 Z Z Z ?_
  refine CW.seq (CW.region (RL.al (cs := [(J 0), (J 0), (J 0), (.string (⟨#[]⟩)), (.slice none 0 0)]) Tryz.zeroValue24 Z Z Z ?_))
  intro w1 b2 hb3 hz4 g5 o6
  have H7 := H0.newB g5 o6 (by omega)
  have z8 := g5.size
  refine za (J 0) Z (RL.nil (thn.n (CW.seq (CW.region (zm (J o) Z (RL.call Tryz.call107 (tableNew_ _ o) Z Z Z ?_))))))
  rintro _ w13 (⟨rs9, rfl, g14, hw10, S11⟩ | ⟨rfl, g15, hw12⟩)
  ·skip
   have H16 := H7.newS g14 S11 (Nat.le_refl _)
   have z17 := g14.size
   refine zm (.tuple #[(.agg (rs9.cells).toArray), (J 0)]) Z (zx (.agg (rs9.cells).toArray) Z (zx (J 0) Z (RL.al (cs := zState) Tryz.zeroValue50 Z Z Z ?_)))
   intro w18 b19 hb20 hz21 g22 o23
   have H24 := H16.newB g22 o23 (by omega)
   have z25 := g22.size
   refine RL.st (vs := rs9.cells) (cs' := rs9.cells) Tryz.sizeOf50 (H24.ob (i := 0) Z) Z Z Z Z Z Z ?_
   intro w26 hz27 g28 o29
   have H30 : Sp [Ae b19 50 rs9.cells, StA rs9 [] (⟨newHeap o, []⟩), Ae b2 24 [(J 0), (J 0), (J 0), (.string (⟨#[]⟩)), (.slice none 0 0)], Bc w Bp] w26 := H24.setB (i := 0) rfl g28 o29 rfl
   have z31 := g28.size
   refine za (J 0) Z (RL.nil (thn.n (CW.seq (CW.seq (CW.region (zm (J 0) Z (zg Z (Cd (r := false) Z Z (by decide)) (RL.nil (thn.n (Ad Z (CW.skip (thn.n (CW.seq (CW.region (zg Z (Ag Z (Ak (cs := rs9.cells) wh50 (H30.ob (i := 0) Z).cl)) (RL.call Tryz.call74 (putState_ _ _ rs9 _ _ (H30.stR (i := 1) Z) (Nat.le_refl _)) Z Z Z ?_))))))))))))))))
   rintro _ w35 ⟨A32, n33, c34, rfl, g36⟩
   have g37 := g36.fix (i := 1) rfl
   have H38 : Sp [At 5 1 A32 n33 c34 (Db ((Dn (⟨newHeap o, []⟩)).1)), Ae b19 50 rs9.cells, StA rs9 [] (⟨newHeap o, []⟩), Ae b2 24 [(J 0), (J 0), (J 0), (.string (⟨#[]⟩)), (.slice none 0 0)], Bc w Bp] w35 := H30.join (m := [At 5 1 A32 n33 c34 (Db ((Dn (⟨newHeap o, []⟩)).1))]) g36
   have z39 := g37.size
   refine zm (.tuple #[(.slice A32 n33 c34), (J ((Dn (⟨newHeap o, []⟩)).2))]) Z (zx (.slice A32 n33 c34) Z (zx (J ((Dn (⟨newHeap o, []⟩)).2)) Z (za (.slice A32 n33 c34) Z (za (J ((Dn (⟨newHeap o, []⟩)).2)) Z (RL.nil (thn.n (CW.seq (CW.region (zm (.slice A32 n33 c34) Z ?_)))))))))
   have hln := H38.len (i := 0) rfl
   rw [Ap] at hln
   have hsm := newBytes_len o
   refine zg Z (Ex.b2s (bs := (Dn (⟨newHeap o, []⟩)).1) Tryz.underlying97 Tryz.underlying5 Tryz.underlying9 Z (H38.rowrd (i := 0) Z) (by omega)) ?_
   have htk : ((Dn (⟨newHeap o, []⟩)).1).take n33 = newBytes o := List.take_of_length_le (by unfold newBytes at *; omega)
   rw [htk]
   refine zg Z (Ce (cs := [(J 0), (J 0), (J 0), (.string (tx (newBytes o))), (.slice none 0 0)]) bd24 Z) (RL.st (vs := [(J 0), (J 0), (J 0), (.string (tx (newBytes o))), (.slice none 0 0)]) (cs' := [(J 0), (J 0), (J 0), (.string (tx (newBytes o))), (.slice none 0 0)]) Tryz.sizeOf24 (H38.ob (i := 3) Z) Z Z Z Z Z Z ?_)
   intro w40 hz41 g42 o43
   have H44 : Sp [At 5 1 A32 n33 c34 (Db ((Dn (⟨newHeap o, []⟩)).1)), Ae b19 50 rs9.cells, StA rs9 [] (⟨newHeap o, []⟩), Ae b2 24 [(J 0), (J 0), (J 0), (.string (tx (newBytes o))), (.slice none 0 0)], Bc w Bp] w40 := H38.setB (i := 3) rfl g42 o43 rfl
   have z45 := g42.size
   refine za (J 0) Z (RL.nil (thn.n (CW.ret (finQ.r (v := (.tuple #[(.agg ([(J 0), (J 0), (J 0), (.string (tx (newBytes o))), (.slice none 0 0)]).toArray), (J 0)])) (Dc Z (Rv.cell Z (Ak (cs := [(J 0), (J 0), (J 0), (.string (tx (newBytes o))), (.slice none 0 0)]) wh24 (H44.ob (i := 3) Z).cl)) (Rv.tmp Z)) ?_))))
   exact ⟨by unfold newK newBytes Dn; rw [if_pos hw10, if_pos (newState_ok hw10)], (H44.fix (i := 4) Z)⟩
  ·skip
   have H46 := H7.grow g15
   have z47 := g15.size
   refine zm (.tuple #[(.agg (zState).toArray), (J 1)]) Z (zx (.agg (zState).toArray) Z (zx (J 1) Z (RL.al (cs := zState) Tryz.zeroValue50 Z Z Z ?_)))
   intro w48 b49 hb50 hz51 g52 o53
   have H54 := H46.newB g52 o53 (by omega)
   have z55 := g52.size
   refine RL.st (vs := zState) (cs' := zState) Tryz.sizeOf50 (H54.ob (i := 0) Z) Z Z Z Z Z Z ?_
   intro w56 hz57 g58 o59
   have H60 : Sp [Ae b49 50 zState, Ae b2 24 [(J 0), (J 0), (J 0), (.string (⟨#[]⟩)), (.slice none 0 0)], Bc w Bp] w56 := H54.setB (i := 0) rfl g58 o59 rfl
   have z61 := g58.size
   refine za (J 1) Z (RL.nil (thn.n (CW.seq (CW.seq (CW.region (zm (J 1) Z (zg Z (Cd (r := true) Z Z (by decide)) (RL.nil (thn.n (Aa Z (CW.seq (CW.region (zg Z (Ce (cs := [(J 0), (J 0), (J 0), (.string (⟨#[]⟩)), (.slice none 0 0)]) bd24 Z) (zm (J 1) Z (RL.st (vs := [(J 0), (J 0), (J 0), (.string (⟨#[]⟩)), (.slice none 0 0)]) (cs' := [(J 0), (J 0), (J 0), (.string (⟨#[]⟩)), (.slice none 0 0)]) Tryz.sizeOf24 (H60.ob (i := 1) Z) Z Z Z Z Z Z ?_)))))))))))))))
   intro w62 hz63 g65 o66
   have H67 : Sp [Ae b49 50 zState, Ae b2 24 [(J 0), (J 0), (J 0), (.string (⟨#[]⟩)), (.slice none 0 0)], Bc w Bp] w62 := H60.setB (i := 1) rfl g65 o66 rfl
   have z68 := g65.size
   refine za (J 1) Z (RL.nil (thn.n (CW.ret (thn.r (finQ.r (v := (.tuple #[(.agg ([(J 0), (J 0), (J 0), (.string (⟨#[]⟩)), (.slice none 0 0)]).toArray), (J 1)])) (Dc Z (Rv.cell Z (Ak (cs := [(J 0), (J 0), (J 0), (.string (⟨#[]⟩)), (.slice none 0 0)]) wh24 (H67.ob (i := 1) Z).cl)) (Rv.tmp Z)) ?_)))))
   exact ⟨by unfold newK; rw [hw12]; rfl, (H67.fix (i := 2) Z)⟩
end Go.Proofs.YtfokljnhllflbaaGreat
namespace Go.Proofs.YtfokljnhllflbaaGreat
open Go Go.Eng Go.RowKit
theorem oplogNew3 {w : World} : Ret Tryz.prog 55 [.int .i64 3] w (fun v w' => v = .tuple #[.agg [.int .i64 fk0.view, .int .i64 fk0.normal, .int .i64 fk0.base, .string (tx fk0.image), .slice none 0 0].toArray, .int .i64 0] ∧ w.grownBy w' none) := by
  have h := oplogNew_ w 3
  rw [newK3] at h
  exact h
set_option maxHeartbeats 400000 in
set_option maxRecDepth 20000 in
theorem big15 (w : World) (k : Kept) (A : Option Addr) (n c : Nat) (hn : n = k.ents.length) (r : Rec) (A2 : Option Addr) (n2 c2 : Nat) (hn2 : n2 = r.ents.length) : Ret Tryz.prog 23 [(.agg ([(J k.view), (J k.normal), (J k.base), (.string (tx k.image)), (.slice A n c)]).toArray), (.agg ([(J r.kind), (J r.view), (J r.from_), (J r.number), (.string (tx r.image)), (J r.entry.num), (J r.entry.view), (J r.entry.client), (J r.entry.seq), (J r.entry.op.kind), (J r.entry.op.h), (J r.entry.op.i), (J r.entry.op.n), (J r.entry.op.k), (J r.entry.op.v), (J r.entry.op.t), (.slice A2 n2 c2)]).toArray)] w (fun v w' => v = .bool (bigK k r) ∧ w.grownBy w' none) := by
  have hti : (tx k.image).size = k.image.length := tx_size _
  have hti2 : (tx r.image).size = r.image.length := tx_size _
  have H0 : Sp [Bc w Bp] w := Bl w
  refine Ret.body Tryz.func23 Z Z Z ?_
  refine CW.seq (CW.region (RL.bx (cs := [(J k.view), (J k.normal), (J k.base), (.string (tx k.image)), (.slice A n c)]) Z Z Z ?_))
  intro w1 b2 hb3 hz4 g5 o6
  have H7 := H0.newB g5 o6 (by omega)
  have z8 := g5.size
  refine RL.bx (cs := [(J r.kind), (J r.view), (J r.from_), (J r.number), (.string (tx r.image)), (J r.entry.num), (J r.entry.view), (J r.entry.client), (J r.entry.seq), (J r.entry.op.kind), (J r.entry.op.h), (J r.entry.op.i), (J r.entry.op.n), (J r.entry.op.k), (J r.entry.op.v), (J r.entry.op.t), (.slice A2 n2 c2)]) Z Z Z ?_
  intro w9 b10 hb11 hz12 g13 o14
  have H15 := H7.newB g13 o14 (by omega)
  have z16 := g13.size
  refine za bF Z (RL.nil (thn.n (CW.seq (CW.region (zg Z (Df (b := ⟨b2, 4, none⟩) Z Z) (zl (.slice A n c) lo22 (H15.ob (i := 1) Z) Z (zg Z (Ex.len Tryz.underlying22 Z) ?_)))))))
  refine zc ((300 : Int) < ((n : Nat) : Int)) Z (fun r hr => Cv Z Z hr) (fun h17 => ?_) (fun h17 => ?_)
  ·skip
   refine zm bT Z (zo Z (zo Z (zo Z (zo Z (zT bT Z (zm bT Z (zo Z (zo Z (zo Z (zo Z ?_))))))))))
   refine zT bT Z (zm bT Z (zo Z (zo Z (zo Z (zo Z (zT bT Z (za bT Z (RL.nil (thn.n (CW.ret (finQ.r (v := bT) (Ax Z Z) ?_)))))))))))
   exact ⟨An (by unfold bigK; first | (simp; omega) | (simp only [Bool.true_eq, Bool.or_eq_true, decide_eq_true_eq]; omega) | (simp only [Bool.false_eq, Bool.or_eq_false_iff, decide_eq_false_iff_not]; omega)), (H15.fix (i := 2) Z)⟩
  ·skip
   refine zm bF Z (zg Z (fa33_6 (b := ⟨b10, 16, none⟩) Z Z) (zl (.slice A2 n2 c2) lo22 (H15.ob (i := 0) Z) Z (zg Z (Ex.len Tryz.underlying22 Z) ?_)))
   refine zc ((300 : Int) < ((n2 : Nat) : Int)) Z (fun r hr => Cv Z Z hr) (fun h18 => ?_) (fun h18 => ?_)
   ·skip
    refine zF bT Z (zm bT Z (zo Z (zo Z (zo Z (zo Z (zT bT Z (zm bT Z (zo Z (zo Z (zo Z ?_))))))))))
    refine zo Z (zT bT Z (za bT Z (RL.nil (thn.n (CW.ret (finQ.r (v := bT) (Ax Z Z) ?_))))))
    exact ⟨An (by unfold bigK; first | (simp; omega) | (simp only [Bool.true_eq, Bool.or_eq_true, decide_eq_true_eq]; omega) | (simp only [Bool.false_eq, Bool.or_eq_false_iff, decide_eq_false_iff_not]; omega)), (H15.fix (i := 2) Z)⟩
   ·skip
    refine zF bF Z (zm bF Z (zg Z (fa24_3 (b := ⟨b2, 3, none⟩) Z Z) (zl (.string (tx k.image)) lo9 (H15.ob (i := 1) Z) Z (zg Z (Ex.lenS Tryz.underlying9 Z) ?_))))
    refine zc ((100000 : Int) < (((tx k.image).size : Nat) : Int)) Z (fun r hr => Cv Z Z hr) (fun h19 => ?_) (fun h19 => ?_)
    ·skip
     refine zF bT Z (zm bT Z (zo Z (zo Z (zo Z (zo Z (zT bT Z (za bT Z (RL.nil (thn.n (CW.ret (finQ.r (v := bT) (Ax Z Z) ?_)))))))))))
     exact ⟨An (by unfold bigK; first | (simp; omega) | (simp only [Bool.true_eq, Bool.or_eq_true, decide_eq_true_eq]; omega) | (simp only [Bool.false_eq, Bool.or_eq_false_iff, decide_eq_false_iff_not]; omega)), (H15.fix (i := 2) Z)⟩
    ·skip
     refine zF bF Z (zm bF Z (zg Z (fa33_4 (b := ⟨b10, 4, none⟩) Z Z) (zl (.string (tx r.image)) lo9 (H15.ob (i := 0) Z) Z (zg Z (Ex.lenS Tryz.underlying9 Z) ?_))))
     refine zc ((100000 : Int) < (((tx r.image).size : Nat) : Int)) Z (fun r hr => Cv Z Z hr) (fun h20 => ?_) (fun h20 => ?_)
     ·skip
      refine zF bT Z (za bT Z (RL.nil (thn.n (CW.ret (finQ.r (v := bT) (Ax Z Z) ?_)))))
      exact ⟨An (by unfold bigK; first | (simp; omega) | (simp only [Bool.true_eq, Bool.or_eq_true, decide_eq_true_eq]; omega) | (simp only [Bool.false_eq, Bool.or_eq_false_iff, decide_eq_false_iff_not]; omega)), (H15.fix (i := 2) Z)⟩
     ·skip
      refine zF bF Z (za bF Z (RL.nil (thn.n (CW.ret (finQ.r (v := bF) (Ax Z Z) ?_)))))
      exact ⟨An (by unfold bigK; first | (simp; omega) | (simp only [Bool.true_eq, Bool.or_eq_true, decide_eq_true_eq]; omega) | (simp only [Bool.false_eq, Bool.or_eq_false_iff, decide_eq_false_iff_not]; omega)), (H15.fix (i := 2) Z)⟩
end Go.Proofs.YtfokljnhllflbaaGreat
namespace Go.Eng
open Go Go.RowKit
def laidC (e : Entry) : List Value := [.int .i64 2, .int .i64 0, .int .i64 0, .int .i64 0, .string ⟨#[]⟩, .int .i64 e.num, .int .i64 e.view, .int .i64 e.client, .int .i64 e.seq, .int .i64 e.op.kind, .int .i64 e.op.h, .int .i64 e.op.i, .int .i64 e.op.n, .int .i64 e.op.k, .int .i64 e.op.v, .int .i64 e.op.t, .slice none 0 0]
def recsE (l : List Entry) : List (List Value) := l.map laidC
theorem Cw (l : List Entry) : (recsE l).length = l.length := by simp [recsE]
theorem recsE_get {l : List Entry} {k : Nat} {b : Entry} (h : l[k]? = some b) : (recsE l)[k]? = some (laidC b) := by simp [recsE, h]
theorem recsE_one (l : List Entry) : ∀ u ∈ (recsE l).flatten, Value.oneCell' u = true := one_map (by intro x u hu; simp [laidC] at hu; rcases hu with rfl | rfl | rfl | rfl | rfl | rfl | rfl | rfl | rfl | rfl | rfl | rfl | rfl | rfl | rfl <;> rfl) l
theorem recsE_app (l m : List Entry) : recsE (l ++ m) = recsE l ++ recsE m := by simp [recsE]
def Co (k : Kept) (number : Int) (l : List Entry) : List Entry × Bool :=
  if Cj k = true ∧ 0 ≤ number ∧ number ≤ lastOf k ∧ follB l number = true then (l.filter (fun e => decide (lastOf k < e.num)), true) else ([], false)
theorem filter_snoc {α : Type} {p : α → Bool} {l : List α} {k : Nat} {x : α} (h : l[k]? = some x) : (l.take (k + 1)).filter p = (l.take k).filter p ++ (if p x then [x] else []) := by
  rw [take_snoc h, List.filter_append]
  congr 1
  cases hp : p x <;> simp [List.filter, hp]
end Go.Eng
namespace Go.Eng
def fk3 : Kept := (foldK fk2 (laidR 3)).2
def jl34 : List Entry := [entR 3, entR 4]
theorem joins_e : Co fk3 2 jl34 = ([entR 4], true) := by decide +kernel
theorem joins_n : Co fk3 4 [] = ([], false) := by decide +kernel
end Go.Eng
namespace Go.Proofs.YtfokljnhllflbaaGreat
open Go Go.Eng Go.RowKit
set_option maxHeartbeats 400000 in
set_option maxRecDepth 20000 in
theorem prow (w : World) (B : Nat) (l : List Entry) (A : Option Addr) (n c : Nat) (fr : Int) (hr : Rd w B 11 A (ents l)) (hB : B ≤ w.heap.size) (hn : n = l.length) (hm : n ≤ 1099511627776) : Ret Tryz.prog 128 [(.slice A n c), (J fr)] w (fun v w' => v = .bool (follB l fr) ∧ w.grownBy w' none) := by
  have H0 : Sp [Bc w Bp] w := Bl w
  refine Ret.body Tryz.func128 Z Z Z ?_
  refine CW.seq (CW.region (za bF Z (RL.nil (thn.n (CW.seq (CW.seq (CW.region (zm (.slice A n c) Z (zg Z (Ex.len Tryz.underlying22 Z) (zm (J 0) Z (RL.nil (thn.n (CW.block ?_)))))))))))))
  refine CW.loop (fun t => (Nat.ble 4 t && Nat.ble t 6) || (Nat.ble 9 t && Nat.ble t 21)) (fun nL ρ wl => ∃ (k : Nat), ρ 9 = (J (k : Int)) ∧ nL = n - k ∧ Sp [Bc w Bp] wl ∧ k ≤ n ∧ follB (l.take k) fr = true) (n) ?aa0 ?bb0
  case aa0 =>
   exact ⟨0, Z, Z, H0, Nat.zero_le _, Z⟩
  case bb0 =>
   rintro n2 ρ0 w1 ho3 ⟨k, hs0_9, hn0, H4, hk, hf⟩
   obtain ⟨j0, rfl⟩ := ho3.shape1 hs0_9
   clear ho3 hs0_9
   subst hn0
   have z5 := (H4.fix (i := 0) rfl).size
   refine CW.seq (CW.region ?_)
   refine zc (((k : Int) : Int) < ((n : Nat) : Int)) Z (fun r hr => Ex.lt Z Z hr) (fun h6 => ?_) (fun h6 => ?_)
   ·skip
    refine RL.nil (thn.n (CW.seq (Aa Z (CW.skip (thn.n (CW.seq (CW.block (CW.seq (CW.region (zm (J (k : Int)) Z ?_))))))))))
    obtain ⟨e7, he8⟩ : ∃ e, (l)[k]? = some e := ⟨_, List.getElem?_eq_getElem (by omega)⟩
    obtain ⟨ad9, hA10⟩ := Rd.sm (hr.st0 (H4.fix (i := 0) rfl)) (Bt he8)
    have hl11 := Eng.lt_len (Bt he8)
    refine zg Z (Ck (b := (ad9.add (k * 11))) (i := k) Tryz.underlying22 Tryz.sizeOf31 (by rw [← hA10]; rfl) Z (by omega) (by omega) Z) (zg Z (Ag Z (Ak (cs := e7.cells) wh31 (Rd.cl (hr.st0 (H4.fix (i := 0) Z)) hA10 (Bt he8)))) (RL.al (cs := [(J 0), (J 0), (J 0), (J 0), (J 0), (J 0), (J 0), (J 0), (J 0), (J 0), (J 0)]) Tryz.zeroValue31 Z Z Z ?_))
    intro w12 b13 hb14 hz15 g16 o17
    have H18 := H4.newB g16 o17 (by omega)
    have z19 := g16.size
    refine za (J (k : Int)) Z (RL.st (vs := e7.cells) (cs' := e7.cells) Tryz.sizeOf31 (H18.ob (i := 0) Z) Z Z Z Z Z Z ?_)
    intro w20 hz21 g22 o23
    have H24 : Sp [Ae b13 31 e7.cells, Bc w Bp] w20 := H18.setB (i := 0) rfl g22 o23 rfl
    have z25 := g22.size
    refine RL.nil (thn.n (CW.seq (CW.region (zg Z (fa31_0 (b := ⟨b13, 0, none⟩) Z Z) (zl (J e7.num) Bw (H24.ob (i := 0) Z) Z (zg Z (Ci (r := IntKind.i64.wrap (e7.num - 1)) Z Z Z) (zm (J (k : Int)) Z (zg Z (Ci (r := IntKind.i64.wrap ((IntKind.i64.wrap (e7.num - 1)) - (k : Int))) Z Z Z) (zm (J fr) Z ?_)))))))))
    refine zc ((IntKind.i64.wrap ((IntKind.i64.wrap (e7.num - 1)) - (k : Int)) : Int) ≠ (fr : Int)) Z (fun r hr => Cd Z Z hr) (fun h26 => ?_) (fun h26 => ?_)
    ·skip
     refine RL.nil (thn.n (Aa Z (CW.seq (CW.region (za bF Z (RL.nil (thn.n (CW.ret (inB.r (thn.r (thn.r (inB.r (thn.r (finQ.r (v := bF) (Ax Z Z) ?_))))))))))))))
     exact ⟨An (by unfold follB; rw [allI_stop he8 0]; simpa using h26), (H24.fix (i := 1) Z)⟩
    ·skip
     refine RL.nil (thn.n (Ad Z (CW.skip (inB.n (thn.n (CW.region (zg Z (Ex.add (r := (k : Int) + 1) Z Z (Dd (by omega) (by omega))) (zm (J ((k : Int) + 1)) Z (RL.nil (thn.n ?_))))))))))
     refine ⟨(by repeat (first | exact Out.mix _ _ | exact Out.refl _ _ | refine Bf ?_ Z _)), _, ?_, k + 1, Z, Z, (H24.sel [1] (by decide) Z), by omega, by unfold follB at *; rw [allI_take he8 0, hf]; simp only [Nat.zero_add, Bool.true_and, decide_eq_true_eq]; exact Decidable.not_not.1 h26⟩
     omega
   ·skip
    refine RL.nil (thn.n (CW.seq (Ad Z (CW.exit (thn.x (thn.x (Bh (thn.n (CW.seq (CW.region (za bT Z (RL.nil (thn.n (CW.ret (finQ.r (v := bT) (Ax Z Z) ?_)))))))))))))))
    exact ⟨An (by rw [← hf, List.take_of_length_le (by omega)]), (H4.fix (i := 0) Z)⟩
set_option maxHeartbeats 1000000 in
set_option maxRecDepth 20000 in
theorem join_ (w : World) (B : Nat) (k : Kept) (A : Option Addr) (n c : Nat) (hr : Rd w B 11 A (ents k.ents)) (hB : B ≤ w.heap.size) (hn : n = k.ents.length) (hm : n ≤ 1099511627776) (hc : n ≤ c) (hi : k.image.length ≤ 140737488351232) (number : Int) (l : List Entry) (A2 : Option Addr) (n2 c2 : Nat) (hr2 : Rd w B 11 A2 (ents l)) (hn2 : n2 = l.length) (hm2 : n2 ≤ 1000000) : Ret Tryz.prog 63 [(.agg ([(J k.view), (J k.normal), (J k.base), (.string (tx k.image)), (.slice A n c)]).toArray), (J number), (.slice A2 n2 c2)] w (fun v w' => ∃ (A' : Option Addr) (n' c' : Nat), v = .tuple #[.slice A' n' c', .bool (Co k number l).2] ∧ Sp ([At 33 17 A' n' c' (recsE (Co k number l).1)] ++ [Bc w Bp]) w') := by
  have H0 : Sp [Bc w Bp] w := Bl w
  refine Ret.body Tryz.func63 Z Z Z ?_
  refine CW.seq (CW.region (RL.bx (cs := [(J k.view), (J k.normal), (J k.base), (.string (tx k.image)), (.slice A n c)]) Z Z Z ?_))
  intro w1 b2 hb3 hz4 g5 o6
  have H7 := H0.newB g5 o6 (by omega)
  have z8 := g5.size
  refine za (.slice none 0 0) Z (za bF Z (RL.nil (thn.n (CW.seq (CW.region (zg Z (Ag Z (Ak (cs := [(J k.view), (J k.normal), (J k.base), (.string (tx k.image)), (.slice A n c)]) wh24 (H7.ob (i := 0) Z).cl)) (RL.call Tryz.call62 (Last_ _ _ _ k (KeptR.of (k := k) (n := n) (c := c) (hr.st0 (H7.fix (i := 1) Z)) (by show n = (k.ents).length; (try simp only [List.length_append, List.length_cons, List.length_nil, List.length_take, List.length_drop]); all_goals omega) (by omega) (by omega) (by first | assumption | (show List.length _ ≤ _; first | assumption | decide | omega))) (by omega)) Z Z Z ?_)))))))
  rintro _ w9 ⟨rfl, g10⟩
  have H11 := H7.grow g10
  have z12 := g10.size
  refine za (J (lastOf k)) Z (RL.nil (thn.n (CW.seq (CW.seq (CW.region (zg Z (Ag Z (Ak (cs := [(J k.view), (J k.normal), (J k.base), (.string (tx k.image)), (.slice A n c)]) wh24 (H11.ob (i := 0) Z).cl)) (RL.call Tryz.call57 (opCheck_ _ _ _ k (KeptR.of (k := k) (n := n) (c := c) (hr.st0 (H11.fix (i := 1) Z)) (by show n = (k.ents).length; (try simp only [List.length_append, List.length_cons, List.length_nil, List.length_take, List.length_drop]); all_goals omega) (by omega) (by omega) (by first | assumption | (show List.length _ ≤ _; first | assumption | decide | omega))) (by omega)) Z Z Z ?_)))))))
  rintro _ w13 ⟨rfl, g14⟩
  have H15 := H11.grow g14
  have z16 := g14.size
  refine zc (((if Cj k then 0 else 1) : Int) ≠ (0 : Int)) Z (fun r hr => Cd Z Z hr) (fun h17 => ?_) (fun h17 => ?_)
  ·skip
   refine zm bT Z (zo Z (zo Z (zT bT Z (zm bT Z (zo Z (zo Z (zo Z (zT bT Z (zm bT Z (zo Z ?_))))))))))
   refine zo Z (zo Z (zo Z (zT bT Z (RL.nil (thn.n (Aa Z (CW.seq (CW.region (za (.slice none 0 0) Z (za bF Z (RL.nil (thn.n (CW.ret (thn.r (finQ.r (v := (.tuple #[(.slice none 0 0), bF])) (res2 Z Z Z) ?_)))))))))))))))
   have H18 := H15.nil_ 33 17
   have hx : Co k number l = ([], false) := by
     unfold Co
     rw [if_neg]
     rintro ⟨q1, q2, q3, q4⟩
     first | (rw [q1] at h17; exact absurd rfl h17) | omega | (rw [q4] at h17; cases h17)
   exact ⟨none, 0, 0, by rw [hx], by rw [hx]; exact (H18.sel [0, 2] (by decide) Z)⟩
  ·skip
   refine zm bF Z (zm (J number) Z ?_)
   refine zc ((number : Int) < (0 : Int)) Z (fun r hr => Ex.lt Z Z hr) (fun h19 => ?_) (fun h19 => ?_)
   ·skip
    refine zF bT Z (zm bT Z (zo Z (zo Z (zo Z (zT bT Z (zm bT Z (zo Z (zo Z (zo Z (zo Z ?_))))))))))
    refine zT bT Z (RL.nil (thn.n (Aa Z (CW.seq (CW.region (za (.slice none 0 0) Z (za bF Z (RL.nil (thn.n (CW.ret (thn.r (finQ.r (v := (.tuple #[(.slice none 0 0), bF])) (res2 Z Z Z) ?_))))))))))))
    have H20 := H15.nil_ 33 17
    have hx : Co k number l = ([], false) := by
      unfold Co
      rw [if_neg]
      rintro ⟨q1, q2, q3, q4⟩
      first | (rw [q1] at h17; exact absurd rfl h17) | omega | (rw [q4] at h19; cases h19)
    exact ⟨none, 0, 0, by rw [hx], by rw [hx]; exact (H20.sel [0, 2] (by decide) Z)⟩
   ·skip
    refine zF bF Z (zm bF Z (zm (J number) Z (zm (J (lastOf k)) Z ?_)))
    refine zc (((lastOf k) : Int) < (number : Int)) Z (fun r hr => Cv Z Z hr) (fun h21 => ?_) (fun h21 => ?_)
    ·skip
     refine zF bT Z (zm bT Z (zo Z (zo Z (zo Z (zo Z (zT bT Z (RL.nil (thn.n (Aa Z (CW.seq (CW.region (za (.slice none 0 0) Z (za bF Z (RL.nil (thn.n (CW.ret (thn.r ?_)))))))))))))))))
     refine finQ.r (v := (.tuple #[(.slice none 0 0), bF])) (res2 Z Z Z) ?_
     have H22 := H15.nil_ 33 17
     have hx : Co k number l = ([], false) := by
       unfold Co
       rw [if_neg]
       rintro ⟨q1, q2, q3, q4⟩
       first | (rw [q1] at h17; exact absurd rfl h17) | omega | (rw [q4] at h21; cases h21)
     exact ⟨none, 0, 0, by rw [hx], by rw [hx]; exact (H22.sel [0, 2] (by decide) Z)⟩
    ·skip
     refine zF bF Z (zm bF Z (zm (.slice A2 n2 c2) Z (zm (J number) Z (RL.call Tryz.call128 (prow _ _ l A2 n2 c2 number (hr2.st0 (H15.fix (i := 1) Z)) (by omega) (by first | rfl | assumption | omega) (by omega)) Z Z Z ?_))))
     rintro _ w23 ⟨rfl, g24⟩
     have H25 := H15.grow g24
     have z26 := g24.size
     rcases hb27 : (follB l number) with _ | _
     ·skip
      refine zg Z (Ex.not (b := false) Z) (zF bT Z (RL.nil (thn.n (Aa Z (CW.seq (CW.region (za (.slice none 0 0) Z (za bF Z (RL.nil (thn.n (CW.ret (thn.r (finQ.r (v := (.tuple #[(.slice none 0 0), bF])) (res2 Z Z Z) ?_)))))))))))))
      have H28 := H25.nil_ 33 17
      have hx : Co k number l = ([], false) := by
        unfold Co
        rw [if_neg]
        rintro ⟨q1, q2, q3, q4⟩
        first | (rw [q1] at h17; exact absurd rfl h17) | omega | (rw [q4] at hb27; cases hb27)
      exact ⟨none, 0, 0, by rw [hx], by rw [hx]; exact (H28.sel [0, 2] (by decide) Z)⟩
     ·skip
      refine zg Z (Ex.not (b := true) Z) (zF bF Z (RL.nil (thn.n (Ad Z (CW.skip (thn.n (CW.seq (CW.region (za (.slice none 0 0) Z (RL.nil (thn.n (CW.seq (CW.seq (CW.region (zm (.slice A2 n2 c2) Z (zg Z (Ex.len Tryz.underlying22 Z) (zm (J 0) Z (RL.nil (thn.n (CW.block ?_))))))))))))))))))))
      have H29 := H25.nil_ 33 17
      refine CW.loop (fun t => Nat.beq t 9 || Nat.beq t 11 || (Nat.ble 34 t && Nat.ble t 47)) (fun nL ρ wl => ∃ (k1 n1 c1 : Nat) (A1 : Option Addr), ρ 34 = (J (k1 : Int)) ∧ ρ 9 = (.slice A1 n1 c1) ∧ nL = n2 - k1 ∧ Sp [At 33 17 A1 n1 c1 (recsE (((l.take k1).filter (fun e => decide (lastOf k < e.num))))), Bc w Bp] wl ∧ k1 ≤ n2 ∧ n1 ≤ k1) (n2) ?aa0 ?bb0
      case aa0 =>
       exact ⟨0, 0, 0, none, Z, Z, Z, (H29.sel [0, 2] (by decide) Z), Nat.zero_le _, Nat.le_refl _⟩
      case bb0 =>
       rintro n31 ρ0 w30 ho32 ⟨k1, n1, c1, A1, hs0_34, hs0_9, hn0, H33, hk1, hn1⟩
       obtain ⟨j0, rfl⟩ := ho32.shape2 hs0_34 hs0_9
       clear ho32 hs0_34 hs0_9
       subst hn0
       have z34 := (H33.fix (i := 1) rfl).size
       refine CW.seq (CW.region ?_)
       refine zc (((k1 : Int) : Int) < ((n2 : Nat) : Int)) Z (fun r hr => Ex.lt Z Z hr) (fun h35 => ?_) (fun h35 => ?_)
       ·skip
        refine RL.nil (thn.n (CW.seq (Aa Z (CW.skip (thn.n (CW.seq (CW.block (CW.seq (CW.region ?_)))))))))
        obtain ⟨e36, he37⟩ : ∃ e, (l)[k1]? = some e := ⟨_, List.getElem?_eq_getElem (by omega)⟩
        obtain ⟨ad38, hA39⟩ := Rd.sm (hr2.st0 (H33.fix (i := 1) rfl)) (Bt he37)
        have hl40 := Eng.lt_len (Bt he37)
        refine zg Z (Ck (b := (ad38.add (k1 * 11))) (i := k1) Tryz.underlying22 Tryz.sizeOf31 (by rw [← hA39]; rfl) Z (by omega) (by omega) Z) (zg Z (Ag Z (Ak (cs := e36.cells) wh31 (Rd.cl (hr2.st0 (H33.fix (i := 1) Z)) hA39 (Bt he37)))) (RL.al (cs := [(J 0), (J 0), (J 0), (J 0), (J 0), (J 0), (J 0), (J 0), (J 0), (J 0), (J 0)]) Tryz.zeroValue31 Z Z Z ?_))
        intro w41 b42 hb43 hz44 g45 o46
        have H47 := H33.newB g45 o46 (by omega)
        have z48 := g45.size
        refine RL.st (vs := e36.cells) (cs' := e36.cells) Tryz.sizeOf31 (H47.ob (i := 0) Z) Z Z Z Z Z Z ?_
        intro w49 hz50 g51 o52
        have H53 : Sp [Ae b42 31 e36.cells, At 33 17 A1 n1 c1 (recsE (((l.take k1).filter (fun e => decide (lastOf k < e.num))))), Bc w Bp] w49 := H47.setB (i := 0) rfl g51 o52 rfl
        have z54 := g51.size
        refine RL.nil (thn.n (CW.seq (CW.region (zg Z (fa31_0 (b := ⟨b42, 0, none⟩) Z Z) (zl (J e36.num) Bw (H53.ob (i := 0) Z) Z (zm (J (lastOf k)) Z ?_))))))
        refine zc (((lastOf k) : Int) < (e36.num : Int)) Z (fun r hr => Cv Z Z hr) (fun h55 => ?_) (fun h55 => ?_)
        ·skip
         refine RL.nil (thn.n (Aa Z (CW.region (zm (.slice A1 n1 c1) Z (zg Z (Ag Z (Ak (cs := e36.cells) wh31 (H53.ob (i := 0) Z).cl)) (zg Z (Ce (cs := [(J 2), (J 0), (J 0), (J 0), (.string (⟨#[]⟩)), (J e36.num), (J e36.view), (J e36.client), (J e36.seq), (J e36.op.kind), (J e36.op.h), (J e36.op.i), (J e36.op.n), (J e36.op.k), (J e36.op.v), (J e36.op.t), (.slice none 0 0)]) bd33 Z) (RL.bs (cs := [(J 2), (J 0), (J 0), (J 0), (.string (⟨#[]⟩)), (J e36.num), (J e36.view), (J e36.client), (J e36.seq), (J e36.op.kind), (J e36.op.h), (J e36.op.i), (J e36.op.n), (J e36.op.k), (J e36.op.v), (J e36.op.t), (.slice none 0 0)]) Tryz.underlying84 Tryz.sizeOf33 ze84 Z Z Z (by decide) Z Z Z ?_)))))))
         intro w56 b57 hb58 hz59 g60 o61
         have H62 := H53.newB g60 o61 (by omega)
         have z63 := g60.size
         refine RL.apW (base := 0) (xss := (recsE (((l.take k1).filter (fun e => decide (lastOf k < e.num)))))) (yss := (recsE ([e36]))) el84 (H62.wr (i := 2) Z) Z (Do (H62.ob (i := 0) Z) Z) Z (by simp only [Ap, Ar, Aq, Aj, Ai, Au, List.length_append, List.length_cons, List.length_nil, List.length_take, List.length_drop, List.length_map, Cq, Dk, Be, Bg, Cw]; try omega) (recsE_one _) (by omega) (by omega) (by omega) Z Z ?_
         intro w65 A66 c67 g68 ow69 nx70
         have H71 : Sp [Ae b57 33 [(J 2), (J 0), (J 0), (J 0), (.string (⟨#[]⟩)), (J e36.num), (J e36.view), (J e36.client), (J e36.seq), (J e36.op.kind), (J e36.op.h), (J e36.op.i), (J e36.op.n), (J e36.op.k), (J e36.op.v), (J e36.op.t), (.slice none 0 0)], Ae b42 31 e36.cells, At 33 17 A66 (n1 + 1) c67 (recsE (((l.take k1).filter (fun e => decide (lastOf k < e.num))) ++ [e36])), Bc w Bp] w65 := H62.setR (i := 2) rfl g68 ((recsE_app _ _).symm ▸ ow69) nx70 rfl
         have z72 := g68.size
         refine za (.slice A66 (n1 + 1) c67) Z (RL.nil (inB.n (thn.n (CW.region (zg Z (Ex.add (r := (k1 : Int) + 1) Z Z (Dd (by omega) (by omega))) (zm (J ((k1 : Int) + 1)) Z (RL.nil (thn.n ?_))))))))
         have H73 : Sp [Ae b57 33 [(J 2), (J 0), (J 0), (J 0), (.string (⟨#[]⟩)), (J e36.num), (J e36.view), (J e36.client), (J e36.seq), (J e36.op.kind), (J e36.op.h), (J e36.op.i), (J e36.op.n), (J e36.op.k), (J e36.op.v), (J e36.op.t), (.slice none 0 0)], Ae b42 31 e36.cells, At 33 17 A66 (n1 + 1) c67 (recsE (((l.take (k1 + 1)).filter (fun e => decide (lastOf k < e.num))))), Bc w Bp] w65 := H71.eqR (i := 2) rfl rfl (by rw [filter_snoc he37, if_pos (by simpa using h55)]) rfl
         refine ⟨(by repeat (first | exact Out.mix _ _ | exact Out.refl _ _ | refine Bf ?_ Z _)), _, ?_, k1 + 1, n1 + 1, c67, A66, Z, Z, Z, (H73.sel [2, 3] (by decide) Z), by omega, by omega⟩
         omega
        ·skip
         refine RL.nil (thn.n (Ad Z (CW.skip (inB.n (thn.n (CW.region (zg Z (Ex.add (r := (k1 : Int) + 1) Z Z (Dd (by omega) (by omega))) (zm (J ((k1 : Int) + 1)) Z (RL.nil (thn.n ?_))))))))))
         have H74 : Sp [Ae b42 31 e36.cells, At 33 17 A1 n1 c1 (recsE (((l.take (k1 + 1)).filter (fun e => decide (lastOf k < e.num))))), Bc w Bp] w49 := H53.eqR (i := 1) rfl rfl (by rw [filter_snoc he37, if_neg (by simpa using h55), List.append_nil]) rfl
         refine ⟨(by repeat (first | exact Out.mix _ _ | exact Out.refl _ _ | refine Bf ?_ Z _)), _, ?_, k1 + 1, n1, c1, A1, Z, Z, Z, (H74.sel [1, 2] (by decide) Z), by omega, by omega⟩
         omega
       ·skip
        refine RL.nil (thn.n (CW.seq (Ad Z (CW.exit (thn.x (thn.x (Bh (thn.n (CW.seq (CW.region (zm (.slice A1 n1 c1) Z (za (.slice A1 n1 c1) Z (za bT Z (RL.nil (thn.n (CW.ret (finQ.r (v := (.tuple #[(.slice A1 n1 c1), bT])) (res2 Z Z Z) ?_)))))))))))))))))
        have hkk : l.take k1 = l := List.take_of_length_le (by omega)
        have hkb : Cj k = true := by
                cases hkc : Cj k with
                | true => rfl
                | false => rw [hkc] at h17; exact absurd h17 (by decide)
        have hx : Co k number l = (l.filter (fun e => decide (lastOf k < e.num)), true) := by
                unfold Co
                rw [if_pos ⟨hkb, by omega, by omega, hb27⟩]
        rw [hkk] at H33
        exact ⟨_, _, _, by rw [hx], by rw [hx]; exact (H33.sel [0, 1] (by decide) Z)⟩
set_option maxHeartbeats 1000000 in
set_option maxRecDepth 20000 in
theorem kept3 (w : World)  : Ret Tryz.prog 129 [(J 3)] w (fun v w' => ∃ (A' : Option Addr) (n' c' : Nat), v = .agg [.int .i64 fk3.view, .int .i64 fk3.normal, .int .i64 fk3.base, .string (tx fk3.image), .slice A' n' c'].toArray ∧ Sp ([At 31 11 A' n' c' (ents fk3.ents)] ++ [Bc w Bp]) w') := by
  have H0 : Sp [Bc w Bp] w := Bl w
  refine Ret.body Tryz.func129 Z Z Z ?_
  refine CW.seq (CW.region (RL.al (cs := [(J 0), (J 0), (J 0), (.string (⟨#[]⟩)), (.slice none 0 0)]) Tryz.zeroValue24 Z Z Z ?_))
  intro w1 b2 hb3 hz4 g5 o6
  have H7 := H0.newB g5 o6 (by omega)
  have z8 := g5.size
  refine RL.nil (thn.n (CW.seq (CW.region (RL.call Tryz.call55 (oplogNew3) Z Z Z ?_))))
  rintro _ w9 ⟨rfl, g10⟩
  have H11 := H7.grow g10
  have z12 := g10.size
  refine zm (.tuple #[(.agg ([(J fk0.view), (J fk0.normal), (J fk0.base), (.string (tx fk0.image)), (.slice none 0 0)]).toArray), (J 0)]) Z (zx (.agg ([(J fk0.view), (J fk0.normal), (J fk0.base), (.string (tx fk0.image)), (.slice none 0 0)]).toArray) Z (zx (J 0) Z (RL.al (cs := [(J 0), (J 0), (J 0), (.string (⟨#[]⟩)), (.slice none 0 0)]) Tryz.zeroValue24 Z Z Z ?_)))
  intro w13 b14 hb15 hz16 g17 o18
  have H19 := H11.newB g17 o18 (by omega)
  have z20 := g17.size
  refine RL.st (vs := [(J fk0.view), (J fk0.normal), (J fk0.base), (.string (tx fk0.image)), (.slice none 0 0)]) (cs' := [(J fk0.view), (J fk0.normal), (J fk0.base), (.string (tx fk0.image)), (.slice none 0 0)]) Tryz.sizeOf24 (H19.ob (i := 0) Z) Z Z Z Z Z Z ?_
  intro w21 hz22 g23 o24
  have H25 : Sp [Ae b14 24 [(J fk0.view), (J fk0.normal), (J fk0.base), (.string (tx fk0.image)), (.slice none 0 0)], Ae b2 24 [(J 0), (J 0), (J 0), (.string (⟨#[]⟩)), (.slice none 0 0)], Bc w Bp] w21 := H19.setB (i := 0) rfl g23 o24 rfl
  have z26 := g23.size
  refine za (J 0) Z (RL.nil (thn.n (CW.seq (CW.seq (CW.region (za (J 1) Z (RL.nil (thn.n (CW.block (CW.unroll (Cs (CW.seq (CW.seq (CW.region (zm (J 1) Z (zm (J 3) Z (zg Z (Ex.le (r := true) Z Z (by decide)) ?_)))))))))))))))))
  refine RL.nil (thn.n (Aa Z (CW.skip (thn.n (CW.seq (CW.block (CW.seq (CW.region (zg Z (Ag Z (Ak (cs := [(J fk0.view), (J fk0.normal), (J fk0.base), (.string (tx fk0.image)), (.slice none 0 0)]) wh24 (H25.ob (i := 0) Z).cl)) (zm (J 1) Z (zg Z (Ce (cs := [(J 1), (J 0), (J 0), (J 0), (J 0), (J 0), (J 0), (J 0), (J 0), (J 0), (J 0)]) bd31 Z) (zg Z (Ce (cs := [(J 2), (J 0), (J 0), (J 0), (.string (⟨#[]⟩)), (J 1), (J 0), (J 0), (J 0), (J 0), (J 0), (J 0), (J 0), (J 0), (J 0), (J 0), (.slice none 0 0)]) bd33 Z) (RL.call Tryz.call40 (Fold_ _ w21.heap.size fk0 none 0 0 (Rd.nil_ _ _ 11 none) (by omega) (by first | assumption | rfl | omega | decide +kernel) (by first | assumption | rfl | omega | decide +kernel) (by first | assumption | rfl | omega | decide +kernel) (by first | assumption | rfl | omega | decide +kernel) (laidR 1) none 0 0 ((Rd.nil_ _ _ 11 none)) (by first | assumption | rfl | omega | decide +kernel) (by first | assumption | rfl | omega | decide +kernel) (by first | assumption | rfl | omega | decide +kernel) (by first | assumption | rfl | omega | decide +kernel)) Z Z Z ?_)))))))))))))
  rintro _ w30 ⟨A27, n28, c29, rfl, g31⟩
  have g32 := g31.fix (i := 1) rfl
  have H33 : Sp [At 31 11 A27 n28 c29 (ents fk1.ents), Ae b14 24 [(J fk0.view), (J fk0.normal), (J fk0.base), (.string (tx fk0.image)), (.slice none 0 0)], Ae b2 24 [(J 0), (J 0), (J 0), (.string (⟨#[]⟩)), (.slice none 0 0)], Bc w Bp] w30 := H25.join (m := [At 31 11 A27 n28 c29 (ents fk1.ents)]) g31
  have z34 := g32.size
  refine zm (.tuple #[(.agg ([(J fk1.view), (J fk1.normal), (J fk1.base), (.string (tx fk1.image)), (.slice A27 n28 c29)]).toArray), (J ((foldK fk0 (laidR 1)).1))]) Z (zx (.agg ([(J fk1.view), (J fk1.normal), (J fk1.base), (.string (tx fk1.image)), (.slice A27 n28 c29)]).toArray) Z (zx (J ((foldK fk0 (laidR 1)).1)) Z (RL.al (cs := [(J 0), (J 0), (J 0), (.string (⟨#[]⟩)), (.slice none 0 0)]) Tryz.zeroValue24 Z Z Z ?_)))
  intro w35 b36 hb37 hz38 g39 o40
  have H41 := H33.newB g39 o40 (by omega)
  have z42 := g39.size
  refine RL.st (vs := [(J fk1.view), (J fk1.normal), (J fk1.base), (.string (tx fk1.image)), (.slice A27 n28 c29)]) (cs' := [(J fk1.view), (J fk1.normal), (J fk1.base), (.string (tx fk1.image)), (.slice A27 n28 c29)]) Tryz.sizeOf24 (H41.ob (i := 0) Z) Z Z Z Z Z Z ?_
  intro w43 hz44 g45 o46
  have H47 : Sp [Ae b36 24 [(J fk1.view), (J fk1.normal), (J fk1.base), (.string (tx fk1.image)), (.slice A27 n28 c29)], At 31 11 A27 n28 c29 (ents fk1.ents), Ae b14 24 [(J fk0.view), (J fk0.normal), (J fk0.base), (.string (tx fk0.image)), (.slice none 0 0)], Ae b2 24 [(J 0), (J 0), (J 0), (.string (⟨#[]⟩)), (.slice none 0 0)], Bc w Bp] w43 := H41.setB (i := 0) rfl g45 o46 rfl
  have z48 := g45.size
  refine za (J ((foldK fk0 (laidR 1)).1)) Z (RL.nil (thn.n (CW.region (zg Z (Ag Z (Ak (cs := [(J fk1.view), (J fk1.normal), (J fk1.base), (.string (tx fk1.image)), (.slice A27 n28 c29)]) wh24 (H47.ob (i := 0) Z).cl)) (RL.st (vs := [(J fk1.view), (J fk1.normal), (J fk1.base), (.string (tx fk1.image)), (.slice A27 n28 c29)]) (cs' := [(J fk1.view), (J fk1.normal), (J fk1.base), (.string (tx fk1.image)), (.slice A27 n28 c29)]) Tryz.sizeOf24 (H47.ob (i := 2) Z) Z Z Z Z Z Z ?_)))))
  intro w49 hz50 g51 o52
  have H53 : Sp [Ae b36 24 [(J fk1.view), (J fk1.normal), (J fk1.base), (.string (tx fk1.image)), (.slice A27 n28 c29)], At 31 11 A27 n28 c29 (ents fk1.ents), Ae b14 24 [(J fk1.view), (J fk1.normal), (J fk1.base), (.string (tx fk1.image)), (.slice A27 n28 c29)], Ae b2 24 [(J 0), (J 0), (J 0), (.string (⟨#[]⟩)), (.slice none 0 0)], Bc w Bp] w49 := H47.setB (i := 2) rfl g51 o52 rfl
  have z54 := g51.size
  refine RL.nil (inB.n (thn.n (CW.region (zm (J 1) Z (zg Z (Ex.add (r := 2) Z Z Z) (za (J 2) Z (RL.nil (thn.n (Cs (CW.seq (CW.seq (CW.region (zm (J 2) Z (zm (J 3) Z (zg Z (Ex.le (r := true) Z Z (by decide)) ?_)))))))))))))))
  refine RL.nil (thn.n (Aa Z (CW.skip (thn.n (CW.seq (CW.block (CW.seq (CW.region (zg Z (Ag Z (Ak (cs := [(J fk1.view), (J fk1.normal), (J fk1.base), (.string (tx fk1.image)), (.slice A27 n28 c29)]) wh24 (H53.ob (i := 2) Z).cl)) (zm (J 2) Z (zg Z (Ce (cs := [(J 2), (J 0), (J 0), (J 0), (J 0), (J 0), (J 0), (J 0), (J 0), (J 0), (J 0)]) bd31 Z) (zg Z (Ce (cs := [(J 2), (J 0), (J 0), (J 0), (.string (⟨#[]⟩)), (J 2), (J 0), (J 0), (J 0), (J 0), (J 0), (J 0), (J 0), (J 0), (J 0), (J 0), (.slice none 0 0)]) bd33 Z) ?_))))))))))))
  have hfl55 : fk1.ents.length ≤ 4000 := foldK_len fk0 (laidR 1)
  have hfi56 : fk1.image.length ≤ fk0.image.length + (laidR 1).image.length := foldK_img fk0 (laidR 1)
  have hl57 := H53.len (i := 1) rfl
  rw [Au] at hl57
  have hc58 := H53.cap (i := 1) rfl
  refine RL.call Tryz.call40 (Fold_ _ w49.heap.size fk1 A27 n28 c29 (H53.rowrd (i := 1) Z) (Nat.le_refl _) (by first | assumption | rfl | omega | decide +kernel) (by first | assumption | rfl | omega | decide +kernel) (by first | assumption | rfl | omega | decide +kernel) (by first | assumption | rfl | omega | decide +kernel) (laidR 2) none 0 0 ((Rd.nil_ _ _ 11 none)) (by first | assumption | rfl | omega | decide +kernel) (by first | assumption | rfl | omega | decide +kernel) (by first | assumption | rfl | omega | decide +kernel) (by first | assumption | rfl | omega | decide +kernel)) Z Z Z ?_
  rintro _ w62 ⟨A59, n60, c61, rfl, g63⟩
  have g65 := g63.fix (i := 1) rfl
  have H66 : Sp [At 31 11 A59 n60 c61 (ents fk2.ents), Ae b36 24 [(J fk1.view), (J fk1.normal), (J fk1.base), (.string (tx fk1.image)), (.slice A27 n28 c29)], At 31 11 A27 n28 c29 (ents fk1.ents), Ae b14 24 [(J fk1.view), (J fk1.normal), (J fk1.base), (.string (tx fk1.image)), (.slice A27 n28 c29)], Ae b2 24 [(J 0), (J 0), (J 0), (.string (⟨#[]⟩)), (.slice none 0 0)], Bc w Bp] w62 := H53.join (m := [At 31 11 A59 n60 c61 (ents fk2.ents)]) g63
  have z67 := g65.size
  refine zm (.tuple #[(.agg ([(J fk2.view), (J fk2.normal), (J fk2.base), (.string (tx fk2.image)), (.slice A59 n60 c61)]).toArray), (J ((foldK fk1 (laidR 2)).1))]) Z (zx (.agg ([(J fk2.view), (J fk2.normal), (J fk2.base), (.string (tx fk2.image)), (.slice A59 n60 c61)]).toArray) Z (zx (J ((foldK fk1 (laidR 2)).1)) Z (RL.al (cs := [(J 0), (J 0), (J 0), (.string (⟨#[]⟩)), (.slice none 0 0)]) Tryz.zeroValue24 Z Z Z ?_)))
  intro w68 b69 hb70 hz71 g72 o73
  have H74 := H66.newB g72 o73 (by omega)
  have z75 := g72.size
  refine RL.st (vs := [(J fk2.view), (J fk2.normal), (J fk2.base), (.string (tx fk2.image)), (.slice A59 n60 c61)]) (cs' := [(J fk2.view), (J fk2.normal), (J fk2.base), (.string (tx fk2.image)), (.slice A59 n60 c61)]) Tryz.sizeOf24 (H74.ob (i := 0) Z) Z Z Z Z Z Z ?_
  intro w76 hz77 g78 o79
  have H80 : Sp [Ae b69 24 [(J fk2.view), (J fk2.normal), (J fk2.base), (.string (tx fk2.image)), (.slice A59 n60 c61)], At 31 11 A59 n60 c61 (ents fk2.ents), Ae b36 24 [(J fk1.view), (J fk1.normal), (J fk1.base), (.string (tx fk1.image)), (.slice A27 n28 c29)], At 31 11 A27 n28 c29 (ents fk1.ents), Ae b14 24 [(J fk1.view), (J fk1.normal), (J fk1.base), (.string (tx fk1.image)), (.slice A27 n28 c29)], Ae b2 24 [(J 0), (J 0), (J 0), (.string (⟨#[]⟩)), (.slice none 0 0)], Bc w Bp] w76 := H74.setB (i := 0) rfl g78 o79 rfl
  have z81 := g78.size
  refine za (J ((foldK fk1 (laidR 2)).1)) Z (RL.nil (thn.n (CW.region (zg Z (Ag Z (Ak (cs := [(J fk2.view), (J fk2.normal), (J fk2.base), (.string (tx fk2.image)), (.slice A59 n60 c61)]) wh24 (H80.ob (i := 0) Z).cl)) (RL.st (vs := [(J fk2.view), (J fk2.normal), (J fk2.base), (.string (tx fk2.image)), (.slice A59 n60 c61)]) (cs' := [(J fk2.view), (J fk2.normal), (J fk2.base), (.string (tx fk2.image)), (.slice A59 n60 c61)]) Tryz.sizeOf24 (H80.ob (i := 4) Z) Z Z Z Z Z Z ?_)))))
  intro w82 hz83 g84 o85
  have H86 : Sp [Ae b69 24 [(J fk2.view), (J fk2.normal), (J fk2.base), (.string (tx fk2.image)), (.slice A59 n60 c61)], At 31 11 A59 n60 c61 (ents fk2.ents), Ae b36 24 [(J fk1.view), (J fk1.normal), (J fk1.base), (.string (tx fk1.image)), (.slice A27 n28 c29)], At 31 11 A27 n28 c29 (ents fk1.ents), Ae b14 24 [(J fk2.view), (J fk2.normal), (J fk2.base), (.string (tx fk2.image)), (.slice A59 n60 c61)], Ae b2 24 [(J 0), (J 0), (J 0), (.string (⟨#[]⟩)), (.slice none 0 0)], Bc w Bp] w82 := H80.setB (i := 4) rfl g84 o85 rfl
  have z87 := g84.size
  refine RL.nil (inB.n (thn.n (CW.region (zm (J 2) Z (zg Z (Ex.add (r := 3) Z Z Z) (za (J 3) Z (RL.nil (thn.n (Cs (CW.seq (CW.seq (CW.region (zm (J 3) Z (zm (J 3) Z (zg Z (Ex.le (r := true) Z Z (by decide)) ?_)))))))))))))))
  refine RL.nil (thn.n (Aa Z (CW.skip (thn.n (CW.seq (CW.block (CW.seq (CW.region (zg Z (Ag Z (Ak (cs := [(J fk2.view), (J fk2.normal), (J fk2.base), (.string (tx fk2.image)), (.slice A59 n60 c61)]) wh24 (H86.ob (i := 4) Z).cl)) (zm (J 3) Z (zg Z (Ce (cs := [(J 3), (J 0), (J 0), (J 0), (J 0), (J 0), (J 0), (J 0), (J 0), (J 0), (J 0)]) bd31 Z) (zg Z (Ce (cs := [(J 2), (J 0), (J 0), (J 0), (.string (⟨#[]⟩)), (J 3), (J 0), (J 0), (J 0), (J 0), (J 0), (J 0), (J 0), (J 0), (J 0), (J 0), (.slice none 0 0)]) bd33 Z) ?_))))))))))))
  have hfl88 : fk2.ents.length ≤ 4000 := foldK_len fk1 (laidR 2)
  have hfi89 : fk2.image.length ≤ fk1.image.length + (laidR 2).image.length := foldK_img fk1 (laidR 2)
  have hl90 := H86.len (i := 1) rfl
  rw [Au] at hl90
  have hc91 := H86.cap (i := 1) rfl
  refine RL.call Tryz.call40 (Fold_ _ w82.heap.size fk2 A59 n60 c61 (H86.rowrd (i := 1) Z) (Nat.le_refl _) (by first | assumption | rfl | omega | decide +kernel) (by first | assumption | rfl | omega | decide +kernel) (by first | assumption | rfl | omega | decide +kernel) (by first | assumption | rfl | omega | decide +kernel) (laidR 3) none 0 0 ((Rd.nil_ _ _ 11 none)) (by first | assumption | rfl | omega | decide +kernel) (by first | assumption | rfl | omega | decide +kernel) (by first | assumption | rfl | omega | decide +kernel) (by first | assumption | rfl | omega | decide +kernel)) Z Z Z ?_
  rintro _ w95 ⟨A92, n93, c94, rfl, g96⟩
  have g97 := g96.fix (i := 1) rfl
  have H98 : Sp [At 31 11 A92 n93 c94 (ents fk3.ents), Ae b69 24 [(J fk2.view), (J fk2.normal), (J fk2.base), (.string (tx fk2.image)), (.slice A59 n60 c61)], At 31 11 A59 n60 c61 (ents fk2.ents), Ae b36 24 [(J fk1.view), (J fk1.normal), (J fk1.base), (.string (tx fk1.image)), (.slice A27 n28 c29)], At 31 11 A27 n28 c29 (ents fk1.ents), Ae b14 24 [(J fk2.view), (J fk2.normal), (J fk2.base), (.string (tx fk2.image)), (.slice A59 n60 c61)], Ae b2 24 [(J 0), (J 0), (J 0), (.string (⟨#[]⟩)), (.slice none 0 0)], Bc w Bp] w95 := H86.join (m := [At 31 11 A92 n93 c94 (ents fk3.ents)]) g96
  have z99 := g97.size
  refine zm (.tuple #[(.agg ([(J fk3.view), (J fk3.normal), (J fk3.base), (.string (tx fk3.image)), (.slice A92 n93 c94)]).toArray), (J ((foldK fk2 (laidR 3)).1))]) Z (zx (.agg ([(J fk3.view), (J fk3.normal), (J fk3.base), (.string (tx fk3.image)), (.slice A92 n93 c94)]).toArray) Z (zx (J ((foldK fk2 (laidR 3)).1)) Z (RL.al (cs := [(J 0), (J 0), (J 0), (.string (⟨#[]⟩)), (.slice none 0 0)]) Tryz.zeroValue24 Z Z Z ?_)))
  intro w100 b101 hb102 hz103 g104 o105
  have H106 := H98.newB g104 o105 (by omega)
  have z107 := g104.size
  refine RL.st (vs := [(J fk3.view), (J fk3.normal), (J fk3.base), (.string (tx fk3.image)), (.slice A92 n93 c94)]) (cs' := [(J fk3.view), (J fk3.normal), (J fk3.base), (.string (tx fk3.image)), (.slice A92 n93 c94)]) Tryz.sizeOf24 (H106.ob (i := 0) Z) Z Z Z Z Z Z ?_
  intro w108 hz109 g110 o111
  have H112 : Sp [Ae b101 24 [(J fk3.view), (J fk3.normal), (J fk3.base), (.string (tx fk3.image)), (.slice A92 n93 c94)], At 31 11 A92 n93 c94 (ents fk3.ents), Ae b69 24 [(J fk2.view), (J fk2.normal), (J fk2.base), (.string (tx fk2.image)), (.slice A59 n60 c61)], At 31 11 A59 n60 c61 (ents fk2.ents), Ae b36 24 [(J fk1.view), (J fk1.normal), (J fk1.base), (.string (tx fk1.image)), (.slice A27 n28 c29)], At 31 11 A27 n28 c29 (ents fk1.ents), Ae b14 24 [(J fk2.view), (J fk2.normal), (J fk2.base), (.string (tx fk2.image)), (.slice A59 n60 c61)], Ae b2 24 [(J 0), (J 0), (J 0), (.string (⟨#[]⟩)), (.slice none 0 0)], Bc w Bp] w108 := H106.setB (i := 0) rfl g110 o111 rfl
  have z113 := g110.size
  refine za (J ((foldK fk2 (laidR 3)).1)) Z (RL.nil (thn.n (CW.region (zg Z (Ag Z (Ak (cs := [(J fk3.view), (J fk3.normal), (J fk3.base), (.string (tx fk3.image)), (.slice A92 n93 c94)]) wh24 (H112.ob (i := 0) Z).cl)) (RL.st (vs := [(J fk3.view), (J fk3.normal), (J fk3.base), (.string (tx fk3.image)), (.slice A92 n93 c94)]) (cs' := [(J fk3.view), (J fk3.normal), (J fk3.base), (.string (tx fk3.image)), (.slice A92 n93 c94)]) Tryz.sizeOf24 (H112.ob (i := 6) Z) Z Z Z Z Z Z ?_)))))
  intro w114 hz115 g116 o117
  have H118 : Sp [Ae b101 24 [(J fk3.view), (J fk3.normal), (J fk3.base), (.string (tx fk3.image)), (.slice A92 n93 c94)], At 31 11 A92 n93 c94 (ents fk3.ents), Ae b69 24 [(J fk2.view), (J fk2.normal), (J fk2.base), (.string (tx fk2.image)), (.slice A59 n60 c61)], At 31 11 A59 n60 c61 (ents fk2.ents), Ae b36 24 [(J fk1.view), (J fk1.normal), (J fk1.base), (.string (tx fk1.image)), (.slice A27 n28 c29)], At 31 11 A27 n28 c29 (ents fk1.ents), Ae b14 24 [(J fk3.view), (J fk3.normal), (J fk3.base), (.string (tx fk3.image)), (.slice A92 n93 c94)], Ae b2 24 [(J 0), (J 0), (J 0), (.string (⟨#[]⟩)), (.slice none 0 0)], Bc w Bp] w114 := H112.setB (i := 6) rfl g116 o117 rfl
  have z119 := g116.size
  refine RL.nil (inB.n (thn.n (CW.region (zm (J 3) Z (zg Z (Ex.add (r := 4) Z Z Z) (za (J 4) Z (RL.nil (thn.n (Cs (CW.seq (CW.seq (CW.region (zm (J 4) Z (zm (J 3) Z (zg Z (Ex.le (r := false) Z Z (by decide)) ?_)))))))))))))))
  refine RL.nil (thn.n (Ad Z (CW.exit (thn.x (thn.x (Bh (thn.n (CW.seq (CW.region (zg Z (Ag Z (Ak (cs := [(J fk3.view), (J fk3.normal), (J fk3.base), (.string (tx fk3.image)), (.slice A92 n93 c94)]) wh24 (H118.ob (i := 6) Z).cl)) (RL.st (vs := [(J fk3.view), (J fk3.normal), (J fk3.base), (.string (tx fk3.image)), (.slice A92 n93 c94)]) (cs' := [(J fk3.view), (J fk3.normal), (J fk3.base), (.string (tx fk3.image)), (.slice A92 n93 c94)]) Tryz.sizeOf24 (H118.ob (i := 7) Z) Z Z Z Z Z Z ?_)))))))))))
  intro w120 hz121 g122 o123
  have H124 : Sp [Ae b101 24 [(J fk3.view), (J fk3.normal), (J fk3.base), (.string (tx fk3.image)), (.slice A92 n93 c94)], At 31 11 A92 n93 c94 (ents fk3.ents), Ae b69 24 [(J fk2.view), (J fk2.normal), (J fk2.base), (.string (tx fk2.image)), (.slice A59 n60 c61)], At 31 11 A59 n60 c61 (ents fk2.ents), Ae b36 24 [(J fk1.view), (J fk1.normal), (J fk1.base), (.string (tx fk1.image)), (.slice A27 n28 c29)], At 31 11 A27 n28 c29 (ents fk1.ents), Ae b14 24 [(J fk3.view), (J fk3.normal), (J fk3.base), (.string (tx fk3.image)), (.slice A92 n93 c94)], Ae b2 24 [(J fk3.view), (J fk3.normal), (J fk3.base), (.string (tx fk3.image)), (.slice A92 n93 c94)], Bc w Bp] w120 := H118.setB (i := 7) rfl g122 o123 rfl
  have z125 := g122.size
  refine RL.nil (thn.n (CW.ret (finQ.r (v := (.agg ([(J fk3.view), (J fk3.normal), (J fk3.base), (.string (tx fk3.image)), (.slice A92 n93 c94)]).toArray)) (resv1 Z (Rv.cell Z (Ak (cs := [(J fk3.view), (J fk3.normal), (J fk3.base), (.string (tx fk3.image)), (.slice A92 n93 c94)]) wh24 (H124.ob (i := 7) Z).cl))) ?_)))
  exact ⟨_, _, _, Z, (H124.sel [1, 8] (by decide) Z)⟩
set_option maxHeartbeats 1000000 in
set_option maxRecDepth 20000 in
theorem joins16 (w : World)  : Ret Tryz.prog 64 [] w (fun v w' => v = .bool true ∧ w.grownBy w' none) := by
  have H0 : Sp [Bc w Bp] w := Bl w
  refine Ret.body Tryz.func64 Z Z Z ?_
  refine CW.seq (CW.region (za bF Z (RL.nil (thn.n (CW.seq (CW.region (RL.call Tryz.call129 (kept3 _) Z Z Z ?_)))))))
  rintro _ w4 ⟨A1, n2, c3, rfl, g5⟩
  have g6 := g5.fix (i := 1) rfl
  have H7 : Sp [At 31 11 A1 n2 c3 (ents fk3.ents), Bc w Bp] w4 := H0.join (m := [At 31 11 A1 n2 c3 (ents fk3.ents)]) g5
  have z8 := g6.size
  refine RL.al (cs := [(J 0), (J 0), (J 0), (.string (⟨#[]⟩)), (.slice none 0 0)]) Tryz.zeroValue24 Z Z Z ?_
  intro w9 b10 hb11 hz12 g13 o14
  have H15 := H7.newB g13 o14 (by omega)
  have z16 := g13.size
  refine RL.st (vs := [(J fk3.view), (J fk3.normal), (J fk3.base), (.string (tx fk3.image)), (.slice A1 n2 c3)]) (cs' := [(J fk3.view), (J fk3.normal), (J fk3.base), (.string (tx fk3.image)), (.slice A1 n2 c3)]) Tryz.sizeOf24 (H15.ob (i := 0) Z) Z Z Z Z Z Z ?_
  intro w17 hz18 g19 o20
  have H21 : Sp [Ae b10 24 [(J fk3.view), (J fk3.normal), (J fk3.base), (.string (tx fk3.image)), (.slice A1 n2 c3)], At 31 11 A1 n2 c3 (ents fk3.ents), Bc w Bp] w17 := H15.setB (i := 0) rfl g19 o20 rfl
  have z22 := g19.size
  refine RL.nil (thn.n (CW.seq (CW.region (zg Z (Ag Z (Ak (cs := [(J fk3.view), (J fk3.normal), (J fk3.base), (.string (tx fk3.image)), (.slice A1 n2 c3)]) wh24 (H21.ob (i := 0) Z).cl)) (zg Z (Ce (cs := [(J 3), (J 0), (J 0), (J 0), (J 0), (J 0), (J 0), (J 0), (J 0), (J 0), (J 0)]) bd31 Z) (zg Z (Ce (cs := [(J 4), (J 0), (J 0), (J 0), (J 0), (J 0), (J 0), (J 0), (J 0), (J 0), (J 0)]) bd31 Z) (RL.bs (cs := [(J 3), (J 0), (J 0), (J 0), (J 0), (J 0), (J 0), (J 0), (J 0), (J 0), (J 0), (J 4), (J 0), (J 0), (J 0), (J 0), (J 0), (J 0), (J 0), (J 0), (J 0), (J 0)]) Tryz.underlying22 Tryz.sizeOf31 ze22 Z Z Z (by decide) Z Z Z ?_)))))))
  intro w23 b24 hb25 hz26 g27 o28
  have H29 := H21.newB g27 o28 (by omega)
  have z30 := g27.size
  have hfl31 : fk3.ents.length ≤ 4000 := foldK_len _ _
  have hfi32 : fk3.image.length ≤ 4136 := (by decide +kernel)
  have hl33 := H29.len (i := 2) rfl
  rw [Au] at hl33
  have hc34 := H29.cap (i := 2) rfl
  refine RL.call Tryz.call63 (join_ _ w23.heap.size fk3 A1 n2 c3 (H29.rowrd (i := 2) Z) (Nat.le_refl _) (by first | assumption | rfl | omega | decide +kernel) (by first | assumption | rfl | omega | decide +kernel) (by first | assumption | rfl | omega | decide +kernel) (by first | assumption | rfl | omega | decide +kernel) 2 jl34 (some ⟨b24, 0, none⟩) 2 2 ((Ob.rdL (xss := ents [(⟨3, 0, 0, 0, ⟨0, 0, 0, 0, 0, 0, 0⟩⟩ : Entry), (⟨4, 0, 0, 0, ⟨0, 0, 0, 0, 0, 0, 0⟩⟩ : Entry)]) (H29.ob (i := 0) Z) Z (ents_k _)).more (by have := (H29.ob (i := 0) Z).lt; omega)) (by first | assumption | rfl | omega | decide +kernel) (by first | assumption | rfl | omega | decide +kernel)) Z Z Z ?_
  rintro _ w38 ⟨A35, n36, c37, rfl, g39⟩
  have g40 := g39.fix (i := 1) rfl
  have H41 : Sp [At 33 17 A35 n36 c37 (recsE ((Co fk3 2 jl34).1)), Ae b24 31 [(J 3), (J 0), (J 0), (J 0), (J 0), (J 0), (J 0), (J 0), (J 0), (J 0), (J 0), (J 4), (J 0), (J 0), (J 0), (J 0), (J 0), (J 0), (J 0), (J 0), (J 0), (J 0)], Ae b10 24 [(J fk3.view), (J fk3.normal), (J fk3.base), (.string (tx fk3.image)), (.slice A1 n2 c3)], At 31 11 A1 n2 c3 (ents fk3.ents), Bc w Bp] w38 := H29.join (m := [At 33 17 A35 n36 c37 (recsE ((Co fk3 2 jl34).1))]) g39
  have z42 := g40.size
  refine zm (.tuple #[(.slice A35 n36 c37), (.bool ((Co fk3 2 jl34).2))]) Z (zx (.slice A35 n36 c37) Z (zx (.bool ((Co fk3 2 jl34).2)) Z (za (.slice A35 n36 c37) Z (za (.bool ((Co fk3 2 jl34).2)) Z (RL.nil (thn.n (CW.seq (CW.region (zg Z (Ag Z (Ak (cs := [(J fk3.view), (J fk3.normal), (J fk3.base), (.string (tx fk3.image)), (.slice A1 n2 c3)]) wh24 (H41.ob (i := 2) Z).cl)) ?_)))))))))
  have hfl43 : fk3.ents.length ≤ 4000 := foldK_len _ _
  have hfi44 : fk3.image.length ≤ 4136 := (by decide +kernel)
  have hl45 := H41.len (i := 3) rfl
  rw [Au] at hl45
  have hc46 := H41.cap (i := 3) rfl
  refine RL.call Tryz.call63 (join_ _ w38.heap.size fk3 A1 n2 c3 (H41.rowrd (i := 3) Z) (Nat.le_refl _) (by first | assumption | rfl | omega | decide +kernel) (by first | assumption | rfl | omega | decide +kernel) (by first | assumption | rfl | omega | decide +kernel) (by first | assumption | rfl | omega | decide +kernel) 4 ([]) none 0 0 (Rd.nil_ _ _ 11 none) (by first | assumption | rfl | omega | decide +kernel) (by first | assumption | rfl | omega | decide +kernel)) Z Z Z ?_
  rintro _ w50 ⟨A47, n48, c49, rfl, g51⟩
  have g52 := g51.fix (i := 1) rfl
  have H53 : Sp [At 33 17 A47 n48 c49 (recsE ((Co fk3 4 ([])).1)), At 33 17 A35 n36 c37 (recsE ((Co fk3 2 jl34).1)), Ae b24 31 [(J 3), (J 0), (J 0), (J 0), (J 0), (J 0), (J 0), (J 0), (J 0), (J 0), (J 0), (J 4), (J 0), (J 0), (J 0), (J 0), (J 0), (J 0), (J 0), (J 0), (J 0), (J 0)], Ae b10 24 [(J fk3.view), (J fk3.normal), (J fk3.base), (.string (tx fk3.image)), (.slice A1 n2 c3)], At 31 11 A1 n2 c3 (ents fk3.ents), Bc w Bp] w50 := H41.join (m := [At 33 17 A47 n48 c49 (recsE ((Co fk3 4 ([])).1))]) g51
  have z54 := g52.size
  refine zm (.tuple #[(.slice A47 n48 c49), (.bool ((Co fk3 4 ([])).2))]) Z (zx (.slice A47 n48 c49) Z (zx (.bool ((Co fk3 4 ([])).2)) Z (za (.slice A47 n48 c49) Z (za (.bool ((Co fk3 4 ([])).2)) Z (RL.nil (thn.n (CW.seq (CW.region (zg Z (As (v := .bool true) (by show Value.bool (Co fk3 2 jl34).2 = _; rw [joins_e])) ?_)))))))))
  have hje := joins_e
  have hl55 := H53.len (i := 1) rfl
  rw [Cw] at hl55
  have hl1 : (Co fk3 2 jl34).1.length = 1 := by rw [joins_e]; rfl
  refine zm bT Z (zm (.slice A35 n36 c37) Z (zg Z (Ex.len Tryz.underlying84 Z) (zg Z (Bm (r := true) Z Z (decide_eq_true (by omega))) (zT bT Z (zm bT Z (zm (.slice A35 n36 c37) Z ?_))))))
  obtain ⟨e56, he57⟩ : ∃ e, ((Co fk3 2 jl34).1)[0]? = some e := ⟨_, List.getElem?_eq_getElem (by omega)⟩
  obtain ⟨ad58, hA59⟩ := Rd.sm (H53.rowrd (i := 1) rfl) (recsE_get he57)
  have hl60 := Eng.lt_len (recsE_get he57)
  refine zg Z (Ck (b := (ad58.add (0 * 17))) (i := 0) Tryz.underlying84 Tryz.sizeOf33 (by rw [← hA59]; rfl) Z (by omega) (by omega) Z) (zg Z (fa33_0 (b := ((ad58.add (0 * 17)))) Z Z) (zg Z (Ag Z (Av lo26 (Cl.at_ (v := (J 2)) (Rd.cl (H53.rowrd (i := 1) Z) hA59 (recsE_get he57)) (i := 0) Z))) (zg Z (Bm (r := true) Z Z (by decide)) (zT bT Z (zm bT Z (zm (.slice A35 n36 c37) Z ?_))))))
  obtain ⟨e61, he62⟩ : ∃ e, ((Co fk3 2 jl34).1)[0]? = some e := ⟨_, List.getElem?_eq_getElem (by omega)⟩
  obtain ⟨ad63, hA65⟩ := Rd.sm (H53.rowrd (i := 1) rfl) (recsE_get he62)
  have hl66 := Eng.lt_len (recsE_get he62)
  refine zg Z (Ck (b := (ad63.add (0 * 17))) (i := 0) Tryz.underlying84 Tryz.sizeOf33 (by rw [← hA65]; rfl) Z (by omega) (by omega) Z) (zg Z (fa33_5 (b := (((ad63.add (0 * 17))).add 5)) Z Z) (zg Z (fa31_0 (b := (((ad63.add (0 * 17))).add 5)) Z Z) (zg Z (Ag Z (Av Bw (Cl.at_ (v := (J e61.num)) (Rd.cl (H53.rowrd (i := 1) Z) hA65 (recsE_get he62)) (i := 5) Z))) ?_)))
  have h4 : e61 = entR 4 := by rw [joins_e] at he62; injection he62 with h4; exact h4.symm
  refine zg Z (Bm (r := true) Z Z (decide_eq_true (by rw [h4]; rfl))) (zT bT Z (zm bT Z (zg Z (As (v := .bool false) (by show Value.bool (Co fk3 4 ([])).2 = _; rw [joins_n])) (zg Z (Ex.not (b := false) Z) (zT bT Z (za bT Z (RL.nil (thn.n (CW.ret (finQ.r (v := bT) (Ax Z Z) ?_))))))))))
  exact ⟨Z, (H53.fix (i := 5) Z)⟩
end Go.Proofs.YtfokljnhllflbaaGreat
namespace Go.Eng
open Go Go.RowKit
theorem joinK_len (k : Kept) (number : Int) (l : List Entry) : (Co k number l).1.length ≤ l.length := by
  unfold Co
  split
  · exact List.length_filter_le _ _
  · simp
end Go.Eng
namespace Go.Eng
open Go Go.RowKit
structure Vote where
  (node normal base number commit : Int)
  ents : List Entry
  deriving DecidableEq
structure RVote where
  v : Vote
  s : Sl
def RVote.cells (r : RVote) : List Value := [.int .i64 r.v.node, .int .i64 r.v.normal, .int .i64 r.v.base, .int .i64 r.v.number, .int .i64 r.v.commit, .slice r.s.a r.s.n r.s.c]
def VtR (w : World) (B : Nat) (l : List RVote) : Prop := ∀ r ∈ l, Rd w B 11 r.s.a (ents r.v.ents) ∧ r.s.n = r.v.ents.length ∧ r.s.n ≤ r.s.c
theorem VtR.st0 {w w' : World} {B : Nat} {l : List RVote} (h : VtR w B l) (g : w.grownBy w' none) : VtR w' B l := fun r hr => ⟨(h r hr).1.st0 g, (h r hr).2⟩
theorem VtR.more {w : World} {B B' : Nat} {l : List RVote} (h : VtR w B l) (hb : B ≤ B') : VtR w B' l := fun r hr => ⟨(h r hr).1.more hb, (h r hr).2⟩
section
variable {w w' w0 : World} {l m : List Atom} {A B C : Atom} {i j : Nat}
theorem Sp.merge (h : Sp (A :: B :: l) w) (hw : ∀ S T, A.ok S w → B.ok T w → C.ok (fun b => S b ∨ T b) w) : Sp (C :: l) w := by
  obtain ⟨S, h1, h2⟩ := h
  refine ⟨fun a b => if a = 0 then S 0 b ∨ S 1 b else S (a + 1) b, fun a c b ha hc => ?_, fun a D ha => ?_⟩
  · dsimp only at ha hc
    by_cases e1 : a = 0 <;> by_cases e2 : c = 0
    · rw [e1, e2]
    · rw [if_pos e1] at ha; rw [if_neg e2] at hc
      rcases ha with ha | ha <;> have := h1 _ _ b ha hc <;> omega
    · rw [if_neg e1] at ha; rw [if_pos e2] at hc
      rcases hc with hc | hc <;> have := h1 _ _ b ha hc <;> omega
    · rw [if_neg e1] at ha; rw [if_neg e2] at hc
      have := h1 _ _ b ha hc; omega
  · cases a with
    | zero => simp at ha; subst ha; exact C.mono (fun b hb => by show ite _ _ _; rw [if_pos rfl]; exact hb) (hw _ _ (h2 0 A rfl) (h2 1 B rfl))
    | succ a => exact D.mono (fun b hb => by show ite _ _ _; rw [if_neg (by omega)]; exact hb) (h2 (a + 2) D (by simpa using ha))
theorem VtR.get {w : World} {B : Nat} {l : List RVote} (h : VtR w B l) {k : Nat} {r : RVote} (hr : l[k]? = some r) : Rd w B 11 r.s.a (ents r.v.ents) ∧ r.s.n = r.v.ents.length ∧ r.s.n ≤ r.s.c := h r (List.mem_of_getElem? hr)
end
end Go.Eng
