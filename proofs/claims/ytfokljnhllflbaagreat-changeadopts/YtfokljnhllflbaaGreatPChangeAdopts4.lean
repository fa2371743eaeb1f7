/- Part 5 of the proof of ChangeAdopts: R1, Spec16, Spec22, EngOut, R2, Spec23, R3, Spec24, R4, Spec25. -/
import Derived.Deep.Quiet
import Derived.Ground.NamesProg
import Derived.Ground.SlgcProg
import Derived.Ground.SlsfProg
import Derived.JoinedOf
import Derived.Laws.BytesString
import Derived.Laws.MakeOwn
import Derived.Laws.Strings
import Derived.Lib.AppendZeros
import Derived.Lib.ConvBytes
import Derived.Lib.Overlaps
import Derived.Maps.AppendAt
import Derived.OrdersHeld
import Derived.ProofKit
import Derived.Recover
import Derived.ScopeJumps
import Derived.Shelf.SlSortCmp.NoneTotal
import Derived.Shelf.SlSortCmp.WholeK
import Derived.Shelf.SlicesG.Cmp
import Derived.Shelf.Small.Bits
import Derived.Sort.OwnSortedInts
import Derived.StillTail
import Derived.Test.YtfokljnhllflbaaGreatProg
import Derived.WalkKit
import Derived.WalkLawsBesides
import Derived.WalkSpells
import Derived.Test.YtfokljnhllflbaaGreatPChangeAdopts3
set_option linter.unusedSimpArgs false
set_option linter.unusedVariables false
namespace Go.Proofs.YtfokljnhllflbaaGreat
open Go Go.Eng Go.RowKit
set_option maxHeartbeats 400000 in
set_option maxRecDepth 20000 in
theorem sz_ (w : World) (o : Int) (h0 : 0 ≤ o) (h8 : o ≤ 8) : Ret Tryz.prog 229 [(J o)] w (fun v w' => v = .int .i64 (Ae o) ∧ w.grownBy w' none) := by
  have H0 : Sp [Bd w Bl] w := Bn w
  refine Ret.body Tryz.func229 rfl rfl rfl ?_
  refine CW.seq (CW.region (za (J 0) rfl (RL.nil (thn.n (CW.seq (CW.region (za (J 1) rfl (RL.nil (thn.n (CW.seq (CW.seq (CW.region (za (J 0) rfl (RL.nil (thn.n (CW.block ?_))))))))))))))))
  refine CW.loop (fun t => (Nat.ble 3 t && Nat.ble t 11)) (fun nL ρ wl => ∃ (i : Nat), ρ 3 = (J (Ae ((i : Nat) : Int))) ∧ ρ 4 = (J (i : Int)) ∧ nL = o.toNat - i ∧ Sp [Bd w Bl] wl ∧ (i : Int) ≤ o) (o.toNat) ?aa0 ?bb0
  case aa0 =>
   exact ⟨0, rfl, rfl, rfl, H0, by omega⟩
  case bb0 =>
   rintro n2 ρ0 w1 ho3 ⟨i, hs0_3, hs0_4, hn0, H4, hi⟩
   obtain ⟨j0, rfl⟩ := ho3.shape2 hs0_3 hs0_4
   clear ho3 hs0_3 hs0_4
   subst hn0
   have z5 := (H4.fix (i := 0) rfl).size
   refine CW.seq (CW.seq (CW.region (zm (J (i : Int)) rfl (zm (J o) rfl ?_))))
   refine zc (((i : Int) : Int) < (o : Int)) rfl (fun r hr => Ex.lt rfl rfl hr) (fun h6 => ?_) (fun h6 => ?_)
   ·skip
    refine RL.nil (thn.n (Ab rfl (CW.skip (thn.n (CW.seq (CW.block (CW.region (zm (J (Ae ((i : Nat) : Int))) rfl (zg rfl (Ex.mul (r := Ae ((i + 1 : Nat) : Int)) rfl rfl (by have h1 := wordsI_half (o := ((i + 1 : Nat) : Int)) (by omega) (by omega); rw [show ((i + 1 : Nat) : Int) - 1 = (i : Int) by omega] at h1; have h2 := Az (i : Int); rw [Dd (by omega) (by omega)]; omega)) (za (J (Ae ((i + 1 : Nat) : Int))) rfl (RL.nil (inB.n (thn.n (CW.region (zm (J (i : Int)) rfl (zg rfl (Ex.add (r := (i : Int) + 1) rfl rfl (Dd (by omega) (by omega))) (za (J ((i : Int) + 1)) rfl (RL.nil (thn.n ?_)))))))))))))))))))
    refine ⟨(by repeat (first | exact Out.mix _ _ | exact Out.refl _ _ | refine Bg ?_ rfl _)), _, ?_, i + 1, rfl, rfl, rfl, H4, by omega⟩
    omega
   ·skip
    refine RL.nil (thn.n (Ag rfl (CW.exit (thn.x (thn.x (Bf (thn.n (CW.seq (CW.region (zm (J (Ae ((i : Nat) : Int))) rfl (za (J (Ae ((i : Nat) : Int))) rfl (RL.nil (thn.n (CW.ret (finQ.r (v := (J (Ae ((i : Nat) : Int)))) (Ax rfl rfl) ?_)))))))))))))))
    have hio : (i : Int) = o := by omega
    exact ⟨by rw [hio], (H4.fix (i := 0) rfl)⟩
set_option maxHeartbeats 400000 in
set_option maxRecDepth 20000 in
theorem reg_ (w : World) (o : Int) : Ret Tryz.prog 235 [(J o)] w (fun v w' => v = .bool (Aq o 3 8) ∧ w.grownBy w' none) := by
  have H0 : Sp [Bd w Bl] w := Bn w
  refine Ret.body Tryz.func235 rfl rfl rfl ?_
  refine CW.seq (CW.region (za (bF) rfl (RL.nil (thn.n (CW.seq (CW.region (zm (J o) rfl ?_)))))))
  refine zc ((3 : Int) ≤ (o : Int)) rfl (fun r hr => Ex.ge rfl rfl hr) (fun h1 => ?_) (fun h1 => ?_)
  ·skip
   refine zm (bT) rfl (zm (J o) rfl ?_)
   refine zc ((o : Int) ≤ (8 : Int)) rfl (fun r hr => Ex.le rfl rfl hr) (fun h2 => ?_) (fun h2 => ?_)
   ·skip
    refine zT (bT) rfl (za (bT) rfl (RL.nil (thn.n (CW.ret (finQ.r (v := bT) (Ax rfl rfl) ?_)))))
    exact ⟨Am (by unfold Aq; first | (simp [h1, h2]; done) | (simp [h1, h2]; omega) | (simp [h1, h2]; intros; omega)), (H0.fix (i := 0) rfl)⟩
   ·skip
    refine zT (bF) rfl (za (bF) rfl (RL.nil (thn.n (CW.ret (finQ.r (v := bF) (Ax rfl rfl) ?_)))))
    exact ⟨Am (by unfold Aq; first | (simp [h1, h2]; done) | (simp [h1, h2]; omega) | (simp [h1, h2]; intros; omega)), (H0.fix (i := 0) rfl)⟩
  ·skip
   refine zm (bF) rfl (zo rfl (zo rfl (zF (bF) rfl (za (bF) rfl (RL.nil (thn.n (CW.ret (finQ.r (v := bF) (Ax rfl rfl) ?_))))))))
   exact ⟨Am (by unfold Aq; first | (simp [h1]; done) | (simp [h1]; omega) | (simp [h1]; intros; omega)), (H0.fix (i := 0) rfl)⟩
set_option maxHeartbeats 400000 in
set_option maxRecDepth 20000 in
theorem meet_ (w : World) (a b : Blk) (ha : -4611686018427387904 ≤ a.at_ ∧ a.at_ ≤ 4611686018427387904) (hb : -4611686018427387904 ≤ b.at_ ∧ b.at_ ≤ 4611686018427387904) (hao : 0 ≤ a.ord ∧ a.ord ≤ 8) (hbo : 0 ≤ b.ord ∧ b.ord ≤ 8) : Ret Tryz.prog 227 [(.agg (a.cells).toArray), (.agg (b.cells).toArray)] w (fun v w' => v = .bool (meetB a b) ∧ w.grownBy w' none) := by
  have H0 : Sp [Bd w Bl] w := Bn w
  refine Ret.body Tryz.func227 rfl rfl rfl ?_
  refine CW.seq (CW.region (RL.bx (cs := a.cells) rfl rfl rfl ?_))
  intro w1 b2 hb3 hz4 g5 o6
  have H7 := H0.newB g5 o6 (by omega)
  have z8 := g5.size
  refine RL.bx (cs := b.cells) rfl rfl rfl ?_
  intro w9 b10 hb11 hz12 g13 o14
  have H15 := H7.newB g13 o14 (by omega)
  have z16 := g13.size
  refine za (bF) rfl (RL.nil (thn.n (CW.seq (CW.held (fun wq => Sp [Af b10 133 b.cells, Af b2 133 a.cells, Bd w Bl] wq) Tryz.mixed rfl ?_))))
  intro w17 g18
  have H19 := H15.grow g18
  have z20 := g18.size
  refine zr 0 1 rfl (by kernel_rfl) H19 (fun wq hq => Cn (b := ⟨b2, 0, none⟩) rfl rfl) (zr 2 5 rfl (by kernel_rfl) H19 (fun wq hq => Cn (b := ⟨b10, 0, none⟩) rfl rfl) (zr 4 21 rfl (by kernel_rfl) H19 (fun wq hq => Cd (b := ⟨b10, 1, none⟩) rfl rfl) (zr 1 23 rfl (by kernel_rfl) H19 (fun wq hq => Ai rfl (Ba Cf (Ob.cell (v := (J a.at_)) (hq.ob (i := 1) rfl) rfl))) (zr 3 31 rfl (by kernel_rfl) H19 (fun wq hq => Ai rfl (Ba Cf (Ob.cell (v := (J b.at_)) (hq.ob (i := 0) rfl) rfl))) (zr 5 63 rfl (by kernel_rfl) H19 (fun wq hq => Ai rfl (Ba Cf (Ob.cell (v := (J b.ord)) (hq.ob (i := 0) rfl) rfl))) (RA.one (i := 6) (by kernel_rfl) ?_))))))
  refine ⟨_, 127, rfl, by kernel_rfl, ?_⟩
  have hz21 := Az b.ord
  have hz22 := Bm (o := b.ord) (by omega) (by omega)
  refine RL.call Tryz.call229 (sz_ _ b.ord (by omega) (by omega)) rfl rfl rfl ?_
  rintro _ w23 ⟨rfl, g24⟩
  have H25 := H19.grow g24
  have z26 := g24.size
  refine RL.nil ?_
  refine ⟨H25, ?_⟩
  refine zr 7 255 rfl (by kernel_rfl) H25 (fun wq hq => Ex.add (r := b.at_ + (Ae b.ord)) rfl rfl (Dd (by omega) (by omega))) ?_
  refine zb 8 511 ((a.at_ : Int) < (b.at_ + (Ae b.ord) : Int)) rfl (by kernel_rfl) H25 (fun r hr wq hq => Ex.lt rfl rfl hr) (fun h27 => ?_) (fun h27 => ?_)
  ·skip
   refine zr 9 1023 rfl (by kernel_rfl) H25 (fun wq hq => Au (v := bT) rfl) (zr 10 2047 rfl (by kernel_rfl) H25 (fun wq hq => Cn (b := ⟨b10, 0, none⟩) rfl rfl) (zr 12 6143 rfl (by kernel_rfl) H25 (fun wq hq => Cn (b := ⟨b2, 0, none⟩) rfl rfl) (zr 14 22527 rfl (by kernel_rfl) H25 (fun wq hq => Cd (b := ⟨b2, 1, none⟩) rfl rfl) (zr 11 24575 rfl (by kernel_rfl) H25 (fun wq hq => Ai rfl (Ba Cf (Ob.cell (v := (J b.at_)) (hq.ob (i := 0) rfl) rfl))) (zr 13 32767 rfl (by kernel_rfl) H25 (fun wq hq => Ai rfl (Ba Cf (Ob.cell (v := (J a.at_)) (hq.ob (i := 1) rfl) rfl))) (zr 15 65535 rfl (by kernel_rfl) H25 (fun wq hq => Ai rfl (Ba Cf (Ob.cell (v := (J a.ord)) (hq.ob (i := 1) rfl) rfl))) (RA.one (i := 16) (by kernel_rfl) ?_)))))))
   refine ⟨_, 131071, rfl, by kernel_rfl, ?_⟩
   have hz28 := Az a.ord
   have hz29 := Bm (o := a.ord) (by omega) (by omega)
   refine RL.call Tryz.call229 (sz_ _ a.ord (by omega) (by omega)) rfl rfl rfl ?_
   rintro _ w30 ⟨rfl, g31⟩
   have H32 := H25.grow g31
   have z33 := g31.size
   refine RL.nil ?_
   refine ⟨H32, ?_⟩
   refine zr 17 262143 rfl (by kernel_rfl) H32 (fun wq hq => Ex.add (r := a.at_ + (Ae a.ord)) rfl rfl (Dd (by omega) (by omega))) ?_
   refine zb 18 524287 ((b.at_ : Int) < (a.at_ + (Ae a.ord) : Int)) rfl (by kernel_rfl) H32 (fun r hr wq hq => Ex.lt rfl rfl hr) (fun h34 => ?_) (fun h34 => ?_)
   ·skip
    refine zr 19 1048575 rfl (by kernel_rfl) H32 (fun wq hq => Bi (v := bT) rfl rfl) (zr 20 2097151 rfl (by kernel_rfl) H32 (fun wq hq => Ex.as (v := bT) rfl) (Bj (by kernel_rfl) (thn.n (CW.ret (finQ.r (v := bT) (Ax rfl rfl) ?_)))))
    exact ⟨Am (by unfold meetB; first | (simp [h27, h34]; done) | (simp [h27, h34]; omega) | (simp [h27, h34]; intros; omega)), (H32.fix (i := 2) rfl)⟩
   ·skip
    refine zr 19 1048575 rfl (by kernel_rfl) H32 (fun wq hq => Bi (v := bF) rfl rfl) (zr 20 2097151 rfl (by kernel_rfl) H32 (fun wq hq => Ex.as (v := bF) rfl) (Bj (by kernel_rfl) (thn.n (CW.ret (finQ.r (v := bF) (Ax rfl rfl) ?_)))))
    exact ⟨Am (by unfold meetB; first | (simp [h27, h34]; done) | (simp [h27, h34]; omega) | (simp [h27, h34]; intros; omega)), (H32.fix (i := 2) rfl)⟩
  ·skip
   refine zr 9 1023 rfl (by kernel_rfl) H25 (fun wq hq => Au (v := bF) rfl) (zq 10 2047 rfl (by kernel_rfl) H25 (zq 12 6143 rfl (by kernel_rfl) H25 (zq 14 22527 rfl (by kernel_rfl) H25 (zq 11 24575 rfl (by kernel_rfl) H25 (zq 13 32767 rfl (by kernel_rfl) H25 (zq 15 65535 rfl (by kernel_rfl) H25 (zq 16 131071 rfl (by kernel_rfl) H25 (zq 17 262143 rfl (by kernel_rfl) H25 (zq 18 524287 rfl (by kernel_rfl) H25 (zr 19 1048575 rfl (by kernel_rfl) H25 (fun wq hq => Be (v := bF) rfl rfl) ?_))))))))))
   refine zr 20 2097151 rfl (by kernel_rfl) H25 (fun wq hq => Ex.as (v := bF) rfl) (Bj (by kernel_rfl) (thn.n (CW.ret (finQ.r (v := bF) (Ax rfl rfl) ?_))))
   exact ⟨Am (by unfold meetB; first | (simp [h27]; done) | (simp [h27]; omega) | (simp [h27]; intros; omega)), (H25.fix (i := 2) rfl)⟩
set_option maxHeartbeats 400000 in
set_option maxRecDepth 20000 in
theorem twinRf_ (w : World) (b : Blk) (hb : -4611686018427387904 ≤ b.at_ ∧ b.at_ ≤ 4611686018427387904) (hbo : 0 ≤ b.ord ∧ b.ord ≤ 8) : Ret Tryz.prog 262 [(.agg (b.cells).toArray)] w (fun v w' => v = .agg (twinR b).cells.toArray ∧ w.grownBy w' none) := by
  have H0 : Sp [Bd w Bl] w := Bn w
  refine Ret.body Tryz.func262 rfl rfl rfl ?_
  refine CW.seq (CW.region (RL.bx (cs := b.cells) rfl rfl rfl ?_))
  intro w1 b2 hb3 hz4 g5 o6
  have H7 := H0.newB g5 o6 (by omega)
  have z8 := g5.size
  refine RL.al (cs := [(J 0), (J 0)]) Tryz.zeroValue133 rfl rfl rfl ?_
  intro w9 b10 hb11 hz12 g13 o14
  have H15 := H7.newB g13 o14 (by omega)
  have z16 := g13.size
  refine RL.nil (thn.n (CW.seq (CW.region (zg rfl (Cd (b := ⟨b2, 1, none⟩) rfl rfl) (zl (J b.ord) Cf (H15.ob (i := 1) rfl) rfl ?_)))))
  have hz17 := Az b.ord
  have hz18 := Bm (o := b.ord) (by omega) (by omega)
  refine RL.call Tryz.call229 (sz_ _ b.ord (by omega) (by omega)) rfl rfl rfl ?_
  rintro _ w19 ⟨rfl, g20⟩
  have H21 := H15.grow g20
  have z22 := g20.size
  refine za (J (Ae b.ord)) rfl (RL.nil (thn.n (CW.seq (CW.seq (CW.region (zg rfl (Cn (b := ⟨b2, 0, none⟩) rfl rfl) (zl (J b.at_) Cf (H21.ob (i := 1) rfl) rfl (zm (J (Ae b.ord)) rfl (zg rfl (Ex.mul (r := 2 * (Ae b.ord)) rfl rfl (Dd (by omega) (by omega))) (zg rfl (Ex.rem (r := (b.at_ : Int).tmod (2 * (Ae b.ord))) rfl rfl (by omega) rfl) ?_))))))))))
  refine zc (((b.at_ : Int).tmod (2 * (Ae b.ord)) : Int) = (0 : Int)) rfl (fun r hr => Cb rfl rfl hr) (fun h23 => ?_) (fun h23 => ?_)
  ·skip
   refine RL.nil (thn.n (Ab rfl (CW.seq (CW.region (zg rfl (Cn (b := ⟨b2, 0, none⟩) rfl rfl) (zl (J b.at_) Cf (H21.ob (i := 1) rfl) rfl (zm (J (Ae b.ord)) rfl (zg rfl (Ex.add (r := b.at_ + (Ae b.ord)) rfl rfl (Dd (by omega) (by omega))) (zg rfl (Cd (b := ⟨b2, 1, none⟩) rfl rfl) (zl (J b.ord) Cf (H21.ob (i := 1) rfl) rfl (zg rfl (Cc (cs := [(J (b.at_ + (Ae b.ord))), (J b.ord)]) bd133 rfl) (RL.st (vs := [(J (b.at_ + (Ae b.ord))), (J b.ord)]) (cs' := [(J (b.at_ + (Ae b.ord))), (J b.ord)]) Tryz.sizeOf133 (H21.ob (i := 0) rfl) rfl rfl rfl rfl rfl rfl ?_))))))))))))
   intro w24 hz25 g26 o27
   have H28 : Sp [Af b10 133 [(J (b.at_ + (Ae b.ord))), (J b.ord)], Af b2 133 b.cells, Bd w Bl] w24 := H21.setB (i := 0) rfl g26 o27 rfl
   have z29 := g26.size
   refine RL.nil (thn.n (CW.ret (thn.r (finQ.r (v := (.agg ([(J (b.at_ + (Ae b.ord))), (J b.ord)]).toArray)) (resv1 rfl (Rv.cell rfl (Ak (cs := [(J (b.at_ + (Ae b.ord))), (J b.ord)]) wh133 (H28.ob (i := 0) rfl).cl))) ?_))))
   exact ⟨by unfold twinR; rw [if_pos h23]; rfl, (H28.fix (i := 2) rfl)⟩
  ·skip
   refine RL.nil (thn.n (Ag rfl (CW.skip (thn.n (CW.seq (CW.region (zg rfl (Cn (b := ⟨b2, 0, none⟩) rfl rfl) (zl (J b.at_) Cf (H21.ob (i := 1) rfl) rfl (zm (J (Ae b.ord)) rfl (zg rfl (Ci (r := b.at_ - (Ae b.ord)) rfl rfl (Dd (by omega) (by omega))) (zg rfl (Cd (b := ⟨b2, 1, none⟩) rfl rfl) (zl (J b.ord) Cf (H21.ob (i := 1) rfl) rfl (zg rfl (Cc (cs := [(J (b.at_ - (Ae b.ord))), (J b.ord)]) bd133 rfl) (RL.st (vs := [(J (b.at_ - (Ae b.ord))), (J b.ord)]) (cs' := [(J (b.at_ - (Ae b.ord))), (J b.ord)]) Tryz.sizeOf133 (H21.ob (i := 0) rfl) rfl rfl rfl rfl rfl rfl ?_))))))))))))))
   intro w30 hz31 g32 o33
   have H34 : Sp [Af b10 133 [(J (b.at_ - (Ae b.ord))), (J b.ord)], Af b2 133 b.cells, Bd w Bl] w30 := H21.setB (i := 0) rfl g32 o33 rfl
   have z35 := g32.size
   refine RL.nil (thn.n (CW.ret (finQ.r (v := (.agg ([(J (b.at_ - (Ae b.ord))), (J b.ord)]).toArray)) (resv1 rfl (Rv.cell rfl (Ak (cs := [(J (b.at_ - (Ae b.ord))), (J b.ord)]) wh133 (H34.ob (i := 0) rfl).cl))) ?_)))
   exact ⟨by unfold twinR; rw [if_neg h23]; rfl, (H34.fix (i := 2) rfl)⟩
set_option maxHeartbeats 1000000 in
set_option maxRecDepth 20000 in
theorem mayR_ (w : World) (o : Int) (b : Blk) (h0 : 0 ≤ o) (h8 : o ≤ 8) : Ret Tryz.prog 224 [(J o), (.agg (b.cells).toArray)] w (fun v w' => v = .bool (mayR o b) ∧ w.grownBy w' none) := by
  have H0 : Sp [Bd w Bl] w := Bn w
  refine Ret.body Tryz.func224 rfl rfl rfl ?_
  refine CW.seq (CW.region (RL.bx (cs := b.cells) rfl rfl rfl ?_))
  intro w1 b2 hb3 hz4 g5 o6
  have H7 := H0.newB g5 o6 (by omega)
  have z8 := g5.size
  refine za (bF) rfl (RL.nil (thn.n (CW.seq (CW.seq (CW.held (fun wq => Sp [Af b2 133 b.cells, Bd w Bl] wq) Tryz.mixed rfl ?_)))))
  intro w9 g10
  have H11 := H7.grow g10
  have z12 := g10.size
  refine zr 0 1 rfl (by kernel_rfl) H11 (fun wq hq => Cd (b := ⟨b2, 1, none⟩) rfl rfl) (zr 1 3 rfl (by kernel_rfl) H11 (fun wq hq => Ai rfl (Ba Cf (Ob.cell (v := (J b.ord)) (hq.ob (i := 0) rfl) rfl))) ?_)
  refine zb 2 7 ((b.ord : Int) < (0 : Int)) rfl (by kernel_rfl) H11 (fun r hr wq hq => Ex.lt rfl rfl hr) (fun h13 => ?_) (fun h13 => ?_)
  ·skip
   refine zr 3 15 rfl (by kernel_rfl) H11 (fun wq hq => Au (v := bT) rfl) (zq 4 31 rfl (by kernel_rfl) H11 (zq 6 95 rfl (by kernel_rfl) H11 (zq 5 127 rfl (by kernel_rfl) H11 (zq 7 255 rfl (by kernel_rfl) H11 (zr 8 511 rfl (by kernel_rfl) H11 (fun wq hq => Bi (v := bT) rfl rfl) (zr 9 1023 rfl (by kernel_rfl) H11 (fun wq hq => Au (v := bT) rfl) (zq 10 2047 rfl (by kernel_rfl) H11 (zq 11 4095 rfl (by kernel_rfl) H11 (zq 12 8191 rfl (by kernel_rfl) H11 (zr 13 16383 rfl (by kernel_rfl) H11 (fun wq hq => Bi (v := bT) rfl rfl) ?_))))))))))
   refine zr 14 32767 rfl (by kernel_rfl) H11 (fun wq hq => Au (v := bT) rfl) (zq 15 65535 rfl (by kernel_rfl) H11 (zq 17 196607 rfl (by kernel_rfl) H11 (zq 18 458751 rfl (by kernel_rfl) H11 (zq 19 983039 rfl (by kernel_rfl) H11 (zq 16 1048575 rfl (by kernel_rfl) H11 (zq 20 2097151 rfl (by kernel_rfl) H11 (zq 21 4194303 rfl (by kernel_rfl) H11 (zq 22 8388607 rfl (by kernel_rfl) H11 (zq 23 16777215 rfl (by kernel_rfl) H11 (zr 24 33554431 rfl (by kernel_rfl) H11 (fun wq hq => Bi (v := bT) rfl rfl) ?_))))))))))
   refine Bj (by kernel_rfl) (thn.n (Ab rfl (CW.seq (CW.region (za (bF) rfl (RL.nil (thn.n (CW.ret (thn.r (finQ.r (v := bF) (Ax rfl rfl) ?_))))))))))
   exact ⟨Am (by unfold mayR; first | (simp [h13]; done) | (simp [h13]; omega) | (simp [h13]; intros; omega)), (H11.fix (i := 1) rfl)⟩
  ·skip
   refine zr 3 15 rfl (by kernel_rfl) H11 (fun wq hq => Au (v := bF) rfl) (zr 4 31 rfl (by kernel_rfl) H11 (fun wq hq => Cd (b := ⟨b2, 1, none⟩) rfl rfl) (zr 6 95 rfl (by kernel_rfl) H11 (fun wq hq => Au (v := (J o)) rfl) (zr 5 127 rfl (by kernel_rfl) H11 (fun wq hq => Ai rfl (Ba Cf (Ob.cell (v := (J b.ord)) (hq.ob (i := 0) rfl) rfl))) ?_)))
   refine zb 7 255 ((o : Int) < (b.ord : Int)) rfl (by kernel_rfl) H11 (fun r hr wq hq => Df rfl rfl hr) (fun h14 => ?_) (fun h14 => ?_)
   ·skip
    refine zr 8 511 rfl (by kernel_rfl) H11 (fun wq hq => Be (v := bT) rfl rfl) (zr 9 1023 rfl (by kernel_rfl) H11 (fun wq hq => Au (v := bT) rfl) (zq 10 2047 rfl (by kernel_rfl) H11 (zq 11 4095 rfl (by kernel_rfl) H11 (zq 12 8191 rfl (by kernel_rfl) H11 (zr 13 16383 rfl (by kernel_rfl) H11 (fun wq hq => Bi (v := bT) rfl rfl) (zr 14 32767 rfl (by kernel_rfl) H11 (fun wq hq => Au (v := bT) rfl) (zq 15 65535 rfl (by kernel_rfl) H11 (zq 17 196607 rfl (by kernel_rfl) H11 (zq 18 458751 rfl (by kernel_rfl) H11 (zq 19 983039 rfl (by kernel_rfl) H11 ?_))))))))))
    refine zq 16 1048575 rfl (by kernel_rfl) H11 (zq 20 2097151 rfl (by kernel_rfl) H11 (zq 21 4194303 rfl (by kernel_rfl) H11 (zq 22 8388607 rfl (by kernel_rfl) H11 (zq 23 16777215 rfl (by kernel_rfl) H11 (zr 24 33554431 rfl (by kernel_rfl) H11 (fun wq hq => Bi (v := bT) rfl rfl) (Bj (by kernel_rfl) (thn.n (Ab rfl (CW.seq (CW.region (za (bF) rfl (RL.nil (thn.n (CW.ret (thn.r ?_)))))))))))))))
    refine finQ.r (v := bF) (Ax rfl rfl) ?_
    exact ⟨Am (by unfold mayR; first | (simp [h13, h14]; done) | (simp [h13, h14]; omega) | (simp [h13, h14]; intros; omega)), (H11.fix (i := 1) rfl)⟩
   ·skip
    refine zr 8 511 rfl (by kernel_rfl) H11 (fun wq hq => Be (v := bF) rfl rfl) (zr 9 1023 rfl (by kernel_rfl) H11 (fun wq hq => Au (v := bF) rfl) (zr 10 2047 rfl (by kernel_rfl) H11 (fun wq hq => Cn (b := ⟨b2, 0, none⟩) rfl rfl) (zr 11 4095 rfl (by kernel_rfl) H11 (fun wq hq => Ai rfl (Ba Cf (Ob.cell (v := (J b.at_)) (hq.ob (i := 0) rfl) rfl))) ?_)))
    refine zb 12 8191 ((b.at_ : Int) < (0 : Int)) rfl (by kernel_rfl) H11 (fun r hr wq hq => Ex.lt rfl rfl hr) (fun h15 => ?_) (fun h15 => ?_)
    ·skip
     refine zr 13 16383 rfl (by kernel_rfl) H11 (fun wq hq => Be (v := bT) rfl rfl) (zr 14 32767 rfl (by kernel_rfl) H11 (fun wq hq => Au (v := bT) rfl) (zq 15 65535 rfl (by kernel_rfl) H11 (zq 17 196607 rfl (by kernel_rfl) H11 (zq 18 458751 rfl (by kernel_rfl) H11 (zq 19 983039 rfl (by kernel_rfl) H11 (zq 16 1048575 rfl (by kernel_rfl) H11 (zq 20 2097151 rfl (by kernel_rfl) H11 (zq 21 4194303 rfl (by kernel_rfl) H11 (zq 22 8388607 rfl (by kernel_rfl) H11 (zq 23 16777215 rfl (by kernel_rfl) H11 ?_))))))))))
     refine zr 24 33554431 rfl (by kernel_rfl) H11 (fun wq hq => Bi (v := bT) rfl rfl) (Bj (by kernel_rfl) (thn.n (Ab rfl (CW.seq (CW.region (za (bF) rfl (RL.nil (thn.n (CW.ret (thn.r (finQ.r (v := bF) (Ax rfl rfl) ?_)))))))))))
     exact ⟨Am (by unfold mayR; first | (simp [h13, h14, h15]; done) | (simp [h13, h14, h15]; omega) | (simp [h13, h14, h15]; intros; omega)), (H11.fix (i := 1) rfl)⟩
    ·skip
     refine zr 13 16383 rfl (by kernel_rfl) H11 (fun wq hq => Be (v := bF) rfl rfl) (zr 14 32767 rfl (by kernel_rfl) H11 (fun wq hq => Au (v := bF) rfl) (zr 15 65535 rfl (by kernel_rfl) H11 (fun wq hq => Cn (b := ⟨b2, 0, none⟩) rfl rfl) (zr 17 196607 rfl (by kernel_rfl) H11 (fun wq hq => Au (v := (J o)) rfl) (zr 19 720895 rfl (by kernel_rfl) H11 (fun wq hq => Cd (b := ⟨b2, 1, none⟩) rfl rfl) (zr 16 786431 rfl (by kernel_rfl) H11 (fun wq hq => Ai rfl (Ba Cf (Ob.cell (v := (J b.at_)) (hq.ob (i := 0) rfl) rfl))) (zr 20 1835007 rfl (by kernel_rfl) H11 (fun wq hq => Ai rfl (Ba Cf (Ob.cell (v := (J b.ord)) (hq.ob (i := 0) rfl) rfl))) (RA.one (i := 18) (by kernel_rfl) ?_)))))))
     refine ⟨_, 2097151, rfl, by kernel_rfl, ?_⟩
     have hz16 := Az o
     have hz17 := Bm (o := o) (by omega) (by omega)
     refine RL.call Tryz.call229 (sz_ _ o (by omega) (by omega)) rfl rfl rfl ?_
     rintro _ w18 ⟨rfl, g19⟩
     have H20 := H11.grow g19
     have z21 := g19.size
     refine RL.nil ?_
     refine ⟨H20, ?_⟩
     refine RA.one (i := 21) (by kernel_rfl) ?_
     refine ⟨_, 4194303, rfl, by kernel_rfl, ?_⟩
     have hz22 := Az b.ord
     have hz23 := Bm (o := b.ord) (by omega) (by omega)
     refine RL.call Tryz.call229 (sz_ _ b.ord (by omega) (by omega)) rfl rfl rfl ?_
     rintro _ w24 ⟨rfl, g25⟩
     have H26 := H20.grow g25
     have z27 := g25.size
     refine RL.nil ?_
     refine ⟨H26, ?_⟩
     refine zr 22 8388607 rfl (by kernel_rfl) H26 (fun wq hq => Ci (r := (Ae o) - (Ae b.ord)) rfl rfl (Dd (by omega) (by omega))) ?_
     refine zb 23 16777215 (((Ae o) - (Ae b.ord) : Int) < (b.at_ : Int)) rfl (by kernel_rfl) H26 (fun r hr wq hq => Df rfl rfl hr) (fun h28 => ?_) (fun h28 => ?_)
     ·skip
      refine zr 24 33554431 rfl (by kernel_rfl) H26 (fun wq hq => Be (v := bT) rfl rfl) (Bj (by kernel_rfl) (thn.n (Ab rfl (CW.seq (CW.region (za (bF) rfl (RL.nil (thn.n (CW.ret (thn.r (finQ.r (v := bF) (Ax rfl rfl) ?_)))))))))))
      exact ⟨Am (by unfold mayR; first | (simp [h13, h14, h15, h28]; done) | (simp [h13, h14, h15, h28]; omega) | (simp [h13, h14, h15, h28]; intros; omega)), (H26.fix (i := 1) rfl)⟩
     ·skip
      refine zr 24 33554431 rfl (by kernel_rfl) H26 (fun wq hq => Be (v := bF) rfl rfl) (Bj (by kernel_rfl) (thn.n (Ag rfl (CW.skip (thn.n (CW.seq (CW.held (fun wq => Sp [Af b2 133 b.cells, Bd w Bl] wq) Tryz.mixed rfl ?_)))))))
      intro w29 g30
      have H31 := H26.grow g30
      have z32 := g30.size
      refine zr 0 1 rfl (by kernel_rfl) H31 (fun wq hq => Cn (b := ⟨b2, 0, none⟩) rfl rfl) (zr 2 5 rfl (by kernel_rfl) H31 (fun wq hq => Cd (b := ⟨b2, 1, none⟩) rfl rfl) (zr 1 7 rfl (by kernel_rfl) H31 (fun wq hq => Ai rfl (Ba Cf (Ob.cell (v := (J b.at_)) (hq.ob (i := 0) rfl) rfl))) (zr 3 15 rfl (by kernel_rfl) H31 (fun wq hq => Ai rfl (Ba Cf (Ob.cell (v := (J b.ord)) (hq.ob (i := 0) rfl) rfl))) (RA.one (i := 4) (by kernel_rfl) ?_))))
      refine ⟨_, 31, rfl, by kernel_rfl, ?_⟩
      have hz33 := Az b.ord
      have hz34 := Bm (o := b.ord) (by omega) (by omega)
      refine RL.call Tryz.call229 (sz_ _ b.ord (by omega) (by omega)) rfl rfl rfl ?_
      rintro _ w35 ⟨rfl, g36⟩
      have H37 := H31.grow g36
      have z38 := g36.size
      refine RL.nil ?_
      refine ⟨H37, ?_⟩
      refine zr 5 63 rfl (by kernel_rfl) H37 (fun wq hq => Ex.rem (r := (b.at_ : Int).tmod (Ae b.ord)) rfl rfl (by omega) rfl) ?_
      refine zb 6 127 (((b.at_ : Int).tmod (Ae b.ord) : Int) = (0 : Int)) rfl (by kernel_rfl) H37 (fun r hr wq hq => Cb rfl rfl hr) (fun h39 => ?_) (fun h39 => ?_)
      ·skip
       refine zr 7 255 rfl (by kernel_rfl) H37 (fun wq hq => Ex.as (v := bT) rfl) (Bj (by kernel_rfl) (thn.n (CW.ret (finQ.r (v := bT) (Ax rfl rfl) ?_))))
       exact ⟨Am (by unfold mayR; first | (simp [h13, h14, h15, h28, h39]; done) | (simp [h13, h14, h15, h28, h39]; omega) | (simp [h13, h14, h15, h28, h39]; intros; omega)), (H37.fix (i := 1) rfl)⟩
      ·skip
       refine zr 7 255 rfl (by kernel_rfl) H37 (fun wq hq => Ex.as (v := bF) rfl) (Bj (by kernel_rfl) (thn.n (CW.ret (finQ.r (v := bF) (Ax rfl rfl) ?_))))
       exact ⟨Am (by unfold mayR; first | (simp [h13, h14, h15, h28, h39]; done) | (simp [h13, h14, h15, h28, h39]; omega) | (simp [h13, h14, h15, h28, h39]; intros; omega)), (H37.fix (i := 1) rfl)⟩
set_option maxHeartbeats 1000000 in
set_option maxRecDepth 20000 in
theorem needR_ (w : World) (words links : Int) : Ret Tryz.prog 223 [(J words), (J links)] w (fun v w' => v = .int .i64 (Bs words links) ∧ w.grownBy w' none) := by
  have H0 : Sp [Bd w Bl] w := Bn w
  refine Ret.body Tryz.func223 rfl rfl rfl ?_
  refine CW.seq (CW.region (za (J 0) rfl (RL.nil (thn.n (CW.seq (CW.seq (CW.region (zm (J words) rfl ?_))))))))
  refine zc ((words : Int) < (0 : Int)) rfl (fun r hr => Ex.lt rfl rfl hr) (fun h1 => ?_) (fun h1 => ?_)
  ·skip
   refine zm (bT) rfl (zo rfl (zo rfl (zT (bT) rfl (zm (bT) rfl (zo rfl (zo rfl (zT (bT) rfl (zm (bT) rfl (zo rfl (zo rfl ?_))))))))))
   refine zT (bT) rfl (RL.nil (thn.n (Ab rfl (CW.seq (CW.region (za (J (-1)) rfl (RL.nil (thn.n (CW.ret (thn.r (finQ.r (v := (J (-1))) (Ax rfl rfl) ?_)))))))))))
   exact ⟨Bp (by unfold Bs; rw [if_neg (by omega)]), (H0.fix (i := 0) rfl)⟩
  ·skip
   refine zm (bF) rfl (zm (J words) rfl ?_)
   refine zc ((32 : Int) < (words : Int)) rfl (fun r hr => Df rfl rfl hr) (fun h2 => ?_) (fun h2 => ?_)
   ·skip
    refine zF (bT) rfl (zm (bT) rfl (zo rfl (zo rfl (zT (bT) rfl (zm (bT) rfl (zo rfl (zo rfl (zT (bT) rfl (RL.nil (thn.n (Ab rfl (CW.seq (CW.region (za (J (-1)) rfl ?_))))))))))))))
    refine RL.nil (thn.n (CW.ret (thn.r (finQ.r (v := (J (-1))) (Ax rfl rfl) ?_))))
    exact ⟨Bp (by unfold Bs; rw [if_neg (by omega)]), (H0.fix (i := 0) rfl)⟩
   ·skip
    refine zF (bF) rfl (zm (bF) rfl (zm (J links) rfl ?_))
    refine zc ((links : Int) < (0 : Int)) rfl (fun r hr => Ex.lt rfl rfl hr) (fun h3 => ?_) (fun h3 => ?_)
    ·skip
     refine zF (bT) rfl (zm (bT) rfl (zo rfl (zo rfl (zT (bT) rfl (RL.nil (thn.n (Ab rfl (CW.seq (CW.region (za (J (-1)) rfl (RL.nil (thn.n (CW.ret (thn.r (finQ.r (v := (J (-1))) (Ax rfl rfl) ?_)))))))))))))))
     exact ⟨Bp (by unfold Bs; rw [if_neg (by omega)]), (H0.fix (i := 0) rfl)⟩
    ·skip
     refine zF (bF) rfl (zm (bF) rfl (zm (J links) rfl ?_))
     refine zc ((16 : Int) < (links : Int)) rfl (fun r hr => Df rfl rfl hr) (fun h4 => ?_) (fun h4 => ?_)
     ·skip
      refine zF (bT) rfl (RL.nil (thn.n (Ab rfl (CW.seq (CW.region (za (J (-1)) rfl (RL.nil (thn.n (CW.ret (thn.r (finQ.r (v := (J (-1))) (Ax rfl rfl) ?_)))))))))))
      exact ⟨Bp (by unfold Bs; rw [if_neg (by omega)]), (H0.fix (i := 0) rfl)⟩
     ·skip
      refine zF (bF) rfl (RL.nil (thn.n (Ag rfl (CW.skip (thn.n (CW.seq (CW.region (za (J 0) rfl (RL.nil (thn.n (CW.seq (CW.block ?_))))))))))))
      refine CW.loop (fun t => Nat.beq t 5 || (Nat.ble 20 t && Nat.ble t 28)) (fun nL ρ wl => ∃ (k : Nat), ρ 5 = (J (k : Int)) ∧ nL = 7 - k ∧ Sp [Bd w Bl] wl ∧ k ≤ 6 ∧ ∀ j : Nat, j < k → Ae (j : Int) ≤ words + links) (7) ?aa0 ?bb0
      case aa0 =>
       exact ⟨0, rfl, rfl, H0, by omega, fun j hj => by omega⟩
      case bb0 =>
       rintro n6 ρ0 w5 ho7 ⟨k, hs0_5, hn0, H8, hk, hall⟩
       obtain ⟨j0, rfl⟩ := ho7.shape1 hs0_5
       clear ho7 hs0_5
       subst hn0
       have z9 := (H8.fix (i := 0) rfl).size
       refine CW.seq (CW.seq (CW.region (zm (J (k : Int)) rfl ?_)))
       have hz10 := Az ((k : Int) : Int)
       have hz11 := Bm (o := ((k : Int) : Int)) (by omega) (by omega)
       refine RL.call Tryz.call229 (sz_ _ ((k : Int) : Int) (by omega) (by omega)) rfl rfl rfl ?_
       rintro _ w12 ⟨rfl, g13⟩
       have H14 := H8.grow g13
       have z15 := g13.size
       refine zm (J words) rfl (zg rfl (Ex.add (r := 1 + words) rfl rfl (Dd (by omega) (by omega))) (zm (J links) rfl (zg rfl (Ex.add (r := (1 + words) + links) rfl rfl (Dd (by omega) (by omega))) ?_)))
       refine zc (((Ae ((k : Int) : Int)) : Int) < ((1 + words) + links : Int)) rfl (fun r hr => Ex.lt rfl rfl hr) (fun h16 => ?_) (fun h16 => ?_)
       ·skip
        refine RL.nil (thn.n (Ab rfl (CW.skip (thn.n (CW.block (CW.region (zm (J (k : Int)) rfl (zg rfl (Ex.add (r := (k : Int) + 1) rfl rfl (Dd (by omega) (by omega))) (za (J ((k : Int) + 1)) rfl (RL.nil (inB.n (thn.n ?_))))))))))))
        have hnd := need_round hk hall (by omega) (by omega)
        refine ⟨(by repeat (first | exact Out.mix _ _ | exact Out.refl _ _ | refine Bg ?_ rfl _)), _, ?_, k + 1, rfl, rfl, H14, hnd.1, hnd.2⟩
        omega
       ·skip
        refine RL.nil (thn.n (Ag rfl (CW.exit (thn.x (thn.x (Bf (thn.n (CW.seq (CW.region (zm (J (k : Int)) rfl (za (J (k : Int)) rfl (RL.nil (thn.n (CW.ret (finQ.r (v := (J (k : Int))) (Ax rfl rfl) ?_)))))))))))))))
        exact ⟨Bp (by unfold Bs; rw [if_pos (by omega), needN_of (k := k) (by omega) hk (fun j hj => by have := hall j hj; omega) (by omega)]), (H14.fix (i := 0) rfl)⟩
set_option maxHeartbeats 1000000 in
set_option maxRecDepth 20000 in
theorem rdNum_ (w : World) (B : Nat) (bs : List UInt8) (A : Option Addr) (n c : Nat) (hr : Rd w B 1 A (Cz bs)) (hn : n = bs.length) (hm : n ≤ 140737488351232) : Ret Tryz.prog 244 [(.slice A n c)] w (fun v w' => (∃ x : Nat, v = .tuple #[.int .i64 (x : Int), .int .i64 4, .int .i64 0] ∧ w.grownBy w' none ∧ rdN bs = some ((x : Int), bs.drop 4) ∧ 4 ≤ n ∧ x ≤ 2147483647) ∨ (∃ e : Int, v = .tuple #[.int .i64 0, .int .i64 0, .int .i64 e] ∧ w.grownBy w' none ∧ rdN bs = none ∧ e ≠ 0)) := by
  have H0 : Sp [Bd w Bl] w := Bn w
  refine Ret.body Tryz.func244 rfl rfl rfl ?_
  refine CW.seq (CW.region (za (J 0) rfl (za (J 0) rfl (za (J 0) rfl (RL.nil (thn.n (CW.seq (CW.seq (CW.region (zm (.slice A n c) rfl (zg rfl (Ex.len Tryz.underlying97 rfl) ?_)))))))))))
  refine zc (((n : Nat) : Int) < (4 : Int)) rfl (fun r hr => Ex.lt rfl rfl hr) (fun h1 => ?_) (fun h1 => ?_)
  ·skip
   refine RL.nil (thn.n (Ab rfl (CW.seq (CW.region (za (J 0) rfl (za (J 0) rfl (za (J 10) rfl (RL.nil (thn.n (CW.ret (thn.r (finQ.r (v := (.tuple #[(J 0), (J 0), (J 10)])) (res3 rfl rfl rfl rfl) ?_))))))))))))
   exact .inr ⟨_, rfl, (H0.fix (i := 0) rfl), rdN_short (by omega), by decide⟩
  ·skip
   refine RL.nil (thn.n (Ag rfl (CW.skip (thn.n (CW.seq (CW.seq (CW.region (zm (.slice A n c) rfl ?_))))))))
   obtain ⟨e2, he3⟩ : ∃ e, (bs)[0]? = some e := ⟨_, List.getElem?_eq_getElem (by omega)⟩
   obtain ⟨ad4, hA5⟩ := Rd.sm hr (bcs_get he3)
   have hl6 := Eng.lt_len (bcs_get he3)
   refine zg rfl (Cq (b := (ad4.add (0 * 1))) (i := 0) Tryz.underlying97 Tryz.sizeOf5 (by rw [← hA5]; rfl) rfl (by omega) (by omega) rfl) (zg rfl (Ai rfl (Ba lo5 (Cl.at_ (v := (.int .u8 (e2.toNat : Int))) (Rd.cl hr hA5 (bcs_get he3)) (i := 0) rfl))) ?_)
   refine zc ((127 : Int) < ((e2.toNat : Int) : Int)) rfl (fun r hr => Df rfl rfl hr) (fun h7 => ?_) (fun h7 => ?_)
   ·skip
    refine RL.nil (thn.n (Ab rfl (CW.seq (CW.region (za (J 0) rfl (za (J 0) rfl (za (J 11) rfl (RL.nil (thn.n (CW.ret (thn.r (finQ.r (v := (.tuple #[(J 0), (J 0), (J 11)])) (res3 rfl rfl rfl rfl) ?_))))))))))))
    exact .inr ⟨_, rfl, (H0.fix (i := 0) rfl), rdN_big (by omega) he3 (by omega), by decide⟩
   ·skip
    refine RL.nil (thn.n (Ag rfl (CW.skip (thn.n (CW.seq (CW.quiet (fun wq => World.grownBy w wq none) Tryz.mixed (by kernel_rfl) ⟨rfl, rfl, rfl, Nat.le_refl _, fun _ _ _ => rfl⟩ (QL.go rfl rfl rfl (fun wq gq => Au (v := (.slice A n c)) rfl) ?_)))))))
    obtain ⟨e8, he9⟩ : ∃ e, (bs)[0]? = some e := ⟨_, List.getElem?_eq_getElem (by omega)⟩
    obtain ⟨ad10, hA11⟩ := Rd.sm hr (bcs_get he9)
    have hl12 := Eng.lt_len (bcs_get he9)
    refine QL.go rfl rfl rfl (fun wq gq => Cq (b := (ad10.add (0 * 1))) (i := 0) Tryz.underlying97 Tryz.sizeOf5 (by rw [← hA11]; rfl) rfl (by omega) (by omega) rfl) (QL.go rfl rfl rfl (fun wq gq => Ai rfl (Ba lo5 (Cl.at_ (v := (.int .u8 (e8.toNat : Int))) (Rd.cl (hr.st0 gq) hA11 (bcs_get he9)) (i := 0) rfl))) ?_)
    have hu13 := UInt8.toNat_lt e8
    refine QL.go rfl rfl rfl (fun wq gq => Cx (r := (e8.toNat : Int)) Tryz.underlying5 Tryz.underlying3 rfl (Dd (by omega) (by omega))) (QL.go rfl rfl rfl (fun wq gq => Ex.mul (r := 16777216 * (e8.toNat : Int)) rfl rfl (Dd (by omega) (by omega))) (QL.go rfl rfl rfl (fun wq gq => Au (v := (.slice A n c)) rfl) ?_))
    obtain ⟨e14, he15⟩ : ∃ e, (bs)[1]? = some e := ⟨_, List.getElem?_eq_getElem (by omega)⟩
    obtain ⟨ad16, hA17⟩ := Rd.sm hr (bcs_get he15)
    have hl18 := Eng.lt_len (bcs_get he15)
    refine QL.go rfl rfl rfl (fun wq gq => Cq (b := (ad16.add (1 * 1))) (i := 1) Tryz.underlying97 Tryz.sizeOf5 (by rw [← hA17]; rfl) rfl (by omega) (by omega) rfl) (QL.go rfl rfl rfl (fun wq gq => Ai rfl (Ba lo5 (Cl.at_ (v := (.int .u8 (e14.toNat : Int))) (Rd.cl (hr.st0 gq) hA17 (bcs_get he15)) (i := 0) rfl))) ?_)
    have hu19 := UInt8.toNat_lt e14
    refine QL.go rfl rfl rfl (fun wq gq => Cx (r := (e14.toNat : Int)) Tryz.underlying5 Tryz.underlying3 rfl (Dd (by omega) (by omega))) (QL.go rfl rfl rfl (fun wq gq => Ex.mul (r := 65536 * (e14.toNat : Int)) rfl rfl (Dd (by omega) (by omega))) (QL.go rfl rfl rfl (fun wq gq => Ex.add (r := (16777216 * (e8.toNat : Int)) + (65536 * (e14.toNat : Int))) rfl rfl (Dd (by omega) (by omega))) (QL.go rfl rfl rfl (fun wq gq => Au (v := (.slice A n c)) rfl) ?_)))
    obtain ⟨e20, he21⟩ : ∃ e, (bs)[2]? = some e := ⟨_, List.getElem?_eq_getElem (by omega)⟩
    obtain ⟨ad22, hA23⟩ := Rd.sm hr (bcs_get he21)
    have hl24 := Eng.lt_len (bcs_get he21)
    refine QL.go rfl rfl rfl (fun wq gq => Cq (b := (ad22.add (2 * 1))) (i := 2) Tryz.underlying97 Tryz.sizeOf5 (by rw [← hA23]; rfl) rfl (by omega) (by omega) rfl) ?_
    have hu25 := UInt8.toNat_lt e20
    refine QL.go rfl rfl rfl (fun wq gq => Ai rfl (Ba lo5 (Cl.at_ (v := (.int .u8 (e20.toNat : Int))) (Rd.cl (hr.st0 gq) hA23 (bcs_get he21)) (i := 0) rfl))) (QL.go rfl rfl rfl (fun wq gq => Cx (r := (e20.toNat : Int)) Tryz.underlying5 Tryz.underlying3 rfl (Dd (by omega) (by omega))) (QL.go rfl rfl rfl (fun wq gq => Ex.mul (r := 256 * (e20.toNat : Int)) rfl rfl (Dd (by omega) (by omega))) (QL.go rfl rfl rfl (fun wq gq => Ex.add (r := ((16777216 * (e8.toNat : Int)) + (65536 * (e14.toNat : Int))) + (256 * (e20.toNat : Int))) rfl rfl (Dd (by omega) (by omega))) (QL.go rfl rfl rfl (fun wq gq => Au (v := (.slice A n c)) rfl) ?_))))
    obtain ⟨e26, he27⟩ : ∃ e, (bs)[3]? = some e := ⟨_, List.getElem?_eq_getElem (by omega)⟩
    obtain ⟨ad28, hA29⟩ := Rd.sm hr (bcs_get he27)
    have hl30 := Eng.lt_len (bcs_get he27)
    refine QL.go rfl rfl rfl (fun wq gq => Cq (b := (ad28.add (3 * 1))) (i := 3) Tryz.underlying97 Tryz.sizeOf5 (by rw [← hA29]; rfl) rfl (by omega) (by omega) rfl) (QL.go rfl rfl rfl (fun wq gq => Ai rfl (Ba lo5 (Cl.at_ (v := (.int .u8 (e26.toNat : Int))) (Rd.cl (hr.st0 gq) hA29 (bcs_get he27)) (i := 0) rfl))) ?_)
    have hu31 := UInt8.toNat_lt e26
    refine QL.go rfl rfl rfl (fun wq gq => Cx (r := (e26.toNat : Int)) Tryz.underlying5 Tryz.underlying3 rfl (Dd (by omega) (by omega))) (QL.go rfl rfl rfl (fun wq gq => Ex.add (r := (((16777216 * (e8.toNat : Int)) + (65536 * (e14.toNat : Int))) + (256 * (e20.toNat : Int))) + (e26.toNat : Int)) rfl rfl (Dd (by omega) (by omega))) (QL.go rfl rfl rfl (fun wq gq => Ex.as (v := (J ((((16777216 * (e8.toNat : Int)) + (65536 * (e14.toNat : Int))) + (256 * (e20.toNat : Int))) + (e26.toNat : Int)))) rfl) (QL.go rfl rfl rfl (fun wq gq => Ex.as (v := (J 4)) rfl) (QL.go rfl rfl rfl (fun wq gq => Ex.as (v := (J 0)) rfl) (QL.nil ?_)))))
    intro w32 g33
    have H34 := H0.grow g33
    have z35 := g33.size
    refine thn.n (CW.ret (finQ.r (v := (.tuple #[(J ((((16777216 * (e8.toNat : Int)) + (65536 * (e14.toNat : Int))) + (256 * (e20.toNat : Int))) + (e26.toNat : Int))), (J 4), (J 0)])) (res3 rfl rfl rfl rfl) ?_))
    have hab : e8 = e2 := by have h1 := he3; rw [he9] at h1; exact Option.some.inj h1
    subst hab
    exact .inl ⟨16777216 * e8.toNat + 65536 * e14.toNat + 256 * e20.toNat + e26.toNat, by rw [show ((((16777216 * (e8.toNat : Int)) + (65536 * (e14.toNat : Int))) + (256 * (e20.toNat : Int))) + (e26.toNat : Int) : Int) = ((16777216 * e8.toNat + 65536 * e14.toNat + 256 * e20.toNat + e26.toNat : Nat) : Int) by omega], (H34.fix (i := 0) rfl), rdN_four (by omega) he9 he15 he21 he27 (by omega), by omega, by omega⟩
set_option maxHeartbeats 1000000 in
set_option maxRecDepth 20000 in
theorem rdInt_ (w : World) (B : Nat) (bs : List UInt8) (A : Option Addr) (n c : Nat) (hr : Rd w B 1 A (Cz bs)) (hn : n = bs.length) (hm : n ≤ 140737488351232) : Ret Tryz.prog 247 [(.slice A n c)] w (fun v w' => (∃ x : Int, v = .tuple #[.int .i64 x, .int .i64 8, .int .i64 0] ∧ w.grownBy w' none ∧ rdI bs = some (x, bs.drop 8) ∧ 8 ≤ n) ∨ (∃ e : Int, v = .tuple #[.int .i64 0, .int .i64 0, .int .i64 e] ∧ w.grownBy w' none ∧ rdI bs = none ∧ e ≠ 0)) := by
  have H0 : Sp [Bd w Bl] w := Bn w
  refine Ret.body Tryz.func247 rfl rfl rfl ?_
  refine CW.seq (CW.region (za (J 0) rfl (za (J 0) rfl (za (J 0) rfl (RL.nil (thn.n (CW.seq (CW.seq (CW.region (zm (.slice A n c) rfl (zg rfl (Ex.len Tryz.underlying97 rfl) ?_)))))))))))
  refine zc (((n : Nat) : Int) < (8 : Int)) rfl (fun r hr => Ex.lt rfl rfl hr) (fun h1 => ?_) (fun h1 => ?_)
  ·skip
   refine RL.nil (thn.n (Ab rfl (CW.seq (CW.region (za (J 0) rfl (za (J 0) rfl (za (J 10) rfl (RL.nil (thn.n (CW.ret (thn.r (finQ.r (v := (.tuple #[(J 0), (J 0), (J 10)])) (res3 rfl rfl rfl rfl) ?_))))))))))))
   exact .inr ⟨_, rfl, (H0.fix (i := 0) rfl), rdI_short (by omega), by decide⟩
  ·skip
   refine RL.nil (thn.n (Ag rfl (CW.skip (thn.n (CW.seq (CW.region (za (.int .u64 0) rfl (RL.nil (thn.n (CW.seq (CW.seq (CW.region (za (J 0) rfl (RL.nil (thn.n (CW.block ?_))))))))))))))))
   refine CW.loop (fun t => (Nat.ble 5 t && Nat.ble t 6) || (Nat.ble 10 t && Nat.ble t 21)) (fun nL ρ wl => ∃ (i : Nat), ρ 5 = (.int .u64 ((be (bs.take i) : Nat) : Int)) ∧ ρ 6 = (J (i : Int)) ∧ nL = 8 - i ∧ Sp [Bd w Bl] wl ∧ i ≤ 8) (8) ?aa0 ?bb0
   case aa0 =>
    exact ⟨0, rfl, rfl, rfl, H0, by omega⟩
   case bb0 =>
    rintro n3 ρ0 w2 ho4 ⟨i, hs0_5, hs0_6, hn0, H5, hi⟩
    obtain ⟨j0, rfl⟩ := ho4.shape2 hs0_5 hs0_6
    clear ho4 hs0_5 hs0_6
    subst hn0
    have z6 := (H5.fix (i := 0) rfl).size
    refine CW.seq (CW.seq (CW.region (zm (J (i : Int)) rfl ?_)))
    refine zc (((i : Int) : Int) < (8 : Int)) rfl (fun r hr => Ex.lt rfl rfl hr) (fun h7 => ?_) (fun h7 => ?_)
    ·skip
     refine RL.nil (thn.n (Ab rfl (CW.skip (thn.n (CW.seq (CW.block (CW.region (zm (.int .u64 ((be (bs.take i) : Nat) : Int)) rfl ?_))))))))
     have hbe := be_lt7 (l := bs.take i) (by rw [List.length_take]; omega)
     refine zg rfl (Ex.mul (r := ((be (bs.take i) * 256 : Nat) : Int)) rfl rfl (by rw [IntKind.wrap_u64]; omega)) (zm (.slice A n c) rfl (zm (J (i : Int)) rfl ?_))
     obtain ⟨e8, he9⟩ : ∃ e, (bs)[i]? = some e := ⟨_, List.getElem?_eq_getElem (by omega)⟩
     obtain ⟨ad10, hA11⟩ := Rd.sm (hr.st0 (H5.fix (i := 0) rfl)) (bcs_get he9)
     have hl12 := Eng.lt_len (bcs_get he9)
     refine zg rfl (Cq (b := (ad10.add (i * 1))) (i := i) Tryz.underlying97 Tryz.sizeOf5 (by rw [← hA11]; rfl) rfl (by omega) (by omega) rfl) (zg rfl (Ai rfl (Ba lo5 (Cl.at_ (v := (.int .u8 (e8.toNat : Int))) (Rd.cl (hr.st0 (H5.fix (i := 0) rfl)) hA11 (bcs_get he9)) (i := 0) rfl))) ?_)
     have hu13 := UInt8.toNat_lt e8
     refine zg rfl (Cx (r := ((e8.toNat : Nat) : Int)) Tryz.underlying5 Tryz.underlying234 rfl (by rw [IntKind.wrap_u64]; omega)) ?_
     have hbt := be_take he9
     refine zg rfl (Ex.add (r := ((be (bs.take (i + 1)) : Nat) : Int)) rfl rfl (by rw [IntKind.wrap_u64]; omega)) (za (.int .u64 ((be (bs.take (i + 1)) : Nat) : Int)) rfl (RL.nil (inB.n (thn.n (CW.region (zm (J (i : Int)) rfl (zg rfl (Ex.add (r := (i : Int) + 1) rfl rfl (Dd (by omega) (by omega))) (za (J ((i : Int) + 1)) rfl (RL.nil (thn.n ?_))))))))))
     refine ⟨(by repeat (first | exact Out.mix _ _ | exact Out.refl _ _ | refine Bg ?_ rfl _)), _, ?_, i + 1, rfl, rfl, rfl, H5, by omega⟩
     omega
    ·skip
     refine RL.nil (thn.n (Ag rfl (CW.exit (thn.x (thn.x (Bf (thn.n (CW.seq (CW.region (zm (.int .u64 ((be (bs.take i) : Nat) : Int)) rfl (zg rfl (Cx (r := IntKind.i64.wrap ((be (bs.take i) : Nat) : Int)) Tryz.underlying234 Tryz.underlying3 rfl (rfl)) (za (J (IntKind.i64.wrap ((be (bs.take i) : Nat) : Int))) rfl (za (J 8) rfl (za (J 0) rfl (RL.nil (thn.n (CW.ret (finQ.r (v := (.tuple #[(J (IntKind.i64.wrap ((be (bs.take i) : Nat) : Int))), (J 8), (J 0)])) (res3 rfl rfl rfl rfl) ?_))))))))))))))))))
     have hi8 : i = 8 := by omega
     subst hi8
     exact .inl ⟨_, rfl, (H5.fix (i := 0) rfl), by unfold rdI; rw [if_neg (by omega)], by omega⟩
end Go.Proofs.YtfokljnhllflbaaGreat
namespace Go.Eng
open Go
section
variable {α : Type} {p : α → Bool}
theorem idxFrom_none : ∀ {l : List α} {k : Nat}, idxFrom p k l = -1 → ∀ x ∈ l, p x = false
  | [], _, _, _, hx => by cases hx
  | y :: l, k, h, x, hx => by
    unfold idxFrom at h
    split at h
    · omega
    · rename_i hy
      rcases List.mem_cons.1 hx with rfl | hx
      · simpa using hy
      · exact idxFrom_none h x hx
theorem idxFrom_some : ∀ {l : List α} {k : Nat}, idxFrom p k l ≠ -1 → ∃ i : Nat, idxFrom p k l = ((k + i : Nat) : Int) ∧ i < l.length ∧ (∀ x ∈ l.take i, p x = false) ∧ ∃ x, l[i]? = some x ∧ p x = true
  | [], _, h => absurd rfl h
  | y :: l, k, h => by
    unfold idxFrom at h ⊢
    by_cases hy : p y = true
    · rw [if_pos hy]
      exact ⟨0, rfl, by simp, by simp, y, rfl, hy⟩
    · rw [if_neg hy] at h ⊢
      obtain ⟨i, h1, h2, h3, x, h4, h5⟩ := idxFrom_some h
      refine ⟨i + 1, by rw [h1]; congr 1; omega, by simpa using h2, fun z hz => ?_, x, by simpa using h4, h5⟩
      rw [List.take_succ_cons] at hz
      rcases List.mem_cons.1 hz with rfl | hz
      · simpa using hy
      · exact h3 z hz
theorem idxF_some {l : List α} (h : idxF p l ≠ -1) : ∃ i : Nat, idxF p l = (i : Int) ∧ i < l.length ∧ (∀ x ∈ l.take i, p x = false) ∧ ∃ x, l[i]? = some x ∧ p x = true := by
  obtain ⟨i, h1, h2⟩ := idxFrom_some h
  rw [Nat.zero_add] at h1
  exact ⟨i, h1, h2⟩
end
end Go.Eng
namespace Go.Eng
open Go
theorem mayR_bd {o : Int} {b : Blk} (h : mayR o b = true) (h8 : o ≤ 8) : (0 ≤ b.ord ∧ b.ord ≤ o ∧ b.ord ≤ 8) ∧ 0 ≤ b.at_ ∧ b.at_ ≤ 256 := by
  obtain ⟨h1, h2, h3, h4, _⟩ := mayR_t.1 h
  have w1 := Az o
  have w2 := Az b.ord
  omega
theorem buddy_no {o : Int} {l : List Blk} (h : ¬ RightF o l) : buddyB o l = false := by
  cases e : buddyB o l with
  | false => rfl
  | true => exact absurd (buddy_right.1 e) h
theorem rf_ok {o : Int} {l : List Blk} (h : RightF o l) {k i : Nat} {x y : Blk} (hki : k < i) (hy : l[k]? = some y) (hx : l[i]? = some x) : okP o y x := by
  obtain ⟨_, _, _, h4⟩ := h
  have l1 := lt_len hy
  have l2 := lt_len hx
  have := (List.pairwise_iff_getElem.1 h4) k i l1 l2 hki
  rw [List.getElem?_eq_getElem l1] at hy
  rw [List.getElem?_eq_getElem l2] at hx
  injection hy with hy
  injection hx with hx
  rw [hy, hx] at this
  exact this
theorem rf_of {o : Int} {l : List Blk} {n : Nat} (h1 : 3 ≤ o ∧ o ≤ 8) (h2 : (l.length : Int) ≤ Ae o) (hn : l.length ≤ n) (h : ∀ (j : Nat) (x : Blk), j < n → l[j]? = some x → mayR o x = true ∧ ∀ (k : Nat) (y : Blk), k < j → l[k]? = some y → okP o y x) : RightF o l := by
  refine ⟨h1, h2, fun x hx => ?_, List.pairwise_iff_getElem.2 fun i j hi hj hij => ?_⟩
  · obtain ⟨j, hj⟩ := List.mem_iff_getElem?.1 hx
    exact (h j x (by have := lt_len hj; omega) hj).1
  · exact (h j _ (by omega) (List.getElem?_eq_getElem hj)).2 i _ hij (List.getElem?_eq_getElem hi)
theorem upto_go {α : Type} {l : List α} {i : Nat} {e : α} {p : Nat → α → Prop} (h : ∀ (j : Nat) (x : α), j < i → l[j]? = some x → p j x) (he : l[i]? = some e) (hp : p i e) : ∀ (j : Nat) (x : α), j < i + 1 → l[j]? = some x → p j x := fun j x hj hx => by
  rcases Nat.lt_or_ge j i with h1 | h1
  · exact h j x h1 hx
  · have : j = i := by omega
    subst this
    rw [he] at hx
    injection hx with hx
    subst hx
    exact hp
theorem heap_no {h : Heap} (hn : ¬ RightH h) : Cw h = false := by
  cases e : Cw h with
  | false => rfl
  | true => exact absurd ((heap_right h).1 e) hn
def leadR (h : Heap) (t : Int) : Bool := decide (t = 0 ∨ t ∈ h.handles)
theorem leadR_t {h : Heap} {t : Int} (hl : leadR h t = true) : t = 0 ∨ t ∈ h.handles := by simpa [leadR] using hl
theorem leadR_f {h : Heap} {t : Int} (hl : leadR h t = false) : ¬ (t = 0 ∨ t ∈ h.handles) := by simpa [leadR] using hl
def placeR (h : Heap) (t : Int) : Int := idxF (fun o : Obj => decide (o.handle = t)) h.objs
theorem place_mem {h : Heap} {t : Int} : 0 ≤ placeR h t ↔ t ∈ h.handles := by
  unfold placeR
  constructor
  · intro h1
    obtain ⟨i, _, _, _, x, h4, h5⟩ := idxF_some (p := fun o : Obj => decide (o.handle = t)) (l := h.objs) (by omega)
    exact List.mem_map.2 ⟨x, List.mem_of_getElem? h4, by simpa using h5⟩
  · intro h1
    obtain ⟨x, hx, e⟩ := List.mem_map.1 h1
    by_cases h2 : idxF (fun o : Obj => decide (o.handle = t)) h.objs = -1
    · have := idxFrom_none h2 x hx
      simp [e] at this
    · obtain ⟨i, h3, _⟩ := idxF_some h2
      omega
theorem sumW_app (l m : List Blk) : sumW (l ++ m) = sumW l + sumW m := by simp [sumW]
theorem sumW_snoc {l : List Blk} {i : Nat} {b : Blk} (h : l[i]? = some b) : sumW (l.take (i + 1)) = sumW (l.take i) + Ae b.ord := by
  rw [take_snoc h, sumW_app, sumW_cons]
  show _ + (_ + (0 : Int)) = _
  omega
def objOK (h : Heap) (i : Nat) (x : Obj) : Prop := 1 ≤ x.handle ∧ x.handle < h.next ∧ (∀ y : Obj, 0 < i → h.objs[i - 1]? = some y → y.handle < x.handle) ∧ Bs x.words.length x.links.length = x.blk.ord ∧ mayR h.order x.blk = true ∧ ∀ t ∈ x.links, t = 0 ∨ t ∈ h.handles
theorem pw_of {l : List Blk} {n : Nat} (hn : l.length ≤ n) (h : ∀ (j : Nat) (x : Blk), j < n → l[j]? = some x → ∀ (k : Nat) (y : Blk), k < j → l[k]? = some y → meetB x y = false) : l.Pairwise apart :=
  List.pairwise_iff_getElem.2 fun i j hi hj hij => h j _ (by omega) (List.getElem?_eq_getElem hj) i _ hij (List.getElem?_eq_getElem hi)
theorem pw_at {l : List Blk} (h : l.Pairwise apart) {k i : Nat} {x y : Blk} (hki : k < i) (hy : l[k]? = some y) (hx : l[i]? = some x) : meetB x y = false := by
  have l1 := lt_len hy
  have l2 := lt_len hx
  have := (List.pairwise_iff_getElem.1 h) k i l1 l2 hki
  rw [List.getElem?_eq_getElem l1] at hy
  rw [List.getElem?_eq_getElem l2] at hx
  injection hy with hy
  injection hx with hx
  rw [hy, hx] at this
  exact this
theorem hb_may {h : Heap} {n : Nat} (hb : buddyB h.order h.free = true) (hn : h.objs.length ≤ n) (ho : ∀ (j : Nat) (x : Obj), j < n → h.objs[j]? = some x → objOK h j x) : ∀ b ∈ h.blocks, mayR h.order b = true := fun b hm => by
  rcases List.mem_append.1 hm with hm | hm
  · exact (buddy_right.1 hb).2.2.1 b hm
  · obtain ⟨x, hx, rfl⟩ := List.mem_map.1 hm
    obtain ⟨j, hj⟩ := List.mem_iff_getElem?.1 hx
    exact (ho j x (by have := lt_len hj; omega) hj).2.2.2.2.1
end Go.Eng
namespace Go.Eng
theorem Co {m m2 : Nat → Bool} {j ρ ρ0 : Cv} (h : Out m ρ ρ0) (hm : ∀ t, m t = false → m2 t = false) : Out m (Eng.mix m2 j ρ) ρ0 := fun t ht => by
  unfold Eng.mix; rw [hm t ht]; exact h t ht
theorem ble_f {a b : Nat} : Nat.ble a b = false ↔ b < a := by
  rw [← Bool.not_eq_true, Nat.ble_eq]; omega
theorem beq_f {a b : Nat} : Nat.beq a b = false ↔ a ≠ b := by
  rw [← Bool.not_eq_true, Nat.beq_eq]
end Go.Eng
namespace Go.Proofs.YtfokljnhllflbaaGreat
open Go Go.Eng Go.RowKit
set_option maxHeartbeats 2000000 in
set_option maxRecDepth 20000 in
theorem right04_ (w : World) (B : Nat) (o : Int) (l : List Blk) (A : Option Addr) (n c : Nat) (hr : Rd w B 2 A (Ck l)) (hn : n = l.length) (hB : B ≤ w.heap.size) : Ret Tryz.prog 222 [(J o), (.slice A n c)] w (fun v w' => v = .bool (buddyB o l) ∧ w.grownBy w' none) := by
  have H0 : Sp [Bd w Bl] w := Bn w
  refine Ret.body Tryz.func222 rfl rfl rfl ?_
  refine CW.seq (CW.region (za (bF) rfl (RL.nil (thn.n (CW.seq (CW.seq (CW.region (zm (J o) rfl (RL.call Tryz.call235 (reg_ _ o) rfl rfl rfl ?_)))))))))
  rintro _ w1 ⟨rfl, g2⟩
  have H3 := H0.grow g2
  have z4 := g2.size
  rcases hb5 : (Aq o 3 8) with _ | _
  ·have hwf := withinB_f hb5
   refine zg rfl (Ex.not (b := false) rfl) (zm (bT) rfl (zo rfl (zo rfl (zo rfl (zo rfl (zo rfl (zT (bT) rfl (RL.nil (thn.n (Ab rfl (CW.seq (CW.region (za (bF) rfl (RL.nil (thn.n (CW.ret (thn.r ?_)))))))))))))))))
   refine finQ.r (v := bF) (Ax rfl rfl) ?_
   have hrf : ¬ RightF o l := fun q => by have q1 := q.1; have q2 := q.2.1; omega
   exact ⟨Am (buddy_no hrf).symm, (H3.fix (i := 0) rfl)⟩
  ·have hwt := Bc hb5
   refine zg rfl (Ex.not (b := true) rfl) (zm (bF) rfl (zm (.slice A n c) rfl (zg rfl (Ex.len Tryz.underlying45 rfl) (zm (J o) rfl ?_))))
   have hz6 := Az o
   have hz7 := Bm (o := o) (by omega) (by omega)
   refine RL.call Tryz.call229 (sz_ _ o (by omega) (by omega)) rfl rfl rfl ?_
   rintro _ w8 ⟨rfl, g9⟩
   have H10 := H3.grow g9
   have z11 := g9.size
   refine zc (((Ae o) : Int) < ((n : Nat) : Int)) rfl (fun r hr => Df rfl rfl hr) (fun h12 => ?_) (fun h12 => ?_)
   ·skip
    refine zF (bT) rfl (RL.nil (thn.n (Ab rfl (CW.seq (CW.region (za (bF) rfl (RL.nil (thn.n (CW.ret (thn.r (finQ.r (v := bF) (Ax rfl rfl) ?_)))))))))))
    have hrf : ¬ RightF o l := fun q => by have q1 := q.1; have q2 := q.2.1; omega
    exact ⟨Am (buddy_no hrf).symm, (H10.fix (i := 0) rfl)⟩
   ·skip
    refine zF (bF) rfl (RL.nil (thn.n (Ag rfl (CW.skip (thn.n (CW.seq (CW.seq (CW.region (za (J 0) rfl (RL.nil (thn.n (CW.block ?_))))))))))))
    refine CW.loop (fun t => (Nat.ble 4 t && Nat.ble t 6) || (Nat.ble 17 t && Nat.ble t 77)) (fun nL ρ wl => ∃ (i : Nat), ρ 5 = (J (i : Int)) ∧ nL = n - i ∧ Sp [Bd w Bl] wl ∧ i ≤ n ∧ ∀ (j : Nat) (x : Blk), j < i → l[j]? = some x → mayR o x = true ∧ ∀ (k : Nat) (y : Blk), k < j → l[k]? = some y → okP o y x) (n) ?aa0 ?bb0
    case aa0 =>
     exact ⟨0, rfl, rfl, H10, Nat.zero_le _, fun j x hj => by omega⟩
    case bb0 =>
     rintro n14 ρ0 w13 ho15 ⟨i, hs0_5, hn0, H16, hi, hO⟩
     obtain ⟨j0, rfl⟩ := ho15.shape1 hs0_5
     clear ho15 hs0_5
     subst hn0
     have z17 := (H16.fix (i := 0) rfl).size
     refine CW.seq (CW.seq (CW.region (zm (J (i : Int)) rfl (zm (.slice A n c) rfl (zg rfl (Ex.len Tryz.underlying45 rfl) ?_)))))
     refine zc (((i : Int) : Int) < ((n : Nat) : Int)) rfl (fun r hr => Ex.lt rfl rfl hr) (fun h18 => ?_) (fun h18 => ?_)
     ·skip
      refine RL.nil (thn.n (Ab rfl (CW.skip (thn.n (CW.seq (CW.block (CW.seq (CW.seq (CW.region (zm (J o) rfl (zm (.slice A n c) rfl (zm (J (i : Int)) rfl ?_))))))))))))
      obtain ⟨e19, he20⟩ : ∃ e, (l)[i]? = some e := ⟨_, List.getElem?_eq_getElem (by omega)⟩
      obtain ⟨ad21, hA22⟩ := Rd.sm (hr.st0 (H16.fix (i := 0) rfl)) (Bu he20)
      have hl23 := Eng.lt_len (Bu he20)
      refine zg rfl (Cq (b := (ad21.add (i * 2))) (i := i) Tryz.underlying45 Tryz.sizeOf133 (by rw [← hA22]; rfl) rfl (by omega) (by omega) rfl) (zg rfl (Ai rfl (Ak (cs := e19.cells) wh133 (Rd.cl (hr.st0 (H16.fix (i := 0) rfl)) hA22 (Bu he20)))) (RL.call Tryz.call224 (mayR_ _ o e19 (by omega) (by omega)) rfl rfl rfl ?_))
      rintro _ w24 ⟨rfl, g25⟩
      have H26 := H16.grow g25
      have z27 := g25.size
      rcases hb28 : (mayR o e19) with _ | _
      ·skip
       refine zg rfl (Ex.not (b := false) rfl) (RL.nil (thn.n (Ab rfl (CW.seq (CW.region (za (bF) rfl (RL.nil (thn.n (CW.ret (thn.r (inB.r (thn.r (thn.r (inB.r (thn.r (finQ.r (v := bF) (Ax rfl rfl) ?_))))))))))))))))
       have hrf : ¬ RightF o l := fun q => by have q1 := q.2.2.1 _ (List.mem_of_getElem? he20); rw [hb28] at q1; cases q1
       exact ⟨Am (buddy_no hrf).symm, (H26.fix (i := 0) rfl)⟩
      ·have hmt := mayR_bd hb28 (by omega)
       refine zg rfl (Ex.not (b := true) rfl) (RL.nil (thn.n (Ag rfl (CW.skip (thn.n (CW.seq (CW.region (za (J 0) rfl (RL.nil (thn.n (CW.block ?_)))))))))))
       refine CW.loop (fun t => Nat.beq t 4 || Nat.beq t 6 || (Nat.ble 30 t && Nat.ble t 77)) (fun nL ρ wl => ∃ (k : Nat), ρ 6 = (J (k : Int)) ∧ nL = i - k ∧ Sp [Bd w Bl] wl ∧ k ≤ i ∧ ∀ (k2 : Nat) (y : Blk), k2 < k → l[k2]? = some y → okP o y e19) (i) ?aa1 ?bb1
       case aa1 =>
        exact ⟨0, rfl, rfl, H26, Nat.zero_le _, fun j x hj => by omega⟩
       case bb1 =>
        rintro n30 ρ1 w29 ho31 ⟨k, hs1_6, hn1, H32, hk, hin⟩
        obtain ⟨j1, rfl⟩ := ho31.shape1 hs1_6
        clear ho31 hs1_6
        subst hn1
        have z33 := (H32.fix (i := 0) rfl).size
        refine CW.seq (CW.seq (CW.region (zm (J (k : Int)) rfl (zm (J (i : Int)) rfl ?_))))
        refine zc (((k : Int) : Int) < ((i : Int) : Int)) rfl (fun r hr => Ex.lt rfl rfl hr) (fun h34 => ?_) (fun h34 => ?_)
        ·skip
         refine RL.nil (thn.n (Ab rfl (CW.skip (thn.n (CW.seq (CW.block (CW.seq (CW.held (fun wq => Sp [Bd w Bl] wq) Tryz.mixed rfl ?_))))))))
         intro w35 g36
         have H37 := H32.grow g36
         have z38 := g36.size
         refine zr 0 1 rfl (by kernel_rfl) H37 (fun wq hq => Au (v := (.slice A n c)) rfl) (zr 1 3 rfl (by kernel_rfl) H37 (fun wq hq => Au (v := (J (k : Int))) rfl) (zr 5 35 rfl (by kernel_rfl) H37 (fun wq hq => Au (v := (.slice A n c)) rfl) (zr 6 99 rfl (by kernel_rfl) H37 (fun wq hq => Au (v := (J (i : Int))) rfl) ?_)))
         obtain ⟨e39, he40⟩ : ∃ e, (l)[k]? = some e := ⟨_, List.getElem?_eq_getElem (by omega)⟩
         obtain ⟨ad41, hA42⟩ := Rd.sm (hr.st0 (H37.fix (i := 0) rfl)) (Bu he40)
         have hl43 := Eng.lt_len (Bu he40)
         refine zr 2 103 rfl (by kernel_rfl) H37 (fun wq hq => Cq (b := (ad41.add (k * 2))) (i := k) Tryz.underlying45 Tryz.sizeOf133 (by rw [← hA42]; rfl) rfl (by omega) (by omega) rfl) (zr 3 111 rfl (by kernel_rfl) H37 (fun wq hq => Cn (b := ((ad41.add (k * 2)))) rfl rfl) (zr 4 127 rfl (by kernel_rfl) H37 (fun wq hq => Ai rfl (Ba Cf (Cl.at_ (v := (J e39.at_)) (Rd.cl (hr.st0 (hq.fix (i := 0) rfl)) hA42 (Bu he40)) (i := 0) rfl))) ?_))
         obtain ⟨ad44, hA45⟩ := Rd.sm (hr.st0 (H37.fix (i := 0) rfl)) (Bu he20)
         have hl46 := Eng.lt_len (Bu he20)
         refine zr 7 255 rfl (by kernel_rfl) H37 (fun wq hq => Cq (b := (ad44.add (i * 2))) (i := i) Tryz.underlying45 Tryz.sizeOf133 (by rw [← hA45]; rfl) rfl (by omega) (by omega) rfl) (zr 8 511 rfl (by kernel_rfl) H37 (fun wq hq => Cn (b := ((ad44.add (i * 2)))) rfl rfl) (zr 9 1023 rfl (by kernel_rfl) H37 (fun wq hq => Ai rfl (Ba Cf (Cl.at_ (v := (J e19.at_)) (Rd.cl (hr.st0 (hq.fix (i := 0) rfl)) hA45 (Bu he20)) (i := 0) rfl))) ?_))
         refine zb 10 2047 ((e19.at_ : Int) ≤ (e39.at_ : Int)) rfl (by kernel_rfl) H37 (fun r hr wq hq => Ex.ge rfl rfl hr) (fun h47 => ?_) (fun h47 => ?_)
         ·skip
          refine zr 11 4095 rfl (by kernel_rfl) H37 (fun wq hq => Au (v := bT) rfl) (zq 12 8191 rfl (by kernel_rfl) H37 (zq 13 16383 rfl (by kernel_rfl) H37 (zq 16 81919 rfl (by kernel_rfl) H37 (zq 17 212991 rfl (by kernel_rfl) H37 (zq 14 229375 rfl (by kernel_rfl) H37 (zq 15 262143 rfl (by kernel_rfl) H37 (zq 18 524287 rfl (by kernel_rfl) H37 (zq 19 1048575 rfl (by kernel_rfl) H37 (zq 20 2097151 rfl (by kernel_rfl) H37 (zr 21 4194303 rfl (by kernel_rfl) H37 (fun wq hq => Bi (v := bT) rfl rfl) ?_))))))))))
          refine zr 22 8388607 rfl (by kernel_rfl) H37 (fun wq hq => Au (v := bT) rfl) (zq 23 16777215 rfl (by kernel_rfl) H37 (zq 24 33554431 rfl (by kernel_rfl) H37 (zq 28 301989887 rfl (by kernel_rfl) H37 (zq 25 335544319 rfl (by kernel_rfl) H37 (zq 26 402653183 rfl (by kernel_rfl) H37 (zq 27 536870911 rfl (by kernel_rfl) H37 (zq 29 1073741823 rfl (by kernel_rfl) H37 (zq 30 2147483647 rfl (by kernel_rfl) H37 (zq 31 4294967295 rfl (by kernel_rfl) H37 (zq 32 8589934591 rfl (by kernel_rfl) H37 ?_))))))))))
          refine zq 36 77309411327 rfl (by kernel_rfl) H37 (zq 37 214748364799 rfl (by kernel_rfl) H37 (zq 33 223338299391 rfl (by kernel_rfl) H37 (zq 34 240518168575 rfl (by kernel_rfl) H37 (zq 35 274877906943 rfl (by kernel_rfl) H37 (zq 38 549755813887 rfl (by kernel_rfl) H37 (zq 39 1099511627775 rfl (by kernel_rfl) H37 (zq 40 2199023255551 rfl (by kernel_rfl) H37 (zq 41 4398046511103 rfl (by kernel_rfl) H37 (zr 42 8796093022207 rfl (by kernel_rfl) H37 (fun wq hq => Bi (v := bT) rfl rfl) (Bj (by kernel_rfl) ?_))))))))))
          refine thn.n (Ab rfl (CW.seq (CW.region (za (bF) rfl (RL.nil (thn.n (CW.ret (inB.r (thn.r (thn.r (inB.r (inB.r (thn.r (thn.r (inB.r (thn.r (finQ.r (v := bF) (Ax rfl rfl) ?_)))))))))))))))))
          have hrf : ¬ RightF o l := fun q => by
            obtain ⟨q1, q2, q3⟩ := rf_ok q (show k < i by omega) he40 he20
            first | omega | (rw [h47] at q2; cases q2) | exact q3 ⟨h34, blk_eq.2 h47⟩
          exact ⟨Am (buddy_no hrf).symm, (H37.fix (i := 0) rfl)⟩
         ·skip
          refine zr 11 4095 rfl (by kernel_rfl) H37 (fun wq hq => Au (v := bF) rfl) (zr 12 8191 rfl (by kernel_rfl) H37 (fun wq hq => Au (v := (.slice A n c)) rfl) (zr 13 16383 rfl (by kernel_rfl) H37 (fun wq hq => Au (v := (J (i : Int))) rfl) (zr 16 81919 rfl (by kernel_rfl) H37 (fun wq hq => Au (v := (.slice A n c)) rfl) (zr 17 212991 rfl (by kernel_rfl) H37 (fun wq hq => Au (v := (J (k : Int))) rfl) ?_))))
          obtain ⟨ad48, hA49⟩ := Rd.sm (hr.st0 (H37.fix (i := 0) rfl)) (Bu he20)
          have hl50 := Eng.lt_len (Bu he20)
          refine zr 14 229375 rfl (by kernel_rfl) H37 (fun wq hq => Cq (b := (ad48.add (i * 2))) (i := i) Tryz.underlying45 Tryz.sizeOf133 (by rw [← hA49]; rfl) rfl (by omega) (by omega) rfl) (zr 15 262143 rfl (by kernel_rfl) H37 (fun wq hq => Ai rfl (Ak (cs := e19.cells) wh133 (Rd.cl (hr.st0 (hq.fix (i := 0) rfl)) hA49 (Bu he20)))) ?_)
          obtain ⟨ad51, hA52⟩ := Rd.sm (hr.st0 (H37.fix (i := 0) rfl)) (Bu he40)
          have hl53 := Eng.lt_len (Bu he40)
          refine zr 18 524287 rfl (by kernel_rfl) H37 (fun wq hq => Cq (b := (ad51.add (k * 2))) (i := k) Tryz.underlying45 Tryz.sizeOf133 (by rw [← hA52]; rfl) rfl (by omega) (by omega) rfl) (zr 19 1048575 rfl (by kernel_rfl) H37 (fun wq hq => Ai rfl (Ak (cs := e39.cells) wh133 (Rd.cl (hr.st0 (hq.fix (i := 0) rfl)) hA52 (Bu he40)))) (RA.one (i := 20) (by kernel_rfl) ?_))
          refine ⟨_, 2097151, rfl, by kernel_rfl, ?_⟩
          have hmk := mayR_bd (hO k e39 (by omega) he40).1 (by omega)
          refine RL.call Tryz.call227 (meet_ _ e19 e39 (by first | assumption | (constructor <;> (first | omega | (show _ ≤ _; omega)))) (by first | assumption | (constructor <;> (first | omega | (show _ ≤ _; omega)))) (by first | assumption | (constructor <;> (first | omega | (show _ ≤ _; omega)))) (by first | assumption | (constructor <;> (first | omega | (show _ ≤ _; omega))))) rfl rfl rfl ?_
          rintro _ w54 ⟨rfl, g55⟩
          have H56 := H37.grow g55
          have z57 := g55.size
          rcases hb58 : (meetB e19 e39) with _ | _
          ·skip
           refine RL.nil ?_
           refine ⟨H56, ?_⟩
           refine zr 21 4194303 rfl (by kernel_rfl) H56 (fun wq hq => Be (v := bF) rfl rfl) (zr 22 8388607 rfl (by kernel_rfl) H56 (fun wq hq => Au (v := bF) rfl) (zr 23 16777215 rfl (by kernel_rfl) H56 (fun wq hq => Au (v := (.slice A n c)) rfl) (zr 24 33554431 rfl (by kernel_rfl) H56 (fun wq hq => Au (v := (J (i : Int))) rfl) (zr 28 301989887 rfl (by kernel_rfl) H56 (fun wq hq => Au (v := (J o)) rfl) ?_))))
           obtain ⟨ad59, hA60⟩ := Rd.sm (hr.st0 (H56.fix (i := 0) rfl)) (Bu he20)
           have hl61 := Eng.lt_len (Bu he20)
           refine zr 25 335544319 rfl (by kernel_rfl) H56 (fun wq hq => Cq (b := (ad59.add (i * 2))) (i := i) Tryz.underlying45 Tryz.sizeOf133 (by rw [← hA60]; rfl) rfl (by omega) (by omega) rfl) (zr 26 402653183 rfl (by kernel_rfl) H56 (fun wq hq => Cd (b := (((ad59.add (i * 2))).add 1)) rfl rfl) (zr 27 536870911 rfl (by kernel_rfl) H56 (fun wq hq => Ai rfl (Ba Cf (Cl.at_ (v := (J e19.ord)) (Rd.cl (hr.st0 (hq.fix (i := 0) rfl)) hA60 (Bu he20)) (i := 1) rfl))) ?_))
           refine zb 29 1073741823 ((e19.ord : Int) < (o : Int)) rfl (by kernel_rfl) H56 (fun r hr wq hq => Ex.lt rfl rfl hr) (fun h62 => ?_) (fun h62 => ?_)
           ·skip
            refine zr 30 2147483647 rfl (by kernel_rfl) H56 (fun wq hq => Au (v := bT) rfl) (zr 31 4294967295 rfl (by kernel_rfl) H56 (fun wq hq => Au (v := (.slice A n c)) rfl) (zr 32 8589934591 rfl (by kernel_rfl) H56 (fun wq hq => Au (v := (J (i : Int))) rfl) (zr 36 77309411327 rfl (by kernel_rfl) H56 (fun wq hq => Au (v := (.slice A n c)) rfl) (zr 37 214748364799 rfl (by kernel_rfl) H56 (fun wq hq => Au (v := (J (k : Int))) rfl) ?_))))
            obtain ⟨ad63, hA65⟩ := Rd.sm (hr.st0 (H56.fix (i := 0) rfl)) (Bu he20)
            have hl66 := Eng.lt_len (Bu he20)
            refine zr 33 223338299391 rfl (by kernel_rfl) H56 (fun wq hq => Cq (b := (ad63.add (i * 2))) (i := i) Tryz.underlying45 Tryz.sizeOf133 (by rw [← hA65]; rfl) rfl (by omega) (by omega) rfl) (zr 34 240518168575 rfl (by kernel_rfl) H56 (fun wq hq => Ai rfl (Ak (cs := e19.cells) wh133 (Rd.cl (hr.st0 (hq.fix (i := 0) rfl)) hA65 (Bu he20)))) ?_)
            obtain ⟨ad67, hA68⟩ := Rd.sm (hr.st0 (H56.fix (i := 0) rfl)) (Bu he40)
            have hl69 := Eng.lt_len (Bu he40)
            refine zr 38 515396075519 rfl (by kernel_rfl) H56 (fun wq hq => Cq (b := (ad67.add (k * 2))) (i := k) Tryz.underlying45 Tryz.sizeOf133 (by rw [← hA68]; rfl) rfl (by omega) (by omega) rfl) (zr 39 1065151889407 rfl (by kernel_rfl) H56 (fun wq hq => Ai rfl (Ak (cs := e39.cells) wh133 (Rd.cl (hr.st0 (hq.fix (i := 0) rfl)) hA68 (Bu he40)))) (RA.one (i := 35) (by kernel_rfl) ?_))
            refine ⟨_, 1099511627775, rfl, by kernel_rfl, ?_⟩
            refine RL.call Tryz.call262 (twinRf_ _ e19 (by first | assumption | (constructor <;> (first | omega | (show _ ≤ _; omega)))) (by first | assumption | (constructor <;> (first | omega | (show _ ≤ _; omega))))) rfl rfl rfl ?_
            rintro _ w70 ⟨rfl, g71⟩
            have H72 := H56.grow g71
            have z73 := g71.size
            refine RL.nil ?_
            refine ⟨H72, ?_⟩
            refine zb 40 2199023255551 (((twinR e19).at_ : Int) = (e39.at_ : Int) ∧ ((twinR e19).ord : Int) = (e39.ord : Int)) rfl (by kernel_rfl) H72 (fun r hr wq hq => Ex.eqS (xs := (twinR e19).cells) (ys := e39.cells) Tryz.eqGuardType133 (eqT133 hr) rfl rfl) (fun h74 => ?_) (fun h74 => ?_)
            ·skip
             refine zr 41 4398046511103 rfl (by kernel_rfl) H72 (fun wq hq => Bi (v := bT) rfl rfl) (zr 42 8796093022207 rfl (by kernel_rfl) H72 (fun wq hq => Be (v := bT) rfl rfl) (Bj (by kernel_rfl) (thn.n (Ab rfl (CW.seq (CW.region (za (bF) rfl (RL.nil (thn.n (CW.ret (inB.r (thn.r (thn.r (inB.r (inB.r (thn.r (thn.r (inB.r (thn.r (finQ.r (v := bF) (Ax rfl rfl) ?_))))))))))))))))))))
             have hrf : ¬ RightF o l := fun q => by
               obtain ⟨q1, q2, q3⟩ := rf_ok q (show k < i by omega) he40 he20
               first | omega | (rw [h74] at q2; cases q2) | exact q3 ⟨h62, blk_eq.2 h74⟩
             exact ⟨Am (buddy_no hrf).symm, (H72.fix (i := 0) rfl)⟩
            ·skip
             refine zr 41 4398046511103 rfl (by kernel_rfl) H72 (fun wq hq => Bi (v := bF) rfl rfl) (zr 42 8796093022207 rfl (by kernel_rfl) H72 (fun wq hq => Be (v := bF) rfl rfl) (Bj (by kernel_rfl) (thn.n (Ag rfl (CW.skip (inB.n (thn.n (CW.region (zm (J (k : Int)) rfl (zg rfl (Ex.add (r := (k : Int) + 1) rfl rfl (Dd (by omega) (by omega))) (za (J ((k : Int) + 1)) rfl (RL.nil (thn.n ?_)))))))))))))
             refine ⟨(by repeat (first | exact Out.mix _ _ | exact Out.refl _ _ | refine Bg ?_ rfl _ | refine Co ?_ (by intro t ht; simp only [Bool.or_eq_false_iff, Bool.and_eq_false_iff, ble_f, beq_f] at ht ⊢; omega))), _, ?_, k + 1, rfl, rfl, H72, by omega, upto_go (p := fun _ y => okP o y e19) hin he40 ⟨by omega, hb58, fun ⟨q1, q2⟩ => by first | exact absurd q1 h74 | exact absurd (blk_eq.1 q2) h74⟩⟩
             omega
           ·skip
            refine zr 30 2147483647 rfl (by kernel_rfl) H56 (fun wq hq => Au (v := bF) rfl) (zq 31 4294967295 rfl (by kernel_rfl) H56 (zq 32 8589934591 rfl (by kernel_rfl) H56 (zq 36 77309411327 rfl (by kernel_rfl) H56 (zq 37 214748364799 rfl (by kernel_rfl) H56 (zq 33 223338299391 rfl (by kernel_rfl) H56 (zq 34 240518168575 rfl (by kernel_rfl) H56 (zq 35 274877906943 rfl (by kernel_rfl) H56 (zq 38 549755813887 rfl (by kernel_rfl) H56 (zq 39 1099511627775 rfl (by kernel_rfl) H56 (zq 40 2199023255551 rfl (by kernel_rfl) H56 ?_))))))))))
            refine zr 41 4398046511103 rfl (by kernel_rfl) H56 (fun wq hq => Be (v := bF) rfl rfl) (zr 42 8796093022207 rfl (by kernel_rfl) H56 (fun wq hq => Be (v := bF) rfl rfl) (Bj (by kernel_rfl) (thn.n (Ag rfl (CW.skip (inB.n (thn.n (CW.region (zm (J (k : Int)) rfl (zg rfl (Ex.add (r := (k : Int) + 1) rfl rfl (Dd (by omega) (by omega))) (za (J ((k : Int) + 1)) rfl (RL.nil (thn.n ?_)))))))))))))
            refine ⟨(by repeat (first | exact Out.mix _ _ | exact Out.refl _ _ | refine Bg ?_ rfl _ | refine Co ?_ (by intro t ht; simp only [Bool.or_eq_false_iff, Bool.and_eq_false_iff, ble_f, beq_f] at ht ⊢; omega))), _, ?_, k + 1, rfl, rfl, H56, by omega, upto_go (p := fun _ y => okP o y e19) hin he40 ⟨by omega, hb58, fun ⟨q1, q2⟩ => by first | exact absurd q1 h62 | exact absurd (blk_eq.1 q2) h62⟩⟩
            omega
          ·skip
           refine RL.nil ?_
           refine ⟨H56, ?_⟩
           refine zr 21 4194303 rfl (by kernel_rfl) H56 (fun wq hq => Be (v := bT) rfl rfl) (zr 22 8388607 rfl (by kernel_rfl) H56 (fun wq hq => Au (v := bT) rfl) (zq 23 16777215 rfl (by kernel_rfl) H56 (zq 24 33554431 rfl (by kernel_rfl) H56 (zq 28 301989887 rfl (by kernel_rfl) H56 (zq 25 335544319 rfl (by kernel_rfl) H56 (zq 26 402653183 rfl (by kernel_rfl) H56 (zq 27 536870911 rfl (by kernel_rfl) H56 (zq 29 1073741823 rfl (by kernel_rfl) H56 (zq 30 2147483647 rfl (by kernel_rfl) H56 (zq 31 4294967295 rfl (by kernel_rfl) H56 ?_))))))))))
           refine zq 32 8589934591 rfl (by kernel_rfl) H56 (zq 36 77309411327 rfl (by kernel_rfl) H56 (zq 37 214748364799 rfl (by kernel_rfl) H56 (zq 33 223338299391 rfl (by kernel_rfl) H56 (zq 34 240518168575 rfl (by kernel_rfl) H56 (zq 35 274877906943 rfl (by kernel_rfl) H56 (zq 38 549755813887 rfl (by kernel_rfl) H56 (zq 39 1099511627775 rfl (by kernel_rfl) H56 (zq 40 2199023255551 rfl (by kernel_rfl) H56 (zq 41 4398046511103 rfl (by kernel_rfl) H56 (zr 42 8796093022207 rfl (by kernel_rfl) H56 (fun wq hq => Bi (v := bT) rfl rfl) ?_))))))))))
           refine Bj (by kernel_rfl) (thn.n (Ab rfl (CW.seq (CW.region (za (bF) rfl (RL.nil (thn.n (CW.ret (inB.r (thn.r (thn.r (inB.r (inB.r (thn.r (thn.r (inB.r (thn.r (finQ.r (v := bF) (Ax rfl rfl) ?_))))))))))))))))))
           have hrf : ¬ RightF o l := fun q => by
             obtain ⟨q1, q2, q3⟩ := rf_ok q (show k < i by omega) he40 he20
             first | omega | (rw [hb58] at q2; cases q2) | exact q3 ⟨h47, blk_eq.2 hb58⟩
           exact ⟨Am (buddy_no hrf).symm, (H56.fix (i := 0) rfl)⟩
        ·skip
         refine RL.nil (thn.n (Ag rfl (CW.exit (thn.x (thn.x (Bf (inB.n (thn.n (CW.region (zm (J (i : Int)) rfl (zg rfl (Ex.add (r := (i : Int) + 1) rfl rfl (Dd (by omega) (by omega))) (za (J ((i : Int) + 1)) rfl (RL.nil (thn.n ?_))))))))))))))
         refine ⟨(by repeat (first | exact Out.mix _ _ | exact Out.refl _ _ | refine Bg ?_ rfl _ | refine Co ?_ (by intro t ht; simp only [Bool.or_eq_false_iff, Bool.and_eq_false_iff, ble_f, beq_f] at ht ⊢; omega))), _, ?_, i + 1, rfl, rfl, H32, by omega, upto_go hO he20 ⟨hb28, fun k2 y hk2 hy => hin k2 y (by omega) hy⟩⟩
         omega
     ·skip
      refine RL.nil (thn.n (Ag rfl (CW.exit (thn.x (thn.x (Bf (thn.n (CW.seq (CW.region (za (bT) rfl (RL.nil (thn.n (CW.ret (finQ.r (v := bT) (Ax rfl rfl) ?_))))))))))))))
      have hrt : RightF o l := rf_of hwt (by omega) (by omega) hO
      exact ⟨Am (buddy_right.2 hrt).symm, (H16.fix (i := 0) rfl)⟩
set_option maxHeartbeats 400000 in
set_option maxRecDepth 20000 in
theorem own04_ (w : World) (B : Nat) (l : List Blk) (A : Option Addr) (n c : Nat) (hr : Rd w B 2 A (Ck l)) (hn : n = l.length) (hB : B ≤ w.heap.size) (hm : n ≤ 1099511627776) : Ret Tryz.prog 159 [(.slice A n c)] w (fun v w' => ∃ (A' : Option Addr) (n' c' : Nat), v = .slice A' n' c' ∧ Sp ([Ar 133 2 A' n' c' (Ck l)] ++ [Bd w Bl]) w') := by
  have H0 : Sp [Bd w Bl] w := Bn w
  refine Ret.body Tryz.func159 rfl rfl rfl ?_
  refine CW.seq (CW.region (za (.slice none 0 0) rfl (RL.nil (thn.n (CW.seq (CW.region (za (.slice none 0 0) rfl (RL.nil (thn.n (CW.seq (CW.region (zm (.slice none 0 0) rfl (zm (.slice A n c) rfl ?_)))))))))))))
  have H1 := H0.nil_ 133 2
  refine RL.apW (base := 0) (xss := (Ck [])) (yss := (Ck l)) el45 (H1.wr (i := 0) rfl) rfl hr rfl (by simp only [As, Av, At, Ap, An, Bb, List.length_append, List.length_cons, List.length_nil, List.length_take, List.length_drop, List.length_map, Cy, enc8, Bq, Bt, Ca]; try omega) (blks_one _) (by omega) (by omega) (by omega) rfl rfl ?_
  intro w2 A3 c4 g5 ow6 nx7
  have H8 : Sp [Ar 133 2 A3 (0 + n) c4 (Ck l), Bd w Bl] w2 := H1.setR (i := 0) rfl g5 ((List.nil_append _) ▸ ow6) nx7 rfl
  have z9 := g5.size
  refine za (.slice A3 (0 + n) c4) rfl (RL.nil (thn.n (CW.seq (CW.region (zm (.slice A3 (0 + n) c4) rfl (za (.slice A3 (0 + n) c4) rfl (RL.nil (thn.n (CW.ret (finQ.r (v := (.slice A3 (0 + n) c4)) (Ax rfl rfl) ?_))))))))))
  exact ⟨_, _, _, rfl, (H8.sel [0, 1] (by decide) rfl)⟩
set_option maxHeartbeats 1000000 in
set_option maxRecDepth 20000 in
theorem blocks_ (w : World) (B : Nat) (rh : RHeap) (ros : List RObj) (h : Heap) (H : HeapR w B rh ros h) (hB : B ≤ w.heap.size) (hfl : h.free.length ≤ 1000000) (hob : h.objs.length ≤ 1000000) : Ret Tryz.prog 226 [(.agg (rh.cells).toArray)] w (fun v w' => ∃ (A' : Option Addr) (n' c' : Nat), v = .slice A' n' c' ∧ Sp ([Ar 133 2 A' n' c' (Ck h.blocks)] ++ [Bd w Bl]) w') := by
  have hord := H.order
  have hnx := H.next
  have hfn := H.fn
  have hfm := H.fm
  have hon := H.objs.n
  have hom := H.objs.m
  have hol := H.objs.len
  have H0 : Sp [Bd w Bl] w := Bn w
  refine Ret.body Tryz.func226 rfl rfl rfl ?_
  refine CW.seq (CW.region (RL.bx (cs := rh.cells) rfl rfl rfl ?_))
  intro w1 b2 hb3 hz4 g5 o6
  have H7 := H0.newB g5 o6 (by omega)
  have z8 := g5.size
  refine za (.slice none 0 0) rfl (RL.nil (thn.n (CW.seq (CW.region (zg rfl (fa47_4 (b := ⟨b2, 7, none⟩) rfl rfl) (zl (.slice rh.free.a rh.free.n rh.free.c) lo45 (H7.ob (i := 0) rfl) rfl (RL.call Tryz.call159 (own04_ _ w1.heap.size h.free rh.free.a rh.free.n rh.free.c ((H.fr.st0 (H7.fix (i := 1) rfl)).more (by omega)) (by first | assumption | omega) (Nat.le_refl _) (by omega)) rfl rfl rfl ?_)))))))
  rintro _ w12 ⟨A9, n10, c11, rfl, g13⟩
  have g14 := g13.fix (i := 1) rfl
  have H15 : Sp [Ar 133 2 A9 n10 c11 (Ck h.free), Af b2 47 rh.cells, Bd w Bl] w12 := H7.join (m := [Ar 133 2 A9 n10 c11 (Ck h.free)]) g13
  have z16 := g14.size
  refine za (.slice A9 n10 c11) rfl (RL.nil (thn.n (CW.seq (CW.seq (CW.region (za (J 0) rfl (RL.nil (thn.n (CW.block ?_)))))))))
  have hz0 : h.free = (h.free ++ (h.objs.take 0).map Obj.blk) := by simp
  have hl17 := H15.len (i := 0) rfl
  rw [Ap] at hl17
  refine CW.loop (fun t => (Nat.ble 3 t && Nat.ble t 4) || (Nat.ble 8 t && Nat.ble t 23)) (fun nL ρ wl => ∃ (k n1 c1 : Nat) (A1 : Option Addr), ρ 4 = (J (k : Int)) ∧ ρ 3 = (.slice A1 n1 c1) ∧ nL = rh.objs.n - k ∧ Sp [Ar 133 2 A1 n1 c1 (Ck (h.free ++ (h.objs.take k).map Obj.blk)), Af b2 47 rh.cells, Bd w Bl] wl ∧ k ≤ rh.objs.n ∧ n1 = h.free.length + k) (rh.objs.n) ?aa0 ?bb0
  case aa0 =>
   have H18 : Sp [Ar 133 2 A9 n10 c11 (Ck (h.free ++ (h.objs.take 0).map Obj.blk)), Af b2 47 rh.cells, Bd w Bl] w12 := H15.eqR (i := 0) rfl rfl (congrArg Ck hz0) rfl
   exact ⟨0, n10, c11, A9, rfl, rfl, rfl, H18, Nat.zero_le _, by omega⟩
  case bb0 =>
   rintro n20 ρ0 w19 ho21 ⟨k, n1, c1, A1, hs0_4, hs0_3, hn0, H22, hk, hn1⟩
   obtain ⟨j0, rfl⟩ := ho21.shape2 hs0_4 hs0_3
   clear ho21 hs0_4 hs0_3
   subst hn0
   have z23 := (H22.fix (i := 2) rfl).size
   refine CW.seq (CW.seq (CW.region (zm (J (k : Int)) rfl (zg rfl (fa47_1 (b := ⟨b2, 1, none⟩) rfl rfl) (zl (.slice rh.objs.a rh.objs.n rh.objs.c) lo43 (H22.ob (i := 1) rfl) rfl (zg rfl (Ex.len Tryz.underlying43 rfl) ?_))))))
   refine zc (((k : Int) : Int) < ((rh.objs.n : Nat) : Int)) rfl (fun r hr => Ex.lt rfl rfl hr) (fun h24 => ?_) (fun h24 => ?_)
   ·skip
    refine RL.nil (thn.n (Ab rfl (CW.skip (thn.n (CW.seq (CW.block (CW.region (zm (.slice A1 n1 c1) rfl (zg rfl (fa47_1 (b := ⟨b2, 1, none⟩) rfl rfl) (zl (.slice rh.objs.a rh.objs.n rh.objs.c) lo43 (H22.ob (i := 1) rfl) rfl (zm (J (k : Int)) rfl ?_)))))))))))
    obtain ⟨e25, he26⟩ : ∃ e, ros[k]? = some e := ⟨_, List.getElem?_eq_getElem (by omega)⟩
    obtain ⟨o27, ho28⟩ : ∃ e, h.objs[k]? = some e := ⟨_, List.getElem?_eq_getElem (by omega)⟩
    have oR29 := H.objs.all k e25 o27 he26 ho28
    have e30 := oR29.wl
    have e31 := oR29.ll
    have e32 := oR29.b
    have e33 := oR29.wm
    have e34 := oR29.lm
    have e35 := oR29.h
    obtain ⟨ad36, hA37⟩ := Rd.sm (H.objs.rd.st0 (H22.fix (i := 2) rfl)) (Ch he26)
    have hl38 := Eng.lt_len (Ch he26)
    refine zg rfl (Cq (b := (ad36.add (k * 5))) (i := k) Tryz.underlying43 Tryz.sizeOf136 (by rw [← hA37]; rfl) rfl (by omega) (by omega) rfl) (zg rfl (fa136_1 (b := (((ad36.add (k * 5))).add 1)) rfl rfl) (zg rfl (Ai rfl (Ak (cs := [(J e25.blk.at_), (J e25.blk.ord)]) wh133 ((Rd.cl (H.objs.rd.st0 (H22.fix (i := 2) rfl)) hA37 (Ch he26)).sub 1 2))) (RL.bs (cs := [(J e25.blk.at_), (J e25.blk.ord)]) Tryz.underlying45 Tryz.sizeOf133 ze45 rfl rfl rfl (by decide) rfl rfl rfl ?_)))
    intro w39 b40 hb41 hz42 g43 o44
    have H45 := H22.newB g43 o44 (by omega)
    have z46 := g43.size
    refine RL.apW (base := 0) (xss := (Ck (h.free ++ (h.objs.take k).map Obj.blk))) (yss := (Ck ([⟨e25.blk.at_, e25.blk.ord⟩]))) el45 (H45.wr (i := 1) rfl) rfl (Da (H45.ob (i := 0) rfl) rfl) rfl (by simp only [As, Av, At, Ap, An, Bb, List.length_append, List.length_cons, List.length_nil, List.length_take, List.length_drop, List.length_map, Cy, enc8, Bq, Bt, Ca]; try omega) (blks_one _) (by omega) (by omega) (by omega) rfl rfl ?_
    intro w47 A48 c49 g50 ow51 nx52
    have H53 : Sp [Af b40 133 [(J e25.blk.at_), (J e25.blk.ord)], Ar 133 2 A48 (n1 + 1) c49 (Ck ((h.free ++ (h.objs.take k).map Obj.blk) ++ [⟨e25.blk.at_, e25.blk.ord⟩])), Af b2 47 rh.cells, Bd w Bl] w47 := H45.setR (i := 1) rfl g50 ((blks_app _ _).symm ▸ ow51) nx52 rfl
    have z54 := g50.size
    refine za (.slice A48 (n1 + 1) c49) rfl (RL.nil (inB.n (thn.n (CW.region (zm (J (k : Int)) rfl (zg rfl (Ex.add (r := (k : Int) + 1) rfl rfl (Dd (by omega) (by omega))) (za (J ((k : Int) + 1)) rfl (RL.nil (thn.n ?_)))))))))
    have H55 : Sp [Af b40 133 [(J e25.blk.at_), (J e25.blk.ord)], Ar 133 2 A48 (n1 + 1) c49 (Ck (h.free ++ (h.objs.take (k + 1)).map Obj.blk)), Af b2 47 rh.cells, Bd w Bl] w47 := H53.eqR (i := 1) rfl rfl (by rw [take_snoc ho28, List.map_append, ← List.append_assoc, List.map_cons, ← oR29.b]; rfl) rfl
    refine ⟨(by repeat (first | exact Out.mix _ _ | exact Out.refl _ _ | refine Bg ?_ rfl _)), _, ?_, k + 1, n1 + 1, c49, A48, rfl, rfl, rfl, (H55.sel [1, 2, 3] (by decide) rfl), by omega, by omega⟩
    omega
   ·skip
    refine RL.nil (thn.n (Ag rfl (CW.exit (thn.x (thn.x (Bf (thn.n (CW.seq (CW.region (zm (.slice A1 n1 c1) rfl (za (.slice A1 n1 c1) rfl (RL.nil (thn.n (CW.ret (finQ.r (v := (.slice A1 n1 c1)) (Ax rfl rfl) ?_)))))))))))))))
    have hkk : h.objs.take k = h.objs := List.take_of_length_le (by omega)
    rw [hkk] at H22
    exact ⟨_, _, _, rfl, (H22.sel [0, 2] (by decide) rfl)⟩
set_option maxHeartbeats 1000000 in
set_option maxRecDepth 20000 in
theorem place_ (w : World) (B : Nat) (rh : RHeap) (ros : List RObj) (h : Heap) (H : HeapR w B rh ros h) (hB : B ≤ w.heap.size) (t : Int) : Ret Tryz.prog 232 [(.agg (rh.cells).toArray), (J t)] w (fun v w' => v = .int .i64 (placeR h t) ∧ w.grownBy w' none) := by
  have hord := H.order
  have hnx := H.next
  have hfn := H.fn
  have hfm := H.fm
  have hon := H.objs.n
  have hom := H.objs.m
  have hol := H.objs.len
  have H0 : Sp [Bd w Bl] w := Bn w
  refine Ret.body Tryz.func232 rfl rfl rfl ?_
  refine CW.seq (CW.region (RL.bx (cs := rh.cells) rfl rfl rfl ?_))
  intro w1 b2 hb3 hz4 g5 o6
  have H7 := H0.newB g5 o6 (by omega)
  have z8 := g5.size
  refine za (J 0) rfl (RL.nil (thn.n (CW.seq (CW.seq (CW.region (za (J 0) rfl (RL.nil (thn.n (CW.block ?_)))))))))
  refine CW.loop (fun t => (Nat.ble 4 t && Nat.ble t 21)) (fun nL ρ wl => ∃ (k : Nat), ρ 5 = (J (k : Int)) ∧ nL = rh.objs.n - k ∧ Sp [Af b2 47 rh.cells, Bd w Bl] wl ∧ k ≤ rh.objs.n ∧ idxFrom (fun o : Eng.Obj => decide (o.handle = t)) k (h.objs.drop k) = idxF (fun o : Eng.Obj => decide (o.handle = t)) h.objs) (rh.objs.n) ?aa0 ?bb0
  case aa0 =>
   exact ⟨0, rfl, rfl, H7, Nat.zero_le _, rfl⟩
  case bb0 =>
   rintro n10 ρ0 w9 ho11 ⟨k, hs0_5, hn0, H12, hk, hix⟩
   obtain ⟨j0, rfl⟩ := ho11.shape1 hs0_5
   clear ho11 hs0_5
   subst hn0
   have z13 := (H12.fix (i := 1) rfl).size
   refine CW.seq (CW.seq (CW.region (zm (J (k : Int)) rfl (zg rfl (fa47_1 (b := ⟨b2, 1, none⟩) rfl rfl) (zl (.slice rh.objs.a rh.objs.n rh.objs.c) lo43 (H12.ob (i := 0) rfl) rfl (zg rfl (Ex.len Tryz.underlying43 rfl) ?_))))))
   refine zc (((k : Int) : Int) < ((rh.objs.n : Nat) : Int)) rfl (fun r hr => Ex.lt rfl rfl hr) (fun h14 => ?_) (fun h14 => ?_)
   ·skip
    refine RL.nil (thn.n (Ab rfl (CW.skip (thn.n (CW.seq (CW.block (CW.seq (CW.region (zg rfl (fa47_1 (b := ⟨b2, 1, none⟩) rfl rfl) (zl (.slice rh.objs.a rh.objs.n rh.objs.c) lo43 (H12.ob (i := 0) rfl) rfl (zm (J (k : Int)) rfl ?_)))))))))))
    obtain ⟨e15, he16⟩ : ∃ e, ros[k]? = some e := ⟨_, List.getElem?_eq_getElem (by omega)⟩
    obtain ⟨o17, ho18⟩ : ∃ e, h.objs[k]? = some e := ⟨_, List.getElem?_eq_getElem (by omega)⟩
    have oR19 := H.objs.all k e15 o17 he16 ho18
    have e20 := oR19.wl
    have e21 := oR19.ll
    have e22 := oR19.b
    have e23 := oR19.wm
    have e24 := oR19.lm
    have e25 := oR19.h
    obtain ⟨ad26, hA27⟩ := Rd.sm (H.objs.rd.st0 (H12.fix (i := 1) rfl)) (Ch he16)
    have hl28 := Eng.lt_len (Ch he16)
    refine zg rfl (Cq (b := (ad26.add (k * 5))) (i := k) Tryz.underlying43 Tryz.sizeOf136 (by rw [← hA27]; rfl) rfl (by omega) (by omega) rfl) (zg rfl (fa136_0 (b := ((ad26.add (k * 5)))) rfl rfl) (zg rfl (Ai rfl (Ba Cf (Cl.at_ (v := (J e15.handle)) (Rd.cl (H.objs.rd.st0 (H12.fix (i := 1) rfl)) hA27 (Ch he16)) (i := 0) rfl))) (zm (J t) rfl ?_)))
    refine zc ((e15.handle : Int) = (t : Int)) rfl (fun r hr => Cb rfl rfl hr) (fun h29 => ?_) (fun h29 => ?_)
    ·skip
     refine RL.nil (thn.n (Ab rfl (CW.seq (CW.region (zm (J (k : Int)) rfl (za (J (k : Int)) rfl (RL.nil (thn.n (CW.ret (inB.r (thn.r (thn.r (inB.r (thn.r (finQ.r (v := (J (k : Int))) (Ax rfl rfl) ?_)))))))))))))))
     exact ⟨Bp (idxF_yes hix ho18 (by rw [decide_eq_true_eq, ← oR19.h]; exact h29)), (H12.fix (i := 1) rfl)⟩
    ·skip
     refine RL.nil (thn.n (Ag rfl (CW.skip (inB.n (thn.n (CW.region (zm (J (k : Int)) rfl (zg rfl (Ex.add (r := (k : Int) + 1) rfl rfl (Dd (by omega) (by omega))) (za (J ((k : Int) + 1)) rfl (RL.nil (thn.n ?_)))))))))))
     refine ⟨(by repeat (first | exact Out.mix _ _ | exact Out.refl _ _ | refine Bg ?_ rfl _)), _, ?_, k + 1, rfl, rfl, H12, by omega, idxF_go hix ho18 (by rw [decide_eq_false_iff_not, ← oR19.h]; exact h29)⟩
     omega
   ·skip
    refine RL.nil (thn.n (Ag rfl (CW.exit (thn.x (thn.x (Bf (thn.n (CW.seq (CW.region (za (J (-1)) rfl (RL.nil (thn.n (CW.ret (finQ.r (v := (J (-1))) (Ax rfl rfl) ?_))))))))))))))
    exact ⟨Bp (idxF_end hix (by omega)), (H12.fix (i := 1) rfl)⟩
set_option maxHeartbeats 400000 in
set_option maxRecDepth 20000 in
theorem leadsR_ (w : World) (B : Nat) (rh : RHeap) (ros : List RObj) (h : Heap) (H : HeapR w B rh ros h) (hB : B ≤ w.heap.size) (t : Int) : Ret Tryz.prog 225 [(.agg (rh.cells).toArray), (J t)] w (fun v w' => v = .bool (leadR h t) ∧ w.grownBy w' none) := by
  have hord := H.order
  have hnx := H.next
  have hfn := H.fn
  have hfm := H.fm
  have hon := H.objs.n
  have hom := H.objs.m
  have hol := H.objs.len
  have H0 : Sp [Bd w Bl] w := Bn w
  refine Ret.body Tryz.func225 rfl rfl rfl ?_
  refine CW.seq (CW.region (RL.bx (cs := rh.cells) rfl rfl rfl ?_))
  intro w1 b2 hb3 hz4 g5 o6
  have H7 := H0.newB g5 o6 (by omega)
  have z8 := g5.size
  refine za (bF) rfl (RL.nil (thn.n (CW.seq (CW.region (zm (J t) rfl ?_)))))
  refine zc ((t : Int) = (0 : Int)) rfl (fun r hr => Cb rfl rfl hr) (fun h9 => ?_) (fun h9 => ?_)
  ·skip
   refine zm (bT) rfl (zo rfl (zo rfl (zo rfl (zo rfl (zT (bT) rfl (za (bT) rfl (RL.nil (thn.n (CW.ret (finQ.r (v := bT) (Ax rfl rfl) ?_))))))))))
   exact ⟨Am (by unfold leadR; symm; rw [decide_eq_true_eq]; first | exact .inl h9 | exact .inr (place_mem.1 h9)), (H7.fix (i := 1) rfl)⟩
  ·skip
   refine zm (bF) rfl (zg rfl (Ai rfl (Ak (cs := rh.cells) wh47 (H7.ob (i := 0) rfl).cl)) (zm (J t) rfl (RL.call Tryz.call232 (place_ _ _ rh _ _ (H.st0 (H7.fix (i := 1) rfl)) (by omega) t) rfl rfl rfl ?_)))
   rintro _ w10 ⟨rfl, g11⟩
   have H12 := H7.grow g11
   have z13 := g11.size
   refine zc ((0 : Int) ≤ ((placeR h t) : Int)) rfl (fun r hr => Ex.ge rfl rfl hr) (fun h14 => ?_) (fun h14 => ?_)
   ·skip
    refine zF (bT) rfl (za (bT) rfl (RL.nil (thn.n (CW.ret (finQ.r (v := bT) (Ax rfl rfl) ?_)))))
    exact ⟨Am (by unfold leadR; symm; rw [decide_eq_true_eq]; first | exact .inl h14 | exact .inr (place_mem.1 h14)), (H12.fix (i := 1) rfl)⟩
   ·skip
    refine zF (bF) rfl (za (bF) rfl (RL.nil (thn.n (CW.ret (finQ.r (v := bF) (Ax rfl rfl) ?_)))))
    exact ⟨Am (by unfold leadR; symm; rw [decide_eq_false_iff_not]; rintro (q | q); exact absurd q h9; exact h14 (place_mem.2 q)), (H12.fix (i := 1) rfl)⟩
set_option maxHeartbeats 400000 in
set_option maxRecDepth 20000 in
theorem wordsR_ (w : World) (B : Nat) (l : List Blk) (A : Option Addr) (n c : Nat) (hr : Rd w B 2 A (Ck l)) (hn : n = l.length) (hB : B ≤ w.heap.size) (hm : n ≤ 1000000) (hw : ∀ b ∈ l, 0 ≤ b.ord ∧ b.ord ≤ 8) : Ret Tryz.prog 228 [(.slice A n c)] w (fun v w' => v = .int .i64 (sumW l) ∧ w.grownBy w' none) := by
  have H0 : Sp [Bd w Bl] w := Bn w
  refine Ret.body Tryz.func228 rfl rfl rfl ?_
  refine CW.seq (CW.region (za (J 0) rfl (RL.nil (thn.n (CW.seq (CW.region (za (J 0) rfl (RL.nil (thn.n (CW.seq (CW.seq (CW.region (za (J 0) rfl (RL.nil (thn.n (CW.block ?_))))))))))))))))
  refine CW.loop (fun t => (Nat.ble 3 t && Nat.ble t 18)) (fun nL ρ wl => ∃ (i : Nat), ρ 3 = (J (sumW (l.take i))) ∧ ρ 4 = (J (i : Int)) ∧ nL = n - i ∧ Sp [Bd w Bl] wl ∧ i ≤ n ∧ 0 ≤ sumW (l.take i) ∧ sumW (l.take i) ≤ 256 * i) (n) ?aa0 ?bb0
  case aa0 =>
   exact ⟨0, rfl, rfl, rfl, H0, Nat.zero_le _, ⟨Int.le_refl _, by show (0 : Int) ≤ _; omega⟩⟩
  case bb0 =>
   rintro n2 ρ0 w1 ho3 ⟨i, hs0_3, hs0_4, hn0, H4, hi, hsm⟩
   obtain ⟨j0, rfl⟩ := ho3.shape2 hs0_3 hs0_4
   clear ho3 hs0_3 hs0_4
   subst hn0
   have z5 := (H4.fix (i := 0) rfl).size
   refine CW.seq (CW.seq (CW.region (zm (J (i : Int)) rfl (zm (.slice A n c) rfl (zg rfl (Ex.len Tryz.underlying45 rfl) ?_)))))
   refine zc (((i : Int) : Int) < ((n : Nat) : Int)) rfl (fun r hr => Ex.lt rfl rfl hr) (fun h6 => ?_) (fun h6 => ?_)
   ·skip
    refine RL.nil (thn.n (Ab rfl (CW.skip (thn.n (CW.seq (CW.block (CW.region (zm (J (sumW (l.take i))) rfl (zm (.slice A n c) rfl (zm (J (i : Int)) rfl ?_))))))))))
    obtain ⟨e7, he8⟩ : ∃ e, (l)[i]? = some e := ⟨_, List.getElem?_eq_getElem (by omega)⟩
    obtain ⟨ad9, hA10⟩ := Rd.sm (hr.st0 (H4.fix (i := 0) rfl)) (Bu he8)
    have hl11 := Eng.lt_len (Bu he8)
    refine zg rfl (Cq (b := (ad9.add (i * 2))) (i := i) Tryz.underlying45 Tryz.sizeOf133 (by rw [← hA10]; rfl) rfl (by omega) (by omega) rfl) (zg rfl (Cd (b := (((ad9.add (i * 2))).add 1)) rfl rfl) (zg rfl (Ai rfl (Ba Cf (Cl.at_ (v := (J e7.ord)) (Rd.cl (hr.st0 (H4.fix (i := 0) rfl)) hA10 (Bu he8)) (i := 1) rfl))) ?_))
    have hob := hw e7 (List.mem_of_getElem? he8)
    have hz12 := Az e7.ord
    have hz13 := Bm (o := e7.ord) (by omega) (by omega)
    refine RL.call Tryz.call229 (sz_ _ e7.ord (by omega) (by omega)) rfl rfl rfl ?_
    rintro _ w14 ⟨rfl, g15⟩
    have H16 := H4.grow g15
    have z17 := g15.size
    have hsw := sumW_snoc he8
    refine zg rfl (Ex.add (r := sumW (l.take (i + 1))) rfl rfl (by rw [Dd (by omega) (by omega)]; exact hsw.symm)) (za (J (sumW (l.take (i + 1)))) rfl (RL.nil (inB.n (thn.n (CW.region (zm (J (i : Int)) rfl (zg rfl (Ex.add (r := (i : Int) + 1) rfl rfl (Dd (by omega) (by omega))) (za (J ((i : Int) + 1)) rfl (RL.nil (thn.n ?_))))))))))
    refine ⟨(by repeat (first | exact Out.mix _ _ | exact Out.refl _ _ | refine Bg ?_ rfl _)), _, ?_, i + 1, rfl, rfl, rfl, H16, by omega, by constructor <;> omega⟩
    omega
   ·skip
    refine RL.nil (thn.n (Ag rfl (CW.exit (thn.x (thn.x (Bf (thn.n (CW.seq (CW.region (zm (J (sumW (l.take i))) rfl (za (J (sumW (l.take i))) rfl (RL.nil (thn.n (CW.ret (finQ.r (v := (J (sumW (l.take i)))) (Ax rfl rfl) ?_)))))))))))))))
    exact ⟨by rw [List.take_of_length_le (by omega)], (H4.fix (i := 0) rfl)⟩
set_option maxHeartbeats 4000000 in
set_option maxRecDepth 20000 in
theorem right05_ (w : World) (B : Nat) (rh : RHeap) (ros : List RObj) (h : Heap) (H : HeapR w B rh ros h) (hB : B ≤ w.heap.size) (hxr : h.next ≤ 9223372036854775807) : Ret Tryz.prog 167 [(.agg (rh.cells).toArray)] w (fun v w' => v = .bool (Cw h) ∧ w.grownBy w' none) := by
  have hord := H.order
  have hnx := H.next
  have hfn := H.fn
  have hfm := H.fm
  have hon := H.objs.n
  have hom := H.objs.m
  have hol := H.objs.len
  have H0 : Sp [Bd w Bl] w := Bn w
  refine Ret.body Tryz.func167 rfl rfl rfl ?_
  refine CW.seq (CW.region (RL.bx (cs := rh.cells) rfl rfl rfl ?_))
  intro w1 b2 hb3 hz4 g5 o6
  have H7 := H0.newB g5 o6 (by omega)
  have z8 := g5.size
  refine za (bF) rfl (RL.nil (thn.n (CW.seq (CW.seq (CW.region (zg rfl (fa47_0 (b := ⟨b2, 0, none⟩) rfl rfl) (zl (J rh.order) Cf (H7.ob (i := 0) rfl) rfl (zg rfl (fa47_4 (b := ⟨b2, 7, none⟩) rfl rfl) (zl (.slice rh.free.a rh.free.n rh.free.c) lo45 (H7.ob (i := 0) rfl) rfl (RL.call Tryz.call222 (right04_ _ w1.heap.size rh.order h.free rh.free.a rh.free.n rh.free.c ((H.fr.st0 (H7.fix (i := 1) rfl)).more (by omega)) (by first | assumption | omega) (Nat.le_refl _)) rfl rfl rfl ?_))))))))))
  rintro _ w9 ⟨rfl, g10⟩
  have H11 := H7.grow g10
  have z12 := g10.size
  rcases hb13 : (buddyB rh.order h.free) with _ | _
  ·skip
   refine zg rfl (Ex.not (b := false) rfl) (zm (bT) rfl (zo rfl (zo rfl (zo rfl (zT (bT) rfl (zm (bT) rfl (zo rfl (zo rfl (zo rfl (zo rfl ?_))))))))))
   refine zT (bT) rfl (zm (bT) rfl (zo rfl (zo rfl (zo rfl (zo rfl (zT (bT) rfl (RL.nil (thn.n (Ab rfl (CW.seq (CW.region (za (bF) rfl (RL.nil (thn.n (CW.ret (thn.r (finQ.r (v := bF) (Ax rfl rfl) ?_)))))))))))))))))
   have hrf : ¬ RightH h := fun q => by have q1 := q.1; have q2 := q.2.1; have q3 := q.2.2.1; first | omega | (rw [← hord, hb13] at q1; cases q1)
   exact ⟨Am (heap_no hrf).symm, (H11.fix (i := 1) rfl)⟩
  ·skip
   refine zg rfl (Ex.not (b := true) rfl) (zm (bF) rfl (zg rfl (fa47_2 (b := ⟨b2, 2, none⟩) rfl rfl) (zl (J rh.next) Cf (H11.ob (i := 0) rfl) rfl ?_)))
   refine zc ((rh.next : Int) < (1 : Int)) rfl (fun r hr => Ex.lt rfl rfl hr) (fun h14 => ?_) (fun h14 => ?_)
   ·skip
    refine zF (bT) rfl (zm (bT) rfl (zo rfl (zo rfl (zo rfl (zo rfl (zT (bT) rfl (zm (bT) rfl (zo rfl (zo rfl (zo rfl ?_))))))))))
    refine zo rfl (zT (bT) rfl (RL.nil (thn.n (Ab rfl (CW.seq (CW.region (za (bF) rfl (RL.nil (thn.n (CW.ret (thn.r (finQ.r (v := bF) (Ax rfl rfl) ?_))))))))))))
    have hrf : ¬ RightH h := fun q => by have q1 := q.1; have q2 := q.2.1; have q3 := q.2.2.1; first | omega | (rw [← hord, hb13] at q1; cases q1)
    exact ⟨Am (heap_no hrf).symm, (H11.fix (i := 1) rfl)⟩
   ·skip
    refine zF (bF) rfl (zm (bF) rfl (zg rfl (fa47_2 (b := ⟨b2, 2, none⟩) rfl rfl) (zl (J rh.next) Cf (H11.ob (i := 0) rfl) rfl (zg rfl (Ci (r := rh.next - 1) rfl rfl (Dd (by omega) (by omega))) ?_))))
    refine zc ((1000000 : Int) < (rh.next - 1 : Int)) rfl (fun r hr => Df rfl rfl hr) (fun h15 => ?_) (fun h15 => ?_)
    ·skip
     refine zF (bT) rfl (zm (bT) rfl (zo rfl (zo rfl (zo rfl (zo rfl (zT (bT) rfl (RL.nil (thn.n (Ab rfl (CW.seq (CW.region (za (bF) rfl (RL.nil (thn.n (CW.ret (thn.r (finQ.r (v := bF) (Ax rfl rfl) ?_)))))))))))))))))
     have hrf : ¬ RightH h := fun q => by have q1 := q.1; have q2 := q.2.1; have q3 := q.2.2.1; first | omega | (rw [← hord, hb13] at q1; cases q1)
     exact ⟨Am (heap_no hrf).symm, (H11.fix (i := 1) rfl)⟩
    ·skip
     refine zF (bF) rfl (zm (bF) rfl (zg rfl (fa47_1 (b := ⟨b2, 1, none⟩) rfl rfl) (zl (.slice rh.objs.a rh.objs.n rh.objs.c) lo43 (H11.ob (i := 0) rfl) rfl (zg rfl (Ex.len Tryz.underlying43 rfl) ?_))))
     refine zc ((256 : Int) < ((rh.objs.n : Nat) : Int)) rfl (fun r hr => Df rfl rfl hr) (fun h16 => ?_) (fun h16 => ?_)
     ·skip
      refine zF (bT) rfl (RL.nil (thn.n (Ab rfl (CW.seq (CW.region (za (bF) rfl (RL.nil (thn.n (CW.ret (thn.r (finQ.r (v := bF) (Ax rfl rfl) ?_)))))))))))
      have hrf : ¬ RightH h := fun q => by have q1 := q.1; have q2 := q.2.1; have q3 := q.2.2.1; first | omega | (rw [← hord, hb13] at q1; cases q1)
      exact ⟨Am (heap_no hrf).symm, (H11.fix (i := 1) rfl)⟩
     ·skip
      refine zF (bF) rfl (RL.nil (thn.n (Ag rfl (CW.skip (thn.n (CW.seq (CW.seq (CW.region (za (J 0) rfl (RL.nil (thn.n (CW.block ?_))))))))))))
      have hbu2 : buddyB h.order h.free = true := by rw [← hord]; exact hb13
      obtain ⟨hbr1, hbr2, hbr3, hbr4⟩ := buddy_right.1 hbu2
      have hwb8 := Az h.order
      refine CW.loop (fun t => (Nat.ble 2 t && Nat.ble t 5) || (Nat.ble 33 t && Nat.ble t 104)) (fun nL ρ wl => ∃ (i : Nat), ρ 3 = (J (i : Int)) ∧ nL = rh.objs.n - i ∧ Sp [Af b2 47 rh.cells, Bd w Bl] wl ∧ i ≤ rh.objs.n ∧ ∀ (j : Nat) (x : Eng.Obj), j < i → h.objs[j]? = some x → objOK h j x) (rh.objs.n) ?aa0 ?bb0
      case aa0 =>
       exact ⟨0, rfl, rfl, H11, Nat.zero_le _, fun j x hj => by omega⟩
      case bb0 =>
       rintro n18 ρ0 w17 ho19 ⟨i, hs0_3, hn0, H20, hi, hO⟩
       obtain ⟨j0, rfl⟩ := ho19.shape1 hs0_3
       clear ho19 hs0_3
       subst hn0
       have z21 := (H20.fix (i := 1) rfl).size
       refine CW.seq (CW.seq (CW.region (zm (J (i : Int)) rfl (zg rfl (fa47_1 (b := ⟨b2, 1, none⟩) rfl rfl) (zl (.slice rh.objs.a rh.objs.n rh.objs.c) lo43 (H20.ob (i := 0) rfl) rfl (zg rfl (Ex.len Tryz.underlying43 rfl) ?_))))))
       refine zc (((i : Int) : Int) < ((rh.objs.n : Nat) : Int)) rfl (fun r hr => Ex.lt rfl rfl hr) (fun h22 => ?_) (fun h22 => ?_)
       ·skip
        refine RL.nil (thn.n (Ab rfl (CW.skip (thn.n (CW.seq (CW.block (CW.seq (CW.region (zg rfl (fa47_1 (b := ⟨b2, 1, none⟩) rfl rfl) (zl (.slice rh.objs.a rh.objs.n rh.objs.c) lo43 (H20.ob (i := 0) rfl) rfl (zm (J (i : Int)) rfl ?_)))))))))))
        obtain ⟨e23, he24⟩ : ∃ e, ros[i]? = some e := ⟨_, List.getElem?_eq_getElem (by omega)⟩
        obtain ⟨o25, ho26⟩ : ∃ e, h.objs[i]? = some e := ⟨_, List.getElem?_eq_getElem (by omega)⟩
        have oR27 := H.objs.all i e23 o25 he24 ho26
        have e28 := oR27.wl
        have e29 := oR27.ll
        have e30 := oR27.b
        have e31 := oR27.wm
        have e32 := oR27.lm
        have e33 := oR27.h
        obtain ⟨ad34, hA35⟩ := Rd.sm (H.objs.rd.st0 (H20.fix (i := 1) rfl)) (Ch he24)
        have hl36 := Eng.lt_len (Ch he24)
        refine zg rfl (Cq (b := (ad34.add (i * 5))) (i := i) Tryz.underlying43 Tryz.sizeOf136 (by rw [← hA35]; rfl) rfl (by omega) (by omega) rfl) (zg rfl (Ai rfl (Ak (cs := e23.cells) wh136 (Rd.cl (H.objs.rd.st0 (H20.fix (i := 1) rfl)) hA35 (Ch he24)))) (RL.al (cs := [(J 0), (J 0), (J 0), (.slice none 0 0), (.slice none 0 0)]) Tryz.zeroValue136 rfl rfl rfl ?_))
        intro w37 b38 hb39 hz40 g41 o42
        have H43 := H20.newB g41 o42 (by omega)
        have z44 := g41.size
        refine RL.st (vs := e23.cells) (cs' := e23.cells) Tryz.sizeOf136 (H43.ob (i := 0) rfl) rfl rfl rfl rfl rfl rfl ?_
        intro w45 hz46 g47 o48
        have H49 : Sp [Af b38 136 e23.cells, Af b2 47 rh.cells, Bd w Bl] w45 := H43.setB (i := 0) rfl g47 o48 rfl
        have z50 := g47.size
        refine RL.nil (thn.n (CW.seq (CW.seq (CW.quiet (fun wq => World.grownBy w45 wq none) Tryz.mixed (by kernel_rfl) ⟨rfl, rfl, rfl, Nat.le_refl _, fun _ _ _ => rfl⟩ (QL.go rfl rfl rfl (fun wq gq => fa136_0 (b := ⟨b38, 0, none⟩) rfl rfl) (QL.go rfl rfl rfl (fun wq gq => Ai rfl (Ba Cf (Ob.cell (v := (J e23.handle)) ((H49.grow gq).ob (i := 0) rfl) rfl))) ?_))))))
        refine QL.br (p := (e23.handle : Int) < (1 : Int)) rfl rfl rfl (fun r hr wq gq => Ex.lt rfl rfl hr) (fun h51 => ?_) (fun h51 => ?_)
        ·skip
         refine QL.go rfl rfl rfl (fun wq gq => Au (v := bT) rfl) (QL.out rfl rfl rfl (QL.out rfl rfl rfl (QL.out rfl rfl rfl (QL.out rfl rfl rfl (QL.out rfl rfl rfl (QL.go rfl rfl rfl (fun wq gq => Bi (v := bT) rfl rfl) (QL.go rfl rfl rfl (fun wq gq => Au (v := bT) rfl) (QL.out rfl rfl rfl (QL.out rfl rfl rfl (QL.out rfl rfl rfl ?_))))))))))
         refine QL.out rfl rfl rfl (QL.out rfl rfl rfl (QL.out rfl rfl rfl (QL.out rfl rfl rfl (QL.out rfl rfl rfl (QL.out rfl rfl rfl (QL.out rfl rfl rfl (QL.out rfl rfl rfl (QL.out rfl rfl rfl (QL.out rfl rfl rfl (QL.out rfl rfl rfl ?_))))))))))
         refine QL.go rfl rfl rfl (fun wq gq => Bi (v := bT) rfl rfl) (QL.nil ?_)
         intro w52 g53
         have H54 := H49.grow g53
         have z55 := g53.size
         refine thn.n (Ab rfl (CW.seq (CW.region (za (bF) rfl (RL.nil (thn.n (CW.ret (thn.r (inB.r (thn.r (thn.r (inB.r (thn.r (finQ.r (v := bF) (Ax rfl rfl) ?_))))))))))))))
         have hrf : ¬ RightH h := fun q => by
           obtain ⟨q1, q2, q3, _⟩ := q.2.2.2.1 i o25 ho26
           rw [← oR27.h] at q1 q2 q3
           omega
         exact ⟨Am (heap_no hrf).symm, (H54.fix (i := 2) rfl)⟩
        ·skip
         refine QL.go rfl rfl rfl (fun wq gq => Au (v := bF) rfl) (QL.go rfl rfl rfl (fun wq gq => fa136_0 (b := ⟨b38, 0, none⟩) rfl rfl) (QL.go rfl rfl rfl (fun wq gq => Ai rfl (Ba Cf (Ob.cell (v := (J e23.handle)) ((H49.grow gq).ob (i := 0) rfl) rfl))) (QL.go rfl rfl rfl (fun wq gq => fa47_2 (b := ⟨b2, 2, none⟩) rfl rfl) (QL.go rfl rfl rfl (fun wq gq => Ai rfl (Ba Cf (Ob.cell (v := (J rh.next)) ((H49.grow gq).ob (i := 1) rfl) rfl))) ?_))))
         refine QL.br (p := (rh.next : Int) ≤ (e23.handle : Int)) rfl rfl rfl (fun r hr wq gq => Ex.ge rfl rfl hr) (fun h56 => ?_) (fun h56 => ?_)
         ·skip
          refine QL.go rfl rfl rfl (fun wq gq => Be (v := bT) rfl rfl) (QL.go rfl rfl rfl (fun wq gq => Au (v := bT) rfl) (QL.out rfl rfl rfl (QL.out rfl rfl rfl (QL.out rfl rfl rfl (QL.out rfl rfl rfl (QL.out rfl rfl rfl (QL.out rfl rfl rfl (QL.out rfl rfl rfl (QL.out rfl rfl rfl (QL.out rfl rfl rfl ?_))))))))))
          refine QL.out rfl rfl rfl (QL.out rfl rfl rfl (QL.out rfl rfl rfl (QL.out rfl rfl rfl (QL.out rfl rfl rfl (QL.go rfl rfl rfl (fun wq gq => Bi (v := bT) rfl rfl) (QL.nil ?_))))))
          intro w57 g58
          have H59 := H49.grow g58
          have z60 := g58.size
          refine thn.n (Ab rfl (CW.seq (CW.region (za (bF) rfl (RL.nil (thn.n (CW.ret (thn.r (inB.r (thn.r (thn.r (inB.r (thn.r (finQ.r (v := bF) (Ax rfl rfl) ?_))))))))))))))
          have hrf : ¬ RightH h := fun q => by
            obtain ⟨q1, q2, q3, _⟩ := q.2.2.2.1 i o25 ho26
            rw [← oR27.h] at q1 q2 q3
            omega
          exact ⟨Am (heap_no hrf).symm, (H59.fix (i := 2) rfl)⟩
         ·skip
          refine QL.go rfl rfl rfl (fun wq gq => Be (v := bF) rfl rfl) (QL.go rfl rfl rfl (fun wq gq => Au (v := bF) rfl) (QL.go rfl rfl rfl (fun wq gq => Au (v := (J (i : Int))) rfl) ?_))
          refine QL.br (p := (0 : Int) < ((i : Int) : Int)) rfl rfl rfl (fun r hr wq gq => Df rfl rfl hr) (fun h61 => ?_) (fun h61 => ?_)
          ·skip
           refine QL.go rfl rfl rfl (fun wq gq => Au (v := bT) rfl) (QL.go rfl rfl rfl (fun wq gq => fa47_1 (b := ⟨b2, 1, none⟩) rfl rfl) (QL.go rfl rfl rfl (fun wq gq => Ai rfl (Ba lo43 (Ob.cell (v := (.slice rh.objs.a rh.objs.n rh.objs.c)) ((H49.grow gq).ob (i := 1) rfl) rfl))) (QL.go rfl rfl rfl (fun wq gq => Au (v := (J (i : Int))) rfl) (QL.go rfl rfl rfl (fun wq gq => Ci (r := ((i - 1 : Nat) : Int)) rfl rfl (by rw [Dd (by omega) (by omega)]; omega)) ?_))))
           obtain ⟨e62, he63⟩ : ∃ e, ros[(i - 1)]? = some e := ⟨_, List.getElem?_eq_getElem (by omega)⟩
           obtain ⟨o65, ho66⟩ : ∃ e, h.objs[(i - 1)]? = some e := ⟨_, List.getElem?_eq_getElem (by omega)⟩
           have oR67 := H.objs.all (i - 1) e62 o65 he63 ho66
           have e68 := oR67.wl
           have e69 := oR67.ll
           have e70 := oR67.b
           have e71 := oR67.wm
           have e72 := oR67.lm
           have e73 := oR67.h
           obtain ⟨ad74, hA75⟩ := Rd.sm (H.objs.rd.st0 (H49.fix (i := 2) rfl)) (Ch he63)
           have hl76 := Eng.lt_len (Ch he63)
           refine QL.go rfl rfl rfl (fun wq gq => Cq (b := (ad74.add ((i - 1) * 5))) (i := (i - 1)) Tryz.underlying43 Tryz.sizeOf136 (by rw [← hA75]; rfl) rfl (by omega) (by omega) rfl) (QL.go rfl rfl rfl (fun wq gq => fa136_0 (b := ((ad74.add ((i - 1) * 5)))) rfl rfl) (QL.go rfl rfl rfl (fun wq gq => Ai rfl (Ba Cf (Cl.at_ (v := (J e62.handle)) (Rd.cl (H.objs.rd.st0 ((H49.grow gq).fix (i := 2) rfl)) hA75 (Ch he63)) (i := 0) rfl))) (QL.go rfl rfl rfl (fun wq gq => fa136_0 (b := ⟨b38, 0, none⟩) rfl rfl) (QL.go rfl rfl rfl (fun wq gq => Ai rfl (Ba Cf (Ob.cell (v := (J e23.handle)) ((H49.grow gq).ob (i := 0) rfl) rfl))) ?_))))
           refine QL.br (p := (e23.handle : Int) ≤ (e62.handle : Int)) rfl rfl rfl (fun r hr wq gq => Ex.ge rfl rfl hr) (fun h77 => ?_) (fun h77 => ?_)
           ·skip
            refine QL.go rfl rfl rfl (fun wq gq => Bi (v := bT) rfl rfl) (QL.go rfl rfl rfl (fun wq gq => Be (v := bT) rfl rfl) (QL.nil ?_))
            intro w78 g79
            have H80 := H49.grow g79
            have z81 := g79.size
            refine thn.n (Ab rfl (CW.seq (CW.region (za (bF) rfl (RL.nil (thn.n (CW.ret (thn.r (inB.r (thn.r (thn.r (inB.r (thn.r (finQ.r (v := bF) (Ax rfl rfl) ?_))))))))))))))
            have hrf : ¬ RightH h := fun q => by
              obtain ⟨q1, q2, q3, _⟩ := q.2.2.2.1 i o25 ho26
              rw [← oR27.h] at q1 q2 q3
              have q4 := q3 o65 (by omega) ho66
              rw [← oR67.h] at q4
              omega
            exact ⟨Am (heap_no hrf).symm, (H80.fix (i := 2) rfl)⟩
           ·skip
            refine QL.go rfl rfl rfl (fun wq gq => Bi (v := bF) rfl rfl) (QL.go rfl rfl rfl (fun wq gq => Be (v := bF) rfl rfl) (QL.nil ?_))
            intro w82 g83
            have H84 := H49.grow g83
            have z85 := g83.size
            refine thn.n (Ag rfl (CW.skip (thn.n (CW.seq (CW.seq (CW.held (fun wq => Sp [Af b38 136 e23.cells, Af b2 47 rh.cells, Bd w Bl] wq) Tryz.mixed rfl ?_))))))
            intro w86 g87
            have H88 := H84.grow g87
            have z89 := g87.size
            refine zr 0 1 rfl (by kernel_rfl) H88 (fun wq hq => fa136_2 (b := ⟨b38, 3, none⟩) rfl rfl) (zr 3 9 rfl (by kernel_rfl) H88 (fun wq hq => fa136_3 (b := ⟨b38, 4, none⟩) rfl rfl) (zr 7 137 rfl (by kernel_rfl) H88 (fun wq hq => fa136_1 (b := ⟨b38, 1, none⟩) rfl rfl) (zr 8 393 rfl (by kernel_rfl) H88 (fun wq hq => Cd (b := ⟨b38, 2, none⟩) rfl rfl) (zr 1 395 rfl (by kernel_rfl) H88 (fun wq hq => Ai rfl (Ba lo134 (Ob.cell (v := (.slice e23.words.a e23.words.n e23.words.c)) (hq.ob (i := 0) rfl) rfl))) (zr 2 399 rfl (by kernel_rfl) H88 (fun wq hq => Ex.len Tryz.underlying134 rfl) (zr 4 415 rfl (by kernel_rfl) H88 (fun wq hq => Ai rfl (Ba lo134 (Ob.cell (v := (.slice e23.links.a e23.links.n e23.links.c)) (hq.ob (i := 0) rfl) rfl))) (zr 5 447 rfl (by kernel_rfl) H88 (fun wq hq => Ex.len Tryz.underlying134 rfl) (zr 9 959 rfl (by kernel_rfl) H88 (fun wq hq => Ai rfl (Ba Cf (Ob.cell (v := (J e23.blk.ord)) (hq.ob (i := 0) rfl) rfl))) ?_))))))))
            refine RA.one (i := 6) (by kernel_rfl) ?_
            refine ⟨_, 1023, rfl, by kernel_rfl, ?_⟩
            have hnb90 := needI_bd ((e23.words.n : Nat) : Int) ((e23.links.n : Nat) : Int)
            refine RL.call Tryz.call223 (needR_ _ ((e23.words.n : Nat) : Int) ((e23.links.n : Nat) : Int)) rfl rfl rfl ?_
            rintro _ w91 ⟨rfl, g92⟩
            have H93 := H88.grow g92
            have z94 := g92.size
            refine RL.nil ?_
            refine ⟨H93, ?_⟩
            refine zb 10 2047 (((Bs ((e23.words.n : Nat) : Int) ((e23.links.n : Nat) : Int)) : Int) ≠ (e23.blk.ord : Int)) rfl (by kernel_rfl) H93 (fun r hr wq hq => Cm rfl rfl hr) (fun h95 => ?_) (fun h95 => ?_)
            ·skip
             refine zr 11 4095 rfl (by kernel_rfl) H93 (fun wq hq => Au (v := bT) rfl) (zq 12 8191 rfl (by kernel_rfl) H93 (zq 14 24575 rfl (by kernel_rfl) H93 (zq 13 32767 rfl (by kernel_rfl) H93 (zq 15 65535 rfl (by kernel_rfl) H93 (zq 16 131071 rfl (by kernel_rfl) H93 (zq 17 262143 rfl (by kernel_rfl) H93 (zr 18 524287 rfl (by kernel_rfl) H93 (fun wq hq => Bi (v := bT) rfl rfl) (Bj (by kernel_rfl) (thn.n (Ab rfl (CW.seq (CW.region ?_))))))))))))
             refine za (bF) rfl (RL.nil (thn.n (CW.ret (thn.r (inB.r (thn.r (thn.r (inB.r (thn.r (finQ.r (v := bF) (Ax rfl rfl) ?_))))))))))
             have hrf : ¬ RightH h := fun q => by
               obtain ⟨_, _, _, q4, q5, _⟩ := q.2.2.2.1 i o25 ho26
               rw [← oR27.wl, ← oR27.ll, ← oR27.b] at q4
               rw [← oR27.b, ← hord] at q5
               first | exact h95 q4 | (rw [h95] at q5; cases q5)
             exact ⟨Am (heap_no hrf).symm, (H93.fix (i := 2) rfl)⟩
            ·skip
             refine zr 11 4095 rfl (by kernel_rfl) H93 (fun wq hq => Au (v := bF) rfl) (zr 12 8191 rfl (by kernel_rfl) H93 (fun wq hq => fa47_0 (b := ⟨b2, 0, none⟩) rfl rfl) (zr 14 24575 rfl (by kernel_rfl) H93 (fun wq hq => fa136_1 (b := ⟨b38, 1, none⟩) rfl rfl) (zr 13 32767 rfl (by kernel_rfl) H93 (fun wq hq => Ai rfl (Ba Cf (Ob.cell (v := (J rh.order)) (hq.ob (i := 1) rfl) rfl))) (zr 15 65535 rfl (by kernel_rfl) H93 (fun wq hq => Ai rfl (Ak (cs := [(J e23.blk.at_), (J e23.blk.ord)]) wh133 ((hq.ob (i := 0) rfl).sub 1 2))) (RA.one (i := 16) (by kernel_rfl) ?_)))))
             refine ⟨_, 131071, rfl, by kernel_rfl, ?_⟩
             refine RL.call Tryz.call224 (mayR_ _ rh.order e23.blk (by omega) (by omega)) rfl rfl rfl ?_
             rintro _ w96 ⟨rfl, g97⟩
             have H98 := H93.grow g97
             have z99 := g97.size
             rcases hb100 : (mayR rh.order e23.blk) with _ | _
             ·skip
              refine RL.nil ?_
              refine ⟨H98, ?_⟩
              refine zr 17 262143 rfl (by kernel_rfl) H98 (fun wq hq => Ex.not (b := false) rfl) (zr 18 524287 rfl (by kernel_rfl) H98 (fun wq hq => Be (v := bT) rfl rfl) (Bj (by kernel_rfl) (thn.n (Ab rfl (CW.seq (CW.region (za (bF) rfl (RL.nil (thn.n (CW.ret (thn.r (inB.r (thn.r (thn.r (inB.r (thn.r (finQ.r (v := bF) (Ax rfl rfl) ?_)))))))))))))))))
              have hrf : ¬ RightH h := fun q => by
                obtain ⟨_, _, _, q4, q5, _⟩ := q.2.2.2.1 i o25 ho26
                rw [← oR27.wl, ← oR27.ll, ← oR27.b] at q4
                rw [← oR27.b, ← hord] at q5
                first | exact hb100 q4 | (rw [hb100] at q5; cases q5)
              exact ⟨Am (heap_no hrf).symm, (H98.fix (i := 2) rfl)⟩
             ·have hmt := mayR_bd hb100 (by omega)
              refine RL.nil ?_
              refine ⟨H98, ?_⟩
              refine zr 17 262143 rfl (by kernel_rfl) H98 (fun wq hq => Ex.not (b := true) rfl) (zr 18 524287 rfl (by kernel_rfl) H98 (fun wq hq => Be (v := bF) rfl rfl) (Bj (by kernel_rfl) (thn.n (Ag rfl (CW.skip (thn.n (CW.seq (CW.region (za (J 0) rfl (RL.nil (thn.n (CW.block ?_))))))))))))
              refine CW.loop (fun t => Nat.beq t 2 || Nat.beq t 5 || (Nat.ble 90 t && Nat.ble t 104)) (fun nL ρ wl => ∃ (j : Nat), ρ 5 = (J (j : Int)) ∧ nL = e23.links.n - j ∧ Sp [Af b38 136 e23.cells, Af b2 47 rh.cells, Bd w Bl] wl ∧ j ≤ e23.links.n ∧ ∀ (j2 : Nat) (t : Int), j2 < j → o25.links[j2]? = some t → leadR h t = true) (e23.links.n) ?aa1 ?bb1
              case aa1 =>
               exact ⟨0, rfl, rfl, H98, Nat.zero_le _, fun j x hj => by omega⟩
              case bb1 =>
               rintro n102 ρ1 w101 ho103 ⟨j, hs1_5, hn1, H104, hj, hlk⟩
               obtain ⟨j1, rfl⟩ := ho103.shape1 hs1_5
               clear ho103 hs1_5
               subst hn1
               have z105 := (H104.fix (i := 2) rfl).size
               refine CW.seq (CW.seq (CW.region (zm (J (j : Int)) rfl (zg rfl (fa136_3 (b := ⟨b38, 4, none⟩) rfl rfl) (zl (.slice e23.links.a e23.links.n e23.links.c) lo134 (H104.ob (i := 0) rfl) rfl (zg rfl (Ex.len Tryz.underlying134 rfl) ?_))))))
               refine zc (((j : Int) : Int) < ((e23.links.n : Nat) : Int)) rfl (fun r hr => Ex.lt rfl rfl hr) (fun h106 => ?_) (fun h106 => ?_)
               ·skip
                refine RL.nil (thn.n (Ab rfl (CW.skip (thn.n (CW.seq (CW.block (CW.seq (CW.held (fun wq => Sp [Af b38 136 e23.cells, Af b2 47 rh.cells, Bd w Bl] wq) Tryz.mixed rfl ?_))))))))
                intro w107 g108
                have H109 := H104.grow g108
                have z110 := g108.size
                refine zr 1 2 rfl (by kernel_rfl) H109 (fun wq hq => fa136_3 (b := ⟨b38, 4, none⟩) rfl rfl) (zr 3 10 rfl (by kernel_rfl) H109 (fun wq hq => Au (v := (J (j : Int))) rfl) (zr 0 11 rfl (by kernel_rfl) H109 (fun wq hq => Ai rfl (Ak (cs := rh.cells) wh47 (hq.ob (i := 1) rfl).cl)) (zr 2 15 rfl (by kernel_rfl) H109 (fun wq hq => Ai rfl (Ba lo134 (Ob.cell (v := (.slice e23.links.a e23.links.n e23.links.c)) (hq.ob (i := 0) rfl) rfl))) ?_)))
                obtain ⟨e111, he112⟩ : ∃ e, (o25.links)[j]? = some e := ⟨_, List.getElem?_eq_getElem (by omega)⟩
                obtain ⟨ad113, hA114⟩ := Rd.sm (oR27.rl.st0 (H109.fix (i := 2) rfl)) (ics_get he112)
                have hl115 := Eng.lt_len (ics_get he112)
                refine zr 4 31 rfl (by kernel_rfl) H109 (fun wq hq => Cq (b := (ad113.add (j * 1))) (i := j) Tryz.underlying134 Tryz.sizeOf3 (by rw [← hA114]; rfl) rfl (by omega) (by omega) rfl) (zr 5 63 rfl (by kernel_rfl) H109 (fun wq hq => Ai rfl (Ba Cf (Cl.at_ (v := (J e111)) (Rd.cl (oR27.rl.st0 (hq.fix (i := 2) rfl)) hA114 (ics_get he112)) (i := 0) rfl))) (RA.one (i := 6) (by kernel_rfl) ?_))
                refine ⟨_, 127, rfl, by kernel_rfl, ?_⟩
                refine RL.call Tryz.call225 (leadsR_ _ _ rh _ _ (H.st0 (H109.fix (i := 2) rfl)) (by omega) e111) rfl rfl rfl ?_
                rintro _ w116 ⟨rfl, g117⟩
                have H118 := H109.grow g117
                have z119 := g117.size
                rcases hb120 : (leadR h e111) with _ | _
                ·skip
                 refine RL.nil ?_
                 refine ⟨H118, ?_⟩
                 refine zr 7 255 rfl (by kernel_rfl) H118 (fun wq hq => Ex.not (b := false) rfl) (Bj (by kernel_rfl) (thn.n (Ab rfl (CW.seq (CW.region (za (bF) rfl (RL.nil (thn.n (CW.ret (inB.r (thn.r (thn.r (inB.r (inB.r (thn.r (thn.r (inB.r (thn.r (finQ.r (v := bF) (Ax rfl rfl) ?_)))))))))))))))))))
                 have hrf : ¬ RightH h := fun q => leadR_f hb120 ((q.2.2.2.1 i o25 ho26).2.2.2.2.2 e111 (List.mem_of_getElem? he112))
                 exact ⟨Am (heap_no hrf).symm, (H118.fix (i := 2) rfl)⟩
                ·skip
                 refine RL.nil ?_
                 refine ⟨H118, ?_⟩
                 refine zr 7 255 rfl (by kernel_rfl) H118 (fun wq hq => Ex.not (b := true) rfl) (Bj (by kernel_rfl) (thn.n (Ag rfl (CW.skip (inB.n (thn.n (CW.region (zm (J (j : Int)) rfl (zg rfl (Ex.add (r := (j : Int) + 1) rfl rfl (Dd (by omega) (by omega))) (za (J ((j : Int) + 1)) rfl (RL.nil (thn.n ?_))))))))))))
                 refine ⟨(by repeat (first | exact Out.mix _ _ | exact Out.refl _ _ | refine Bg ?_ rfl _ | refine Co ?_ (by intro t ht; simp only [Bool.or_eq_false_iff, Bool.and_eq_false_iff, ble_f, beq_f] at ht ⊢; omega))), _, ?_, j + 1, rfl, rfl, H118, by omega, upto_go (p := fun _ t => leadR h t = true) hlk he112 hb120⟩
                 omega
               ·skip
                refine RL.nil (thn.n (Ag rfl (CW.exit (thn.x (thn.x (Bf (inB.n (thn.n (CW.region (zm (J (i : Int)) rfl (zg rfl (Ex.add (r := (i : Int) + 1) rfl rfl (Dd (by omega) (by omega))) (za (J ((i : Int) + 1)) rfl (RL.nil (thn.n ?_))))))))))))))
                have hok : objOK h i o25 := ⟨by omega, by omega, (fun y _ hy => by rw [ho66] at hy; injection hy with hy; subst hy; rw [← oR67.h, ← oR27.h]; omega), by rw [← oR27.wl, ← oR27.ll, ← oR27.b]; exact Decidable.not_not.1 h95, by rw [← hord, ← oR27.b]; exact hb100, fun t ht => by obtain ⟨j2, hj2⟩ := List.mem_iff_getElem?.1 ht; exact leadR_t (hlk j2 t (by have := lt_len hj2; omega) hj2)⟩
                refine ⟨(by repeat (first | exact Out.mix _ _ | exact Out.refl _ _ | refine Bg ?_ rfl _ | refine Co ?_ (by intro t ht; simp only [Bool.or_eq_false_iff, Bool.and_eq_false_iff, ble_f, beq_f] at ht ⊢; omega))), _, ?_, i + 1, rfl, rfl, (H104.sel [1, 2] (by decide) rfl), by omega, upto_go hO ho26 hok⟩
                omega
          ·skip
           refine QL.go rfl rfl rfl (fun wq gq => Au (v := bF) rfl) (QL.out rfl rfl rfl (QL.out rfl rfl rfl (QL.out rfl rfl rfl (QL.out rfl rfl rfl (QL.out rfl rfl rfl (QL.out rfl rfl rfl (QL.out rfl rfl rfl (QL.out rfl rfl rfl (QL.out rfl rfl rfl (QL.out rfl rfl rfl ?_))))))))))
           refine QL.go rfl rfl rfl (fun wq gq => Be (v := bF) rfl rfl) (QL.go rfl rfl rfl (fun wq gq => Be (v := bF) rfl rfl) (QL.nil ?_))
           intro w121 g122
           have H123 := H49.grow g122
           have z124 := g122.size
           refine thn.n (Ag rfl (CW.skip (thn.n (CW.seq (CW.seq (CW.held (fun wq => Sp [Af b38 136 e23.cells, Af b2 47 rh.cells, Bd w Bl] wq) Tryz.mixed rfl ?_))))))
           intro w125 g126
           have H127 := H123.grow g126
           have z128 := g126.size
           refine zr 0 1 rfl (by kernel_rfl) H127 (fun wq hq => fa136_2 (b := ⟨b38, 3, none⟩) rfl rfl) (zr 3 9 rfl (by kernel_rfl) H127 (fun wq hq => fa136_3 (b := ⟨b38, 4, none⟩) rfl rfl) (zr 7 137 rfl (by kernel_rfl) H127 (fun wq hq => fa136_1 (b := ⟨b38, 1, none⟩) rfl rfl) (zr 8 393 rfl (by kernel_rfl) H127 (fun wq hq => Cd (b := ⟨b38, 2, none⟩) rfl rfl) (zr 1 395 rfl (by kernel_rfl) H127 (fun wq hq => Ai rfl (Ba lo134 (Ob.cell (v := (.slice e23.words.a e23.words.n e23.words.c)) (hq.ob (i := 0) rfl) rfl))) (zr 2 399 rfl (by kernel_rfl) H127 (fun wq hq => Ex.len Tryz.underlying134 rfl) (zr 4 415 rfl (by kernel_rfl) H127 (fun wq hq => Ai rfl (Ba lo134 (Ob.cell (v := (.slice e23.links.a e23.links.n e23.links.c)) (hq.ob (i := 0) rfl) rfl))) (zr 5 447 rfl (by kernel_rfl) H127 (fun wq hq => Ex.len Tryz.underlying134 rfl) (zr 9 959 rfl (by kernel_rfl) H127 (fun wq hq => Ai rfl (Ba Cf (Ob.cell (v := (J e23.blk.ord)) (hq.ob (i := 0) rfl) rfl))) ?_))))))))
           refine RA.one (i := 6) (by kernel_rfl) ?_
           refine ⟨_, 1023, rfl, by kernel_rfl, ?_⟩
           have hnb129 := needI_bd ((e23.words.n : Nat) : Int) ((e23.links.n : Nat) : Int)
           refine RL.call Tryz.call223 (needR_ _ ((e23.words.n : Nat) : Int) ((e23.links.n : Nat) : Int)) rfl rfl rfl ?_
           rintro _ w130 ⟨rfl, g131⟩
           have H132 := H127.grow g131
           have z133 := g131.size
           refine RL.nil ?_
           refine ⟨H132, ?_⟩
           refine zb 10 2047 (((Bs ((e23.words.n : Nat) : Int) ((e23.links.n : Nat) : Int)) : Int) ≠ (e23.blk.ord : Int)) rfl (by kernel_rfl) H132 (fun r hr wq hq => Cm rfl rfl hr) (fun h134 => ?_) (fun h134 => ?_)
           ·skip
            refine zr 11 4095 rfl (by kernel_rfl) H132 (fun wq hq => Au (v := bT) rfl) (zq 12 8191 rfl (by kernel_rfl) H132 (zq 14 24575 rfl (by kernel_rfl) H132 (zq 13 32767 rfl (by kernel_rfl) H132 (zq 15 65535 rfl (by kernel_rfl) H132 (zq 16 131071 rfl (by kernel_rfl) H132 (zq 17 262143 rfl (by kernel_rfl) H132 (zr 18 524287 rfl (by kernel_rfl) H132 (fun wq hq => Bi (v := bT) rfl rfl) (Bj (by kernel_rfl) (thn.n (Ab rfl (CW.seq (CW.region ?_))))))))))))
            refine za (bF) rfl (RL.nil (thn.n (CW.ret (thn.r (inB.r (thn.r (thn.r (inB.r (thn.r (finQ.r (v := bF) (Ax rfl rfl) ?_))))))))))
            have hrf : ¬ RightH h := fun q => by
              obtain ⟨_, _, _, q4, q5, _⟩ := q.2.2.2.1 i o25 ho26
              rw [← oR27.wl, ← oR27.ll, ← oR27.b] at q4
              rw [← oR27.b, ← hord] at q5
              first | exact h134 q4 | (rw [h134] at q5; cases q5)
            exact ⟨Am (heap_no hrf).symm, (H132.fix (i := 2) rfl)⟩
           ·skip
            refine zr 11 4095 rfl (by kernel_rfl) H132 (fun wq hq => Au (v := bF) rfl) (zr 12 8191 rfl (by kernel_rfl) H132 (fun wq hq => fa47_0 (b := ⟨b2, 0, none⟩) rfl rfl) (zr 14 24575 rfl (by kernel_rfl) H132 (fun wq hq => fa136_1 (b := ⟨b38, 1, none⟩) rfl rfl) (zr 13 32767 rfl (by kernel_rfl) H132 (fun wq hq => Ai rfl (Ba Cf (Ob.cell (v := (J rh.order)) (hq.ob (i := 1) rfl) rfl))) (zr 15 65535 rfl (by kernel_rfl) H132 (fun wq hq => Ai rfl (Ak (cs := [(J e23.blk.at_), (J e23.blk.ord)]) wh133 ((hq.ob (i := 0) rfl).sub 1 2))) (RA.one (i := 16) (by kernel_rfl) ?_)))))
            refine ⟨_, 131071, rfl, by kernel_rfl, ?_⟩
            refine RL.call Tryz.call224 (mayR_ _ rh.order e23.blk (by omega) (by omega)) rfl rfl rfl ?_
            rintro _ w135 ⟨rfl, g136⟩
            have H137 := H132.grow g136
            have z138 := g136.size
            rcases hb139 : (mayR rh.order e23.blk) with _ | _
            ·skip
             refine RL.nil ?_
             refine ⟨H137, ?_⟩
             refine zr 17 262143 rfl (by kernel_rfl) H137 (fun wq hq => Ex.not (b := false) rfl) (zr 18 524287 rfl (by kernel_rfl) H137 (fun wq hq => Be (v := bT) rfl rfl) (Bj (by kernel_rfl) (thn.n (Ab rfl (CW.seq (CW.region (za (bF) rfl (RL.nil (thn.n (CW.ret (thn.r (inB.r (thn.r (thn.r (inB.r (thn.r (finQ.r (v := bF) (Ax rfl rfl) ?_)))))))))))))))))
             have hrf : ¬ RightH h := fun q => by
               obtain ⟨_, _, _, q4, q5, _⟩ := q.2.2.2.1 i o25 ho26
               rw [← oR27.wl, ← oR27.ll, ← oR27.b] at q4
               rw [← oR27.b, ← hord] at q5
               first | exact hb139 q4 | (rw [hb139] at q5; cases q5)
             exact ⟨Am (heap_no hrf).symm, (H137.fix (i := 2) rfl)⟩
            ·have hmt := mayR_bd hb139 (by omega)
             refine RL.nil ?_
             refine ⟨H137, ?_⟩
             refine zr 17 262143 rfl (by kernel_rfl) H137 (fun wq hq => Ex.not (b := true) rfl) (zr 18 524287 rfl (by kernel_rfl) H137 (fun wq hq => Be (v := bF) rfl rfl) (Bj (by kernel_rfl) (thn.n (Ag rfl (CW.skip (thn.n (CW.seq (CW.region (za (J 0) rfl (RL.nil (thn.n (CW.block ?_))))))))))))
             refine CW.loop (fun t => Nat.beq t 2 || Nat.beq t 5 || (Nat.ble 90 t && Nat.ble t 104)) (fun nL ρ wl => ∃ (j : Nat), ρ 5 = (J (j : Int)) ∧ nL = e23.links.n - j ∧ Sp [Af b38 136 e23.cells, Af b2 47 rh.cells, Bd w Bl] wl ∧ j ≤ e23.links.n ∧ ∀ (j2 : Nat) (t : Int), j2 < j → o25.links[j2]? = some t → leadR h t = true) (e23.links.n) ?aa1 ?bb1
             case aa1 =>
              exact ⟨0, rfl, rfl, H137, Nat.zero_le _, fun j x hj => by omega⟩
             case bb1 =>
              rintro n141 ρ1 w140 ho142 ⟨j, hs1_5, hn1, H143, hj, hlk⟩
              obtain ⟨j1, rfl⟩ := ho142.shape1 hs1_5
              clear ho142 hs1_5
              subst hn1
              have z144 := (H143.fix (i := 2) rfl).size
              refine CW.seq (CW.seq (CW.region (zm (J (j : Int)) rfl (zg rfl (fa136_3 (b := ⟨b38, 4, none⟩) rfl rfl) (zl (.slice e23.links.a e23.links.n e23.links.c) lo134 (H143.ob (i := 0) rfl) rfl (zg rfl (Ex.len Tryz.underlying134 rfl) ?_))))))
              refine zc (((j : Int) : Int) < ((e23.links.n : Nat) : Int)) rfl (fun r hr => Ex.lt rfl rfl hr) (fun h145 => ?_) (fun h145 => ?_)
              ·skip
               refine RL.nil (thn.n (Ab rfl (CW.skip (thn.n (CW.seq (CW.block (CW.seq (CW.held (fun wq => Sp [Af b38 136 e23.cells, Af b2 47 rh.cells, Bd w Bl] wq) Tryz.mixed rfl ?_))))))))
               intro w146 g147
               have H148 := H143.grow g147
               have z149 := g147.size
               refine zr 1 2 rfl (by kernel_rfl) H148 (fun wq hq => fa136_3 (b := ⟨b38, 4, none⟩) rfl rfl) (zr 3 10 rfl (by kernel_rfl) H148 (fun wq hq => Au (v := (J (j : Int))) rfl) (zr 0 11 rfl (by kernel_rfl) H148 (fun wq hq => Ai rfl (Ak (cs := rh.cells) wh47 (hq.ob (i := 1) rfl).cl)) (zr 2 15 rfl (by kernel_rfl) H148 (fun wq hq => Ai rfl (Ba lo134 (Ob.cell (v := (.slice e23.links.a e23.links.n e23.links.c)) (hq.ob (i := 0) rfl) rfl))) ?_)))
               obtain ⟨e150, he151⟩ : ∃ e, (o25.links)[j]? = some e := ⟨_, List.getElem?_eq_getElem (by omega)⟩
               obtain ⟨ad152, hA153⟩ := Rd.sm (oR27.rl.st0 (H148.fix (i := 2) rfl)) (ics_get he151)
               have hl154 := Eng.lt_len (ics_get he151)
               refine zr 4 31 rfl (by kernel_rfl) H148 (fun wq hq => Cq (b := (ad152.add (j * 1))) (i := j) Tryz.underlying134 Tryz.sizeOf3 (by rw [← hA153]; rfl) rfl (by omega) (by omega) rfl) (zr 5 63 rfl (by kernel_rfl) H148 (fun wq hq => Ai rfl (Ba Cf (Cl.at_ (v := (J e150)) (Rd.cl (oR27.rl.st0 (hq.fix (i := 2) rfl)) hA153 (ics_get he151)) (i := 0) rfl))) (RA.one (i := 6) (by kernel_rfl) ?_))
               refine ⟨_, 127, rfl, by kernel_rfl, ?_⟩
               refine RL.call Tryz.call225 (leadsR_ _ _ rh _ _ (H.st0 (H148.fix (i := 2) rfl)) (by omega) e150) rfl rfl rfl ?_
               rintro _ w155 ⟨rfl, g156⟩
               have H157 := H148.grow g156
               have z158 := g156.size
               rcases hb159 : (leadR h e150) with _ | _
               ·skip
                refine RL.nil ?_
                refine ⟨H157, ?_⟩
                refine zr 7 255 rfl (by kernel_rfl) H157 (fun wq hq => Ex.not (b := false) rfl) (Bj (by kernel_rfl) (thn.n (Ab rfl (CW.seq (CW.region (za (bF) rfl (RL.nil (thn.n (CW.ret (inB.r (thn.r (thn.r (inB.r (inB.r (thn.r (thn.r (inB.r (thn.r (finQ.r (v := bF) (Ax rfl rfl) ?_)))))))))))))))))))
                have hrf : ¬ RightH h := fun q => leadR_f hb159 ((q.2.2.2.1 i o25 ho26).2.2.2.2.2 e150 (List.mem_of_getElem? he151))
                exact ⟨Am (heap_no hrf).symm, (H157.fix (i := 2) rfl)⟩
               ·skip
                refine RL.nil ?_
                refine ⟨H157, ?_⟩
                refine zr 7 255 rfl (by kernel_rfl) H157 (fun wq hq => Ex.not (b := true) rfl) (Bj (by kernel_rfl) (thn.n (Ag rfl (CW.skip (inB.n (thn.n (CW.region (zm (J (j : Int)) rfl (zg rfl (Ex.add (r := (j : Int) + 1) rfl rfl (Dd (by omega) (by omega))) (za (J ((j : Int) + 1)) rfl (RL.nil (thn.n ?_))))))))))))
                refine ⟨(by repeat (first | exact Out.mix _ _ | exact Out.refl _ _ | refine Bg ?_ rfl _ | refine Co ?_ (by intro t ht; simp only [Bool.or_eq_false_iff, Bool.and_eq_false_iff, ble_f, beq_f] at ht ⊢; omega))), _, ?_, j + 1, rfl, rfl, H157, by omega, upto_go (p := fun _ t => leadR h t = true) hlk he151 hb159⟩
                omega
              ·skip
               refine RL.nil (thn.n (Ag rfl (CW.exit (thn.x (thn.x (Bf (inB.n (thn.n (CW.region (zm (J (i : Int)) rfl (zg rfl (Ex.add (r := (i : Int) + 1) rfl rfl (Dd (by omega) (by omega))) (za (J ((i : Int) + 1)) rfl (RL.nil (thn.n ?_))))))))))))))
               have hok : objOK h i o25 := ⟨by omega, by omega, (fun y hi0 hy => by omega), by rw [← oR27.wl, ← oR27.ll, ← oR27.b]; exact Decidable.not_not.1 h134, by rw [← hord, ← oR27.b]; exact hb139, fun t ht => by obtain ⟨j2, hj2⟩ := List.mem_iff_getElem?.1 ht; exact leadR_t (hlk j2 t (by have := lt_len hj2; omega) hj2)⟩
               refine ⟨(by repeat (first | exact Out.mix _ _ | exact Out.refl _ _ | refine Bg ?_ rfl _ | refine Co ?_ (by intro t ht; simp only [Bool.or_eq_false_iff, Bool.and_eq_false_iff, ble_f, beq_f] at ht ⊢; omega))), _, ?_, i + 1, rfl, rfl, (H143.sel [1, 2] (by decide) rfl), by omega, upto_go hO ho26 hok⟩
               omega
       ·skip
        refine RL.nil (thn.n (Ag rfl (CW.exit (thn.x (thn.x (Bf (thn.n (CW.seq ?_))))))))
        have hbk := hb_may hbu2 (n := i) (by omega) hO
        have hfl2 := Az h.order
        refine CW.region (zg rfl (Ai rfl (Ak (cs := rh.cells) wh47 (H20.ob (i := 0) rfl).cl)) (RL.call Tryz.call226 (blocks_ _ _ rh _ _ (H.st0 (H20.fix (i := 1) rfl)) (by omega) (by omega) (by omega)) rfl rfl rfl ?_))
        rintro _ w163 ⟨A160, n161, c162, rfl, g164⟩
        have g165 := g164.fix (i := 1) rfl
        have H166 : Sp [Ar 133 2 A160 n161 c162 (Ck h.blocks), Af b2 47 rh.cells, Bd w Bl] w163 := H20.join (m := [Ar 133 2 A160 n161 c162 (Ck h.blocks)]) g164
        have z167 := g165.size
        refine za (.slice A160 n161 c162) rfl (RL.nil (thn.n (CW.seq (CW.seq ?_))))
        have hl6 := H166.len (i := 0) rfl
        rw [Ap] at hl6
        have hl6b : h.blocks.length = h.free.length + h.objs.length := by unfold Heap.blocks; rw [List.length_append, List.length_map]
        refine CW.region (za (J 0) rfl (RL.nil (thn.n (CW.block ?_))))
        refine CW.loop (fun t => Nat.beq t 2 || (Nat.ble 7 t && Nat.ble t 8) || (Nat.ble 107 t && Nat.ble t 126)) (fun nL ρ wl => ∃ (i2 : Nat), ρ 7 = (J (i2 : Int)) ∧ nL = n161 - i2 ∧ Sp [Ar 133 2 A160 n161 c162 (Ck h.blocks), Af b2 47 rh.cells, Bd w Bl] wl ∧ i2 ≤ n161 ∧ ∀ (j : Nat) (x : Blk), j < i2 → h.blocks[j]? = some x → ∀ (k : Nat) (y : Blk), k < j → h.blocks[k]? = some y → meetB x y = false) (n161) ?aa2 ?bb2
        case aa2 =>
         exact ⟨0, rfl, rfl, H166, Nat.zero_le _, fun j x hj => by omega⟩
        case bb2 =>
         rintro n169 ρ2 w168 ho170 ⟨i2, hs2_7, hn2, H171, hi2, hP⟩
         obtain ⟨j2, rfl⟩ := ho170.shape1 hs2_7
         clear ho170 hs2_7
         subst hn2
         have z172 := (H171.fix (i := 2) rfl).size
         refine CW.seq (CW.seq (CW.region (zm (J (i2 : Int)) rfl (zm (.slice A160 n161 c162) rfl (zg rfl (Ex.len Tryz.underlying45 rfl) ?_)))))
         refine zc (((i2 : Int) : Int) < ((n161 : Nat) : Int)) rfl (fun r hr => Ex.lt rfl rfl hr) (fun h173 => ?_) (fun h173 => ?_)
         ·skip
          refine RL.nil (thn.n (Ab rfl (CW.skip (thn.n (CW.seq (CW.block (CW.seq (CW.region (za (J 0) rfl (RL.nil (thn.n (CW.block ?_))))))))))))
          obtain ⟨ei, hei⟩ : ∃ e, (h.blocks)[i2]? = some e := ⟨_, List.getElem?_eq_getElem (by omega)⟩
          have hmi := mayR_bd (hbk ei (List.mem_of_getElem? hei)) (by omega)
          refine CW.loop (fun t => Nat.beq t 2 || Nat.beq t 8 || (Nat.ble 113 t && Nat.ble t 126)) (fun nL ρ wl => ∃ (k2 : Nat), ρ 8 = (J (k2 : Int)) ∧ nL = i2 - k2 ∧ Sp [Ar 133 2 A160 n161 c162 (Ck h.blocks), Af b2 47 rh.cells, Bd w Bl] wl ∧ k2 ≤ i2 ∧ ∀ (k : Nat) (y : Blk), k < k2 → h.blocks[k]? = some y → meetB ei y = false) (i2) ?aa3 ?bb3
          case aa3 =>
           exact ⟨0, rfl, rfl, H171, Nat.zero_le _, fun j x hj => by omega⟩
          case bb3 =>
           rintro n175 ρ3 w174 ho176 ⟨k2, hs3_8, hn3, H177, hk2, hin⟩
           obtain ⟨j3, rfl⟩ := ho176.shape1 hs3_8
           clear ho176 hs3_8
           subst hn3
           have z178 := (H177.fix (i := 2) rfl).size
           refine CW.seq (CW.seq (CW.region (zm (J (k2 : Int)) rfl (zm (J (i2 : Int)) rfl ?_))))
           refine zc (((k2 : Int) : Int) < ((i2 : Int) : Int)) rfl (fun r hr => Ex.lt rfl rfl hr) (fun h179 => ?_) (fun h179 => ?_)
           ·skip
            refine RL.nil (thn.n (Ab rfl (CW.skip (thn.n (CW.seq (CW.block (CW.seq (CW.held (fun wq => Sp [Ar 133 2 A160 n161 c162 (Ck h.blocks), Af b2 47 rh.cells, Bd w Bl] wq) Tryz.mixed rfl ?_))))))))
            intro w180 g181
            have H182 := H177.grow g181
            have z183 := g181.size
            refine zr 0 1 rfl (by kernel_rfl) H182 (fun wq hq => Au (v := (.slice A160 n161 c162)) rfl) (zr 1 3 rfl (by kernel_rfl) H182 (fun wq hq => Au (v := (J (i2 : Int))) rfl) (zr 4 19 rfl (by kernel_rfl) H182 (fun wq hq => Au (v := (.slice A160 n161 c162)) rfl) (zr 5 51 rfl (by kernel_rfl) H182 (fun wq hq => Au (v := (J (k2 : Int))) rfl) ?_)))
            obtain ⟨ad184, hA185⟩ := Rd.sm (H182.rowrd (i := 0) rfl) (Bu hei)
            have hl186 := Eng.lt_len (Bu hei)
            refine zr 2 55 rfl (by kernel_rfl) H182 (fun wq hq => Cq (b := (ad184.add (i2 * 2))) (i := i2) Tryz.underlying45 Tryz.sizeOf133 (by rw [← hA185]; rfl) rfl (by omega) (by omega) rfl) (zr 3 63 rfl (by kernel_rfl) H182 (fun wq hq => Ai rfl (Ak (cs := ei.cells) wh133 (Rd.cl (hq.rowrd (i := 0) rfl) hA185 (Bu hei)))) ?_)
            obtain ⟨e187, he188⟩ : ∃ e, (h.blocks)[k2]? = some e := ⟨_, List.getElem?_eq_getElem (by omega)⟩
            obtain ⟨ad189, hA190⟩ := Rd.sm (H182.rowrd (i := 0) rfl) (Bu he188)
            have hl191 := Eng.lt_len (Bu he188)
            refine zr 6 127 rfl (by kernel_rfl) H182 (fun wq hq => Cq (b := (ad189.add (k2 * 2))) (i := k2) Tryz.underlying45 Tryz.sizeOf133 (by rw [← hA190]; rfl) rfl (by omega) (by omega) rfl) (zr 7 255 rfl (by kernel_rfl) H182 (fun wq hq => Ai rfl (Ak (cs := e187.cells) wh133 (Rd.cl (hq.rowrd (i := 0) rfl) hA190 (Bu he188)))) (RA.one (i := 8) (by kernel_rfl) ?_))
            refine ⟨_, 511, rfl, by kernel_rfl, ?_⟩
            have hmk := mayR_bd (hbk e187 (List.mem_of_getElem? he188)) (by omega)
            refine RL.call Tryz.call227 (meet_ _ ei e187 (by first | assumption | (constructor <;> (first | omega | (show _ ≤ _; omega)))) (by first | assumption | (constructor <;> (first | omega | (show _ ≤ _; omega)))) (by first | assumption | (constructor <;> (first | omega | (show _ ≤ _; omega)))) (by first | assumption | (constructor <;> (first | omega | (show _ ≤ _; omega))))) rfl rfl rfl ?_
            rintro _ w192 ⟨rfl, g193⟩
            have H194 := H182.grow g193
            have z195 := g193.size
            rcases hb196 : (meetB ei e187) with _ | _
            ·skip
             refine RL.nil ?_
             refine ⟨H194, ?_⟩
             refine Bj (by kernel_rfl) (thn.n (Ag rfl (CW.skip (inB.n (thn.n (CW.region (zm (J (k2 : Int)) rfl (zg rfl (Ex.add (r := (k2 : Int) + 1) rfl rfl (Dd (by omega) (by omega))) (za (J ((k2 : Int) + 1)) rfl (RL.nil (thn.n ?_)))))))))))
             refine ⟨(by repeat (first | exact Out.mix _ _ | exact Out.refl _ _ | refine Bg ?_ rfl _ | refine Co ?_ (by intro t ht; simp only [Bool.or_eq_false_iff, Bool.and_eq_false_iff, ble_f, beq_f] at ht ⊢; omega))), _, ?_, k2 + 1, rfl, rfl, H194, by omega, upto_go (p := fun _ y => meetB ei y = false) hin he188 hb196⟩
             omega
            ·skip
             refine RL.nil ?_
             refine ⟨H194, ?_⟩
             refine Bj (by kernel_rfl) (thn.n (Ab rfl (CW.seq (CW.region (za (bF) rfl (RL.nil (thn.n (CW.ret (inB.r (thn.r (thn.r (inB.r (inB.r (thn.r (thn.r (inB.r (thn.r (finQ.r (v := bF) (Ax rfl rfl) ?_))))))))))))))))))
             have hrf : ¬ RightH h := fun q => by have q1 := pw_at q.2.2.2.2.1 (show k2 < i2 by omega) he188 hei; rw [hb196] at q1; cases q1
             exact ⟨Am (heap_no hrf).symm, (H194.fix (i := 2) rfl)⟩
           ·skip
            refine RL.nil (thn.n (Ag rfl (CW.exit (thn.x (thn.x (Bf (inB.n (thn.n (CW.region (zm (J (i2 : Int)) rfl (zg rfl (Ex.add (r := (i2 : Int) + 1) rfl rfl (Dd (by omega) (by omega))) (za (J ((i2 : Int) + 1)) rfl (RL.nil (thn.n ?_))))))))))))))
            refine ⟨(by repeat (first | exact Out.mix _ _ | exact Out.refl _ _ | refine Bg ?_ rfl _ | refine Co ?_ (by intro t ht; simp only [Bool.or_eq_false_iff, Bool.and_eq_false_iff, ble_f, beq_f] at ht ⊢; omega))), _, ?_, i2 + 1, rfl, rfl, H177, by omega, upto_go hP hei (fun k y hk hy => hin k y (by omega) hy)⟩
            omega
         ·skip
          refine RL.nil (thn.n (Ag rfl (CW.exit (thn.x (thn.x (Bf (thn.n (CW.seq (CW.seq (CW.region (za (J 0) rfl (RL.nil (thn.n (CW.block (CW.unroll (Cg (CW.seq (CW.seq (CW.region (zm (J 0) rfl (zg rfl (Ex.lt (r := true) rfl rfl (by decide)) (RL.nil (thn.n (Ab rfl (CW.skip (thn.n (CW.seq (CW.block (CW.seq (CW.held (fun wq => Sp [Ar 133 2 A160 n161 c162 (Ck h.blocks), Af b2 47 rh.cells, Bd w Bl] wq) Tryz.mixed rfl ?_))))))))))))))))))))))))))))))
          intro w197 g198
          have H199 := H171.grow g198
          have z200 := g198.size
          refine zr 1 2 rfl (by kernel_rfl) H199 (fun wq hq => Au (v := (J 0)) rfl) (zr 2 6 rfl (by kernel_rfl) H199 (fun wq hq => fa47_3 (b := ⟨b2, 3, none⟩) rfl rfl) (zr 0 7 rfl (by kernel_rfl) H199 (fun wq hq => Ai rfl (Ak (cs := rh.cells) wh47 (hq.ob (i := 1) rfl).cl)) (zr 3 15 rfl (by kernel_rfl) H199 (fun wq hq => Ex.ixA (b := ⟨b2, 3, none⟩) (i := 0) Tryz.underlying44 Tryz.sizeOf3 rfl rfl rfl rfl rfl) (zr 4 31 rfl (by kernel_rfl) H199 (fun wq hq => Ai rfl (Ba Cf (Ob.cell (v := (J rh.t0)) (hq.ob (i := 1) rfl) rfl))) (RA.one (i := 5) (by kernel_rfl) ?_)))))
          refine ⟨_, 63, rfl, by kernel_rfl, ?_⟩
          refine RL.call Tryz.call225 (leadsR_ _ _ rh _ _ (H.st0 (H199.fix (i := 2) rfl)) (by omega) rh.t0) rfl rfl rfl ?_
          rintro _ w201 ⟨rfl, g202⟩
          have H203 := H199.grow g202
          have z204 := g202.size
          rcases hb205 : (leadR h rh.t0) with _ | _
          ·skip
           refine RL.nil ?_
           refine ⟨H203, ?_⟩
           refine zr 6 127 rfl (by kernel_rfl) H203 (fun wq hq => Ex.not (b := false) rfl) (Bj (by kernel_rfl) (thn.n (Ab rfl (CW.seq (CW.region (za (bF) rfl (RL.nil (thn.n (CW.ret (inB.r (thn.r (thn.r (inB.r (thn.r (finQ.r (v := bF) (Ax rfl rfl) ?_)))))))))))))))
           have hrf : ¬ RightH h := fun q => leadR_f hb205 (q.2.2.2.2.2.1 _ (by rw [← H.tops]; simp))
           exact ⟨Am (heap_no hrf).symm, (H203.fix (i := 2) rfl)⟩
          ·skip
           refine RL.nil ?_
           refine ⟨H203, ?_⟩
           refine zr 6 127 rfl (by kernel_rfl) H203 (fun wq hq => Ex.not (b := true) rfl) (Bj (by kernel_rfl) (thn.n (Ag rfl (CW.skip (inB.n (thn.n (CW.region (zm (J 0) rfl (zg rfl (Ex.add (r := 1) rfl rfl rfl) (za (J 1) rfl (RL.nil (thn.n (Cg (CW.seq (CW.seq (CW.region ?_))))))))))))))))
           refine zm (J 1) rfl (zg rfl (Ex.lt (r := true) rfl rfl (by decide)) (RL.nil (thn.n (Ab rfl (CW.skip (thn.n (CW.seq (CW.block (CW.seq (CW.held (fun wq => Sp [Ar 133 2 A160 n161 c162 (Ck h.blocks), Af b2 47 rh.cells, Bd w Bl] wq) Tryz.mixed rfl ?_))))))))))
           intro w206 g207
           have H208 := H203.grow g207
           have z209 := g207.size
           refine zr 1 2 rfl (by kernel_rfl) H208 (fun wq hq => Au (v := (J 1)) rfl) (zr 2 6 rfl (by kernel_rfl) H208 (fun wq hq => fa47_3 (b := ⟨b2, 3, none⟩) rfl rfl) (zr 0 7 rfl (by kernel_rfl) H208 (fun wq hq => Ai rfl (Ak (cs := rh.cells) wh47 (hq.ob (i := 1) rfl).cl)) (zr 3 15 rfl (by kernel_rfl) H208 (fun wq hq => Ex.ixA (b := ⟨b2, 4, none⟩) (i := 1) Tryz.underlying44 Tryz.sizeOf3 rfl rfl rfl rfl rfl) (zr 4 31 rfl (by kernel_rfl) H208 (fun wq hq => Ai rfl (Ba Cf (Ob.cell (v := (J rh.t1)) (hq.ob (i := 1) rfl) rfl))) (RA.one (i := 5) (by kernel_rfl) ?_)))))
           refine ⟨_, 63, rfl, by kernel_rfl, ?_⟩
           refine RL.call Tryz.call225 (leadsR_ _ _ rh _ _ (H.st0 (H208.fix (i := 2) rfl)) (by omega) rh.t1) rfl rfl rfl ?_
           rintro _ w210 ⟨rfl, g211⟩
           have H212 := H208.grow g211
           have z213 := g211.size
           rcases hb214 : (leadR h rh.t1) with _ | _
           ·skip
            refine RL.nil ?_
            refine ⟨H212, ?_⟩
            refine zr 6 127 rfl (by kernel_rfl) H212 (fun wq hq => Ex.not (b := false) rfl) (Bj (by kernel_rfl) (thn.n (Ab rfl (CW.seq (CW.region (za (bF) rfl (RL.nil (thn.n (CW.ret (inB.r (thn.r (thn.r (inB.r (thn.r (finQ.r (v := bF) (Ax rfl rfl) ?_)))))))))))))))
            have hrf : ¬ RightH h := fun q => leadR_f hb214 (q.2.2.2.2.2.1 _ (by rw [← H.tops]; simp))
            exact ⟨Am (heap_no hrf).symm, (H212.fix (i := 2) rfl)⟩
           ·skip
            refine RL.nil ?_
            refine ⟨H212, ?_⟩
            refine zr 6 127 rfl (by kernel_rfl) H212 (fun wq hq => Ex.not (b := true) rfl) (Bj (by kernel_rfl) (thn.n (Ag rfl (CW.skip (inB.n (thn.n (CW.region (zm (J 1) rfl (zg rfl (Ex.add (r := 2) rfl rfl rfl) (za (J 2) rfl (RL.nil (thn.n (Cg (CW.seq (CW.seq (CW.region ?_))))))))))))))))
            refine zm (J 2) rfl (zg rfl (Ex.lt (r := true) rfl rfl (by decide)) (RL.nil (thn.n (Ab rfl (CW.skip (thn.n (CW.seq (CW.block (CW.seq (CW.held (fun wq => Sp [Ar 133 2 A160 n161 c162 (Ck h.blocks), Af b2 47 rh.cells, Bd w Bl] wq) Tryz.mixed rfl ?_))))))))))
            intro w215 g216
            have H217 := H212.grow g216
            have z218 := g216.size
            refine zr 1 2 rfl (by kernel_rfl) H217 (fun wq hq => Au (v := (J 2)) rfl) (zr 2 6 rfl (by kernel_rfl) H217 (fun wq hq => fa47_3 (b := ⟨b2, 3, none⟩) rfl rfl) (zr 0 7 rfl (by kernel_rfl) H217 (fun wq hq => Ai rfl (Ak (cs := rh.cells) wh47 (hq.ob (i := 1) rfl).cl)) (zr 3 15 rfl (by kernel_rfl) H217 (fun wq hq => Ex.ixA (b := ⟨b2, 5, none⟩) (i := 2) Tryz.underlying44 Tryz.sizeOf3 rfl rfl rfl rfl rfl) (zr 4 31 rfl (by kernel_rfl) H217 (fun wq hq => Ai rfl (Ba Cf (Ob.cell (v := (J rh.t2)) (hq.ob (i := 1) rfl) rfl))) (RA.one (i := 5) (by kernel_rfl) ?_)))))
            refine ⟨_, 63, rfl, by kernel_rfl, ?_⟩
            refine RL.call Tryz.call225 (leadsR_ _ _ rh _ _ (H.st0 (H217.fix (i := 2) rfl)) (by omega) rh.t2) rfl rfl rfl ?_
            rintro _ w219 ⟨rfl, g220⟩
            have H221 := H217.grow g220
            have z222 := g220.size
            rcases hb223 : (leadR h rh.t2) with _ | _
            ·skip
             refine RL.nil ?_
             refine ⟨H221, ?_⟩
             refine zr 6 127 rfl (by kernel_rfl) H221 (fun wq hq => Ex.not (b := false) rfl) (Bj (by kernel_rfl) (thn.n (Ab rfl (CW.seq (CW.region (za (bF) rfl (RL.nil (thn.n (CW.ret (inB.r (thn.r (thn.r (inB.r (thn.r (finQ.r (v := bF) (Ax rfl rfl) ?_)))))))))))))))
             have hrf : ¬ RightH h := fun q => leadR_f hb223 (q.2.2.2.2.2.1 _ (by rw [← H.tops]; simp))
             exact ⟨Am (heap_no hrf).symm, (H221.fix (i := 2) rfl)⟩
            ·skip
             refine RL.nil ?_
             refine ⟨H221, ?_⟩
             refine zr 6 127 rfl (by kernel_rfl) H221 (fun wq hq => Ex.not (b := true) rfl) (Bj (by kernel_rfl) (thn.n (Ag rfl (CW.skip (inB.n (thn.n (CW.region (zm (J 2) rfl (zg rfl (Ex.add (r := 3) rfl rfl rfl) (za (J 3) rfl (RL.nil (thn.n (Cg (CW.seq (CW.seq (CW.region ?_))))))))))))))))
             refine zm (J 3) rfl (zg rfl (Ex.lt (r := true) rfl rfl (by decide)) (RL.nil (thn.n (Ab rfl (CW.skip (thn.n (CW.seq (CW.block (CW.seq (CW.held (fun wq => Sp [Ar 133 2 A160 n161 c162 (Ck h.blocks), Af b2 47 rh.cells, Bd w Bl] wq) Tryz.mixed rfl ?_))))))))))
             intro w224 g225
             have H226 := H221.grow g225
             have z227 := g225.size
             refine zr 1 2 rfl (by kernel_rfl) H226 (fun wq hq => Au (v := (J 3)) rfl) (zr 2 6 rfl (by kernel_rfl) H226 (fun wq hq => fa47_3 (b := ⟨b2, 3, none⟩) rfl rfl) (zr 0 7 rfl (by kernel_rfl) H226 (fun wq hq => Ai rfl (Ak (cs := rh.cells) wh47 (hq.ob (i := 1) rfl).cl)) (zr 3 15 rfl (by kernel_rfl) H226 (fun wq hq => Ex.ixA (b := ⟨b2, 6, none⟩) (i := 3) Tryz.underlying44 Tryz.sizeOf3 rfl rfl rfl rfl rfl) (zr 4 31 rfl (by kernel_rfl) H226 (fun wq hq => Ai rfl (Ba Cf (Ob.cell (v := (J rh.t3)) (hq.ob (i := 1) rfl) rfl))) (RA.one (i := 5) (by kernel_rfl) ?_)))))
             refine ⟨_, 63, rfl, by kernel_rfl, ?_⟩
             refine RL.call Tryz.call225 (leadsR_ _ _ rh _ _ (H.st0 (H226.fix (i := 2) rfl)) (by omega) rh.t3) rfl rfl rfl ?_
             rintro _ w228 ⟨rfl, g229⟩
             have H230 := H226.grow g229
             have z231 := g229.size
             rcases hb232 : (leadR h rh.t3) with _ | _
             ·skip
              refine RL.nil ?_
              refine ⟨H230, ?_⟩
              refine zr 6 127 rfl (by kernel_rfl) H230 (fun wq hq => Ex.not (b := false) rfl) (Bj (by kernel_rfl) (thn.n (Ab rfl (CW.seq (CW.region (za (bF) rfl (RL.nil (thn.n (CW.ret (inB.r (thn.r (thn.r (inB.r (thn.r (finQ.r (v := bF) (Ax rfl rfl) ?_)))))))))))))))
              have hrf : ¬ RightH h := fun q => leadR_f hb232 (q.2.2.2.2.2.1 _ (by rw [← H.tops]; simp))
              exact ⟨Am (heap_no hrf).symm, (H230.fix (i := 2) rfl)⟩
             ·skip
              refine RL.nil ?_
              refine ⟨H230, ?_⟩
              refine zr 6 127 rfl (by kernel_rfl) H230 (fun wq hq => Ex.not (b := true) rfl) (Bj (by kernel_rfl) (thn.n (Ag rfl (CW.skip (inB.n (thn.n (CW.region (zm (J 3) rfl (zg rfl (Ex.add (r := 4) rfl rfl rfl) (za (J 4) rfl (RL.nil (thn.n (Cg (CW.seq (CW.seq (CW.region ?_))))))))))))))))
              refine zm (J 4) rfl (zg rfl (Ex.lt (r := false) rfl rfl (by decide)) (RL.nil (thn.n (Ag rfl (CW.exit (thn.x (thn.x (Bf (thn.n (CW.seq (CW.held (fun wq => Sp [Ar 133 2 A160 n161 c162 (Ck h.blocks), Af b2 47 rh.cells, Bd w Bl] wq) Tryz.mixed rfl ?_)))))))))))
              intro w233 g234
              have H235 := H230.grow g234
              have z236 := g234.size
              refine zr 0 1 rfl (by kernel_rfl) H235 (fun wq hq => Au (v := (.slice A160 n161 c162)) rfl) (zr 2 5 rfl (by kernel_rfl) H235 (fun wq hq => fa47_0 (b := ⟨b2, 0, none⟩) rfl rfl) (zr 3 13 rfl (by kernel_rfl) H235 (fun wq hq => Ai rfl (Ba Cf (Ob.cell (v := (J rh.order)) (hq.ob (i := 1) rfl) rfl))) (RA.one (i := 1) (by kernel_rfl) ?_)))
              refine ⟨_, 15, rfl, by kernel_rfl, ?_⟩
              refine RL.call Tryz.call228 (wordsR_ _ w233.heap.size h.blocks A160 n161 c162 ((H235.rowrd (i := 0) rfl).more (Nat.le_refl _)) (by first | assumption | omega) (Nat.le_refl _) (by omega) (fun b hb => by have := mayR_t.1 (hbk b hb); omega)) rfl rfl rfl ?_
              rintro _ w238 ⟨rfl, g239⟩
              have H240 := H235.grow g239
              have z241 := g239.size
              refine RL.nil ?_
              refine ⟨H240, ?_⟩
              refine RA.one (i := 4) (by kernel_rfl) ?_
              refine ⟨_, 31, rfl, by kernel_rfl, ?_⟩
              have hz242 := Az rh.order
              have hz243 := Bm (o := rh.order) (by omega) (by omega)
              refine RL.call Tryz.call229 (sz_ _ rh.order (by omega) (by omega)) rfl rfl rfl ?_
              rintro _ w244 ⟨rfl, g245⟩
              have H246 := H240.grow g245
              have z247 := g245.size
              refine RL.nil ?_
              refine ⟨H246, ?_⟩
              refine zb 5 63 (((sumW h.blocks) : Int) = ((Ae rh.order) : Int)) rfl (by kernel_rfl) H246 (fun r hr wq hq => Cb rfl rfl hr) (fun h248 => ?_) (fun h248 => ?_)
              ·skip
               refine zr 6 127 rfl (by kernel_rfl) H246 (fun wq hq => Ex.as (v := bT) rfl) (Bj (by kernel_rfl) (thn.n (CW.ret (finQ.r (v := bT) (Ax rfl rfl) ?_))))
               have htp : ∀ t ∈ h.tops, t = 0 ∨ t ∈ h.handles := by
                 rw [← H.tops]; intro t ht; simp only [List.mem_cons, List.not_mem_nil, or_false] at ht
                 rcases ht with rfl | rfl | rfl | rfl
                 · exact leadR_t hb205
                 · exact leadR_t hb214
                 · exact leadR_t hb223
                 · exact leadR_t hb232
               have hrt : RightH h := ⟨hbu2, ⟨by omega, by omega⟩, by omega, fun i3 x hx => hO i3 x (by have := lt_len hx; omega) hx, pw_of (n := i2) (by omega) hP, htp, by rw [← hord]; exact h248⟩
               exact ⟨Am ((heap_right h).2 hrt).symm, (H246.fix (i := 2) rfl)⟩
              ·skip
               refine zr 6 127 rfl (by kernel_rfl) H246 (fun wq hq => Ex.as (v := bF) rfl) (Bj (by kernel_rfl) (thn.n (CW.ret (finQ.r (v := bF) (Ax rfl rfl) ?_))))
               have hrf : ¬ RightH h := fun q => h248 (by rw [hord]; exact q.2.2.2.2.2.2)
               exact ⟨Am (heap_no hrf).symm, (H246.fix (i := 2) rfl)⟩
end Go.Proofs.YtfokljnhllflbaaGreat
namespace Go.Eng
open Go
theorem objF_no {s s1 s2 s3 s4 : SB} {h a nw nl : Int} (h1 : numF s = (h, s1)) (h2 : numF s1 = (a, s2)) (h3 : numF s2 = (nw, s3)) (h4 : numF s3 = (nl, s4)) (hn : Bs nw nl < 0) : objF s = (⟨h, ⟨a, Bs nw nl⟩, [], []⟩, (s4.1, true)) := by
  unfold objF
  simp only [h1, h2, h3, h4]
  rw [if_pos hn]
theorem objF_yes {s s1 s2 s3 s4 s5 s6 : SB} {h a nw nl : Int} {kw kl : Nat} {ws ls : List Int} (h1 : numF s = (h, s1)) (h2 : numF s1 = (a, s2)) (h3 : numF s2 = (nw, s3)) (h4 : numF s3 = (nl, s4)) (hn : ¬ Bs nw nl < 0) (e1 : nw = kw) (e2 : nl = kl)
    (h5 : manyF intF kw s4 = (ws, s5)) (h6 : manyF numF kl s5 = (ls, s6)) : objF s = (⟨h, ⟨a, Bs nw nl⟩, ws, ls⟩, s6) := by
  unfold objF
  simp only [h1, h2, h3, h4]
  rw [if_neg hn]
  subst e1; subst e2
  simp only [Int.toNat_natCast, h5, h6]
theorem numF_some {bs r : List UInt8} {b : Bool} {x : Int} (h : rdN bs = some (x, r)) : numF (bs, b) = (x, (r, b)) := by unfold numF; simp only [h]
theorem numF_none {bs : List UInt8} {b : Bool} (h : rdN bs = none) : numF (bs, b) = (0, (bs, true)) := by unfold numF; simp only [h]
theorem intF_some {bs r : List UInt8} {b : Bool} {x : Int} (h : rdI bs = some (x, r)) : intF (bs, b) = (x, (r, b)) := by unfold intF; simp only [h]
theorem intF_none {bs : List UInt8} {b : Bool} (h : rdI bs = none) : intF (bs, b) = (0, (bs, true)) := by unfold intF; simp only [h]
theorem rdObj_ord {bs rest : List UInt8} {o : Obj} (h : rdObj bs = some (o, rest)) : (0 ≤ o.blk.ord ∧ o.blk.ord ≤ 6) ∧ 0 ≤ o.blk.at_ ∧ o.blk.at_ ≤ 2147483647 := by
  have h2 := rdObj_some h
  refine ⟨?_, h2.2.2.1, h2.2.2.2⟩
  unfold rdObj at h
  split at h
  · cases h
  · split at h
    · cases h
    · split at h
      · cases h
      · rename_i nw r3 e3
        split at h
        · cases h
        · rename_i nl r4 e4
          split at h
          · cases h
          · rename_i hn
            split at h
            · cases h
            · split at h
              · cases h
              · simp only [Option.some.injEq, Prod.mk.injEq] at h
                obtain ⟨rfl, _⟩ := h
                have := needI_bd nw nl
                simp only
                omega
theorem many_ok {k : Nat} {s : SB} {os : List Obj} {r : List UInt8} (h : manyF objF k s = (os, (r, false))) : ∀ o ∈ os, (0 ≤ o.blk.ord ∧ o.blk.ord ≤ 6) ∧ 0 ≤ o.blk.at_ ∧ o.blk.at_ ≤ 2147483647 := by
  have g := (many_rds obj_rds k).get (s := s) (by rw [h])
  rw [h] at g
  exact rdL_all (p := fun o : Obj => (0 ≤ o.blk.ord ∧ o.blk.ord ≤ 6) ∧ 0 ≤ o.blk.at_ ∧ o.blk.at_ ≤ 2147483647) (fun _ _ _ h => rdObj_ord h) g.2
end Go.Eng
namespace Go.Proofs.YtfokljnhllflbaaGreat
open Go Go.Eng Go.RowKit
set_option maxHeartbeats 1000000 in
set_option maxRecDepth 20000 in
theorem rnum_ (w : World) (S : Nat → Prop) (p : Nat) (A : Option Addr) (n c : Nat) (bs : List UInt8) (bd : Bool) (hS : (AllA [Af p 213 [.slice A n c, .bool bd]]).ok S w) (hr : RBM w S A n c bs) : Ret Tryz.prog 187 [(.pointer (some ⟨p, 0, none⟩))] w (fun v w' => ∃ (x : Nat) (A' : Option Addr) (n' c' : Nat) (bs' : List UInt8) (b' : Bool), v = .int .i64 (x : Int) ∧ Sp ([Af p 213 [.slice A' n' c', .bool b']] ++ [Bd w S]) w' ∧ numF (bs, bd) = ((x : Int), (bs', b')) ∧ InD A n c bs A' n' c' bs' ∧ x ≤ 2147483647) := by
  have H0 := Sp.startL hS
  obtain ⟨hrd, hrn, hrc, hrm⟩ := hr
  have hr : RBM w S A n c bs := ⟨hrd, hrn, hrc, hrm⟩
  have H0 : Sp [Af p 213 [.slice A n c, .bool bd], Bd w S] w := H0
  refine Ret.body Tryz.func187 rfl rfl rfl ?_
  refine CW.seq (CW.region (za (J 0) rfl (RL.nil (thn.n (CW.seq (CW.region (zm (.pointer (some ⟨p, 0, none⟩)) rfl (zg rfl (Ct rfl) (zg rfl (fa213_0 (b := ⟨p, 0, none⟩) rfl rfl) (zl (.slice A n c) lo97 (H0.ob (i := 0) rfl) rfl (RL.call Tryz.call244 (rdNum_ _ _ bs A n c (hrd.rd) (by first | assumption | omega) (by omega)) rfl rfl rfl ?_)))))))))))
  rintro _ w8 (⟨x1, rfl, g9, hrn3, hge4, hle5⟩ | ⟨e2, rfl, g10, hrn6, hne7⟩)
  ·skip
   have H11 := H0.grow g9
   have z12 := g9.size
   refine zm (.tuple #[(J (x1 : Int)), (J 4), (J 0)]) rfl (zx (J (x1 : Int)) rfl (zx (J 4) rfl (zx (J 0) rfl (za (J (x1 : Int)) rfl (za (J 4) rfl (za (J 0) rfl (RL.nil (thn.n (CW.seq (CW.seq (CW.region (zm (J 0) rfl (zg rfl (Cm (r := false) rfl rfl (by decide)) (RL.nil (thn.n (Ag rfl (CW.skip (thn.n (CW.seq (CW.region ?_))))))))))))))))))))
   refine zm (.pointer (some ⟨p, 0, none⟩)) rfl (zm (.pointer (some ⟨p, 0, none⟩)) rfl (zg rfl (Ct rfl) (zg rfl (fa213_0 (b := ⟨p, 0, none⟩) rfl rfl) (zl (.slice A n c) lo97 (H11.ob (i := 0) rfl) rfl (zm (J 4) rfl (zg rfl (Ex.slLo (i := 4) Tryz.underlying97 Tryz.sizeOf5 rfl rfl (by omega) (by omega) rfl) (zg rfl (Ct rfl) (zg rfl (fa213_0 (b := ⟨p, 0, none⟩) rfl rfl) (RL.st (vs := [(.slice (dropA A c 4 1) (n - 4) (c - 4))]) (cs' := [(.slice (dropA A c 4 1) (n - 4) (c - 4)), (.bool bd)]) Tryz.sizeOf97 (H11.ob (i := 0) rfl) rfl rfl rfl rfl rfl rfl ?_)))))))))
   intro w13 hz14 g15 o16
   have H17 : Sp [Af p 213 [(.slice (dropA A c 4 1) (n - 4) (c - 4)), (.bool bd)], Bd w S] w13 := H11.setB (i := 0) rfl g15 o16 rfl
   have z18 := g15.size
   refine RL.nil (thn.n (CW.seq (CW.region (zm (J (x1 : Int)) rfl (za (J (x1 : Int)) rfl (RL.nil (thn.n (CW.ret (finQ.r (v := (J (x1 : Int))) (Ax rfl rfl) ?_)))))))))
   exact ⟨x1, _, _, _, _, bd, rfl, (H17.sel [0, 1] (by decide) rfl), numF_some hrn3, InD.drop (by omega), by omega⟩
  ·skip
   have H19 := H0.grow g10
   have z20 := g10.size
   refine zm (.tuple #[(J 0), (J 0), (J e2)]) rfl (zx (J 0) rfl (zx (J 0) rfl (zx (J e2) rfl (za (J 0) rfl (za (J 0) rfl (za (J e2) rfl (RL.nil (thn.n (CW.seq (CW.seq (CW.region (zm (J e2) rfl (zg rfl (Cm (r := true) rfl rfl (decide_eq_true (by omega))) (RL.nil (thn.n (Ab rfl (CW.seq (CW.region ?_))))))))))))))))))
   refine zm (.pointer (some ⟨p, 0, none⟩)) rfl (zg rfl (Ct rfl) (zg rfl (fa213_1 (b := ⟨p, 1, none⟩) rfl rfl) (RL.st (vs := [bT]) (cs' := [(.slice A n c), bT]) Tryz.sizeOf4 (H19.ob (i := 0) rfl) rfl rfl rfl rfl rfl rfl ?_)))
   intro w21 hz22 g23 o24
   have H25 : Sp [Af p 213 [(.slice A n c), bT], Bd w S] w21 := H19.setB (i := 0) rfl g23 o24 rfl
   have z26 := g23.size
   refine RL.nil (thn.n (CW.seq (CW.region (za (J 0) rfl (RL.nil (thn.n (CW.ret (thn.r (finQ.r (v := (J 0)) (Ax rfl rfl) ?_)))))))))
   exact ⟨0, _, _, _, _, true, rfl, (H25.sel [0, 1] (by decide) rfl), numF_none hrn6, InD.refl _ _ _ _, by omega⟩
set_option maxHeartbeats 1000000 in
set_option maxRecDepth 20000 in
theorem rint_ (w : World) (S : Nat → Prop) (p : Nat) (A : Option Addr) (n c : Nat) (bs : List UInt8) (bd : Bool) (hS : (AllA [Af p 213 [.slice A n c, .bool bd]]).ok S w) (hr : RBM w S A n c bs) : Ret Tryz.prog 188 [(.pointer (some ⟨p, 0, none⟩))] w (fun v w' => ∃ (x : Int) (A' : Option Addr) (n' c' : Nat) (bs' : List UInt8) (b' : Bool), v = .int .i64 x ∧ Sp ([Af p 213 [.slice A' n' c', .bool b']] ++ [Bd w S]) w' ∧ intF (bs, bd) = (x, (bs', b')) ∧ InD A n c bs A' n' c' bs') := by
  have H0 := Sp.startL hS
  obtain ⟨hrd, hrn, hrc, hrm⟩ := hr
  have hr : RBM w S A n c bs := ⟨hrd, hrn, hrc, hrm⟩
  have H0 : Sp [Af p 213 [.slice A n c, .bool bd], Bd w S] w := H0
  refine Ret.body Tryz.func188 rfl rfl rfl ?_
  refine CW.seq (CW.region (za (J 0) rfl (RL.nil (thn.n (CW.seq (CW.region (zm (.pointer (some ⟨p, 0, none⟩)) rfl (zg rfl (Ct rfl) (zg rfl (fa213_0 (b := ⟨p, 0, none⟩) rfl rfl) (zl (.slice A n c) lo97 (H0.ob (i := 0) rfl) rfl (RL.call Tryz.call247 (rdInt_ _ _ bs A n c (hrd.rd) (by first | assumption | omega) (by omega)) rfl rfl rfl ?_)))))))))))
  rintro _ w7 (⟨x1, rfl, g8, hrn3, hge4⟩ | ⟨e2, rfl, g9, hrn5, hne6⟩)
  ·skip
   have H10 := H0.grow g8
   have z11 := g8.size
   refine zm (.tuple #[(J x1), (J 8), (J 0)]) rfl (zx (J x1) rfl (zx (J 8) rfl (zx (J 0) rfl (za (J x1) rfl (za (J 8) rfl (za (J 0) rfl (RL.nil (thn.n (CW.seq (CW.seq (CW.region (zm (J 0) rfl (zg rfl (Cm (r := false) rfl rfl (by decide)) (RL.nil (thn.n (Ag rfl (CW.skip (thn.n (CW.seq (CW.region ?_))))))))))))))))))))
   refine zm (.pointer (some ⟨p, 0, none⟩)) rfl (zm (.pointer (some ⟨p, 0, none⟩)) rfl (zg rfl (Ct rfl) (zg rfl (fa213_0 (b := ⟨p, 0, none⟩) rfl rfl) (zl (.slice A n c) lo97 (H10.ob (i := 0) rfl) rfl (zm (J 8) rfl (zg rfl (Ex.slLo (i := 8) Tryz.underlying97 Tryz.sizeOf5 rfl rfl (by omega) (by omega) rfl) (zg rfl (Ct rfl) (zg rfl (fa213_0 (b := ⟨p, 0, none⟩) rfl rfl) (RL.st (vs := [(.slice (dropA A c 8 1) (n - 8) (c - 8))]) (cs' := [(.slice (dropA A c 8 1) (n - 8) (c - 8)), (.bool bd)]) Tryz.sizeOf97 (H10.ob (i := 0) rfl) rfl rfl rfl rfl rfl rfl ?_)))))))))
   intro w12 hz13 g14 o15
   have H16 : Sp [Af p 213 [(.slice (dropA A c 8 1) (n - 8) (c - 8)), (.bool bd)], Bd w S] w12 := H10.setB (i := 0) rfl g14 o15 rfl
   have z17 := g14.size
   refine RL.nil (thn.n (CW.seq (CW.region (zm (J x1) rfl (za (J x1) rfl (RL.nil (thn.n (CW.ret (finQ.r (v := (J x1)) (Ax rfl rfl) ?_)))))))))
   exact ⟨x1, _, _, _, _, bd, rfl, (H16.sel [0, 1] (by decide) rfl), intF_some hrn3, InD.drop (by omega)⟩
  ·skip
   have H18 := H0.grow g9
   have z19 := g9.size
   refine zm (.tuple #[(J 0), (J 0), (J e2)]) rfl (zx (J 0) rfl (zx (J 0) rfl (zx (J e2) rfl (za (J 0) rfl (za (J 0) rfl (za (J e2) rfl (RL.nil (thn.n (CW.seq (CW.seq (CW.region (zm (J e2) rfl (zg rfl (Cm (r := true) rfl rfl (decide_eq_true (by omega))) (RL.nil (thn.n (Ab rfl (CW.seq (CW.region ?_))))))))))))))))))
   refine zm (.pointer (some ⟨p, 0, none⟩)) rfl (zg rfl (Ct rfl) (zg rfl (fa213_1 (b := ⟨p, 1, none⟩) rfl rfl) (RL.st (vs := [bT]) (cs' := [(.slice A n c), bT]) Tryz.sizeOf4 (H18.ob (i := 0) rfl) rfl rfl rfl rfl rfl rfl ?_)))
   intro w20 hz21 g22 o23
   have H24 : Sp [Af p 213 [(.slice A n c), bT], Bd w S] w20 := H18.setB (i := 0) rfl g22 o23 rfl
   have z25 := g22.size
   refine RL.nil (thn.n (CW.seq (CW.region (za (J 0) rfl (RL.nil (thn.n (CW.ret (thn.r (finQ.r (v := (J 0)) (Ax rfl rfl) ?_)))))))))
   exact ⟨0, _, _, _, _, true, rfl, (H24.sel [0, 1] (by decide) rfl), intF_none hrn5, InD.refl _ _ _ _⟩
set_option maxHeartbeats 2000000 in
set_option maxRecDepth 20000 in
theorem robj_ (w : World) (S : Nat → Prop) (p : Nat) (A : Option Addr) (n c : Nat) (bs : List UInt8) (bd : Bool) (hS : (AllA [Af p 213 [.slice A n c, .bool bd]]).ok S w) (hr : RBM w S A n c bs) : Ret Tryz.prog 245 [(.pointer (some ⟨p, 0, none⟩))] w (fun v w' => ∃ (o : Eng.Obj) (Aw : Option Addr) (nw cw : Nat) (Al : Option Addr) (nl cl : Nat) (A' : Option Addr) (n' c' : Nat) (bs' : List UInt8) (b' : Bool), v = .agg #[.int .i64 o.handle, .int .i64 o.blk.at_, .int .i64 o.blk.ord, .slice Aw nw cw, .slice Al nl cl] ∧ Sp ([Af p 213 [.slice A' n' c', .bool b'], Ar 3 1 Aw nw cw (ics o.words), Ar 3 1 Al nl cl (ics o.links)] ++ [Bd w S]) w' ∧ objF (bs, bd) = (o, (bs', b')) ∧ InD A n c bs A' n' c' bs' ∧ nw ≤ 140737488351232 ∧ nl ≤ 140737488351232) := by
  have H0 := Sp.startL hS
  obtain ⟨hrd, hrn, hrc, hrm⟩ := hr
  have hr : RBM w S A n c bs := ⟨hrd, hrn, hrc, hrm⟩
  have H0 : Sp [Af p 213 [.slice A n c, .bool bd], Bd w S] w := H0
  refine Ret.body Tryz.func245 rfl rfl rfl ?_
  refine CW.seq (CW.region (RL.al (cs := [(J 0), (J 0), (J 0), (.slice none 0 0), (.slice none 0 0)]) Tryz.zeroValue136 rfl rfl rfl ?_))
  intro w1 b2 hb3 hz4 g5 o6
  have H7 := H0.newB g5 o6 (by omega)
  have z8 := g5.size
  refine RL.nil (thn.n (CW.seq (CW.region (zg rfl (Cc (cs := [(J 0), (J 0), (J 0), (.slice none 0 0), (.slice none 0 0)]) bd136 rfl) (RL.al (cs := [(J 0), (J 0), (J 0), (.slice none 0 0), (.slice none 0 0)]) Tryz.zeroValue136 rfl rfl rfl ?_)))))
  intro w9 b10 hb11 hz12 g13 o14
  have H15 := H7.newB g13 o14 (by omega)
  have z16 := g13.size
  refine RL.st (vs := [(J 0), (J 0), (J 0), (.slice none 0 0), (.slice none 0 0)]) (cs' := [(J 0), (J 0), (J 0), (.slice none 0 0), (.slice none 0 0)]) Tryz.sizeOf136 (H15.ob (i := 0) rfl) rfl rfl rfl rfl rfl rfl ?_
  intro w17 hz18 g19 o20
  have H21 : Sp [Af b10 136 [(J 0), (J 0), (J 0), (.slice none 0 0), (.slice none 0 0)], Af b2 136 [(J 0), (J 0), (J 0), (.slice none 0 0), (.slice none 0 0)], Af p 213 [.slice A n c, .bool bd], Bd w S] w17 := H15.setB (i := 0) rfl g19 o20 rfl
  have z22 := g19.size
  refine RL.nil (thn.n (CW.seq (CW.region (zm (.pointer (some ⟨p, 0, none⟩)) rfl ?_))))
  obtain ⟨S33, hS34, hO35, K36⟩ := Sp.takeL (l1 := [Af p 213 [.slice A n c, .bool bd]]) (l2 := [Af b10 136 [(J 0), (J 0), (J 0), (.slice none 0 0), (.slice none 0 0)], Af b2 136 [(J 0), (J 0), (J 0), (.slice none 0 0), (.slice none 0 0)], Bd w S]) (w := w17) (H21.sel [2, 0, 1, 3] (by decide) rfl)
  refine RL.call Tryz.call187 (rnum_ _ S33 p A n c bs bd hS34 ⟨(RdN.of_fixM hO35 (j := 2) rfl hrd), hr.2⟩) rfl rfl rfl ?_
  rintro _ w37 ⟨x23, A24, n25, c26, bs27, bq28, rfl, g38, hnum29, hind30, hxle31⟩
  have H39 : Sp [Af p 213 [.slice A24 n25 c26, .bool bq28], Af b10 136 [(J 0), (J 0), (J 0), (.slice none 0 0), (.slice none 0 0)], Af b2 136 [(J 0), (J 0), (J 0), (.slice none 0 0), (.slice none 0 0)], Bd w S] w37 := K36 _ _ g38
  have z40 := (H39.chg (i := 3) rfl).size
  have hq32 := hind30.m _ _ hr
  refine zg rfl (fa136_0 (b := ⟨b10, 0, none⟩) rfl rfl) (RL.st (vs := [(J (x23 : Int))]) (cs' := [(J (x23 : Int)), (J 0), (J 0), (.slice none 0 0), (.slice none 0 0)]) Tryz.sizeOf3 (H39.ob (i := 1) rfl) rfl rfl rfl rfl rfl rfl ?_)
  intro w41 hz42 g43 o44
  have H45 : Sp [Af p 213 [.slice A24 n25 c26, .bool bq28], Af b10 136 [(J (x23 : Int)), (J 0), (J 0), (.slice none 0 0), (.slice none 0 0)], Af b2 136 [(J 0), (J 0), (J 0), (.slice none 0 0), (.slice none 0 0)], Bd w S] w41 := H39.setB (i := 1) rfl g43 o44 rfl
  have z46 := g43.size
  refine RL.nil (thn.n (CW.seq (CW.region (zm (.pointer (some ⟨p, 0, none⟩)) rfl ?_))))
  obtain ⟨S57, hS58, hO59, K60⟩ := H45.takeN 1
  refine RL.call Tryz.call187 (rnum_ _ S57 p A24 n25 c26 bs27 bq28 hS58 ⟨(RdN.of_fixM hO59 (j := 2) rfl hq32.1), hq32.2⟩) rfl rfl rfl ?_
  rintro _ w61 ⟨x47, A48, n49, c50, bs51, bq52, rfl, g62, hnum53, hind54, hxle55⟩
  have H63 : Sp [Af p 213 [.slice A48 n49 c50, .bool bq52], Af b10 136 [(J (x23 : Int)), (J 0), (J 0), (.slice none 0 0), (.slice none 0 0)], Af b2 136 [(J 0), (J 0), (J 0), (.slice none 0 0), (.slice none 0 0)], Bd w S] w61 := K60 _ _ g62
  have z65 := (H63.chg (i := 3) rfl).size
  have hq56 := hind54.m _ _ hq32
  refine zg rfl (fa136_1 (b := ⟨b10, 1, none⟩) rfl rfl) (zg rfl (Cn (b := ⟨b10, 1, none⟩) rfl rfl) (RL.st (vs := [(J (x47 : Int))]) (cs' := [(J (x23 : Int)), (J (x47 : Int)), (J 0), (.slice none 0 0), (.slice none 0 0)]) Tryz.sizeOf3 (H63.ob (i := 1) rfl) rfl rfl rfl rfl rfl rfl ?_))
  intro w66 hz67 g68 o69
  have H70 : Sp [Af p 213 [.slice A48 n49 c50, .bool bq52], Af b10 136 [(J (x23 : Int)), (J (x47 : Int)), (J 0), (.slice none 0 0), (.slice none 0 0)], Af b2 136 [(J 0), (J 0), (J 0), (.slice none 0 0), (.slice none 0 0)], Bd w S] w66 := H63.setB (i := 1) rfl g68 o69 rfl
  have z71 := g68.size
  refine RL.nil (thn.n (CW.seq (CW.region (zm (.pointer (some ⟨p, 0, none⟩)) rfl ?_))))
  obtain ⟨S82, hS83, hO84, K85⟩ := H70.takeN 1
  refine RL.call Tryz.call187 (rnum_ _ S82 p A48 n49 c50 bs51 bq52 hS83 ⟨(RdN.of_fixM hO84 (j := 2) rfl hq56.1), hq56.2⟩) rfl rfl rfl ?_
  rintro _ w86 ⟨x72, A73, n74, c75, bs76, bq77, rfl, g87, hnum78, hind79, hxle80⟩
  have H88 : Sp [Af p 213 [.slice A73 n74 c75, .bool bq77], Af b10 136 [(J (x23 : Int)), (J (x47 : Int)), (J 0), (.slice none 0 0), (.slice none 0 0)], Af b2 136 [(J 0), (J 0), (J 0), (.slice none 0 0), (.slice none 0 0)], Bd w S] w86 := K85 _ _ g87
  have z89 := (H88.chg (i := 3) rfl).size
  have hq81 := hind79.m _ _ hq56
  refine za (J (x72 : Int)) rfl (RL.nil (thn.n (CW.seq (CW.region (zm (.pointer (some ⟨p, 0, none⟩)) rfl ?_)))))
  obtain ⟨S100, hS101, hO102, K103⟩ := H88.takeN 1
  refine RL.call Tryz.call187 (rnum_ _ S100 p A73 n74 c75 bs76 bq77 hS101 ⟨(RdN.of_fixM hO102 (j := 2) rfl hq81.1), hq81.2⟩) rfl rfl rfl ?_
  rintro _ w104 ⟨x90, A91, n92, c93, bs94, bq95, rfl, g105, hnum96, hind97, hxle98⟩
  have H106 : Sp [Af p 213 [.slice A91 n92 c93, .bool bq95], Af b10 136 [(J (x23 : Int)), (J (x47 : Int)), (J 0), (.slice none 0 0), (.slice none 0 0)], Af b2 136 [(J 0), (J 0), (J 0), (.slice none 0 0), (.slice none 0 0)], Bd w S] w104 := K103 _ _ g105
  have z107 := (H106.chg (i := 3) rfl).size
  have hq99 := hind97.m _ _ hq81
  refine za (J (x90 : Int)) rfl (RL.nil (thn.n (CW.seq (CW.region (zm (J (x72 : Int)) rfl (zm (J (x90 : Int)) rfl ?_))))))
  have hnb108 := needI_bd ((x72 : Int) : Int) ((x90 : Int) : Int)
  refine RL.call Tryz.call223 (needR_ _ ((x72 : Int) : Int) ((x90 : Int) : Int)) rfl rfl rfl ?_
  rintro _ w109 ⟨rfl, g110⟩
  have H111 := H106.grow g110
  have z112 := g110.size
  refine zg rfl (fa136_1 (b := ⟨b10, 1, none⟩) rfl rfl) (zg rfl (Cd (b := ⟨b10, 2, none⟩) rfl rfl) (RL.st (vs := [(J ((Bs ((x72 : Int) : Int) ((x90 : Int) : Int))))]) (cs' := [(J (x23 : Int)), (J (x47 : Int)), (J ((Bs ((x72 : Int) : Int) ((x90 : Int) : Int)))), (.slice none 0 0), (.slice none 0 0)]) Tryz.sizeOf3 (H111.ob (i := 1) rfl) rfl rfl rfl rfl rfl rfl ?_))
  intro w113 hz114 g115 o116
  have H117 : Sp [Af p 213 [.slice A91 n92 c93, .bool bq95], Af b10 136 [(J (x23 : Int)), (J (x47 : Int)), (J ((Bs ((x72 : Int) : Int) ((x90 : Int) : Int)))), (.slice none 0 0), (.slice none 0 0)], Af b2 136 [(J 0), (J 0), (J 0), (.slice none 0 0), (.slice none 0 0)], Bd w S] w113 := H111.setB (i := 1) rfl g115 o116 rfl
  have z118 := g115.size
  refine RL.nil (thn.n (CW.seq (CW.seq (CW.region ?_))))
  have hnrg := fun h => needI_rng (a := (x72 : Int)) (b := (x90 : Int)) h
  refine zg rfl (fa136_1 (b := ⟨b10, 1, none⟩) rfl rfl) (zg rfl (Cd (b := ⟨b10, 2, none⟩) rfl rfl) (zl (J ((Bs ((x72 : Int) : Int) ((x90 : Int) : Int)))) Cf (H117.ob (i := 1) rfl) rfl ?_))
  refine zc (((Bs ((x72 : Int) : Int) ((x90 : Int) : Int)) : Int) < (0 : Int)) rfl (fun r hr => Ex.lt rfl rfl hr) (fun h119 => ?_) (fun h119 => ?_)
  ·skip
   refine RL.nil (thn.n (Ab rfl (CW.seq (CW.region (zm (.pointer (some ⟨p, 0, none⟩)) rfl (zg rfl (Ct rfl) (zg rfl (fa213_1 (b := ⟨p, 1, none⟩) rfl rfl) (RL.st (vs := [bT]) (cs' := [(.slice A91 n92 c93), bT]) Tryz.sizeOf4 (H117.ob (i := 0) rfl) rfl rfl rfl rfl rfl rfl ?_))))))))
   intro w120 hz121 g122 o123
   have H124 : Sp [Af p 213 [(.slice A91 n92 c93), bT], Af b10 136 [(J (x23 : Int)), (J (x47 : Int)), (J ((Bs ((x72 : Int) : Int) ((x90 : Int) : Int)))), (.slice none 0 0), (.slice none 0 0)], Af b2 136 [(J 0), (J 0), (J 0), (.slice none 0 0), (.slice none 0 0)], Bd w S] w120 := H117.setB (i := 0) rfl g122 o123 rfl
   have z125 := g122.size
   refine RL.nil (thn.n (CW.seq (CW.region (zg rfl (Ai rfl (Ak (cs := [(J (x23 : Int)), (J (x47 : Int)), (J ((Bs ((x72 : Int) : Int) ((x90 : Int) : Int)))), (.slice none 0 0), (.slice none 0 0)]) wh136 (H124.ob (i := 1) rfl).cl)) (RL.st (vs := [(J (x23 : Int)), (J (x47 : Int)), (J ((Bs ((x72 : Int) : Int) ((x90 : Int) : Int)))), (.slice none 0 0), (.slice none 0 0)]) (cs' := [(J (x23 : Int)), (J (x47 : Int)), (J ((Bs ((x72 : Int) : Int) ((x90 : Int) : Int)))), (.slice none 0 0), (.slice none 0 0)]) Tryz.sizeOf136 (H124.ob (i := 2) rfl) rfl rfl rfl rfl rfl rfl ?_)))))
   intro w126 hz127 g128 o129
   have H130 : Sp [Af p 213 [(.slice A91 n92 c93), bT], Af b10 136 [(J (x23 : Int)), (J (x47 : Int)), (J ((Bs ((x72 : Int) : Int) ((x90 : Int) : Int)))), (.slice none 0 0), (.slice none 0 0)], Af b2 136 [(J (x23 : Int)), (J (x47 : Int)), (J ((Bs ((x72 : Int) : Int) ((x90 : Int) : Int)))), (.slice none 0 0), (.slice none 0 0)], Bd w S] w126 := H124.setB (i := 2) rfl g128 o129 rfl
   have z131 := g128.size
   refine RL.nil (thn.n (CW.ret (thn.r (finQ.r (v := (.agg ([(J (x23 : Int)), (J (x47 : Int)), (J ((Bs ((x72 : Int) : Int) ((x90 : Int) : Int)))), (.slice none 0 0), (.slice none 0 0)]).toArray)) (resv1 rfl (Rv.cell rfl (Ak (cs := [(J (x23 : Int)), (J (x47 : Int)), (J ((Bs ((x72 : Int) : Int) ((x90 : Int) : Int)))), (.slice none 0 0), (.slice none 0 0)]) wh136 (H130.ob (i := 2) rfl).cl))) ?_))))
   have H132 := H130.nil_ 3 1
   have H133 := H132.nil_ 3 1
   exact ⟨_, none, 0, 0, none, 0, 0, _, _, _, _, _, rfl, (H133.sel [2, 0, 1, 5] (by decide) rfl), objF_no hnum29 hnum53 hnum78 hnum96 h119, ((hind30.trans hind54).trans (hind79.trans hind97)), by omega, by omega⟩
  ·skip
   refine RL.nil (thn.n (Ag rfl (CW.skip (thn.n (CW.seq (CW.seq (CW.region ?_)))))))
   have hnr2 := hnrg (by omega)
   refine za (J 0) rfl (RL.nil (thn.n (CW.block ?_)))
   have H134 := H117.nil_ 3 1
   refine CW.loop (fun t => (Nat.ble 6 t && Nat.ble t 7) || (Nat.ble 35 t && Nat.ble t 47)) (fun nL ρ wl => ∃ (k0 nw0 cw0 n0 c0 : Nat) (Aw0 A0 : Option Addr) (l0 : List Int) (bs0 : List UInt8) (b0 : Bool), ρ 6 = (J (k0 : Int)) ∧ nL = x72 - k0 ∧ Sp [Ar 3 1 Aw0 nw0 cw0 (ics l0), Af p 213 [.slice A0 n0 c0, .bool b0], Af b10 136 [(J (x23 : Int)), (J (x47 : Int)), (J ((Bs ((x72 : Int) : Int) ((x90 : Int) : Int)))), (.slice Aw0 nw0 cw0), (.slice none 0 0)], Af b2 136 [(J 0), (J 0), (J 0), (.slice none 0 0), (.slice none 0 0)], Bd w S] wl ∧ k0 ≤ x72 ∧ manyF intF k0 (bs94, bq95) = (l0, (bs0, b0)) ∧ nw0 = k0 ∧ InD A91 n92 c93 bs94 A0 n0 c0 bs0) (x72) ?aa0 ?bb0
   case aa0 =>
    exact ⟨0, 0, 0, n92, c93, none, A91, [], bs94, bq95, rfl, rfl, H134, Nat.zero_le _, rfl, rfl, InD.refl _ _ _ _⟩
   case bb0 =>
    rintro n136 ρ0 w135 ho137 ⟨k0, nw0, cw0, n0, c0, Aw0, A0, l0, bs0, b0, hs0_6, hn0, H138, hk0, hmy0, hnw0, hin0⟩
    obtain ⟨j0, rfl⟩ := ho137.shape1 hs0_6
    clear ho137 hs0_6
    subst hn0
    have z139 := (H138.chg (i := 4) rfl).size
    have hqi0 := hin0.m _ _ hq99
    refine CW.seq (CW.seq (CW.region (zm (J (k0 : Int)) rfl (zm (J (x72 : Int)) rfl ?_))))
    refine zc (((k0 : Int) : Int) < ((x72 : Int) : Int)) rfl (fun r hr => Ex.lt rfl rfl hr) (fun h140 => ?_) (fun h140 => ?_)
    ·skip
     refine RL.nil (thn.n (Ab rfl (CW.skip (thn.n (CW.seq (CW.block (CW.seq (CW.region (zm (.pointer (some ⟨p, 0, none⟩)) rfl ?_)))))))))
     obtain ⟨S151, hS152, hO153, K154⟩ := Sp.takeL (l1 := [Af p 213 [.slice A0 n0 c0, .bool b0]]) (l2 := [Ar 3 1 Aw0 nw0 cw0 (ics l0), Af b10 136 [(J (x23 : Int)), (J (x47 : Int)), (J ((Bs ((x72 : Int) : Int) ((x90 : Int) : Int)))), (.slice Aw0 nw0 cw0), (.slice none 0 0)], Af b2 136 [(J 0), (J 0), (J 0), (.slice none 0 0), (.slice none 0 0)], Bd w S]) (w := w135) (H138.sel [1, 0, 2, 3, 4] (by decide) rfl)
     refine RL.call Tryz.call188 (rint_ _ S151 p A0 n0 c0 bs0 b0 hS152 ⟨(RdN.of_fixM hO153 (j := 3) rfl hqi0.1), hqi0.2⟩) rfl rfl rfl ?_
     rintro _ w155 ⟨x141, A142, n143, c144, bs145, bq146, rfl, g156, hnum147, hind148⟩
     have H157 : Sp [Af p 213 [.slice A142 n143 c144, .bool bq146], Ar 3 1 Aw0 nw0 cw0 (ics l0), Af b10 136 [(J (x23 : Int)), (J (x47 : Int)), (J ((Bs ((x72 : Int) : Int) ((x90 : Int) : Int)))), (.slice Aw0 nw0 cw0), (.slice none 0 0)], Af b2 136 [(J 0), (J 0), (J 0), (.slice none 0 0), (.slice none 0 0)], Bd w S] w155 := K154 _ _ g156
     have z158 := (H157.chg (i := 4) rfl).size
     have hq150 := hind148.m _ _ hqi0
     refine za (J x141) rfl (RL.nil (thn.n (CW.region (zg rfl (fa136_2 (b := ⟨b10, 3, none⟩) rfl rfl) (zl (.slice Aw0 nw0 cw0) lo134 (H157.ob (i := 2) rfl) rfl (zm (J x141) rfl (RL.bs (cs := [(J x141)]) Tryz.underlying134 Tryz.sizeOf3 ze134 rfl rfl rfl (by decide) rfl rfl rfl ?_)))))))
     intro w159 b160 hb161 hz162 g163 o164
     have H165 := H157.newB g163 o164 (by omega)
     have z166 := g163.size
     refine RL.apW (base := 0) (xss := (ics l0)) (yss := (ics ([x141]))) el134 (H165.wr (i := 2) rfl) rfl (Da (H165.ob (i := 0) rfl) rfl) rfl (by simp only [As, Av, At, Ap, An, Bb, List.length_append, List.length_cons, List.length_nil, List.length_take, List.length_drop, List.length_map, Cy, enc8, Bq, Bt, Ca]; try omega) (ics_one _) (by omega) (by omega) (by omega) rfl rfl ?_
     intro w167 A168 c169 g170 ow171 nx172
     have H173 : Sp [Af b160 3 [(J x141)], Af p 213 [.slice A142 n143 c144, .bool bq146], Ar 3 1 A168 (nw0 + 1) c169 (ics (l0 ++ [x141])), Af b10 136 [(J (x23 : Int)), (J (x47 : Int)), (J ((Bs ((x72 : Int) : Int) ((x90 : Int) : Int)))), (.slice Aw0 nw0 cw0), (.slice none 0 0)], Af b2 136 [(J 0), (J 0), (J 0), (.slice none 0 0), (.slice none 0 0)], Bd w S] w167 := H165.setR (i := 2) rfl g170 ((ics_app _ _).symm ▸ ow171) nx172 rfl
     have z174 := g170.size
     refine zg rfl (fa136_2 (b := ⟨b10, 3, none⟩) rfl rfl) (RL.st (vs := [(.slice A168 (nw0 + 1) c169)]) (cs' := [(J (x23 : Int)), (J (x47 : Int)), (J ((Bs ((x72 : Int) : Int) ((x90 : Int) : Int)))), (.slice A168 (nw0 + 1) c169), (.slice none 0 0)]) Tryz.sizeOf134 (H173.ob (i := 3) rfl) rfl rfl rfl rfl rfl rfl ?_)
     intro w175 hz176 g177 o178
     have H179 : Sp [Af b160 3 [(J x141)], Af p 213 [.slice A142 n143 c144, .bool bq146], Ar 3 1 A168 (nw0 + 1) c169 (ics (l0 ++ [x141])), Af b10 136 [(J (x23 : Int)), (J (x47 : Int)), (J ((Bs ((x72 : Int) : Int) ((x90 : Int) : Int)))), (.slice A168 (nw0 + 1) c169), (.slice none 0 0)], Af b2 136 [(J 0), (J 0), (J 0), (.slice none 0 0), (.slice none 0 0)], Bd w S] w175 := H173.setB (i := 3) rfl g177 o178 rfl
     have z180 := g177.size
     refine RL.nil (inB.n (thn.n (CW.region (zm (J (k0 : Int)) rfl (zg rfl (Ex.add (r := (k0 : Int) + 1) rfl rfl (Dd (by omega) (by omega))) (za (J ((k0 : Int) + 1)) rfl (RL.nil (thn.n ?_))))))))
     refine ⟨(by repeat (first | exact Out.mix _ _ | exact Out.refl _ _ | refine Bg ?_ rfl _ | refine Co ?_ (by intro t ht; simp only [Bool.or_eq_false_iff, Bool.and_eq_false_iff, ble_f, beq_f] at ht ⊢; omega))), _, ?_, k0 + 1, nw0 + 1, c169, n143, c144, A168, A142, l0 ++ [x141], bs145, bq146, rfl, rfl, (H179.sel [2, 1, 3, 4, 5] (by decide) rfl), by omega, manyF_go hmy0 hnum147, by omega, hin0.trans hind148⟩
     omega
    ·skip
     refine RL.nil (thn.n (Ag rfl (CW.exit (thn.x (thn.x (Bf (thn.n (CW.seq (CW.seq (CW.region (za (J 0) rfl (RL.nil (thn.n (CW.block ?_))))))))))))))
     have H181 := H138.nil_ 3 1
     refine CW.loop (fun t => (Nat.ble 8 t && Nat.ble t 9) || (Nat.ble 48 t && Nat.ble t 60)) (fun nL ρ wl => ∃ (k1 nw1 cw1 n1 c1 : Nat) (Aw1 A1 : Option Addr) (l1 : List Int) (bs1 : List UInt8) (b1 : Bool), ρ 8 = (J (k1 : Int)) ∧ nL = x90 - k1 ∧ Sp [Ar 3 1 Aw1 nw1 cw1 (ics l1), Ar 3 1 Aw0 nw0 cw0 (ics l0), Af p 213 [.slice A1 n1 c1, .bool b1], Af b10 136 [(J (x23 : Int)), (J (x47 : Int)), (J ((Bs ((x72 : Int) : Int) ((x90 : Int) : Int)))), (.slice Aw0 nw0 cw0), (.slice Aw1 nw1 cw1)], Af b2 136 [(J 0), (J 0), (J 0), (.slice none 0 0), (.slice none 0 0)], Bd w S] wl ∧ k1 ≤ x90 ∧ manyF numF k1 (bs0, b0) = (l1, (bs1, b1)) ∧ nw1 = k1 ∧ InD A0 n0 c0 bs0 A1 n1 c1 bs1) (x90) ?aa1 ?bb1
     case aa1 =>
      exact ⟨0, 0, 0, n0, c0, none, A0, [], bs0, b0, rfl, rfl, H181, Nat.zero_le _, rfl, rfl, InD.refl _ _ _ _⟩
     case bb1 =>
      rintro n183 ρ1 w182 ho184 ⟨k1, nw1, cw1, n1, c1, Aw1, A1, l1, bs1, b1, hs1_8, hn1, H185, hk1, hmy1, hnw1, hin1⟩
      obtain ⟨j1, rfl⟩ := ho184.shape1 hs1_8
      clear ho184 hs1_8
      subst hn1
      have z186 := (H185.chg (i := 5) rfl).size
      have hqi1 := hin1.m _ _ hqi0
      refine CW.seq (CW.seq (CW.region (zm (J (k1 : Int)) rfl (zm (J (x90 : Int)) rfl ?_))))
      refine zc (((k1 : Int) : Int) < ((x90 : Int) : Int)) rfl (fun r hr => Ex.lt rfl rfl hr) (fun h187 => ?_) (fun h187 => ?_)
      ·skip
       refine RL.nil (thn.n (Ab rfl (CW.skip (thn.n (CW.seq (CW.block (CW.seq (CW.region (zm (.pointer (some ⟨p, 0, none⟩)) rfl ?_)))))))))
       obtain ⟨S198, hS199, hO200, K201⟩ := Sp.takeL (l1 := [Af p 213 [.slice A1 n1 c1, .bool b1]]) (l2 := [Ar 3 1 Aw1 nw1 cw1 (ics l1), Ar 3 1 Aw0 nw0 cw0 (ics l0), Af b10 136 [(J (x23 : Int)), (J (x47 : Int)), (J ((Bs ((x72 : Int) : Int) ((x90 : Int) : Int)))), (.slice Aw0 nw0 cw0), (.slice Aw1 nw1 cw1)], Af b2 136 [(J 0), (J 0), (J 0), (.slice none 0 0), (.slice none 0 0)], Bd w S]) (w := w182) (H185.sel [2, 0, 1, 3, 4, 5] (by decide) rfl)
       refine RL.call Tryz.call187 (rnum_ _ S198 p A1 n1 c1 bs1 b1 hS199 ⟨(RdN.of_fixM hO200 (j := 4) rfl hqi1.1), hqi1.2⟩) rfl rfl rfl ?_
       rintro _ w202 ⟨x188, A189, n190, c191, bs192, bq193, rfl, g203, hnum194, hind195, hxle196⟩
       have H204 : Sp [Af p 213 [.slice A189 n190 c191, .bool bq193], Ar 3 1 Aw1 nw1 cw1 (ics l1), Ar 3 1 Aw0 nw0 cw0 (ics l0), Af b10 136 [(J (x23 : Int)), (J (x47 : Int)), (J ((Bs ((x72 : Int) : Int) ((x90 : Int) : Int)))), (.slice Aw0 nw0 cw0), (.slice Aw1 nw1 cw1)], Af b2 136 [(J 0), (J 0), (J 0), (.slice none 0 0), (.slice none 0 0)], Bd w S] w202 := K201 _ _ g203
       have z205 := (H204.chg (i := 5) rfl).size
       have hq197 := hind195.m _ _ hqi1
       refine za (J (x188 : Int)) rfl (RL.nil (thn.n (CW.region (zg rfl (fa136_3 (b := ⟨b10, 4, none⟩) rfl rfl) (zl (.slice Aw1 nw1 cw1) lo134 (H204.ob (i := 3) rfl) rfl (zm (J (x188 : Int)) rfl (RL.bs (cs := [(J (x188 : Int))]) Tryz.underlying134 Tryz.sizeOf3 ze134 rfl rfl rfl (by decide) rfl rfl rfl ?_)))))))
       intro w206 b207 hb208 hz209 g210 o211
       have H212 := H204.newB g210 o211 (by omega)
       have z213 := g210.size
       refine RL.apW (base := 0) (xss := (ics l1)) (yss := (ics ([(x188 : Int)]))) el134 (H212.wr (i := 2) rfl) rfl (Da (H212.ob (i := 0) rfl) rfl) rfl (by simp only [As, Av, At, Ap, An, Bb, List.length_append, List.length_cons, List.length_nil, List.length_take, List.length_drop, List.length_map, Cy, enc8, Bq, Bt, Ca]; try omega) (ics_one _) (by omega) (by omega) (by omega) rfl rfl ?_
       intro w214 A215 c216 g217 ow218 nx219
       have H220 : Sp [Af b207 3 [(J (x188 : Int))], Af p 213 [.slice A189 n190 c191, .bool bq193], Ar 3 1 A215 (nw1 + 1) c216 (ics (l1 ++ [(x188 : Int)])), Ar 3 1 Aw0 nw0 cw0 (ics l0), Af b10 136 [(J (x23 : Int)), (J (x47 : Int)), (J ((Bs ((x72 : Int) : Int) ((x90 : Int) : Int)))), (.slice Aw0 nw0 cw0), (.slice Aw1 nw1 cw1)], Af b2 136 [(J 0), (J 0), (J 0), (.slice none 0 0), (.slice none 0 0)], Bd w S] w214 := H212.setR (i := 2) rfl g217 ((ics_app _ _).symm ▸ ow218) nx219 rfl
       have z221 := g217.size
       refine zg rfl (fa136_3 (b := ⟨b10, 4, none⟩) rfl rfl) (RL.st (vs := [(.slice A215 (nw1 + 1) c216)]) (cs' := [(J (x23 : Int)), (J (x47 : Int)), (J ((Bs ((x72 : Int) : Int) ((x90 : Int) : Int)))), (.slice Aw0 nw0 cw0), (.slice A215 (nw1 + 1) c216)]) Tryz.sizeOf134 (H220.ob (i := 4) rfl) rfl rfl rfl rfl rfl rfl ?_)
       intro w222 hz223 g224 o225
       have H226 : Sp [Af b207 3 [(J (x188 : Int))], Af p 213 [.slice A189 n190 c191, .bool bq193], Ar 3 1 A215 (nw1 + 1) c216 (ics (l1 ++ [(x188 : Int)])), Ar 3 1 Aw0 nw0 cw0 (ics l0), Af b10 136 [(J (x23 : Int)), (J (x47 : Int)), (J ((Bs ((x72 : Int) : Int) ((x90 : Int) : Int)))), (.slice Aw0 nw0 cw0), (.slice A215 (nw1 + 1) c216)], Af b2 136 [(J 0), (J 0), (J 0), (.slice none 0 0), (.slice none 0 0)], Bd w S] w222 := H220.setB (i := 4) rfl g224 o225 rfl
       have z227 := g224.size
       refine RL.nil (inB.n (thn.n (CW.region (zm (J (k1 : Int)) rfl (zg rfl (Ex.add (r := (k1 : Int) + 1) rfl rfl (Dd (by omega) (by omega))) (za (J ((k1 : Int) + 1)) rfl (RL.nil (thn.n ?_))))))))
       refine ⟨(by repeat (first | exact Out.mix _ _ | exact Out.refl _ _ | refine Bg ?_ rfl _ | refine Co ?_ (by intro t ht; simp only [Bool.or_eq_false_iff, Bool.and_eq_false_iff, ble_f, beq_f] at ht ⊢; omega))), _, ?_, k1 + 1, nw1 + 1, c216, n190, c191, A215, A189, l1 ++ [(x188 : Int)], bs192, bq193, rfl, rfl, (H226.sel [2, 3, 1, 4, 5, 6] (by decide) rfl), by omega, manyF_go hmy1 hnum194, by omega, hin1.trans hind195⟩
       omega
      ·skip
       refine RL.nil (thn.n (Ag rfl (CW.exit (thn.x (thn.x (Bf (thn.n (CW.seq (CW.region (zg rfl (Ai rfl (Ak (cs := [(J (x23 : Int)), (J (x47 : Int)), (J ((Bs ((x72 : Int) : Int) ((x90 : Int) : Int)))), (.slice Aw0 nw0 cw0), (.slice Aw1 nw1 cw1)]) wh136 (H185.ob (i := 3) rfl).cl)) (RL.st (vs := [(J (x23 : Int)), (J (x47 : Int)), (J ((Bs ((x72 : Int) : Int) ((x90 : Int) : Int)))), (.slice Aw0 nw0 cw0), (.slice Aw1 nw1 cw1)]) (cs' := [(J (x23 : Int)), (J (x47 : Int)), (J ((Bs ((x72 : Int) : Int) ((x90 : Int) : Int)))), (.slice Aw0 nw0 cw0), (.slice Aw1 nw1 cw1)]) Tryz.sizeOf136 (H185.ob (i := 4) rfl) rfl rfl rfl rfl rfl rfl ?_)))))))))))
       intro w228 hz229 g230 o231
       have H232 : Sp [Ar 3 1 Aw1 nw1 cw1 (ics l1), Ar 3 1 Aw0 nw0 cw0 (ics l0), Af p 213 [.slice A1 n1 c1, .bool b1], Af b10 136 [(J (x23 : Int)), (J (x47 : Int)), (J ((Bs ((x72 : Int) : Int) ((x90 : Int) : Int)))), (.slice Aw0 nw0 cw0), (.slice Aw1 nw1 cw1)], Af b2 136 [(J (x23 : Int)), (J (x47 : Int)), (J ((Bs ((x72 : Int) : Int) ((x90 : Int) : Int)))), (.slice Aw0 nw0 cw0), (.slice Aw1 nw1 cw1)], Bd w S] w228 := H185.setB (i := 4) rfl g230 o231 rfl
       have z233 := g230.size
       refine RL.nil (thn.n (CW.ret (finQ.r (v := (.agg ([(J (x23 : Int)), (J (x47 : Int)), (J ((Bs ((x72 : Int) : Int) ((x90 : Int) : Int)))), (.slice Aw0 nw0 cw0), (.slice Aw1 nw1 cw1)]).toArray)) (resv1 rfl (Rv.cell rfl (Ak (cs := [(J (x23 : Int)), (J (x47 : Int)), (J ((Bs ((x72 : Int) : Int) ((x90 : Int) : Int)))), (.slice Aw0 nw0 cw0), (.slice Aw1 nw1 cw1)]) wh136 (H232.ob (i := 4) rfl).cl))) ?_)))
       exact ⟨_, _, _, _, _, _, _, _, _, _, _, _, rfl, (H232.sel [2, 1, 0, 5] (by decide) rfl), objF_yes hnum29 hnum53 hnum78 hnum96 h119 (by omega) (by omega) hmy0 hmy1, ((hind30.trans hind54).trans (hind79.trans hind97)).trans (hin0.trans hin1), by omega, by omega⟩
end Go.Proofs.YtfokljnhllflbaaGreat
namespace Go.Eng
open Go Go.RowKit
theorem clear_f {o : Int} {ros : List RObj} {b : Blk} {i : Nat} {x : RObj} (hx : ros[i]? = some x) (h : meetB b x.blk = true) : clearB o (ros.map RObj.blk) b = false := by
  unfold clearB
  rw [Bool.and_eq_false_iff]
  left
  rw [Bool.not_eq_false']
  exact List.any_eq_true.2 ⟨x.blk, List.mem_map.2 ⟨x, List.mem_of_getElem? hx, rfl⟩, h⟩
theorem clear_m {o : Int} {ros : List RObj} {b : Blk} {n : Nat} (hn : ros.length ≤ n) (h : ∀ (j : Nat) (x : RObj), j < n → ros[j]? = some x → meetB b x.blk = false) : clearB o (ros.map RObj.blk) b = mayR o b := by
  have : (ros.map RObj.blk).any (fun x => meetB b x) = false := List.any_eq_false.2 fun y hy => by
    obtain ⟨x, hx, rfl⟩ := List.mem_map.1 hy
    obtain ⟨j, hj⟩ := List.mem_iff_getElem?.1 hx
    rw [h j x (by have := lt_len hj; omega) hj]
    decide
  unfold clearB
  rw [this]
  rfl
theorem scan_step {o : Int} {xs : List Blk} {a : Int} (h8 : o ≤ 8) (h0 : 0 ≤ a) (h : a < Ae o) {j : Nat} (hj : topO o xs a o.toNat = j) : scanF o xs 512 a = (if clearB o xs ⟨a, (j : Int)⟩ then [⟨a, (j : Int)⟩] else []) ++ scanF o xs 512 (a + Ae (j : Int)) := by
  subst hj
  have hw := Az o
  have hb : ∀ j, topO o xs a j ≤ j := by
    intro j
    induction j with
    | zero => exact Nat.le_refl _
    | succ j ih => unfold topO; split <;> omega
  have hj := hb o.toNat
  by_cases ho : 0 ≤ o
  · have := Bm (o := (topO o xs a o.toNat : Int)) (by omega) (by omega)
    conv => lhs; unfold scanF
    rw [if_pos h]
    simp only
    rw [scanF_fuel h8 511 512 _ (by omega) (by omega)]
  · have : Ae o = 0 := by unfold Ae; rw [if_pos (by omega)]
    omega
theorem scan_end {o : Int} {xs : List Blk} {a : Int} (h : ¬ a < Ae o) : scanF o xs 512 a = [] := by unfold scanF; rw [if_neg h]
def HpW (rh : RHeap) (ros : List RObj) (h : Heap) : Atom where
  ok S w := (rh.order = h.order ∧ rh.next = h.next ∧ [rh.t0, rh.t1, rh.t2, rh.t3] = h.tops ∧ rh.objs.n ≤ 140737488351232 ∧ rh.free.n ≤ 140737488351232) ∧ (Ar 136 5 rh.objs.a rh.objs.n rh.objs.c (Cj ros)).ok S w ∧ (ObjsA ros h.objs).ok S w ∧ (Ar 133 2 rh.free.a rh.free.n rh.free.c (Ck h.free)).ok S w
  mono h1 h2 := ⟨h2.1, (Ar 136 5 rh.objs.a rh.objs.n rh.objs.c (Cj ros)).mono h1 h2.2.1, (ObjsA ros h.objs).mono h1 h2.2.2.1, (Ar 133 2 rh.free.a rh.free.n rh.free.c (Ck h.free)).mono h1 h2.2.2.2⟩
  st ch hT h1 := ⟨h1.1, (Ar 136 5 rh.objs.a rh.objs.n rh.objs.c (Cj ros)).st ch hT h1.2.1, (ObjsA ros h.objs).st ch hT h1.2.2.1, (Ar 133 2 rh.free.a rh.free.n rh.free.c (Ck h.free)).st ch hT h1.2.2.2⟩
theorem HpW.hr {rh : RHeap} {ros : List RObj} {h : Heap} {S : Nat → Prop} {w : World} (H : (HpW rh ros h).ok S w) : HeapR w w.heap.size rh ros h := by
  obtain ⟨⟨h1, h2, h3, h4, h5⟩, h6, h7, h8⟩ := H
  have l6 := h6.1.len
  have l8 := h8.1.len
  rw [An] at l6
  rw [Ap] at l8
  exact ⟨h1, h2, h3, ⟨h7.1, l6.symm, h4, h6.1.rd, fun i ro o hr ho => ObjA.r (h7.2 i ro o hr ho)⟩, l8.symm, h5, h8.1.rd⟩
theorem Sp.hpWR {w : World} {l : List Atom} {i : Nat} {rh : RHeap} {ros : List RObj} {hh : Heap} (h : Sp l w) (hi : l[i]? = some (HpW rh ros hh)) : HeapR w w.heap.size rh ros hh := by
  obtain ⟨S, h1⟩ := h.get hi
  exact HpW.hr h1
theorem Sp.hpMk {w : World} {l : List Atom} {rh : RHeap} {ros : List RObj} {hh : Heap} (h : Sp (Ar 136 5 rh.objs.a rh.objs.n rh.objs.c (Cj ros) :: ObjsA ros hh.objs :: Ar 133 2 rh.free.a rh.free.n rh.free.c (Ck hh.free) :: l) w)
    (hh1 : rh.order = hh.order ∧ rh.next = hh.next ∧ [rh.t0, rh.t1, rh.t2, rh.t3] = hh.tops ∧ rh.objs.n ≤ 140737488351232 ∧ rh.free.n ≤ 140737488351232) : Sp (HpW rh ros hh :: l) w :=
  h.merge3 fun S T U q1 q2 q3 => ⟨hh1, (Ar 136 5 rh.objs.a rh.objs.n rh.objs.c (Cj ros)).mono (fun b hb => .inl (.inl hb)) q1, (ObjsA ros hh.objs).mono (fun b hb => .inl (.inr hb)) q2, (Ar 133 2 rh.free.a rh.free.n rh.free.c (Ck hh.free)).mono (fun b hb => .inr hb) q3⟩
def StW (rs : RState) (ros : List RObj) (s : State) : Atom where
  ok S w := rs.rows.n ≤ 140737488351232 ∧ (HpW rs.heap ros s.heap).ok S w ∧ (Ar 123 4 rs.rows.a rs.rows.n rs.rows.c (rows s.rows)).ok S w
  mono h1 h2 := ⟨h2.1, (HpW rs.heap ros s.heap).mono h1 h2.2.1, (Ar 123 4 rs.rows.a rs.rows.n rs.rows.c (rows s.rows)).mono h1 h2.2.2⟩
  st ch hT h1 := ⟨h1.1, (HpW rs.heap ros s.heap).st ch hT h1.2.1, (Ar 123 4 rs.rows.a rs.rows.n rs.rows.c (rows s.rows)).st ch hT h1.2.2⟩
theorem Sp.stWR {w : World} {l : List Atom} {i : Nat} {rs : RState} {ros : List RObj} {s : State} (h : Sp l w) (hi : l[i]? = some (StW rs ros s)) : StateR w w.heap.size rs ros s := by
  obtain ⟨S, h1, h2, h3⟩ := h.get hi
  have l3 := h3.1.len
  rw [At] at l3
  exact ⟨HpW.hr h2, l3.symm, h1, h3.1.rd⟩
theorem Sp.stMk {w : World} {l : List Atom} {rs : RState} {ros : List RObj} {s : State} (h : Sp (HpW rs.heap ros s.heap :: Ar 123 4 rs.rows.a rs.rows.n rs.rows.c (rows s.rows) :: l) w) (hn : rs.rows.n ≤ 140737488351232) : Sp (StW rs ros s :: l) w :=
  h.merge fun S T q1 q2 => ⟨hn, (HpW rs.heap ros s.heap).mono (fun b hb => .inl hb) q1, (Ar 123 4 rs.rows.a rs.rows.n rs.rows.c (rows s.rows)).mono (fun b hb => .inr hb) q2⟩
end Go.Eng
namespace Go.Proofs.YtfokljnhllflbaaGreat
open Go Go.Eng Go.RowKit
set_option maxHeartbeats 1000000 in
set_option maxRecDepth 20000 in
theorem clear_ (w : World) (B : Nat) (o : Int) (b : Blk) (ros : List RObj) (A : Option Addr) (n c : Nat) (hr : Rd w B 5 A (Cj ros)) (hn : n = ros.length) (hB : B ≤ w.heap.size) (hm : n ≤ 1000000) (ho : 0 ≤ o ∧ o ≤ 8) (hb1 : 0 ≤ b.ord ∧ b.ord ≤ 8) (hb2 : 0 ≤ b.at_ ∧ b.at_ ≤ 2147483647) (hx : (∀ x ∈ ros, (0 ≤ x.blk.ord ∧ x.blk.ord ≤ 8) ∧ 0 ≤ x.blk.at_ ∧ x.blk.at_ ≤ 2147483647)) : Ret Tryz.prog 268 [(J o), (.agg (b.cells).toArray), (.slice A n c)] w (fun v w' => v = .bool (clearB o (ros.map RObj.blk) b) ∧ w.grownBy w' none) := by
  have H0 : Sp [Bd w Bl] w := Bn w
  refine Ret.body Tryz.func268 rfl rfl rfl ?_
  refine CW.seq (CW.region (RL.bx (cs := b.cells) rfl rfl rfl ?_))
  intro w1 b2 hb3 hz4 g5 o6
  have H7 := H0.newB g5 o6 (by omega)
  have z8 := g5.size
  refine za (bF) rfl (RL.nil (thn.n (CW.seq (CW.seq (CW.region (za (J 0) rfl (RL.nil (thn.n (CW.block ?_)))))))))
  refine CW.loop (fun t => (Nat.ble 6 t && Nat.ble t 20)) (fun nL ρ wl => ∃ (i : Nat), ρ 7 = (J (i : Int)) ∧ nL = n - i ∧ Sp [Af b2 133 b.cells, Bd w Bl] wl ∧ i ≤ n ∧ ∀ (j : Nat) (x : RObj), j < i → ros[j]? = some x → meetB b x.blk = false) (n) ?aa0 ?bb0
  case aa0 =>
   exact ⟨0, rfl, rfl, H7, Nat.zero_le _, fun j x hj => by omega⟩
  case bb0 =>
   rintro n10 ρ0 w9 ho11 ⟨i, hs0_7, hn0, H12, hi, hO⟩
   obtain ⟨j0, rfl⟩ := ho11.shape1 hs0_7
   clear ho11 hs0_7
   subst hn0
   have z13 := (H12.fix (i := 1) rfl).size
   refine CW.seq (CW.seq (CW.region (zm (J (i : Int)) rfl (zm (.slice A n c) rfl (zg rfl (Ex.len Tryz.underlying43 rfl) ?_)))))
   refine zc (((i : Int) : Int) < ((n : Nat) : Int)) rfl (fun r hr => Ex.lt rfl rfl hr) (fun h14 => ?_) (fun h14 => ?_)
   ·skip
    refine RL.nil (thn.n (Ab rfl (CW.skip (thn.n (CW.seq (CW.block (CW.seq (CW.held (fun wq => Sp [Af b2 133 b.cells, Bd w Bl] wq) Tryz.mixed rfl ?_))))))))
    intro w15 g16
    have H17 := H12.grow g16
    have z18 := g16.size
    refine zr 1 2 rfl (by kernel_rfl) H17 (fun wq hq => Au (v := (.slice A n c)) rfl) (zr 2 6 rfl (by kernel_rfl) H17 (fun wq hq => Au (v := (J (i : Int))) rfl) (zr 0 7 rfl (by kernel_rfl) H17 (fun wq hq => Ai rfl (Ak (cs := b.cells) wh133 (hq.ob (i := 0) rfl).cl)) ?_))
    obtain ⟨e19, he20⟩ : ∃ e, (ros)[i]? = some e := ⟨_, List.getElem?_eq_getElem (by omega)⟩
    obtain ⟨ad21, hA22⟩ := Rd.sm (hr.st0 (H17.fix (i := 1) rfl)) (Ch he20)
    have hl23 := Eng.lt_len (Ch he20)
    refine zr 3 15 rfl (by kernel_rfl) H17 (fun wq hq => Cq (b := (ad21.add (i * 5))) (i := i) Tryz.underlying43 Tryz.sizeOf136 (by rw [← hA22]; rfl) rfl (by omega) (by omega) rfl) (zr 4 31 rfl (by kernel_rfl) H17 (fun wq hq => fa136_1 (b := (((ad21.add (i * 5))).add 1)) rfl rfl) (zr 5 63 rfl (by kernel_rfl) H17 (fun wq hq => Ai rfl (Ak (cs := [(J e19.blk.at_), (J e19.blk.ord)]) wh133 ((Rd.cl (hr.st0 (hq.fix (i := 1) rfl)) hA22 (Ch he20)).sub 1 2))) (RA.one (i := 6) (by kernel_rfl) ?_)))
    refine ⟨_, 127, rfl, by kernel_rfl, ?_⟩
    have hxe := hx e19 (List.mem_of_getElem? he20)
    refine RL.call Tryz.call227 (meet_ _ b e19.blk (by first | assumption | (constructor <;> (first | omega | (show _ ≤ _; omega)))) (by first | assumption | (constructor <;> (first | omega | (show _ ≤ _; omega)))) (by first | assumption | (constructor <;> (first | omega | (show _ ≤ _; omega)))) (by first | assumption | (constructor <;> (first | omega | (show _ ≤ _; omega))))) rfl rfl rfl ?_
    rintro _ w24 ⟨rfl, g25⟩
    have H26 := H17.grow g25
    have z27 := g25.size
    rcases hb28 : (meetB b e19.blk) with _ | _
    ·skip
     refine RL.nil ?_
     refine ⟨H26, ?_⟩
     refine Bj (by kernel_rfl) (thn.n (Ag rfl (CW.skip (inB.n (thn.n (CW.region (zm (J (i : Int)) rfl (zg rfl (Ex.add (r := (i : Int) + 1) rfl rfl (Dd (by omega) (by omega))) (za (J ((i : Int) + 1)) rfl (RL.nil (thn.n ?_)))))))))))
     refine ⟨(by repeat (first | exact Out.mix _ _ | exact Out.refl _ _ | refine Bg ?_ rfl _)), _, ?_, i + 1, rfl, rfl, H26, by omega, upto_go (p := fun _ (x : RObj) => meetB b x.blk = false) hO he20 hb28⟩
     omega
    ·skip
     refine RL.nil ?_
     refine ⟨H26, ?_⟩
     refine Bj (by kernel_rfl) (thn.n (Ab rfl (CW.seq (CW.region (za (bF) rfl (RL.nil (thn.n (CW.ret (inB.r (thn.r (thn.r (inB.r (thn.r (finQ.r (v := bF) (Ax rfl rfl) ?_))))))))))))))
     exact ⟨Am (clear_f he20 hb28).symm, (H26.fix (i := 1) rfl)⟩
   ·skip
    refine RL.nil (thn.n (Ag rfl (CW.exit (thn.x (thn.x (Bf (thn.n (CW.seq (CW.region (zm (J o) rfl (zg rfl (Ai rfl (Ak (cs := b.cells) wh133 (H12.ob (i := 0) rfl).cl)) (RL.call Tryz.call224 (mayR_ _ o b (by omega) (by omega)) rfl rfl rfl ?_))))))))))))
    rintro _ w29 ⟨rfl, g30⟩
    have H31 := H12.grow g30
    have z32 := g30.size
    rcases hb33 : (mayR o b) with _ | _
    ·skip
     refine za (bF) rfl (RL.nil (thn.n (CW.ret (finQ.r (v := bF) (Ax rfl rfl) ?_))))
     exact ⟨Am (by rw [clear_m (n := i) (by omega) hO, hb33]), (H31.fix (i := 1) rfl)⟩
    ·have hmt := mayR_bd hb33 (by omega)
     refine za (bT) rfl (RL.nil (thn.n (CW.ret (finQ.r (v := bT) (Ax rfl rfl) ?_))))
     exact ⟨Am (by rw [clear_m (n := i) (by omega) hO, hb33]), (H31.fix (i := 1) rfl)⟩
set_option maxHeartbeats 2000000 in
set_option maxRecDepth 20000 in
theorem freeR_ (w : World) (B : Nat) (o : Int) (ros : List RObj) (A : Option Addr) (n c : Nat) (hr : Rd w B 5 A (Cj ros)) (hn : n = ros.length) (hB : B ≤ w.heap.size) (hm : n ≤ 1000000) (ho : 0 ≤ o ∧ o ≤ 8) (hx : (∀ x ∈ ros, (0 ≤ x.blk.ord ∧ x.blk.ord ≤ 8) ∧ 0 ≤ x.blk.at_ ∧ x.blk.at_ ≤ 2147483647)) : Ret Tryz.prog 246 [(J o), (.slice A n c)] w (fun v w' => ∃ (A' : Option Addr) (n' c' : Nat), v = .slice A' n' c' ∧ Sp ([Ar 133 2 A' n' c' (Ck (Dg (Ae o) (ros.map RObj.blk) [⟨0, o⟩]))] ++ [Bd w Bl]) w' ∧ n' ≤ 600) := by
  have hwo := Az o
  obtain ⟨ot, hot⟩ : ∃ ot : Nat, o = (ot : Int) := ⟨o.toNat, by omega⟩
  have H0 : Sp [Bd w Bl] w := Bn w
  refine Ret.body Tryz.func246 rfl rfl rfl ?_
  refine CW.seq (CW.region (za (.slice none 0 0) rfl (RL.nil (thn.n (CW.seq (CW.region (za (.slice none 0 0) rfl (RL.nil (thn.n (CW.seq (CW.region (za (J 0) rfl (RL.nil (thn.n (CW.seq (CW.block ?_))))))))))))))))
  have H1 := H0.nil_ 133 2
  refine CW.loop (fun t => (Nat.ble 5 t && Nat.ble t 41)) (fun nL ρ wl => ∃ (a : Int) (n1 c1 : Nat) (A1 : Option Addr) (bs1 : List Blk), ρ 6 = (J a) ∧ ρ 5 = (.slice A1 n1 c1) ∧ nL = (Ae o - a).toNat ∧ Sp [Ar 133 2 A1 n1 c1 (Ck bs1), Bd w Bl] wl ∧ 0 ≤ a ∧ a ≤ 512 ∧ bs1 ++ scanF o (ros.map RObj.blk) 512 a = scanF o (ros.map RObj.blk) 512 0 ∧ (n1 : Int) ≤ a) ((Ae o).toNat) ?aa0 ?bb0
  case aa0 =>
   exact ⟨0, 0, 0, none, [], rfl, rfl, (by simp), H1, Int.le_refl _, by omega, rfl, Int.le_refl _⟩
  case bb0 =>
   rintro n3 ρ0 w2 ho4 ⟨a, n1, c1, A1, bs1, hs0_6, hs0_5, hn0, H5, ha0, ha1, hsc, hn1⟩
   obtain ⟨j0, rfl⟩ := ho4.shape2 hs0_6 hs0_5
   clear ho4 hs0_6 hs0_5
   subst hn0
   have z6 := (H5.fix (i := 1) rfl).size
   refine CW.seq (CW.seq (CW.region (zm (J a) rfl (zm (J o) rfl ?_))))
   have hz7 := Az o
   have hz8 := Bm (o := o) (by omega) (by omega)
   refine RL.call Tryz.call229 (sz_ _ o (by omega) (by omega)) rfl rfl rfl ?_
   rintro _ w9 ⟨rfl, g10⟩
   have H11 := H5.grow g10
   have z12 := g10.size
   refine zc ((a : Int) < ((Ae o) : Int)) rfl (fun r hr => Ex.lt rfl rfl hr) (fun h13 => ?_) (fun h13 => ?_)
   ·skip
    refine RL.nil (thn.n (Ab rfl (CW.skip (thn.n (CW.block (CW.seq (CW.region ?_)))))))
    have hlt : a < Ae o := h13
    have hao : a ≤ 256 := by omega
    refine zm (J a) rfl (zm (J o) rfl (zg rfl (Cc (cs := [(J a), (J o)]) bd133 rfl) (RL.al (cs := [(J 0), (J 0)]) Tryz.zeroValue133 rfl rfl rfl ?_)))
    intro w14 b15 hb16 hz17 g18 o19
    have H20 := H11.newB g18 o19 (by omega)
    have z21 := g18.size
    refine RL.st (vs := [(J a), (J o)]) (cs' := [(J a), (J o)]) Tryz.sizeOf133 (H20.ob (i := 0) rfl) rfl rfl rfl rfl rfl rfl ?_
    intro w22 hz23 g24 o25
    have H26 : Sp [Af b15 133 [(J a), (J o)], Ar 133 2 A1 n1 c1 (Ck bs1), Bd w Bl] w22 := H20.setB (i := 0) rfl g24 o25 rfl
    have z27 := g24.size
    refine RL.nil (thn.n (CW.seq (CW.block ?_)))
    rw [hot] at H26
    refine CW.loop (fun t => (Nat.ble 15 t && Nat.ble t 28)) (fun nL ρ wl => ∃ (j : Nat), nL = 0 + j ∧ Sp [Af b15 133 [(J a), (J (j : Int))], Ar 133 2 A1 n1 c1 (Ck bs1), Bd w Bl] wl ∧ (j : Int) ≤ o ∧ ∀ i3 : Nat, j < i3 → i3 ≤ o.toNat → clearB o (ros.map RObj.blk) ⟨a, (i3 : Int)⟩ = false) (0 + ot) ?aa1 ?bb1
    case aa1 =>
     exact ⟨ot, rfl, H26, by omega, fun i3 h1 h2 => by omega⟩
    case bb1 =>
     rintro n29 ρ1 w28 ho30 ⟨j, hn1, H31, hj, hnc⟩
     obtain ⟨j1, rfl⟩ := ho30.shape0
     clear ho30
     subst hn1
     have z32 := (H31.fix (i := 2) rfl).size
     refine CW.seq (CW.seq (CW.region (zg rfl (Cd (b := ⟨b15, 1, none⟩) rfl rfl) (zl (J (j : Int)) Cf (H31.ob (i := 0) rfl) rfl ?_))))
     refine zc ((0 : Int) < ((j : Int) : Int)) rfl (fun r hr => Df rfl rfl hr) (fun h33 => ?_) (fun h33 => ?_)
     ·skip
      refine zm (bT) rfl (zm (J o) rfl (zg rfl (Ai rfl (Ak (cs := [(J a), (J (j : Int))]) wh133 (H31.ob (i := 0) rfl).cl)) (zm (.slice A n c) rfl (RL.call Tryz.call268 (clear_ _ w28.heap.size o (⟨a, (j : Int)⟩ : Blk) ros A n c ((hr.st0 (H31.fix (i := 2) rfl)).more (by omega)) (by first | assumption | omega) (Nat.le_refl _) (by omega) (by first | assumption | omega) (by first | assumption | omega | (dsimp only; omega)) (by first | assumption | omega | (dsimp only; omega)) hx) rfl rfl rfl ?_))))
      rintro _ w34 ⟨rfl, g35⟩
      have H36 := H31.grow g35
      have z37 := g35.size
      rcases hb38 : (clearB o (ros.map RObj.blk) (⟨a, (j : Int)⟩ : Blk)) with _ | _
      ·skip
       refine zg rfl (Ex.not (b := false) rfl) (zT (bT) rfl (RL.nil (thn.n (Ab rfl (CW.skip (thn.n (CW.block (CW.region (zg rfl (Cd (b := ⟨b15, 1, none⟩) rfl rfl) (zl (J (j : Int)) Cf (H36.ob (i := 0) rfl) rfl (zg rfl (Ci (r := ((j - 1 : Nat) : Int)) rfl rfl (by rw [Dd (by omega) (by omega)]; omega)) (zg rfl (Cd (b := ⟨b15, 1, none⟩) rfl rfl) (RL.st (vs := [(J ((j - 1 : Nat) : Int))]) (cs' := [(J a), (J ((j - 1 : Nat) : Int))]) Tryz.sizeOf3 (H36.ob (i := 0) rfl) rfl rfl rfl rfl rfl rfl ?_)))))))))))))
       intro w39 hz40 g41 o42
       have H43 : Sp [Af b15 133 [(J a), (J ((j - 1 : Nat) : Int))], Ar 133 2 A1 n1 c1 (Ck bs1), Bd w Bl] w39 := H36.setB (i := 0) rfl g41 o42 rfl
       have z44 := g41.size
       refine RL.nil (inB.n (thn.n ?_))
       refine ⟨(by repeat (first | exact Out.mix _ _ | exact Out.refl _ _ | refine Bg ?_ rfl _ | refine Co ?_ (by intro t ht; simp only [Bool.or_eq_false_iff, Bool.and_eq_false_iff, ble_f, beq_f] at ht ⊢; omega))), _, ?_, j - 1, rfl, H43, by omega, fun i3 h1 h2 => (Nat.lt_or_ge j i3).elim (fun h => hnc i3 h h2) (fun h => by rw [show i3 = j by omega]; exact hb38)⟩
       omega
      ·skip
       refine zg rfl (Ex.not (b := true) rfl) (zT (bF) rfl (RL.nil (thn.n (Ag rfl (CW.exit (thn.x (thn.x (Bf (thn.n (CW.seq (CW.seq ?_)))))))))))
       have htop : topO o (ros.map RObj.blk) a o.toNat = j := topO_is (by omega) hnc (by first | exact .inl (by omega) | exact .inr hb38)
       have hwj := Bm (o := (j : Int)) (by omega) (by omega)
       have hwj2 := Az (j : Int)
       refine CW.region (zm (J o) rfl (zg rfl (Ai rfl (Ak (cs := [(J a), (J (j : Int))]) wh133 (H36.ob (i := 0) rfl).cl)) (zm (.slice A n c) rfl (RL.call Tryz.call268 (clear_ _ w34.heap.size o (⟨a, (j : Int)⟩ : Blk) ros A n c ((hr.st0 (H36.fix (i := 2) rfl)).more (by omega)) (by first | assumption | omega) (Nat.le_refl _) (by omega) (by first | assumption | omega) (by first | assumption | omega | (dsimp only; omega)) (by first | assumption | omega | (dsimp only; omega)) hx) rfl rfl rfl ?_))))
       rintro _ w45 ⟨rfl, g46⟩
       have H47 := H36.grow g46
       have z48 := g46.size
       rcases hb49 : (clearB o (ros.map RObj.blk) (⟨a, (j : Int)⟩ : Blk)) with _ | _
       ·skip
        refine RL.nil (thn.n (Ag rfl (CW.skip (thn.n (CW.region (zm (J a) rfl (zg rfl (Cd (b := ⟨b15, 1, none⟩) rfl rfl) (zl (J (j : Int)) Cf (H47.ob (i := 0) rfl) rfl ?_))))))))
        have hz50 := Az ((j : Int) : Int)
        have hz51 := Bm (o := ((j : Int) : Int)) (by omega) (by omega)
        refine RL.call Tryz.call229 (sz_ _ ((j : Int) : Int) (by omega) (by omega)) rfl rfl rfl ?_
        rintro _ w52 ⟨rfl, g53⟩
        have H54 := H47.grow g53
        have z55 := g53.size
        refine zg rfl (Ex.add (r := a + (Ae ((j : Int) : Int))) rfl rfl (Dd (by omega) (by omega))) (za (J (a + (Ae ((j : Int) : Int)))) rfl (RL.nil (inB.n (thn.n ?_))))
        refine ⟨(by repeat (first | exact Out.mix _ _ | exact Out.refl _ _ | refine Bg ?_ rfl _ | refine Co ?_ (by intro t ht; simp only [Bool.or_eq_false_iff, Bool.and_eq_false_iff, ble_f, beq_f] at ht ⊢; omega))), _, ?_, a + Ae (j : Int), n1, c1, A1, bs1, rfl, rfl, rfl, (H54.sel [1, 2] (by decide) rfl), by omega, by omega, by rw [← hsc, scan_step (by omega) ha0 hlt htop, if_neg (by rw [hb49]; decide), List.nil_append], by omega⟩
        omega
       ·skip
        refine RL.nil (thn.n (Ab rfl (CW.region (zm (.slice A1 n1 c1) rfl (zg rfl (Ai rfl (Ak (cs := [(J a), (J (j : Int))]) wh133 (H47.ob (i := 0) rfl).cl)) (RL.bs (cs := [(J a), (J (j : Int))]) Tryz.underlying45 Tryz.sizeOf133 ze45 rfl rfl rfl (by decide) rfl rfl rfl ?_))))))
        intro w56 b57 hb58 hz59 g60 o61
        have H62 := H47.newB g60 o61 (by omega)
        have z63 := g60.size
        refine RL.apW (base := 0) (xss := (Ck bs1)) (yss := (Ck ([⟨a, (j : Int)⟩]))) el45 (H62.wr (i := 2) rfl) rfl (Da (H62.ob (i := 0) rfl) rfl) rfl (by simp only [As, Av, At, Ap, An, Bb, List.length_append, List.length_cons, List.length_nil, List.length_take, List.length_drop, List.length_map, Cy, enc8, Bq, Bt, Ca]; try omega) (blks_one _) (by omega) (by omega) (by omega) rfl rfl ?_
        intro w65 A66 c67 g68 ow69 nx70
        have H71 : Sp [Af b57 133 [(J a), (J (j : Int))], Af b15 133 [(J a), (J (j : Int))], Ar 133 2 A66 (n1 + 1) c67 (Ck (bs1 ++ [⟨a, (j : Int)⟩])), Bd w Bl] w65 := H62.setR (i := 2) rfl g68 ((blks_app _ _).symm ▸ ow69) nx70 rfl
        have z72 := g68.size
        refine za (.slice A66 (n1 + 1) c67) rfl (RL.nil (thn.n (CW.region (zm (J a) rfl (zg rfl (Cd (b := ⟨b15, 1, none⟩) rfl rfl) (zl (J (j : Int)) Cf (H71.ob (i := 1) rfl) rfl ?_))))))
        have hz73 := Az ((j : Int) : Int)
        have hz74 := Bm (o := ((j : Int) : Int)) (by omega) (by omega)
        refine RL.call Tryz.call229 (sz_ _ ((j : Int) : Int) (by omega) (by omega)) rfl rfl rfl ?_
        rintro _ w75 ⟨rfl, g76⟩
        have H77 := H71.grow g76
        have z78 := g76.size
        refine zg rfl (Ex.add (r := a + (Ae ((j : Int) : Int))) rfl rfl (Dd (by omega) (by omega))) (za (J (a + (Ae ((j : Int) : Int)))) rfl (RL.nil (inB.n (thn.n ?_))))
        refine ⟨(by repeat (first | exact Out.mix _ _ | exact Out.refl _ _ | refine Bg ?_ rfl _ | refine Co ?_ (by intro t ht; simp only [Bool.or_eq_false_iff, Bool.and_eq_false_iff, ble_f, beq_f] at ht ⊢; omega))), _, ?_, a + Ae (j : Int), n1 + 1, c67, A66, bs1 ++ [⟨a, (j : Int)⟩], rfl, rfl, rfl, (H77.sel [2, 3] (by decide) rfl), by omega, by omega, by rw [← hsc, scan_step (by omega) ha0 hlt htop, if_pos hb49, List.append_assoc], by omega⟩
        omega
     ·skip
      refine zm (bF) rfl (zo rfl (zo rfl (zo rfl (zo rfl (zo rfl (zF (bF) rfl (RL.nil (thn.n (Ag rfl (CW.exit (thn.x (thn.x (Bf (thn.n (CW.seq (CW.seq ?_))))))))))))))))
      have htop : topO o (ros.map RObj.blk) a o.toNat = j := topO_is (by omega) hnc (by first | exact .inl (by omega) | exact .inr h33)
      have hwj := Bm (o := (j : Int)) (by omega) (by omega)
      have hwj2 := Az (j : Int)
      refine CW.region (zm (J o) rfl (zg rfl (Ai rfl (Ak (cs := [(J a), (J (j : Int))]) wh133 (H31.ob (i := 0) rfl).cl)) (zm (.slice A n c) rfl (RL.call Tryz.call268 (clear_ _ w28.heap.size o (⟨a, (j : Int)⟩ : Blk) ros A n c ((hr.st0 (H31.fix (i := 2) rfl)).more (by omega)) (by first | assumption | omega) (Nat.le_refl _) (by omega) (by first | assumption | omega) (by first | assumption | omega | (dsimp only; omega)) (by first | assumption | omega | (dsimp only; omega)) hx) rfl rfl rfl ?_))))
      rintro _ w79 ⟨rfl, g80⟩
      have H81 := H31.grow g80
      have z82 := g80.size
      rcases hb83 : (clearB o (ros.map RObj.blk) (⟨a, (j : Int)⟩ : Blk)) with _ | _
      ·skip
       refine RL.nil (thn.n (Ag rfl (CW.skip (thn.n (CW.region (zm (J a) rfl (zg rfl (Cd (b := ⟨b15, 1, none⟩) rfl rfl) (zl (J (j : Int)) Cf (H81.ob (i := 0) rfl) rfl ?_))))))))
       have hz84 := Az ((j : Int) : Int)
       have hz85 := Bm (o := ((j : Int) : Int)) (by omega) (by omega)
       refine RL.call Tryz.call229 (sz_ _ ((j : Int) : Int) (by omega) (by omega)) rfl rfl rfl ?_
       rintro _ w86 ⟨rfl, g87⟩
       have H88 := H81.grow g87
       have z89 := g87.size
       refine zg rfl (Ex.add (r := a + (Ae ((j : Int) : Int))) rfl rfl (Dd (by omega) (by omega))) (za (J (a + (Ae ((j : Int) : Int)))) rfl (RL.nil (inB.n (thn.n ?_))))
       refine ⟨(by repeat (first | exact Out.mix _ _ | exact Out.refl _ _ | refine Bg ?_ rfl _ | refine Co ?_ (by intro t ht; simp only [Bool.or_eq_false_iff, Bool.and_eq_false_iff, ble_f, beq_f] at ht ⊢; omega))), _, ?_, a + Ae (j : Int), n1, c1, A1, bs1, rfl, rfl, rfl, (H88.sel [1, 2] (by decide) rfl), by omega, by omega, by rw [← hsc, scan_step (by omega) ha0 hlt htop, if_neg (by rw [hb83]; decide), List.nil_append], by omega⟩
       omega
      ·skip
       refine RL.nil (thn.n (Ab rfl (CW.region (zm (.slice A1 n1 c1) rfl (zg rfl (Ai rfl (Ak (cs := [(J a), (J (j : Int))]) wh133 (H81.ob (i := 0) rfl).cl)) (RL.bs (cs := [(J a), (J (j : Int))]) Tryz.underlying45 Tryz.sizeOf133 ze45 rfl rfl rfl (by decide) rfl rfl rfl ?_))))))
       intro w90 b91 hb92 hz93 g94 o95
       have H96 := H81.newB g94 o95 (by omega)
       have z97 := g94.size
       refine RL.apW (base := 0) (xss := (Ck bs1)) (yss := (Ck ([⟨a, (j : Int)⟩]))) el45 (H96.wr (i := 2) rfl) rfl (Da (H96.ob (i := 0) rfl) rfl) rfl (by simp only [As, Av, At, Ap, An, Bb, List.length_append, List.length_cons, List.length_nil, List.length_take, List.length_drop, List.length_map, Cy, enc8, Bq, Bt, Ca]; try omega) (blks_one _) (by omega) (by omega) (by omega) rfl rfl ?_
       intro w98 A99 c100 g101 ow102 nx103
       have H104 : Sp [Af b91 133 [(J a), (J (j : Int))], Af b15 133 [(J a), (J (j : Int))], Ar 133 2 A99 (n1 + 1) c100 (Ck (bs1 ++ [⟨a, (j : Int)⟩])), Bd w Bl] w98 := H96.setR (i := 2) rfl g101 ((blks_app _ _).symm ▸ ow102) nx103 rfl
       have z105 := g101.size
       refine za (.slice A99 (n1 + 1) c100) rfl (RL.nil (thn.n (CW.region (zm (J a) rfl (zg rfl (Cd (b := ⟨b15, 1, none⟩) rfl rfl) (zl (J (j : Int)) Cf (H104.ob (i := 1) rfl) rfl ?_))))))
       have hz106 := Az ((j : Int) : Int)
       have hz107 := Bm (o := ((j : Int) : Int)) (by omega) (by omega)
       refine RL.call Tryz.call229 (sz_ _ ((j : Int) : Int) (by omega) (by omega)) rfl rfl rfl ?_
       rintro _ w108 ⟨rfl, g109⟩
       have H110 := H104.grow g109
       have z111 := g109.size
       refine zg rfl (Ex.add (r := a + (Ae ((j : Int) : Int))) rfl rfl (Dd (by omega) (by omega))) (za (J (a + (Ae ((j : Int) : Int)))) rfl (RL.nil (inB.n (thn.n ?_))))
       refine ⟨(by repeat (first | exact Out.mix _ _ | exact Out.refl _ _ | refine Bg ?_ rfl _ | refine Co ?_ (by intro t ht; simp only [Bool.or_eq_false_iff, Bool.and_eq_false_iff, ble_f, beq_f] at ht ⊢; omega))), _, ?_, a + Ae (j : Int), n1 + 1, c100, A99, bs1 ++ [⟨a, (j : Int)⟩], rfl, rfl, rfl, (H110.sel [2, 3] (by decide) rfl), by omega, by omega, by rw [← hsc, scan_step (by omega) ha0 hlt htop, if_pos hb83, List.append_assoc], by omega⟩
       omega
   ·skip
    refine RL.nil (thn.n (Ag rfl (CW.exit (thn.x (thn.x (Bf (thn.n (CW.seq (CW.region (zm (.slice A1 n1 c1) rfl (za (.slice A1 n1 c1) rfl (RL.nil (thn.n (CW.ret (finQ.r (v := (.slice A1 n1 c1)) (Ax rfl rfl) ?_)))))))))))))))
    have hfin : bs1 = Dg (Ae o) (ros.map RObj.blk) [⟨0, o⟩] := by rw [← scan_is ho.1 ho.2 512 (by omega), ← hsc, scan_end (by omega), List.append_nil]
    rw [hfin] at H11
    exact ⟨_, _, _, rfl, (H11.sel [0, 1] (by decide) rfl), by have := Az o; omega⟩
end Go.Proofs.YtfokljnhllflbaaGreat
namespace Go.Eng
open Go Go.RowKit
theorem robjs_app (l m : List RObj) : Cj (l ++ m) = Cj l ++ Cj m := by simp [Cj]
theorem map_blk {ros : List RObj} {os : List Obj} {w : World} {B : Nat} (h1 : ros.length = os.length ∧ ∀ (i : Nat) (ro : RObj) (o : Obj), ros[i]? = some ro → os[i]? = some o → ObjR w B ro o) : ros.map RObj.blk = os.map Obj.blk := by
  apply List.ext_getElem?
  intro i
  simp only [List.getElem?_map]
  cases e1 : ros[i]? with
  | none =>
    rw [List.getElem?_eq_none_iff] at e1
    rw [List.getElem?_eq_none (by rw [← h1.1]; exact e1)]; rfl
  | some ro =>
    have hi : i < os.length := by rw [← h1.1]; exact lt_len e1
    have e2 := List.getElem?_eq_getElem hi
    rw [e2]
    simp only [Option.map_some]
    rw [(h1.2 i ro _ e1 e2).b]
theorem obs_bd {ros : List RObj} {os : List Obj} (h : ros.map RObj.blk = os.map Obj.blk) (ho : ∀ o ∈ os, (0 ≤ o.blk.ord ∧ o.blk.ord ≤ 6) ∧ 0 ≤ o.blk.at_ ∧ o.blk.at_ ≤ 2147483647) : ∀ x ∈ ros, (0 ≤ x.blk.ord ∧ x.blk.ord ≤ 8) ∧ 0 ≤ x.blk.at_ ∧ x.blk.at_ ≤ 2147483647 := fun x hx => by
  have : x.blk ∈ ros.map RObj.blk := List.mem_map.2 ⟨x, hx, rfl⟩
  rw [h] at this
  obtain ⟨o, h1, e⟩ := List.mem_map.1 this
  have := ho o h1
  rw [e] at this
  omega
theorem rdT_ok {bs : List UInt8} {x : Nat} (h : rdN bs = some ((x : Int), bs.drop 4)) (h1 : x ≤ 65536) (h2 : x + 4 ≤ bs.length) : rdT bs = some ((bs.drop 4).take x, bs.drop (4 + x)) := by
  unfold rdT
  simp only [h]
  rw [if_neg (by omega), if_neg (by rw [List.length_drop]; omega), Int.toNat_natCast, List.drop_drop]
theorem rdT_no1 {bs : List UInt8} (h : rdN bs = none) : rdT bs = none := by unfold rdT; simp only [h]
theorem rdT_no2 {bs r : List UInt8} {x : Int} (h : rdN bs = some (x, r)) (h1 : 65536 < x) : rdT bs = none := by unfold rdT; simp only [h]; rw [if_pos h1]
theorem rdT_no3 {bs : List UInt8} {x : Int} (h : rdN bs = some (x, bs.drop 4)) (h1 : (bs.length : Int) - 4 < x) (h2 : 4 ≤ bs.length) : rdT bs = none := by
  unfold rdT
  simp only [h]
  split
  · rfl
  · rw [if_pos (by rw [List.length_drop]; omega)]
theorem rowF_mk {s s1 s2 s3 s4 : SB} {c q d v : Int} (h1 : numF s = (c, s1)) (h2 : numF s1 = (q, s2)) (h3 : numF s2 = (d, s3)) (h4 : intF s3 = (v, s4)) : rowF s = (⟨c, q, d, v⟩, s4) := by
  unfold rowF
  simp only [h1, h2, h3, h4]
end Go.Eng
