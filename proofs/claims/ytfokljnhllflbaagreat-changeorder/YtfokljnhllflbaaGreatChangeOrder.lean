/- Two votes of unlike nodes come to the same in either order among votes that rise, and one that comes again takes its own place: for every input, with no condition. -/
import Derived.Deep.Quiet
import Derived.Ground.NamesProg
import Derived.Ground.SlgcProg
import Derived.Ground.SlsfProg
import Derived.JoinedOf
import Derived.Laws.BytesString
import Derived.Laws.MakeOwn
import Derived.Laws.Strings
import Derived.Lib.AppendZeros
import Derived.Lib.ConvBytes
import Derived.Lib.Overlaps
import Derived.Maps.AppendAt
import Derived.OrdersHeld
import Derived.ProofKit
import Derived.Recover
import Derived.ScopeJumps
import Derived.Shelf.SlSortCmp.NoneTotal
import Derived.Shelf.SlSortCmp.WholeK
import Derived.Shelf.SlicesG.Cmp
import Derived.Shelf.Small.Bits
import Derived.Sort.OwnSortedInts
import Derived.StillTail
import Derived.Test.YtfokljnhllflbaaGreatProg
import Derived.Test.YtfokljnhllflbaaGreatRows
import Derived.WalkKit
import Derived.WalkLawsBesides
import Derived.WalkSpells
import Derived.Test.YtfokljnhllflbaaGreatPChangeOrder4
set_option linter.unusedSimpArgs false
set_option linter.unusedVariables false
namespace Go.Proofs.YtfokljnhllflbaaGreat
open Go Go.Eng Go.RowKit
set_option maxHeartbeats 2000000 in
set_option maxRecDepth 20000 in
theorem vCheck_ (w : World) (B : Nat) (x : Vote) (Ax : Option Addr) (nx cx : Nat) (hrx : Rd w B 11 Ax (ents x.ents)) (hB : B ≤ w.heap.size) (hnx : nx = x.ents.length) (hcx : nx ≤ cx) (hmx : nx ≤ 1000000) : Ret Tryz.prog 49 [(.agg ([(.int .i64 x.node), (.int .i64 x.normal), (.int .i64 x.base), (.int .i64 x.number), (.int .i64 x.commit), (.slice Ax nx cx)]).toArray)] w (fun v w' => v = .int .i64 (if vChkB x then 0 else 150) ∧ w.grownBy w' none) := by
  have H0 : Sp [Fix w NoB] w := Sp.start w
  refine Ret.body Tryz.func49 rfl rfl rfl ?_
  refine CW.seq (CW.region ?_)
  refine RL.bx (cs := [(.int .i64 x.node), (.int .i64 x.normal), (.int .i64 x.base), (.int .i64 x.number), (.int .i64 x.commit), (.slice Ax nx cx)]) rfl rfl rfl ?_
  intro w1 b2 hb3 hz4 g5 o6
  have H7 := H0.newB g5 o6 (by omega)
  have z8 := g5.size
  refine RL.go rfl rfl rfl (Ex.as (v := (.int .i64 0)) rfl) ?_
  refine RL.nil (thn.n (CW.seq (CW.region ?_)))
  refine RL.go rfl rfl rfl (fa67_0 (b := ⟨b2, 0, none⟩) rfl rfl) ?_
  refine RL.go rfl rfl rfl (Ex.ldv rfl (loadC1 lo3 (Ob.cell (v := (.int .i64 x.node)) (H7.ob (i := 0) rfl) rfl))) ?_
  refine RL.call Tryz.call87 (within_change _ x.node 1 7) rfl rfl rfl ?_
  rintro _ _ ⟨rfl, rfl⟩
  rcases hb12 : (withinB x.node 1 7) with _ | _
  ·skip
   refine RL.go rfl rfl rfl (Ex.mv (v := (.bool false)) rfl) ?_
   refine RL.out rfl rfl rfl ?_
   refine RL.out rfl rfl rfl ?_
   refine RL.out rfl rfl rfl ?_
   refine RL.go rfl rfl rfl (Ex.pkF (v := (.bool false)) rfl rfl) ?_
   refine RL.go rfl rfl rfl (Ex.mv (v := (.bool false)) rfl) ?_
   refine RL.out rfl rfl rfl ?_
   refine RL.out rfl rfl rfl ?_
   refine RL.out rfl rfl rfl ?_
   refine RL.go rfl rfl rfl (Ex.pkF (v := (.bool false)) rfl rfl) ?_
   refine RL.go rfl rfl rfl (Ex.mv (v := (.bool false)) rfl) ?_
   refine RL.out rfl rfl rfl ?_
   refine RL.out rfl rfl rfl ?_
   refine RL.out rfl rfl rfl ?_
   refine RL.out rfl rfl rfl ?_
   refine RL.go rfl rfl rfl (Ex.pkF (v := (.bool false)) rfl rfl) ?_
   refine RL.go rfl rfl rfl (Ex.mv (v := (.bool false)) rfl) ?_
   refine RL.out rfl rfl rfl ?_
   refine RL.out rfl rfl rfl ?_
   refine RL.out rfl rfl rfl ?_
   refine RL.out rfl rfl rfl ?_
   refine RL.out rfl rfl rfl ?_
   refine RL.go rfl rfl rfl (Ex.pkF (v := (.bool false)) rfl rfl) ?_
   refine RL.go rfl rfl rfl (Ex.as (v := (.bool false)) rfl) ?_
   refine RL.nil (thn.n (CW.seq (CW.region ?_)))
   refine RL.go rfl rfl rfl (Ex.as (v := (.int .i64 0)) rfl) ?_
   refine RL.nil (thn.n (CW.seq (CW.seq (CW.region ?_))))
   refine RL.go rfl rfl rfl (fa67_5 (b := ⟨b2, 5, none⟩) rfl rfl) ?_
   refine RL.go rfl rfl rfl (Ex.ldv rfl (loadC1 lo22 (Ob.cell (v := (.slice Ax nx cx)) (H7.ob (i := 0) rfl) rfl))) ?_
   refine RL.go rfl rfl rfl (Ex.len Tryz.underlying22 rfl) ?_
   refine RL.go rfl rfl rfl (Ex.mv (v := (.int .i64 0)) rfl) ?_
   refine RL.nil (thn.n (CW.block ?_))
   have hhd : vHead x = false := by unfold vHead; rw [← hnx]; first | (simp only [hb12]; rfl) | (simp [hb12]; done) | (simp [hb12]; omega) | (simp [hb12]; intro _; omega)
   refine CW.loop (fun t => (Nat.ble 3 t && Nat.ble t 4) || Nat.beq t 6 || (Nat.ble 36 t && Nat.ble t 55)) (fun nL ρ wl => ∃ (i : Nat) (b : Bool) (vv : Int), ρ 36 = (.int .i64 (i : Int)) ∧ ρ 3 = (.bool b) ∧ ρ 4 = (.int .i64 vv) ∧ nL = nx - i ∧ Sp [BlkA b2 67 [(.int .i64 x.node), (.int .i64 x.normal), (.int .i64 x.base), (.int .i64 x.number), (.int .i64 x.commit), (.slice Ax nx cx)], Fix w NoB] wl ∧ i ≤ nx ∧ (x.ents.take i).foldl (chkStep x.normal) (vHead x, 0) = (b, vv)) (nx) ?aa0 ?bb0
   case aa0 =>
    exact ⟨0, false, 0, rfl, rfl, rfl, rfl, H7, Nat.zero_le _, by rw [hhd]; rfl⟩
   case bb0 =>
    rintro n14 ρ0 w13 ho15 ⟨i, b, vv, hs0_36, hs0_3, hs0_4, hn0, H16, hi, hfo⟩
    obtain ⟨j0, rfl⟩ := ho15.shape3 hs0_36 hs0_3 hs0_4
    clear ho15 hs0_36 hs0_3 hs0_4
    subst hn0
    have z17 := (H16.fix (i := 1) rfl).size
    refine CW.seq (CW.region ?_)
    refine RL.br (p := ((i : Int) : Int) < ((nx : Nat) : Int)) rfl rfl rfl (fun r hr => Ex.lt rfl rfl hr) (fun h18 => ?_) (fun h18 => ?_)
    ·skip
     refine RL.nil (thn.n (CW.seq (CW.condT rfl (CW.skip (thn.n (CW.seq (CW.block (CW.seq (CW.region ?_)))))))))
     obtain ⟨e19, he20⟩ : ∃ e, (x.ents)[i]? = some e := ⟨_, List.getElem?_eq_getElem (by omega)⟩
     obtain ⟨ad21, hA22⟩ := Rd.sm (hrx.st0 (H16.fix (i := 1) rfl)) (ents_get he20)
     have hl23 := Eng.lt_len (ents_get he20)
     refine RL.go rfl rfl rfl (Ex.ix (b := (ad21.add (i * 11))) (i := i) Tryz.underlying22 Tryz.sizeOf31 (by rw [← hA22]; rfl) rfl (by omega) (by omega) rfl) ?_
     refine RL.go rfl rfl rfl (Ex.ldv rfl (loadCN (cs := e19.cells) wh31 (Rd.cl (hrx.st0 (H16.fix (i := 1) rfl)) hA22 (ents_get he20)))) ?_
     refine RL.al (cs := [(.int .i64 0), (.int .i64 0), (.int .i64 0), (.int .i64 0), (.int .i64 0), (.int .i64 0), (.int .i64 0), (.int .i64 0), (.int .i64 0), (.int .i64 0), (.int .i64 0)]) Tryz.zeroValue31 rfl rfl rfl ?_
     intro w24 b25 hb26 hz27 g28 o29
     have H30 := H16.newB g28 o29 (by omega)
     have z31 := g28.size
     refine RL.st (vs := e19.cells) (cs' := e19.cells) Tryz.sizeOf31 (H30.ob (i := 0) rfl) rfl rfl rfl rfl rfl rfl ?_
     intro w32 hz33 g34 o35
     have H36 : Sp [BlkA b25 31 e19.cells, BlkA b2 67 [(.int .i64 x.node), (.int .i64 x.normal), (.int .i64 x.base), (.int .i64 x.number), (.int .i64 x.commit), (.slice Ax nx cx)], Fix w NoB] w32 := H30.setB (i := 0) rfl g34 o35 rfl
     have z37 := g34.size
     refine RL.nil (thn.n (CW.seq (CW.region ?_)))
     rcases b with _ | _
     ·skip
      refine RL.go rfl rfl rfl (Ex.mv (v := .bool false) rfl) ?_
      refine RL.go rfl rfl rfl (Ex.mv (v := (.bool false)) rfl) ?_
      refine RL.out rfl rfl rfl ?_
      refine RL.out rfl rfl rfl ?_
      refine RL.go rfl rfl rfl (Ex.pkF (v := (.bool false)) rfl rfl) ?_
      refine RL.go rfl rfl rfl (Ex.mv (v := (.bool false)) rfl) ?_
      refine RL.out rfl rfl rfl ?_
      refine RL.out rfl rfl rfl ?_
      refine RL.out rfl rfl rfl ?_
      refine RL.out rfl rfl rfl ?_
      refine RL.out rfl rfl rfl ?_
      refine RL.out rfl rfl rfl ?_
      refine RL.go rfl rfl rfl (Ex.pkF (v := (.bool false)) rfl rfl) ?_
      refine RL.go rfl rfl rfl (Ex.as (v := (.bool false)) rfl) ?_
      refine RL.nil (thn.n (CW.region ?_))
      refine RL.go rfl rfl rfl (fa31_1 (b := ⟨b25, 1, none⟩) rfl rfl) ?_
      refine RL.go rfl rfl rfl (Ex.ldv rfl (loadC1 lo3 (Ob.cell (v := (.int .i64 e19.view)) (H36.ob (i := 0) rfl) rfl))) ?_
      refine RL.go rfl rfl rfl (Ex.as (v := (.int .i64 e19.view)) rfl) ?_
      refine RL.nil (inB.n (thn.n (CW.region ?_)))
      refine RL.go rfl rfl rfl (Ex.add (r := (i : Int) + 1) rfl rfl (w64 (by omega) (by omega))) ?_
      refine RL.go rfl rfl rfl (Ex.mv (v := (.int .i64 ((i : Int) + 1))) rfl) ?_
      refine RL.nil (thn.n ?_)
      refine ⟨(by repeat (first | exact Out.mix _ _ | exact Out.refl _ _ | refine Out.up ?_ rfl _)), _, ?_, i + 1, false, e19.view, rfl, rfl, rfl, rfl, (H36.sel [1, 2] (by decide) rfl), by omega, by rw [chk_snoc hfo he20]; simp [h18]⟩
      omega
     ·skip
      refine RL.go rfl rfl rfl (Ex.mv (v := .bool true) rfl) ?_
      refine RL.go rfl rfl rfl (Ex.mv (v := (.bool true)) rfl) ?_
      refine RL.go rfl rfl rfl (Ex.ldv rfl (loadCN (cs := e19.cells) wh31 (H36.ob (i := 0) rfl).cl)) ?_
      refine RL.call Tryz.call97 (may_e _ e19) rfl rfl rfl ?_
      rintro _ w38 ⟨rfl, g39⟩
      have H40 := H36.grow g39
      have z41 := g39.size
      rcases hb42 : (mayE e19) with _ | _
      ·skip
       refine RL.go rfl rfl rfl (Ex.pkT (v := (.bool false)) rfl rfl) ?_
       refine RL.go rfl rfl rfl (Ex.mv (v := (.bool false)) rfl) ?_
       refine RL.out rfl rfl rfl ?_
       refine RL.out rfl rfl rfl ?_
       refine RL.out rfl rfl rfl ?_
       refine RL.out rfl rfl rfl ?_
       refine RL.out rfl rfl rfl ?_
       refine RL.out rfl rfl rfl ?_
       refine RL.go rfl rfl rfl (Ex.pkF (v := (.bool false)) rfl rfl) ?_
       refine RL.go rfl rfl rfl (Ex.as (v := (.bool false)) rfl) ?_
       refine RL.nil (thn.n (CW.region ?_))
       refine RL.go rfl rfl rfl (fa31_1 (b := ⟨b25, 1, none⟩) rfl rfl) ?_
       refine RL.go rfl rfl rfl (Ex.ldv rfl (loadC1 lo3 (Ob.cell (v := (.int .i64 e19.view)) (H40.ob (i := 0) rfl) rfl))) ?_
       refine RL.go rfl rfl rfl (Ex.as (v := (.int .i64 e19.view)) rfl) ?_
       refine RL.nil (inB.n (thn.n (CW.region ?_)))
       refine RL.go rfl rfl rfl (Ex.add (r := (i : Int) + 1) rfl rfl (w64 (by omega) (by omega))) ?_
       refine RL.go rfl rfl rfl (Ex.mv (v := (.int .i64 ((i : Int) + 1))) rfl) ?_
       refine RL.nil (thn.n ?_)
       refine ⟨(by repeat (first | exact Out.mix _ _ | exact Out.refl _ _ | refine Out.up ?_ rfl _)), _, ?_, i + 1, false, e19.view, rfl, rfl, rfl, rfl, (H40.sel [1, 2] (by decide) rfl), by omega, by rw [chk_snoc hfo he20]; simp [h18, hb42]⟩
       omega
      ·skip
       refine RL.go rfl rfl rfl (Ex.pkT (v := (.bool true)) rfl rfl) ?_
       refine RL.go rfl rfl rfl (Ex.mv (v := (.bool true)) rfl) ?_
       refine RL.go rfl rfl rfl (fa31_1 (b := ⟨b25, 1, none⟩) rfl rfl) ?_
       refine RL.go rfl rfl rfl (Ex.ldv rfl (loadC1 lo3 (Ob.cell (v := (.int .i64 e19.view)) (H40.ob (i := 0) rfl) rfl))) ?_
       refine RL.go rfl rfl rfl (Ex.mv (v := (.int .i64 vv)) rfl) ?_
       refine RL.go rfl rfl rfl (fa67_1 (b := ⟨b2, 1, none⟩) rfl rfl) ?_
       refine RL.go rfl rfl rfl (Ex.ldv rfl (loadC1 lo3 (Ob.cell (v := (.int .i64 x.normal)) (H40.ob (i := 1) rfl) rfl))) ?_
       refine RL.call Tryz.call87 (within_change _ e19.view vv x.normal) rfl rfl rfl ?_
       rintro _ _ ⟨rfl, rfl⟩
       rcases hb46 : (withinB e19.view vv x.normal) with _ | _
       ·skip
        refine RL.go rfl rfl rfl (Ex.pkT (v := (.bool false)) rfl rfl) ?_
        refine RL.go rfl rfl rfl (Ex.as (v := (.bool false)) rfl) ?_
        refine RL.nil (thn.n (CW.region ?_))
        refine RL.go rfl rfl rfl (fa31_1 (b := ⟨b25, 1, none⟩) rfl rfl) ?_
        refine RL.go rfl rfl rfl (Ex.ldv rfl (loadC1 lo3 (Ob.cell (v := (.int .i64 e19.view)) (H40.ob (i := 0) rfl) rfl))) ?_
        refine RL.go rfl rfl rfl (Ex.as (v := (.int .i64 e19.view)) rfl) ?_
        refine RL.nil (inB.n (thn.n (CW.region ?_)))
        refine RL.go rfl rfl rfl (Ex.add (r := (i : Int) + 1) rfl rfl (w64 (by omega) (by omega))) ?_
        refine RL.go rfl rfl rfl (Ex.mv (v := (.int .i64 ((i : Int) + 1))) rfl) ?_
        refine RL.nil (thn.n ?_)
        refine ⟨(by repeat (first | exact Out.mix _ _ | exact Out.refl _ _ | refine Out.up ?_ rfl _)), _, ?_, i + 1, false, e19.view, rfl, rfl, rfl, rfl, (H40.sel [1, 2] (by decide) rfl), by omega, by rw [chk_snoc hfo he20]; simp [h18, hb42, hb46]⟩
        omega
       ·have hw43 := withinB_t hb46
        refine RL.go rfl rfl rfl (Ex.pkT (v := (.bool true)) rfl rfl) ?_
        refine RL.go rfl rfl rfl (Ex.as (v := (.bool true)) rfl) ?_
        refine RL.nil (thn.n (CW.region ?_))
        refine RL.go rfl rfl rfl (fa31_1 (b := ⟨b25, 1, none⟩) rfl rfl) ?_
        refine RL.go rfl rfl rfl (Ex.ldv rfl (loadC1 lo3 (Ob.cell (v := (.int .i64 e19.view)) (H40.ob (i := 0) rfl) rfl))) ?_
        refine RL.go rfl rfl rfl (Ex.as (v := (.int .i64 e19.view)) rfl) ?_
        refine RL.nil (inB.n (thn.n (CW.region ?_)))
        refine RL.go rfl rfl rfl (Ex.add (r := (i : Int) + 1) rfl rfl (w64 (by omega) (by omega))) ?_
        refine RL.go rfl rfl rfl (Ex.mv (v := (.int .i64 ((i : Int) + 1))) rfl) ?_
        refine RL.nil (thn.n ?_)
        refine ⟨(by repeat (first | exact Out.mix _ _ | exact Out.refl _ _ | refine Out.up ?_ rfl _)), _, ?_, i + 1, true, e19.view, rfl, rfl, rfl, rfl, (H40.sel [1, 2] (by decide) rfl), by omega, by rw [chk_snoc hfo he20]; simp [h18, hb42, hb46]⟩
        omega
    ·skip
     refine RL.nil (thn.n (CW.seq (CW.condF rfl (CW.exit (thn.x (thn.x (inB.hit (thn.n (CW.seq (CW.seq (CW.region ?_)))))))))))
     rcases b with _ | _
     ·skip
      refine RL.go rfl rfl rfl (Ex.mv (v := .bool false) rfl) ?_
      refine RL.go rfl rfl rfl (Ex.not (b := false) rfl) ?_
      refine RL.go rfl rfl rfl (Ex.mv (v := (.bool true)) rfl) ?_
      refine RL.out rfl rfl rfl ?_
      refine RL.out rfl rfl rfl ?_
      refine RL.out rfl rfl rfl ?_
      refine RL.out rfl rfl rfl ?_
      refine RL.out rfl rfl rfl ?_
      refine RL.out rfl rfl rfl ?_
      refine RL.out rfl rfl rfl ?_
      refine RL.out rfl rfl rfl ?_
      refine RL.out rfl rfl rfl ?_
      refine RL.go rfl rfl rfl (Ex.pkT (v := (.bool true)) rfl rfl) ?_
      refine RL.go rfl rfl rfl (Ex.mv (v := (.bool true)) rfl) ?_
      refine RL.out rfl rfl rfl ?_
      refine RL.out rfl rfl rfl ?_
      refine RL.out rfl rfl rfl ?_
      refine RL.out rfl rfl rfl ?_
      refine RL.out rfl rfl rfl ?_
      refine RL.out rfl rfl rfl ?_
      refine RL.out rfl rfl rfl ?_
      refine RL.out rfl rfl rfl ?_
      refine RL.go rfl rfl rfl (Ex.pkT (v := (.bool true)) rfl rfl) ?_
      refine RL.nil (thn.n (CW.condT rfl (CW.seq (CW.region ?_))))
      refine RL.go rfl rfl rfl (Ex.as (v := (.int .i64 150)) rfl) ?_
      refine RL.nil (thn.n (CW.ret (thn.r ?_)))
      refine finQ.r (v := (.int .i64 150)) (res1 rfl rfl) ?_
      rw [List.take_of_length_le (by omega)] at hfo
      exact ⟨ret_int (by unfold vChkB; rw [hfo, ← hnx]; first | simp [h18] | (simp [h18]; omega)), (H16.fix (i := 1) rfl)⟩
     ·skip
      have hvb := vHead_base (chk_head hfo)
      refine RL.go rfl rfl rfl (Ex.mv (v := .bool true) rfl) ?_
      refine RL.go rfl rfl rfl (Ex.not (b := true) rfl) ?_
      refine RL.go rfl rfl rfl (Ex.mv (v := (.bool false)) rfl) ?_
      refine RL.go rfl rfl rfl (fa67_3 (b := ⟨b2, 3, none⟩) rfl rfl) ?_
      refine RL.go rfl rfl rfl (Ex.ldv rfl (loadC1 lo3 (Ob.cell (v := (.int .i64 x.number)) (H16.ob (i := 0) rfl) rfl))) ?_
      refine RL.go rfl rfl rfl (fa67_2 (b := ⟨b2, 2, none⟩) rfl rfl) ?_
      refine RL.go rfl rfl rfl (Ex.ldv rfl (loadC1 lo3 (Ob.cell (v := (.int .i64 x.base)) (H16.ob (i := 0) rfl) rfl))) ?_
      refine RL.go rfl rfl rfl (fa67_5 (b := ⟨b2, 5, none⟩) rfl rfl) ?_
      refine RL.go rfl rfl rfl (Ex.ldv rfl (loadC1 lo22 (Ob.cell (v := (.slice Ax nx cx)) (H16.ob (i := 0) rfl) rfl))) ?_
      refine RL.go rfl rfl rfl (Ex.len Tryz.underlying22 rfl) ?_
      refine RL.go rfl rfl rfl (Ex.add (r := x.base + (nx : Nat)) rfl rfl (w64 (by omega) (by omega))) ?_
      refine RL.br (p := (x.number : Int) ≠ (x.base + (nx : Nat) : Int)) rfl rfl rfl (fun r hr => Ex.neD rfl rfl hr) (fun h47 => ?_) (fun h47 => ?_)
      ·skip
       refine RL.go rfl rfl rfl (Ex.pkF (v := (.bool true)) rfl rfl) ?_
       refine RL.go rfl rfl rfl (Ex.mv (v := (.bool true)) rfl) ?_
       refine RL.out rfl rfl rfl ?_
       refine RL.out rfl rfl rfl ?_
       refine RL.out rfl rfl rfl ?_
       refine RL.out rfl rfl rfl ?_
       refine RL.out rfl rfl rfl ?_
       refine RL.out rfl rfl rfl ?_
       refine RL.out rfl rfl rfl ?_
       refine RL.out rfl rfl rfl ?_
       refine RL.go rfl rfl rfl (Ex.pkT (v := (.bool true)) rfl rfl) ?_
       refine RL.nil (thn.n (CW.condT rfl (CW.seq (CW.region ?_))))
       refine RL.go rfl rfl rfl (Ex.as (v := (.int .i64 150)) rfl) ?_
       refine RL.nil (thn.n (CW.ret (thn.r ?_)))
       refine finQ.r (v := (.int .i64 150)) (res1 rfl rfl) ?_
       rw [List.take_of_length_le (by omega)] at hfo
       exact ⟨ret_int (by unfold vChkB; rw [hfo, ← hnx]; first | simp [h18, h47] | (simp [h18, h47]; omega)), (H16.fix (i := 1) rfl)⟩
      ·skip
       refine RL.go rfl rfl rfl (Ex.pkF (v := (.bool false)) rfl rfl) ?_
       refine RL.go rfl rfl rfl (Ex.mv (v := (.bool false)) rfl) ?_
       refine RL.go rfl rfl rfl (fa67_4 (b := ⟨b2, 4, none⟩) rfl rfl) ?_
       refine RL.go rfl rfl rfl (Ex.ldv rfl (loadC1 lo3 (Ob.cell (v := (.int .i64 x.commit)) (H16.ob (i := 0) rfl) rfl))) ?_
       refine RL.go rfl rfl rfl (fa67_2 (b := ⟨b2, 2, none⟩) rfl rfl) ?_
       refine RL.go rfl rfl rfl (Ex.ldv rfl (loadC1 lo3 (Ob.cell (v := (.int .i64 x.base)) (H16.ob (i := 0) rfl) rfl))) ?_
       refine RL.go rfl rfl rfl (fa67_3 (b := ⟨b2, 3, none⟩) rfl rfl) ?_
       refine RL.go rfl rfl rfl (Ex.ldv rfl (loadC1 lo3 (Ob.cell (v := (.int .i64 x.number)) (H16.ob (i := 0) rfl) rfl))) ?_
       refine RL.call Tryz.call87 (within_change _ x.commit x.base x.number) rfl rfl rfl ?_
       rintro _ _ ⟨rfl, rfl⟩
       rcases hb51 : (withinB x.commit x.base x.number) with _ | _
       ·skip
        refine RL.go rfl rfl rfl (Ex.not (b := false) rfl) ?_
        refine RL.go rfl rfl rfl (Ex.pkF (v := (.bool true)) rfl rfl) ?_
        refine RL.nil (thn.n (CW.condT rfl (CW.seq (CW.region ?_))))
        refine RL.go rfl rfl rfl (Ex.as (v := (.int .i64 150)) rfl) ?_
        refine RL.nil (thn.n (CW.ret (thn.r ?_)))
        refine finQ.r (v := (.int .i64 150)) (res1 rfl rfl) ?_
        rw [List.take_of_length_le (by omega)] at hfo
        exact ⟨ret_int (by unfold vChkB; rw [hfo, ← hnx]; first | simp [h18, h47, hb51] | (simp [h18, h47, hb51]; omega)), (H16.fix (i := 1) rfl)⟩
       ·have hw48 := withinB_t hb51
        refine RL.go rfl rfl rfl (Ex.not (b := true) rfl) ?_
        refine RL.go rfl rfl rfl (Ex.pkF (v := (.bool false)) rfl rfl) ?_
        refine RL.nil (thn.n (CW.condF rfl (CW.skip (thn.n (CW.seq (CW.region ?_))))))
        refine RL.go rfl rfl rfl (Ex.as (v := (.int .i64 0)) rfl) ?_
        refine RL.nil (thn.n (CW.ret ?_))
        refine finQ.r (v := (.int .i64 0)) (res1 rfl rfl) ?_
        rw [List.take_of_length_le (by omega)] at hfo
        exact ⟨ret_int (by unfold vChkB; rw [hfo, ← hnx]; first | simp [h18, h47, hb51] | (simp [h18, h47, hb51]; omega)), (H16.fix (i := 1) rfl)⟩
  ·have hw9 := withinB_t hb12
   refine RL.go rfl rfl rfl (Ex.mv (v := (.bool true)) rfl) ?_
   refine RL.go rfl rfl rfl (fa67_1 (b := ⟨b2, 1, none⟩) rfl rfl) ?_
   refine RL.go rfl rfl rfl (Ex.ldv rfl (loadC1 lo3 (Ob.cell (v := (.int .i64 x.normal)) (H7.ob (i := 0) rfl) rfl))) ?_
   refine RL.call Tryz.call87 (within_change _ x.normal 0 900000000) rfl rfl rfl ?_
   rintro _ _ ⟨rfl, rfl⟩
   rcases hb55 : (withinB x.normal 0 900000000) with _ | _
   ·skip
    refine RL.go rfl rfl rfl (Ex.pkT (v := (.bool false)) rfl rfl) ?_
    refine RL.go rfl rfl rfl (Ex.mv (v := (.bool false)) rfl) ?_
    refine RL.out rfl rfl rfl ?_
    refine RL.out rfl rfl rfl ?_
    refine RL.out rfl rfl rfl ?_
    refine RL.go rfl rfl rfl (Ex.pkF (v := (.bool false)) rfl rfl) ?_
    refine RL.go rfl rfl rfl (Ex.mv (v := (.bool false)) rfl) ?_
    refine RL.out rfl rfl rfl ?_
    refine RL.out rfl rfl rfl ?_
    refine RL.out rfl rfl rfl ?_
    refine RL.out rfl rfl rfl ?_
    refine RL.go rfl rfl rfl (Ex.pkF (v := (.bool false)) rfl rfl) ?_
    refine RL.go rfl rfl rfl (Ex.mv (v := (.bool false)) rfl) ?_
    refine RL.out rfl rfl rfl ?_
    refine RL.out rfl rfl rfl ?_
    refine RL.out rfl rfl rfl ?_
    refine RL.out rfl rfl rfl ?_
    refine RL.out rfl rfl rfl ?_
    refine RL.go rfl rfl rfl (Ex.pkF (v := (.bool false)) rfl rfl) ?_
    refine RL.go rfl rfl rfl (Ex.as (v := (.bool false)) rfl) ?_
    refine RL.nil (thn.n (CW.seq (CW.region ?_)))
    refine RL.go rfl rfl rfl (Ex.as (v := (.int .i64 0)) rfl) ?_
    refine RL.nil (thn.n (CW.seq (CW.seq (CW.region ?_))))
    refine RL.go rfl rfl rfl (fa67_5 (b := ⟨b2, 5, none⟩) rfl rfl) ?_
    refine RL.go rfl rfl rfl (Ex.ldv rfl (loadC1 lo22 (Ob.cell (v := (.slice Ax nx cx)) (H7.ob (i := 0) rfl) rfl))) ?_
    refine RL.go rfl rfl rfl (Ex.len Tryz.underlying22 rfl) ?_
    refine RL.go rfl rfl rfl (Ex.mv (v := (.int .i64 0)) rfl) ?_
    refine RL.nil (thn.n (CW.block ?_))
    have hhd : vHead x = false := by unfold vHead; rw [← hnx]; first | (simp only [hb12, hb55]; rfl) | (simp [hb12, hb55]; done) | (simp [hb12, hb55]; omega) | (simp [hb12, hb55]; intro _; omega)
    refine CW.loop (fun t => (Nat.ble 3 t && Nat.ble t 4) || Nat.beq t 6 || (Nat.ble 36 t && Nat.ble t 55)) (fun nL ρ wl => ∃ (i : Nat) (b : Bool) (vv : Int), ρ 36 = (.int .i64 (i : Int)) ∧ ρ 3 = (.bool b) ∧ ρ 4 = (.int .i64 vv) ∧ nL = nx - i ∧ Sp [BlkA b2 67 [(.int .i64 x.node), (.int .i64 x.normal), (.int .i64 x.base), (.int .i64 x.number), (.int .i64 x.commit), (.slice Ax nx cx)], Fix w NoB] wl ∧ i ≤ nx ∧ (x.ents.take i).foldl (chkStep x.normal) (vHead x, 0) = (b, vv)) (nx) ?aa0 ?bb0
    case aa0 =>
     exact ⟨0, false, 0, rfl, rfl, rfl, rfl, H7, Nat.zero_le _, by rw [hhd]; rfl⟩
    case bb0 =>
     rintro n57 ρ0 w56 ho58 ⟨i, b, vv, hs0_36, hs0_3, hs0_4, hn0, H59, hi, hfo⟩
     obtain ⟨j0, rfl⟩ := ho58.shape3 hs0_36 hs0_3 hs0_4
     clear ho58 hs0_36 hs0_3 hs0_4
     subst hn0
     have z60 := (H59.fix (i := 1) rfl).size
     refine CW.seq (CW.region ?_)
     refine RL.br (p := ((i : Int) : Int) < ((nx : Nat) : Int)) rfl rfl rfl (fun r hr => Ex.lt rfl rfl hr) (fun h61 => ?_) (fun h61 => ?_)
     ·skip
      refine RL.nil (thn.n (CW.seq (CW.condT rfl (CW.skip (thn.n (CW.seq (CW.block (CW.seq (CW.region ?_)))))))))
      obtain ⟨e62, he63⟩ : ∃ e, (x.ents)[i]? = some e := ⟨_, List.getElem?_eq_getElem (by omega)⟩
      obtain ⟨ad65, hA66⟩ := Rd.sm (hrx.st0 (H59.fix (i := 1) rfl)) (ents_get he63)
      have hl67 := Eng.lt_len (ents_get he63)
      refine RL.go rfl rfl rfl (Ex.ix (b := (ad65.add (i * 11))) (i := i) Tryz.underlying22 Tryz.sizeOf31 (by rw [← hA66]; rfl) rfl (by omega) (by omega) rfl) ?_
      refine RL.go rfl rfl rfl (Ex.ldv rfl (loadCN (cs := e62.cells) wh31 (Rd.cl (hrx.st0 (H59.fix (i := 1) rfl)) hA66 (ents_get he63)))) ?_
      refine RL.al (cs := [(.int .i64 0), (.int .i64 0), (.int .i64 0), (.int .i64 0), (.int .i64 0), (.int .i64 0), (.int .i64 0), (.int .i64 0), (.int .i64 0), (.int .i64 0), (.int .i64 0)]) Tryz.zeroValue31 rfl rfl rfl ?_
      intro w68 b69 hb70 hz71 g72 o73
      have H74 := H59.newB g72 o73 (by omega)
      have z75 := g72.size
      refine RL.st (vs := e62.cells) (cs' := e62.cells) Tryz.sizeOf31 (H74.ob (i := 0) rfl) rfl rfl rfl rfl rfl rfl ?_
      intro w76 hz77 g78 o79
      have H80 : Sp [BlkA b69 31 e62.cells, BlkA b2 67 [(.int .i64 x.node), (.int .i64 x.normal), (.int .i64 x.base), (.int .i64 x.number), (.int .i64 x.commit), (.slice Ax nx cx)], Fix w NoB] w76 := H74.setB (i := 0) rfl g78 o79 rfl
      have z81 := g78.size
      refine RL.nil (thn.n (CW.seq (CW.region ?_)))
      rcases b with _ | _
      ·skip
       refine RL.go rfl rfl rfl (Ex.mv (v := .bool false) rfl) ?_
       refine RL.go rfl rfl rfl (Ex.mv (v := (.bool false)) rfl) ?_
       refine RL.out rfl rfl rfl ?_
       refine RL.out rfl rfl rfl ?_
       refine RL.go rfl rfl rfl (Ex.pkF (v := (.bool false)) rfl rfl) ?_
       refine RL.go rfl rfl rfl (Ex.mv (v := (.bool false)) rfl) ?_
       refine RL.out rfl rfl rfl ?_
       refine RL.out rfl rfl rfl ?_
       refine RL.out rfl rfl rfl ?_
       refine RL.out rfl rfl rfl ?_
       refine RL.out rfl rfl rfl ?_
       refine RL.out rfl rfl rfl ?_
       refine RL.go rfl rfl rfl (Ex.pkF (v := (.bool false)) rfl rfl) ?_
       refine RL.go rfl rfl rfl (Ex.as (v := (.bool false)) rfl) ?_
       refine RL.nil (thn.n (CW.region ?_))
       refine RL.go rfl rfl rfl (fa31_1 (b := ⟨b69, 1, none⟩) rfl rfl) ?_
       refine RL.go rfl rfl rfl (Ex.ldv rfl (loadC1 lo3 (Ob.cell (v := (.int .i64 e62.view)) (H80.ob (i := 0) rfl) rfl))) ?_
       refine RL.go rfl rfl rfl (Ex.as (v := (.int .i64 e62.view)) rfl) ?_
       refine RL.nil (inB.n (thn.n (CW.region ?_)))
       refine RL.go rfl rfl rfl (Ex.add (r := (i : Int) + 1) rfl rfl (w64 (by omega) (by omega))) ?_
       refine RL.go rfl rfl rfl (Ex.mv (v := (.int .i64 ((i : Int) + 1))) rfl) ?_
       refine RL.nil (thn.n ?_)
       refine ⟨(by repeat (first | exact Out.mix _ _ | exact Out.refl _ _ | refine Out.up ?_ rfl _)), _, ?_, i + 1, false, e62.view, rfl, rfl, rfl, rfl, (H80.sel [1, 2] (by decide) rfl), by omega, by rw [chk_snoc hfo he63]; simp [h61]⟩
       omega
      ·skip
       refine RL.go rfl rfl rfl (Ex.mv (v := .bool true) rfl) ?_
       refine RL.go rfl rfl rfl (Ex.mv (v := (.bool true)) rfl) ?_
       refine RL.go rfl rfl rfl (Ex.ldv rfl (loadCN (cs := e62.cells) wh31 (H80.ob (i := 0) rfl).cl)) ?_
       refine RL.call Tryz.call97 (may_e _ e62) rfl rfl rfl ?_
       rintro _ w82 ⟨rfl, g83⟩
       have H84 := H80.grow g83
       have z85 := g83.size
       rcases hb86 : (mayE e62) with _ | _
       ·skip
        refine RL.go rfl rfl rfl (Ex.pkT (v := (.bool false)) rfl rfl) ?_
        refine RL.go rfl rfl rfl (Ex.mv (v := (.bool false)) rfl) ?_
        refine RL.out rfl rfl rfl ?_
        refine RL.out rfl rfl rfl ?_
        refine RL.out rfl rfl rfl ?_
        refine RL.out rfl rfl rfl ?_
        refine RL.out rfl rfl rfl ?_
        refine RL.out rfl rfl rfl ?_
        refine RL.go rfl rfl rfl (Ex.pkF (v := (.bool false)) rfl rfl) ?_
        refine RL.go rfl rfl rfl (Ex.as (v := (.bool false)) rfl) ?_
        refine RL.nil (thn.n (CW.region ?_))
        refine RL.go rfl rfl rfl (fa31_1 (b := ⟨b69, 1, none⟩) rfl rfl) ?_
        refine RL.go rfl rfl rfl (Ex.ldv rfl (loadC1 lo3 (Ob.cell (v := (.int .i64 e62.view)) (H84.ob (i := 0) rfl) rfl))) ?_
        refine RL.go rfl rfl rfl (Ex.as (v := (.int .i64 e62.view)) rfl) ?_
        refine RL.nil (inB.n (thn.n (CW.region ?_)))
        refine RL.go rfl rfl rfl (Ex.add (r := (i : Int) + 1) rfl rfl (w64 (by omega) (by omega))) ?_
        refine RL.go rfl rfl rfl (Ex.mv (v := (.int .i64 ((i : Int) + 1))) rfl) ?_
        refine RL.nil (thn.n ?_)
        refine ⟨(by repeat (first | exact Out.mix _ _ | exact Out.refl _ _ | refine Out.up ?_ rfl _)), _, ?_, i + 1, false, e62.view, rfl, rfl, rfl, rfl, (H84.sel [1, 2] (by decide) rfl), by omega, by rw [chk_snoc hfo he63]; simp [h61, hb86]⟩
        omega
       ·skip
        refine RL.go rfl rfl rfl (Ex.pkT (v := (.bool true)) rfl rfl) ?_
        refine RL.go rfl rfl rfl (Ex.mv (v := (.bool true)) rfl) ?_
        refine RL.go rfl rfl rfl (fa31_1 (b := ⟨b69, 1, none⟩) rfl rfl) ?_
        refine RL.go rfl rfl rfl (Ex.ldv rfl (loadC1 lo3 (Ob.cell (v := (.int .i64 e62.view)) (H84.ob (i := 0) rfl) rfl))) ?_
        refine RL.go rfl rfl rfl (Ex.mv (v := (.int .i64 vv)) rfl) ?_
        refine RL.go rfl rfl rfl (fa67_1 (b := ⟨b2, 1, none⟩) rfl rfl) ?_
        refine RL.go rfl rfl rfl (Ex.ldv rfl (loadC1 lo3 (Ob.cell (v := (.int .i64 x.normal)) (H84.ob (i := 1) rfl) rfl))) ?_
        refine RL.call Tryz.call87 (within_change _ e62.view vv x.normal) rfl rfl rfl ?_
        rintro _ _ ⟨rfl, rfl⟩
        rcases hb90 : (withinB e62.view vv x.normal) with _ | _
        ·skip
         refine RL.go rfl rfl rfl (Ex.pkT (v := (.bool false)) rfl rfl) ?_
         refine RL.go rfl rfl rfl (Ex.as (v := (.bool false)) rfl) ?_
         refine RL.nil (thn.n (CW.region ?_))
         refine RL.go rfl rfl rfl (fa31_1 (b := ⟨b69, 1, none⟩) rfl rfl) ?_
         refine RL.go rfl rfl rfl (Ex.ldv rfl (loadC1 lo3 (Ob.cell (v := (.int .i64 e62.view)) (H84.ob (i := 0) rfl) rfl))) ?_
         refine RL.go rfl rfl rfl (Ex.as (v := (.int .i64 e62.view)) rfl) ?_
         refine RL.nil (inB.n (thn.n (CW.region ?_)))
         refine RL.go rfl rfl rfl (Ex.add (r := (i : Int) + 1) rfl rfl (w64 (by omega) (by omega))) ?_
         refine RL.go rfl rfl rfl (Ex.mv (v := (.int .i64 ((i : Int) + 1))) rfl) ?_
         refine RL.nil (thn.n ?_)
         refine ⟨(by repeat (first | exact Out.mix _ _ | exact Out.refl _ _ | refine Out.up ?_ rfl _)), _, ?_, i + 1, false, e62.view, rfl, rfl, rfl, rfl, (H84.sel [1, 2] (by decide) rfl), by omega, by rw [chk_snoc hfo he63]; simp [h61, hb86, hb90]⟩
         omega
        ·have hw87 := withinB_t hb90
         refine RL.go rfl rfl rfl (Ex.pkT (v := (.bool true)) rfl rfl) ?_
         refine RL.go rfl rfl rfl (Ex.as (v := (.bool true)) rfl) ?_
         refine RL.nil (thn.n (CW.region ?_))
         refine RL.go rfl rfl rfl (fa31_1 (b := ⟨b69, 1, none⟩) rfl rfl) ?_
         refine RL.go rfl rfl rfl (Ex.ldv rfl (loadC1 lo3 (Ob.cell (v := (.int .i64 e62.view)) (H84.ob (i := 0) rfl) rfl))) ?_
         refine RL.go rfl rfl rfl (Ex.as (v := (.int .i64 e62.view)) rfl) ?_
         refine RL.nil (inB.n (thn.n (CW.region ?_)))
         refine RL.go rfl rfl rfl (Ex.add (r := (i : Int) + 1) rfl rfl (w64 (by omega) (by omega))) ?_
         refine RL.go rfl rfl rfl (Ex.mv (v := (.int .i64 ((i : Int) + 1))) rfl) ?_
         refine RL.nil (thn.n ?_)
         refine ⟨(by repeat (first | exact Out.mix _ _ | exact Out.refl _ _ | refine Out.up ?_ rfl _)), _, ?_, i + 1, true, e62.view, rfl, rfl, rfl, rfl, (H84.sel [1, 2] (by decide) rfl), by omega, by rw [chk_snoc hfo he63]; simp [h61, hb86, hb90]⟩
         omega
     ·skip
      refine RL.nil (thn.n (CW.seq (CW.condF rfl (CW.exit (thn.x (thn.x (inB.hit (thn.n (CW.seq (CW.seq (CW.region ?_)))))))))))
      rcases b with _ | _
      ·skip
       refine RL.go rfl rfl rfl (Ex.mv (v := .bool false) rfl) ?_
       refine RL.go rfl rfl rfl (Ex.not (b := false) rfl) ?_
       refine RL.go rfl rfl rfl (Ex.mv (v := (.bool true)) rfl) ?_
       refine RL.out rfl rfl rfl ?_
       refine RL.out rfl rfl rfl ?_
       refine RL.out rfl rfl rfl ?_
       refine RL.out rfl rfl rfl ?_
       refine RL.out rfl rfl rfl ?_
       refine RL.out rfl rfl rfl ?_
       refine RL.out rfl rfl rfl ?_
       refine RL.out rfl rfl rfl ?_
       refine RL.out rfl rfl rfl ?_
       refine RL.go rfl rfl rfl (Ex.pkT (v := (.bool true)) rfl rfl) ?_
       refine RL.go rfl rfl rfl (Ex.mv (v := (.bool true)) rfl) ?_
       refine RL.out rfl rfl rfl ?_
       refine RL.out rfl rfl rfl ?_
       refine RL.out rfl rfl rfl ?_
       refine RL.out rfl rfl rfl ?_
       refine RL.out rfl rfl rfl ?_
       refine RL.out rfl rfl rfl ?_
       refine RL.out rfl rfl rfl ?_
       refine RL.out rfl rfl rfl ?_
       refine RL.go rfl rfl rfl (Ex.pkT (v := (.bool true)) rfl rfl) ?_
       refine RL.nil (thn.n (CW.condT rfl (CW.seq (CW.region ?_))))
       refine RL.go rfl rfl rfl (Ex.as (v := (.int .i64 150)) rfl) ?_
       refine RL.nil (thn.n (CW.ret (thn.r ?_)))
       refine finQ.r (v := (.int .i64 150)) (res1 rfl rfl) ?_
       rw [List.take_of_length_le (by omega)] at hfo
       exact ⟨ret_int (by unfold vChkB; rw [hfo, ← hnx]; first | simp [h61] | (simp [h61]; omega)), (H59.fix (i := 1) rfl)⟩
      ·skip
       have hvb := vHead_base (chk_head hfo)
       refine RL.go rfl rfl rfl (Ex.mv (v := .bool true) rfl) ?_
       refine RL.go rfl rfl rfl (Ex.not (b := true) rfl) ?_
       refine RL.go rfl rfl rfl (Ex.mv (v := (.bool false)) rfl) ?_
       refine RL.go rfl rfl rfl (fa67_3 (b := ⟨b2, 3, none⟩) rfl rfl) ?_
       refine RL.go rfl rfl rfl (Ex.ldv rfl (loadC1 lo3 (Ob.cell (v := (.int .i64 x.number)) (H59.ob (i := 0) rfl) rfl))) ?_
       refine RL.go rfl rfl rfl (fa67_2 (b := ⟨b2, 2, none⟩) rfl rfl) ?_
       refine RL.go rfl rfl rfl (Ex.ldv rfl (loadC1 lo3 (Ob.cell (v := (.int .i64 x.base)) (H59.ob (i := 0) rfl) rfl))) ?_
       refine RL.go rfl rfl rfl (fa67_5 (b := ⟨b2, 5, none⟩) rfl rfl) ?_
       refine RL.go rfl rfl rfl (Ex.ldv rfl (loadC1 lo22 (Ob.cell (v := (.slice Ax nx cx)) (H59.ob (i := 0) rfl) rfl))) ?_
       refine RL.go rfl rfl rfl (Ex.len Tryz.underlying22 rfl) ?_
       refine RL.go rfl rfl rfl (Ex.add (r := x.base + (nx : Nat)) rfl rfl (w64 (by omega) (by omega))) ?_
       refine RL.br (p := (x.number : Int) ≠ (x.base + (nx : Nat) : Int)) rfl rfl rfl (fun r hr => Ex.neD rfl rfl hr) (fun h91 => ?_) (fun h91 => ?_)
       ·skip
        refine RL.go rfl rfl rfl (Ex.pkF (v := (.bool true)) rfl rfl) ?_
        refine RL.go rfl rfl rfl (Ex.mv (v := (.bool true)) rfl) ?_
        refine RL.out rfl rfl rfl ?_
        refine RL.out rfl rfl rfl ?_
        refine RL.out rfl rfl rfl ?_
        refine RL.out rfl rfl rfl ?_
        refine RL.out rfl rfl rfl ?_
        refine RL.out rfl rfl rfl ?_
        refine RL.out rfl rfl rfl ?_
        refine RL.out rfl rfl rfl ?_
        refine RL.go rfl rfl rfl (Ex.pkT (v := (.bool true)) rfl rfl) ?_
        refine RL.nil (thn.n (CW.condT rfl (CW.seq (CW.region ?_))))
        refine RL.go rfl rfl rfl (Ex.as (v := (.int .i64 150)) rfl) ?_
        refine RL.nil (thn.n (CW.ret (thn.r ?_)))
        refine finQ.r (v := (.int .i64 150)) (res1 rfl rfl) ?_
        rw [List.take_of_length_le (by omega)] at hfo
        exact ⟨ret_int (by unfold vChkB; rw [hfo, ← hnx]; first | simp [h61, h91] | (simp [h61, h91]; omega)), (H59.fix (i := 1) rfl)⟩
       ·skip
        refine RL.go rfl rfl rfl (Ex.pkF (v := (.bool false)) rfl rfl) ?_
        refine RL.go rfl rfl rfl (Ex.mv (v := (.bool false)) rfl) ?_
        refine RL.go rfl rfl rfl (fa67_4 (b := ⟨b2, 4, none⟩) rfl rfl) ?_
        refine RL.go rfl rfl rfl (Ex.ldv rfl (loadC1 lo3 (Ob.cell (v := (.int .i64 x.commit)) (H59.ob (i := 0) rfl) rfl))) ?_
        refine RL.go rfl rfl rfl (fa67_2 (b := ⟨b2, 2, none⟩) rfl rfl) ?_
        refine RL.go rfl rfl rfl (Ex.ldv rfl (loadC1 lo3 (Ob.cell (v := (.int .i64 x.base)) (H59.ob (i := 0) rfl) rfl))) ?_
        refine RL.go rfl rfl rfl (fa67_3 (b := ⟨b2, 3, none⟩) rfl rfl) ?_
        refine RL.go rfl rfl rfl (Ex.ldv rfl (loadC1 lo3 (Ob.cell (v := (.int .i64 x.number)) (H59.ob (i := 0) rfl) rfl))) ?_
        refine RL.call Tryz.call87 (within_change _ x.commit x.base x.number) rfl rfl rfl ?_
        rintro _ _ ⟨rfl, rfl⟩
        rcases hb95 : (withinB x.commit x.base x.number) with _ | _
        ·skip
         refine RL.go rfl rfl rfl (Ex.not (b := false) rfl) ?_
         refine RL.go rfl rfl rfl (Ex.pkF (v := (.bool true)) rfl rfl) ?_
         refine RL.nil (thn.n (CW.condT rfl (CW.seq (CW.region ?_))))
         refine RL.go rfl rfl rfl (Ex.as (v := (.int .i64 150)) rfl) ?_
         refine RL.nil (thn.n (CW.ret (thn.r ?_)))
         refine finQ.r (v := (.int .i64 150)) (res1 rfl rfl) ?_
         rw [List.take_of_length_le (by omega)] at hfo
         exact ⟨ret_int (by unfold vChkB; rw [hfo, ← hnx]; first | simp [h61, h91, hb95] | (simp [h61, h91, hb95]; omega)), (H59.fix (i := 1) rfl)⟩
        ·have hw92 := withinB_t hb95
         refine RL.go rfl rfl rfl (Ex.not (b := true) rfl) ?_
         refine RL.go rfl rfl rfl (Ex.pkF (v := (.bool false)) rfl rfl) ?_
         refine RL.nil (thn.n (CW.condF rfl (CW.skip (thn.n (CW.seq (CW.region ?_))))))
         refine RL.go rfl rfl rfl (Ex.as (v := (.int .i64 0)) rfl) ?_
         refine RL.nil (thn.n (CW.ret ?_))
         refine finQ.r (v := (.int .i64 0)) (res1 rfl rfl) ?_
         rw [List.take_of_length_le (by omega)] at hfo
         exact ⟨ret_int (by unfold vChkB; rw [hfo, ← hnx]; first | simp [h61, h91, hb95] | (simp [h61, h91, hb95]; omega)), (H59.fix (i := 1) rfl)⟩
   ·have hw52 := withinB_t hb55
    refine RL.go rfl rfl rfl (Ex.pkT (v := (.bool true)) rfl rfl) ?_
    refine RL.go rfl rfl rfl (Ex.mv (v := (.bool true)) rfl) ?_
    refine RL.go rfl rfl rfl (fa67_2 (b := ⟨b2, 2, none⟩) rfl rfl) ?_
    refine RL.go rfl rfl rfl (Ex.ldv rfl (loadC1 lo3 (Ob.cell (v := (.int .i64 x.base)) (H7.ob (i := 0) rfl) rfl))) ?_
    refine RL.call Tryz.call87 (within_change _ x.base 0 900000000) rfl rfl rfl ?_
    rintro _ _ ⟨rfl, rfl⟩
    rcases hb99 : (withinB x.base 0 900000000) with _ | _
    ·skip
     refine RL.go rfl rfl rfl (Ex.pkT (v := (.bool false)) rfl rfl) ?_
     refine RL.go rfl rfl rfl (Ex.mv (v := (.bool false)) rfl) ?_
     refine RL.out rfl rfl rfl ?_
     refine RL.out rfl rfl rfl ?_
     refine RL.out rfl rfl rfl ?_
     refine RL.out rfl rfl rfl ?_
     refine RL.go rfl rfl rfl (Ex.pkF (v := (.bool false)) rfl rfl) ?_
     refine RL.go rfl rfl rfl (Ex.mv (v := (.bool false)) rfl) ?_
     refine RL.out rfl rfl rfl ?_
     refine RL.out rfl rfl rfl ?_
     refine RL.out rfl rfl rfl ?_
     refine RL.out rfl rfl rfl ?_
     refine RL.out rfl rfl rfl ?_
     refine RL.go rfl rfl rfl (Ex.pkF (v := (.bool false)) rfl rfl) ?_
     refine RL.go rfl rfl rfl (Ex.as (v := (.bool false)) rfl) ?_
     refine RL.nil (thn.n (CW.seq (CW.region ?_)))
     refine RL.go rfl rfl rfl (Ex.as (v := (.int .i64 0)) rfl) ?_
     refine RL.nil (thn.n (CW.seq (CW.seq (CW.region ?_))))
     refine RL.go rfl rfl rfl (fa67_5 (b := ⟨b2, 5, none⟩) rfl rfl) ?_
     refine RL.go rfl rfl rfl (Ex.ldv rfl (loadC1 lo22 (Ob.cell (v := (.slice Ax nx cx)) (H7.ob (i := 0) rfl) rfl))) ?_
     refine RL.go rfl rfl rfl (Ex.len Tryz.underlying22 rfl) ?_
     refine RL.go rfl rfl rfl (Ex.mv (v := (.int .i64 0)) rfl) ?_
     refine RL.nil (thn.n (CW.block ?_))
     have hhd : vHead x = false := by unfold vHead; rw [← hnx]; first | (simp only [hb12, hb55, hb99]; rfl) | (simp [hb12, hb55, hb99]; done) | (simp [hb12, hb55, hb99]; omega) | (simp [hb12, hb55, hb99]; intro _; omega)
     refine CW.loop (fun t => (Nat.ble 3 t && Nat.ble t 4) || Nat.beq t 6 || (Nat.ble 36 t && Nat.ble t 55)) (fun nL ρ wl => ∃ (i : Nat) (b : Bool) (vv : Int), ρ 36 = (.int .i64 (i : Int)) ∧ ρ 3 = (.bool b) ∧ ρ 4 = (.int .i64 vv) ∧ nL = nx - i ∧ Sp [BlkA b2 67 [(.int .i64 x.node), (.int .i64 x.normal), (.int .i64 x.base), (.int .i64 x.number), (.int .i64 x.commit), (.slice Ax nx cx)], Fix w NoB] wl ∧ i ≤ nx ∧ (x.ents.take i).foldl (chkStep x.normal) (vHead x, 0) = (b, vv)) (nx) ?aa0 ?bb0
     case aa0 =>
      exact ⟨0, false, 0, rfl, rfl, rfl, rfl, H7, Nat.zero_le _, by rw [hhd]; rfl⟩
     case bb0 =>
      rintro n101 ρ0 w100 ho102 ⟨i, b, vv, hs0_36, hs0_3, hs0_4, hn0, H103, hi, hfo⟩
      obtain ⟨j0, rfl⟩ := ho102.shape3 hs0_36 hs0_3 hs0_4
      clear ho102 hs0_36 hs0_3 hs0_4
      subst hn0
      have z104 := (H103.fix (i := 1) rfl).size
      refine CW.seq (CW.region ?_)
      refine RL.br (p := ((i : Int) : Int) < ((nx : Nat) : Int)) rfl rfl rfl (fun r hr => Ex.lt rfl rfl hr) (fun h105 => ?_) (fun h105 => ?_)
      ·skip
       refine RL.nil (thn.n (CW.seq (CW.condT rfl (CW.skip (thn.n (CW.seq (CW.block (CW.seq (CW.region ?_)))))))))
       obtain ⟨e106, he107⟩ : ∃ e, (x.ents)[i]? = some e := ⟨_, List.getElem?_eq_getElem (by omega)⟩
       obtain ⟨ad108, hA109⟩ := Rd.sm (hrx.st0 (H103.fix (i := 1) rfl)) (ents_get he107)
       have hl110 := Eng.lt_len (ents_get he107)
       refine RL.go rfl rfl rfl (Ex.ix (b := (ad108.add (i * 11))) (i := i) Tryz.underlying22 Tryz.sizeOf31 (by rw [← hA109]; rfl) rfl (by omega) (by omega) rfl) ?_
       refine RL.go rfl rfl rfl (Ex.ldv rfl (loadCN (cs := e106.cells) wh31 (Rd.cl (hrx.st0 (H103.fix (i := 1) rfl)) hA109 (ents_get he107)))) ?_
       refine RL.al (cs := [(.int .i64 0), (.int .i64 0), (.int .i64 0), (.int .i64 0), (.int .i64 0), (.int .i64 0), (.int .i64 0), (.int .i64 0), (.int .i64 0), (.int .i64 0), (.int .i64 0)]) Tryz.zeroValue31 rfl rfl rfl ?_
       intro w111 b112 hb113 hz114 g115 o116
       have H117 := H103.newB g115 o116 (by omega)
       have z118 := g115.size
       refine RL.st (vs := e106.cells) (cs' := e106.cells) Tryz.sizeOf31 (H117.ob (i := 0) rfl) rfl rfl rfl rfl rfl rfl ?_
       intro w119 hz120 g121 o122
       have H123 : Sp [BlkA b112 31 e106.cells, BlkA b2 67 [(.int .i64 x.node), (.int .i64 x.normal), (.int .i64 x.base), (.int .i64 x.number), (.int .i64 x.commit), (.slice Ax nx cx)], Fix w NoB] w119 := H117.setB (i := 0) rfl g121 o122 rfl
       have z124 := g121.size
       refine RL.nil (thn.n (CW.seq (CW.region ?_)))
       rcases b with _ | _
       ·skip
        refine RL.go rfl rfl rfl (Ex.mv (v := .bool false) rfl) ?_
        refine RL.go rfl rfl rfl (Ex.mv (v := (.bool false)) rfl) ?_
        refine RL.out rfl rfl rfl ?_
        refine RL.out rfl rfl rfl ?_
        refine RL.go rfl rfl rfl (Ex.pkF (v := (.bool false)) rfl rfl) ?_
        refine RL.go rfl rfl rfl (Ex.mv (v := (.bool false)) rfl) ?_
        refine RL.out rfl rfl rfl ?_
        refine RL.out rfl rfl rfl ?_
        refine RL.out rfl rfl rfl ?_
        refine RL.out rfl rfl rfl ?_
        refine RL.out rfl rfl rfl ?_
        refine RL.out rfl rfl rfl ?_
        refine RL.go rfl rfl rfl (Ex.pkF (v := (.bool false)) rfl rfl) ?_
        refine RL.go rfl rfl rfl (Ex.as (v := (.bool false)) rfl) ?_
        refine RL.nil (thn.n (CW.region ?_))
        refine RL.go rfl rfl rfl (fa31_1 (b := ⟨b112, 1, none⟩) rfl rfl) ?_
        refine RL.go rfl rfl rfl (Ex.ldv rfl (loadC1 lo3 (Ob.cell (v := (.int .i64 e106.view)) (H123.ob (i := 0) rfl) rfl))) ?_
        refine RL.go rfl rfl rfl (Ex.as (v := (.int .i64 e106.view)) rfl) ?_
        refine RL.nil (inB.n (thn.n (CW.region ?_)))
        refine RL.go rfl rfl rfl (Ex.add (r := (i : Int) + 1) rfl rfl (w64 (by omega) (by omega))) ?_
        refine RL.go rfl rfl rfl (Ex.mv (v := (.int .i64 ((i : Int) + 1))) rfl) ?_
        refine RL.nil (thn.n ?_)
        refine ⟨(by repeat (first | exact Out.mix _ _ | exact Out.refl _ _ | refine Out.up ?_ rfl _)), _, ?_, i + 1, false, e106.view, rfl, rfl, rfl, rfl, (H123.sel [1, 2] (by decide) rfl), by omega, by rw [chk_snoc hfo he107]; simp [h105]⟩
        omega
       ·skip
        refine RL.go rfl rfl rfl (Ex.mv (v := .bool true) rfl) ?_
        refine RL.go rfl rfl rfl (Ex.mv (v := (.bool true)) rfl) ?_
        refine RL.go rfl rfl rfl (Ex.ldv rfl (loadCN (cs := e106.cells) wh31 (H123.ob (i := 0) rfl).cl)) ?_
        refine RL.call Tryz.call97 (may_e _ e106) rfl rfl rfl ?_
        rintro _ w125 ⟨rfl, g126⟩
        have H127 := H123.grow g126
        have z128 := g126.size
        rcases hb129 : (mayE e106) with _ | _
        ·skip
         refine RL.go rfl rfl rfl (Ex.pkT (v := (.bool false)) rfl rfl) ?_
         refine RL.go rfl rfl rfl (Ex.mv (v := (.bool false)) rfl) ?_
         refine RL.out rfl rfl rfl ?_
         refine RL.out rfl rfl rfl ?_
         refine RL.out rfl rfl rfl ?_
         refine RL.out rfl rfl rfl ?_
         refine RL.out rfl rfl rfl ?_
         refine RL.out rfl rfl rfl ?_
         refine RL.go rfl rfl rfl (Ex.pkF (v := (.bool false)) rfl rfl) ?_
         refine RL.go rfl rfl rfl (Ex.as (v := (.bool false)) rfl) ?_
         refine RL.nil (thn.n (CW.region ?_))
         refine RL.go rfl rfl rfl (fa31_1 (b := ⟨b112, 1, none⟩) rfl rfl) ?_
         refine RL.go rfl rfl rfl (Ex.ldv rfl (loadC1 lo3 (Ob.cell (v := (.int .i64 e106.view)) (H127.ob (i := 0) rfl) rfl))) ?_
         refine RL.go rfl rfl rfl (Ex.as (v := (.int .i64 e106.view)) rfl) ?_
         refine RL.nil (inB.n (thn.n (CW.region ?_)))
         refine RL.go rfl rfl rfl (Ex.add (r := (i : Int) + 1) rfl rfl (w64 (by omega) (by omega))) ?_
         refine RL.go rfl rfl rfl (Ex.mv (v := (.int .i64 ((i : Int) + 1))) rfl) ?_
         refine RL.nil (thn.n ?_)
         refine ⟨(by repeat (first | exact Out.mix _ _ | exact Out.refl _ _ | refine Out.up ?_ rfl _)), _, ?_, i + 1, false, e106.view, rfl, rfl, rfl, rfl, (H127.sel [1, 2] (by decide) rfl), by omega, by rw [chk_snoc hfo he107]; simp [h105, hb129]⟩
         omega
        ·skip
         refine RL.go rfl rfl rfl (Ex.pkT (v := (.bool true)) rfl rfl) ?_
         refine RL.go rfl rfl rfl (Ex.mv (v := (.bool true)) rfl) ?_
         refine RL.go rfl rfl rfl (fa31_1 (b := ⟨b112, 1, none⟩) rfl rfl) ?_
         refine RL.go rfl rfl rfl (Ex.ldv rfl (loadC1 lo3 (Ob.cell (v := (.int .i64 e106.view)) (H127.ob (i := 0) rfl) rfl))) ?_
         refine RL.go rfl rfl rfl (Ex.mv (v := (.int .i64 vv)) rfl) ?_
         refine RL.go rfl rfl rfl (fa67_1 (b := ⟨b2, 1, none⟩) rfl rfl) ?_
         refine RL.go rfl rfl rfl (Ex.ldv rfl (loadC1 lo3 (Ob.cell (v := (.int .i64 x.normal)) (H127.ob (i := 1) rfl) rfl))) ?_
         refine RL.call Tryz.call87 (within_change _ e106.view vv x.normal) rfl rfl rfl ?_
         rintro _ _ ⟨rfl, rfl⟩
         rcases hb133 : (withinB e106.view vv x.normal) with _ | _
         ·skip
          refine RL.go rfl rfl rfl (Ex.pkT (v := (.bool false)) rfl rfl) ?_
          refine RL.go rfl rfl rfl (Ex.as (v := (.bool false)) rfl) ?_
          refine RL.nil (thn.n (CW.region ?_))
          refine RL.go rfl rfl rfl (fa31_1 (b := ⟨b112, 1, none⟩) rfl rfl) ?_
          refine RL.go rfl rfl rfl (Ex.ldv rfl (loadC1 lo3 (Ob.cell (v := (.int .i64 e106.view)) (H127.ob (i := 0) rfl) rfl))) ?_
          refine RL.go rfl rfl rfl (Ex.as (v := (.int .i64 e106.view)) rfl) ?_
          refine RL.nil (inB.n (thn.n (CW.region ?_)))
          refine RL.go rfl rfl rfl (Ex.add (r := (i : Int) + 1) rfl rfl (w64 (by omega) (by omega))) ?_
          refine RL.go rfl rfl rfl (Ex.mv (v := (.int .i64 ((i : Int) + 1))) rfl) ?_
          refine RL.nil (thn.n ?_)
          refine ⟨(by repeat (first | exact Out.mix _ _ | exact Out.refl _ _ | refine Out.up ?_ rfl _)), _, ?_, i + 1, false, e106.view, rfl, rfl, rfl, rfl, (H127.sel [1, 2] (by decide) rfl), by omega, by rw [chk_snoc hfo he107]; simp [h105, hb129, hb133]⟩
          omega
         ·have hw130 := withinB_t hb133
          refine RL.go rfl rfl rfl (Ex.pkT (v := (.bool true)) rfl rfl) ?_
          refine RL.go rfl rfl rfl (Ex.as (v := (.bool true)) rfl) ?_
          refine RL.nil (thn.n (CW.region ?_))
          refine RL.go rfl rfl rfl (fa31_1 (b := ⟨b112, 1, none⟩) rfl rfl) ?_
          refine RL.go rfl rfl rfl (Ex.ldv rfl (loadC1 lo3 (Ob.cell (v := (.int .i64 e106.view)) (H127.ob (i := 0) rfl) rfl))) ?_
          refine RL.go rfl rfl rfl (Ex.as (v := (.int .i64 e106.view)) rfl) ?_
          refine RL.nil (inB.n (thn.n (CW.region ?_)))
          refine RL.go rfl rfl rfl (Ex.add (r := (i : Int) + 1) rfl rfl (w64 (by omega) (by omega))) ?_
          refine RL.go rfl rfl rfl (Ex.mv (v := (.int .i64 ((i : Int) + 1))) rfl) ?_
          refine RL.nil (thn.n ?_)
          refine ⟨(by repeat (first | exact Out.mix _ _ | exact Out.refl _ _ | refine Out.up ?_ rfl _)), _, ?_, i + 1, true, e106.view, rfl, rfl, rfl, rfl, (H127.sel [1, 2] (by decide) rfl), by omega, by rw [chk_snoc hfo he107]; simp [h105, hb129, hb133]⟩
          omega
      ·skip
       refine RL.nil (thn.n (CW.seq (CW.condF rfl (CW.exit (thn.x (thn.x (inB.hit (thn.n (CW.seq (CW.seq (CW.region ?_)))))))))))
       rcases b with _ | _
       ·skip
        refine RL.go rfl rfl rfl (Ex.mv (v := .bool false) rfl) ?_
        refine RL.go rfl rfl rfl (Ex.not (b := false) rfl) ?_
        refine RL.go rfl rfl rfl (Ex.mv (v := (.bool true)) rfl) ?_
        refine RL.out rfl rfl rfl ?_
        refine RL.out rfl rfl rfl ?_
        refine RL.out rfl rfl rfl ?_
        refine RL.out rfl rfl rfl ?_
        refine RL.out rfl rfl rfl ?_
        refine RL.out rfl rfl rfl ?_
        refine RL.out rfl rfl rfl ?_
        refine RL.out rfl rfl rfl ?_
        refine RL.out rfl rfl rfl ?_
        refine RL.go rfl rfl rfl (Ex.pkT (v := (.bool true)) rfl rfl) ?_
        refine RL.go rfl rfl rfl (Ex.mv (v := (.bool true)) rfl) ?_
        refine RL.out rfl rfl rfl ?_
        refine RL.out rfl rfl rfl ?_
        refine RL.out rfl rfl rfl ?_
        refine RL.out rfl rfl rfl ?_
        refine RL.out rfl rfl rfl ?_
        refine RL.out rfl rfl rfl ?_
        refine RL.out rfl rfl rfl ?_
        refine RL.out rfl rfl rfl ?_
        refine RL.go rfl rfl rfl (Ex.pkT (v := (.bool true)) rfl rfl) ?_
        refine RL.nil (thn.n (CW.condT rfl (CW.seq (CW.region ?_))))
        refine RL.go rfl rfl rfl (Ex.as (v := (.int .i64 150)) rfl) ?_
        refine RL.nil (thn.n (CW.ret (thn.r ?_)))
        refine finQ.r (v := (.int .i64 150)) (res1 rfl rfl) ?_
        rw [List.take_of_length_le (by omega)] at hfo
        exact ⟨ret_int (by unfold vChkB; rw [hfo, ← hnx]; first | simp [h105] | (simp [h105]; omega)), (H103.fix (i := 1) rfl)⟩
       ·skip
        have hvb := vHead_base (chk_head hfo)
        refine RL.go rfl rfl rfl (Ex.mv (v := .bool true) rfl) ?_
        refine RL.go rfl rfl rfl (Ex.not (b := true) rfl) ?_
        refine RL.go rfl rfl rfl (Ex.mv (v := (.bool false)) rfl) ?_
        refine RL.go rfl rfl rfl (fa67_3 (b := ⟨b2, 3, none⟩) rfl rfl) ?_
        refine RL.go rfl rfl rfl (Ex.ldv rfl (loadC1 lo3 (Ob.cell (v := (.int .i64 x.number)) (H103.ob (i := 0) rfl) rfl))) ?_
        refine RL.go rfl rfl rfl (fa67_2 (b := ⟨b2, 2, none⟩) rfl rfl) ?_
        refine RL.go rfl rfl rfl (Ex.ldv rfl (loadC1 lo3 (Ob.cell (v := (.int .i64 x.base)) (H103.ob (i := 0) rfl) rfl))) ?_
        refine RL.go rfl rfl rfl (fa67_5 (b := ⟨b2, 5, none⟩) rfl rfl) ?_
        refine RL.go rfl rfl rfl (Ex.ldv rfl (loadC1 lo22 (Ob.cell (v := (.slice Ax nx cx)) (H103.ob (i := 0) rfl) rfl))) ?_
        refine RL.go rfl rfl rfl (Ex.len Tryz.underlying22 rfl) ?_
        refine RL.go rfl rfl rfl (Ex.add (r := x.base + (nx : Nat)) rfl rfl (w64 (by omega) (by omega))) ?_
        refine RL.br (p := (x.number : Int) ≠ (x.base + (nx : Nat) : Int)) rfl rfl rfl (fun r hr => Ex.neD rfl rfl hr) (fun h134 => ?_) (fun h134 => ?_)
        ·skip
         refine RL.go rfl rfl rfl (Ex.pkF (v := (.bool true)) rfl rfl) ?_
         refine RL.go rfl rfl rfl (Ex.mv (v := (.bool true)) rfl) ?_
         refine RL.out rfl rfl rfl ?_
         refine RL.out rfl rfl rfl ?_
         refine RL.out rfl rfl rfl ?_
         refine RL.out rfl rfl rfl ?_
         refine RL.out rfl rfl rfl ?_
         refine RL.out rfl rfl rfl ?_
         refine RL.out rfl rfl rfl ?_
         refine RL.out rfl rfl rfl ?_
         refine RL.go rfl rfl rfl (Ex.pkT (v := (.bool true)) rfl rfl) ?_
         refine RL.nil (thn.n (CW.condT rfl (CW.seq (CW.region ?_))))
         refine RL.go rfl rfl rfl (Ex.as (v := (.int .i64 150)) rfl) ?_
         refine RL.nil (thn.n (CW.ret (thn.r ?_)))
         refine finQ.r (v := (.int .i64 150)) (res1 rfl rfl) ?_
         rw [List.take_of_length_le (by omega)] at hfo
         exact ⟨ret_int (by unfold vChkB; rw [hfo, ← hnx]; first | simp [h105, h134] | (simp [h105, h134]; omega)), (H103.fix (i := 1) rfl)⟩
        ·skip
         refine RL.go rfl rfl rfl (Ex.pkF (v := (.bool false)) rfl rfl) ?_
         refine RL.go rfl rfl rfl (Ex.mv (v := (.bool false)) rfl) ?_
         refine RL.go rfl rfl rfl (fa67_4 (b := ⟨b2, 4, none⟩) rfl rfl) ?_
         refine RL.go rfl rfl rfl (Ex.ldv rfl (loadC1 lo3 (Ob.cell (v := (.int .i64 x.commit)) (H103.ob (i := 0) rfl) rfl))) ?_
         refine RL.go rfl rfl rfl (fa67_2 (b := ⟨b2, 2, none⟩) rfl rfl) ?_
         refine RL.go rfl rfl rfl (Ex.ldv rfl (loadC1 lo3 (Ob.cell (v := (.int .i64 x.base)) (H103.ob (i := 0) rfl) rfl))) ?_
         refine RL.go rfl rfl rfl (fa67_3 (b := ⟨b2, 3, none⟩) rfl rfl) ?_
         refine RL.go rfl rfl rfl (Ex.ldv rfl (loadC1 lo3 (Ob.cell (v := (.int .i64 x.number)) (H103.ob (i := 0) rfl) rfl))) ?_
         refine RL.call Tryz.call87 (within_change _ x.commit x.base x.number) rfl rfl rfl ?_
         rintro _ _ ⟨rfl, rfl⟩
         rcases hb138 : (withinB x.commit x.base x.number) with _ | _
         ·skip
          refine RL.go rfl rfl rfl (Ex.not (b := false) rfl) ?_
          refine RL.go rfl rfl rfl (Ex.pkF (v := (.bool true)) rfl rfl) ?_
          refine RL.nil (thn.n (CW.condT rfl (CW.seq (CW.region ?_))))
          refine RL.go rfl rfl rfl (Ex.as (v := (.int .i64 150)) rfl) ?_
          refine RL.nil (thn.n (CW.ret (thn.r ?_)))
          refine finQ.r (v := (.int .i64 150)) (res1 rfl rfl) ?_
          rw [List.take_of_length_le (by omega)] at hfo
          exact ⟨ret_int (by unfold vChkB; rw [hfo, ← hnx]; first | simp [h105, h134, hb138] | (simp [h105, h134, hb138]; omega)), (H103.fix (i := 1) rfl)⟩
         ·have hw135 := withinB_t hb138
          refine RL.go rfl rfl rfl (Ex.not (b := true) rfl) ?_
          refine RL.go rfl rfl rfl (Ex.pkF (v := (.bool false)) rfl rfl) ?_
          refine RL.nil (thn.n (CW.condF rfl (CW.skip (thn.n (CW.seq (CW.region ?_))))))
          refine RL.go rfl rfl rfl (Ex.as (v := (.int .i64 0)) rfl) ?_
          refine RL.nil (thn.n (CW.ret ?_))
          refine finQ.r (v := (.int .i64 0)) (res1 rfl rfl) ?_
          rw [List.take_of_length_le (by omega)] at hfo
          exact ⟨ret_int (by unfold vChkB; rw [hfo, ← hnx]; first | simp [h105, h134, hb138] | (simp [h105, h134, hb138]; omega)), (H103.fix (i := 1) rfl)⟩
    ·have hw96 := withinB_t hb99
     refine RL.go rfl rfl rfl (Ex.pkT (v := (.bool true)) rfl rfl) ?_
     refine RL.go rfl rfl rfl (Ex.mv (v := (.bool true)) rfl) ?_
     refine RL.go rfl rfl rfl (fa67_5 (b := ⟨b2, 5, none⟩) rfl rfl) ?_
     refine RL.go rfl rfl rfl (Ex.ldv rfl (loadC1 lo22 (Ob.cell (v := (.slice Ax nx cx)) (H7.ob (i := 0) rfl) rfl))) ?_
     refine RL.go rfl rfl rfl (Ex.len Tryz.underlying22 rfl) ?_
     refine RL.br (p := ((nx : Nat) : Int) ≤ (4000 : Int)) rfl rfl rfl (fun r hr => Ex.le rfl rfl hr) (fun h139 => ?_) (fun h139 => ?_)
     ·skip
      refine RL.go rfl rfl rfl (Ex.pkT (v := (.bool true)) rfl rfl) ?_
      refine RL.go rfl rfl rfl (Ex.mv (v := (.bool true)) rfl) ?_
      refine RL.go rfl rfl rfl (fa67_5 (b := ⟨b2, 5, none⟩) rfl rfl) ?_
      refine RL.go rfl rfl rfl (Ex.ldv rfl (loadC1 lo22 (Ob.cell (v := (.slice Ax nx cx)) (H7.ob (i := 0) rfl) rfl))) ?_
      refine RL.go rfl rfl rfl (fa67_2 (b := ⟨b2, 2, none⟩) rfl rfl) ?_
      refine RL.go rfl rfl rfl (Ex.ldv rfl (loadC1 lo3 (Ob.cell (v := (.int .i64 x.base)) (H7.ob (i := 0) rfl) rfl))) ?_
      refine RL.call Tryz.call88 (crow _ _ x.ents Ax nx cx x.base (hrx.st0 (H7.fix (i := 1) rfl)) (by omega) (by first | rfl | assumption | omega) (by omega)) rfl rfl rfl ?_
      rintro _ w140 ⟨rfl, g141⟩
      have H142 := H7.grow g141
      have z143 := g141.size
      rcases hb144 : (follB x.ents x.base) with _ | _
      ·skip
       refine RL.go rfl rfl rfl (Ex.pkT (v := (.bool false)) rfl rfl) ?_
       refine RL.go rfl rfl rfl (Ex.as (v := (.bool false)) rfl) ?_
       refine RL.nil (thn.n (CW.seq (CW.region ?_)))
       refine RL.go rfl rfl rfl (Ex.as (v := (.int .i64 0)) rfl) ?_
       refine RL.nil (thn.n (CW.seq (CW.seq (CW.region ?_))))
       refine RL.go rfl rfl rfl (fa67_5 (b := ⟨b2, 5, none⟩) rfl rfl) ?_
       refine RL.go rfl rfl rfl (Ex.ldv rfl (loadC1 lo22 (Ob.cell (v := (.slice Ax nx cx)) (H142.ob (i := 0) rfl) rfl))) ?_
       refine RL.go rfl rfl rfl (Ex.len Tryz.underlying22 rfl) ?_
       refine RL.go rfl rfl rfl (Ex.mv (v := (.int .i64 0)) rfl) ?_
       refine RL.nil (thn.n (CW.block ?_))
       have hhd : vHead x = false := by unfold vHead; rw [← hnx]; first | (simp only [hb12, hb55, hb99, h139, hb144]; rfl) | (simp [hb12, hb55, hb99, h139, hb144]; done) | (simp [hb12, hb55, hb99, h139, hb144]; omega) | (simp [hb12, hb55, hb99, h139, hb144]; intro _; omega)
       refine CW.loop (fun t => (Nat.ble 3 t && Nat.ble t 4) || Nat.beq t 6 || (Nat.ble 36 t && Nat.ble t 55)) (fun nL ρ wl => ∃ (i : Nat) (b : Bool) (vv : Int), ρ 36 = (.int .i64 (i : Int)) ∧ ρ 3 = (.bool b) ∧ ρ 4 = (.int .i64 vv) ∧ nL = nx - i ∧ Sp [BlkA b2 67 [(.int .i64 x.node), (.int .i64 x.normal), (.int .i64 x.base), (.int .i64 x.number), (.int .i64 x.commit), (.slice Ax nx cx)], Fix w NoB] wl ∧ i ≤ nx ∧ (x.ents.take i).foldl (chkStep x.normal) (vHead x, 0) = (b, vv)) (nx) ?aa0 ?bb0
       case aa0 =>
        exact ⟨0, false, 0, rfl, rfl, rfl, rfl, H142, Nat.zero_le _, by rw [hhd]; rfl⟩
       case bb0 =>
        rintro n146 ρ0 w145 ho147 ⟨i, b, vv, hs0_36, hs0_3, hs0_4, hn0, H148, hi, hfo⟩
        obtain ⟨j0, rfl⟩ := ho147.shape3 hs0_36 hs0_3 hs0_4
        clear ho147 hs0_36 hs0_3 hs0_4
        subst hn0
        have z149 := (H148.fix (i := 1) rfl).size
        refine CW.seq (CW.region ?_)
        refine RL.br (p := ((i : Int) : Int) < ((nx : Nat) : Int)) rfl rfl rfl (fun r hr => Ex.lt rfl rfl hr) (fun h150 => ?_) (fun h150 => ?_)
        ·skip
         refine RL.nil (thn.n (CW.seq (CW.condT rfl (CW.skip (thn.n (CW.seq (CW.block (CW.seq (CW.region ?_)))))))))
         obtain ⟨e151, he152⟩ : ∃ e, (x.ents)[i]? = some e := ⟨_, List.getElem?_eq_getElem (by omega)⟩
         obtain ⟨ad153, hA154⟩ := Rd.sm (hrx.st0 (H148.fix (i := 1) rfl)) (ents_get he152)
         have hl155 := Eng.lt_len (ents_get he152)
         refine RL.go rfl rfl rfl (Ex.ix (b := (ad153.add (i * 11))) (i := i) Tryz.underlying22 Tryz.sizeOf31 (by rw [← hA154]; rfl) rfl (by omega) (by omega) rfl) ?_
         refine RL.go rfl rfl rfl (Ex.ldv rfl (loadCN (cs := e151.cells) wh31 (Rd.cl (hrx.st0 (H148.fix (i := 1) rfl)) hA154 (ents_get he152)))) ?_
         refine RL.al (cs := [(.int .i64 0), (.int .i64 0), (.int .i64 0), (.int .i64 0), (.int .i64 0), (.int .i64 0), (.int .i64 0), (.int .i64 0), (.int .i64 0), (.int .i64 0), (.int .i64 0)]) Tryz.zeroValue31 rfl rfl rfl ?_
         intro w156 b157 hb158 hz159 g160 o161
         have H162 := H148.newB g160 o161 (by omega)
         have z163 := g160.size
         refine RL.st (vs := e151.cells) (cs' := e151.cells) Tryz.sizeOf31 (H162.ob (i := 0) rfl) rfl rfl rfl rfl rfl rfl ?_
         intro w164 hz165 g166 o167
         have H168 : Sp [BlkA b157 31 e151.cells, BlkA b2 67 [(.int .i64 x.node), (.int .i64 x.normal), (.int .i64 x.base), (.int .i64 x.number), (.int .i64 x.commit), (.slice Ax nx cx)], Fix w NoB] w164 := H162.setB (i := 0) rfl g166 o167 rfl
         have z169 := g166.size
         refine RL.nil (thn.n (CW.seq (CW.region ?_)))
         rcases b with _ | _
         ·skip
          refine RL.go rfl rfl rfl (Ex.mv (v := .bool false) rfl) ?_
          refine RL.go rfl rfl rfl (Ex.mv (v := (.bool false)) rfl) ?_
          refine RL.out rfl rfl rfl ?_
          refine RL.out rfl rfl rfl ?_
          refine RL.go rfl rfl rfl (Ex.pkF (v := (.bool false)) rfl rfl) ?_
          refine RL.go rfl rfl rfl (Ex.mv (v := (.bool false)) rfl) ?_
          refine RL.out rfl rfl rfl ?_
          refine RL.out rfl rfl rfl ?_
          refine RL.out rfl rfl rfl ?_
          refine RL.out rfl rfl rfl ?_
          refine RL.out rfl rfl rfl ?_
          refine RL.out rfl rfl rfl ?_
          refine RL.go rfl rfl rfl (Ex.pkF (v := (.bool false)) rfl rfl) ?_
          refine RL.go rfl rfl rfl (Ex.as (v := (.bool false)) rfl) ?_
          refine RL.nil (thn.n (CW.region ?_))
          refine RL.go rfl rfl rfl (fa31_1 (b := ⟨b157, 1, none⟩) rfl rfl) ?_
          refine RL.go rfl rfl rfl (Ex.ldv rfl (loadC1 lo3 (Ob.cell (v := (.int .i64 e151.view)) (H168.ob (i := 0) rfl) rfl))) ?_
          refine RL.go rfl rfl rfl (Ex.as (v := (.int .i64 e151.view)) rfl) ?_
          refine RL.nil (inB.n (thn.n (CW.region ?_)))
          refine RL.go rfl rfl rfl (Ex.add (r := (i : Int) + 1) rfl rfl (w64 (by omega) (by omega))) ?_
          refine RL.go rfl rfl rfl (Ex.mv (v := (.int .i64 ((i : Int) + 1))) rfl) ?_
          refine RL.nil (thn.n ?_)
          refine ⟨(by repeat (first | exact Out.mix _ _ | exact Out.refl _ _ | refine Out.up ?_ rfl _)), _, ?_, i + 1, false, e151.view, rfl, rfl, rfl, rfl, (H168.sel [1, 2] (by decide) rfl), by omega, by rw [chk_snoc hfo he152]; simp [h150]⟩
          omega
         ·skip
          refine RL.go rfl rfl rfl (Ex.mv (v := .bool true) rfl) ?_
          refine RL.go rfl rfl rfl (Ex.mv (v := (.bool true)) rfl) ?_
          refine RL.go rfl rfl rfl (Ex.ldv rfl (loadCN (cs := e151.cells) wh31 (H168.ob (i := 0) rfl).cl)) ?_
          refine RL.call Tryz.call97 (may_e _ e151) rfl rfl rfl ?_
          rintro _ w170 ⟨rfl, g171⟩
          have H172 := H168.grow g171
          have z173 := g171.size
          rcases hb174 : (mayE e151) with _ | _
          ·skip
           refine RL.go rfl rfl rfl (Ex.pkT (v := (.bool false)) rfl rfl) ?_
           refine RL.go rfl rfl rfl (Ex.mv (v := (.bool false)) rfl) ?_
           refine RL.out rfl rfl rfl ?_
           refine RL.out rfl rfl rfl ?_
           refine RL.out rfl rfl rfl ?_
           refine RL.out rfl rfl rfl ?_
           refine RL.out rfl rfl rfl ?_
           refine RL.out rfl rfl rfl ?_
           refine RL.go rfl rfl rfl (Ex.pkF (v := (.bool false)) rfl rfl) ?_
           refine RL.go rfl rfl rfl (Ex.as (v := (.bool false)) rfl) ?_
           refine RL.nil (thn.n (CW.region ?_))
           refine RL.go rfl rfl rfl (fa31_1 (b := ⟨b157, 1, none⟩) rfl rfl) ?_
           refine RL.go rfl rfl rfl (Ex.ldv rfl (loadC1 lo3 (Ob.cell (v := (.int .i64 e151.view)) (H172.ob (i := 0) rfl) rfl))) ?_
           refine RL.go rfl rfl rfl (Ex.as (v := (.int .i64 e151.view)) rfl) ?_
           refine RL.nil (inB.n (thn.n (CW.region ?_)))
           refine RL.go rfl rfl rfl (Ex.add (r := (i : Int) + 1) rfl rfl (w64 (by omega) (by omega))) ?_
           refine RL.go rfl rfl rfl (Ex.mv (v := (.int .i64 ((i : Int) + 1))) rfl) ?_
           refine RL.nil (thn.n ?_)
           refine ⟨(by repeat (first | exact Out.mix _ _ | exact Out.refl _ _ | refine Out.up ?_ rfl _)), _, ?_, i + 1, false, e151.view, rfl, rfl, rfl, rfl, (H172.sel [1, 2] (by decide) rfl), by omega, by rw [chk_snoc hfo he152]; simp [h150, hb174]⟩
           omega
          ·skip
           refine RL.go rfl rfl rfl (Ex.pkT (v := (.bool true)) rfl rfl) ?_
           refine RL.go rfl rfl rfl (Ex.mv (v := (.bool true)) rfl) ?_
           refine RL.go rfl rfl rfl (fa31_1 (b := ⟨b157, 1, none⟩) rfl rfl) ?_
           refine RL.go rfl rfl rfl (Ex.ldv rfl (loadC1 lo3 (Ob.cell (v := (.int .i64 e151.view)) (H172.ob (i := 0) rfl) rfl))) ?_
           refine RL.go rfl rfl rfl (Ex.mv (v := (.int .i64 vv)) rfl) ?_
           refine RL.go rfl rfl rfl (fa67_1 (b := ⟨b2, 1, none⟩) rfl rfl) ?_
           refine RL.go rfl rfl rfl (Ex.ldv rfl (loadC1 lo3 (Ob.cell (v := (.int .i64 x.normal)) (H172.ob (i := 1) rfl) rfl))) ?_
           refine RL.call Tryz.call87 (within_change _ e151.view vv x.normal) rfl rfl rfl ?_
           rintro _ _ ⟨rfl, rfl⟩
           rcases hb178 : (withinB e151.view vv x.normal) with _ | _
           ·skip
            refine RL.go rfl rfl rfl (Ex.pkT (v := (.bool false)) rfl rfl) ?_
            refine RL.go rfl rfl rfl (Ex.as (v := (.bool false)) rfl) ?_
            refine RL.nil (thn.n (CW.region ?_))
            refine RL.go rfl rfl rfl (fa31_1 (b := ⟨b157, 1, none⟩) rfl rfl) ?_
            refine RL.go rfl rfl rfl (Ex.ldv rfl (loadC1 lo3 (Ob.cell (v := (.int .i64 e151.view)) (H172.ob (i := 0) rfl) rfl))) ?_
            refine RL.go rfl rfl rfl (Ex.as (v := (.int .i64 e151.view)) rfl) ?_
            refine RL.nil (inB.n (thn.n (CW.region ?_)))
            refine RL.go rfl rfl rfl (Ex.add (r := (i : Int) + 1) rfl rfl (w64 (by omega) (by omega))) ?_
            refine RL.go rfl rfl rfl (Ex.mv (v := (.int .i64 ((i : Int) + 1))) rfl) ?_
            refine RL.nil (thn.n ?_)
            refine ⟨(by repeat (first | exact Out.mix _ _ | exact Out.refl _ _ | refine Out.up ?_ rfl _)), _, ?_, i + 1, false, e151.view, rfl, rfl, rfl, rfl, (H172.sel [1, 2] (by decide) rfl), by omega, by rw [chk_snoc hfo he152]; simp [h150, hb174, hb178]⟩
            omega
           ·have hw175 := withinB_t hb178
            refine RL.go rfl rfl rfl (Ex.pkT (v := (.bool true)) rfl rfl) ?_
            refine RL.go rfl rfl rfl (Ex.as (v := (.bool true)) rfl) ?_
            refine RL.nil (thn.n (CW.region ?_))
            refine RL.go rfl rfl rfl (fa31_1 (b := ⟨b157, 1, none⟩) rfl rfl) ?_
            refine RL.go rfl rfl rfl (Ex.ldv rfl (loadC1 lo3 (Ob.cell (v := (.int .i64 e151.view)) (H172.ob (i := 0) rfl) rfl))) ?_
            refine RL.go rfl rfl rfl (Ex.as (v := (.int .i64 e151.view)) rfl) ?_
            refine RL.nil (inB.n (thn.n (CW.region ?_)))
            refine RL.go rfl rfl rfl (Ex.add (r := (i : Int) + 1) rfl rfl (w64 (by omega) (by omega))) ?_
            refine RL.go rfl rfl rfl (Ex.mv (v := (.int .i64 ((i : Int) + 1))) rfl) ?_
            refine RL.nil (thn.n ?_)
            refine ⟨(by repeat (first | exact Out.mix _ _ | exact Out.refl _ _ | refine Out.up ?_ rfl _)), _, ?_, i + 1, true, e151.view, rfl, rfl, rfl, rfl, (H172.sel [1, 2] (by decide) rfl), by omega, by rw [chk_snoc hfo he152]; simp [h150, hb174, hb178]⟩
            omega
        ·skip
         refine RL.nil (thn.n (CW.seq (CW.condF rfl (CW.exit (thn.x (thn.x (inB.hit (thn.n (CW.seq (CW.seq (CW.region ?_)))))))))))
         rcases b with _ | _
         ·skip
          refine RL.go rfl rfl rfl (Ex.mv (v := .bool false) rfl) ?_
          refine RL.go rfl rfl rfl (Ex.not (b := false) rfl) ?_
          refine RL.go rfl rfl rfl (Ex.mv (v := (.bool true)) rfl) ?_
          refine RL.out rfl rfl rfl ?_
          refine RL.out rfl rfl rfl ?_
          refine RL.out rfl rfl rfl ?_
          refine RL.out rfl rfl rfl ?_
          refine RL.out rfl rfl rfl ?_
          refine RL.out rfl rfl rfl ?_
          refine RL.out rfl rfl rfl ?_
          refine RL.out rfl rfl rfl ?_
          refine RL.out rfl rfl rfl ?_
          refine RL.go rfl rfl rfl (Ex.pkT (v := (.bool true)) rfl rfl) ?_
          refine RL.go rfl rfl rfl (Ex.mv (v := (.bool true)) rfl) ?_
          refine RL.out rfl rfl rfl ?_
          refine RL.out rfl rfl rfl ?_
          refine RL.out rfl rfl rfl ?_
          refine RL.out rfl rfl rfl ?_
          refine RL.out rfl rfl rfl ?_
          refine RL.out rfl rfl rfl ?_
          refine RL.out rfl rfl rfl ?_
          refine RL.out rfl rfl rfl ?_
          refine RL.go rfl rfl rfl (Ex.pkT (v := (.bool true)) rfl rfl) ?_
          refine RL.nil (thn.n (CW.condT rfl (CW.seq (CW.region ?_))))
          refine RL.go rfl rfl rfl (Ex.as (v := (.int .i64 150)) rfl) ?_
          refine RL.nil (thn.n (CW.ret (thn.r ?_)))
          refine finQ.r (v := (.int .i64 150)) (res1 rfl rfl) ?_
          rw [List.take_of_length_le (by omega)] at hfo
          exact ⟨ret_int (by unfold vChkB; rw [hfo, ← hnx]; first | simp [h150] | (simp [h150]; omega)), (H148.fix (i := 1) rfl)⟩
         ·skip
          have hvb := vHead_base (chk_head hfo)
          refine RL.go rfl rfl rfl (Ex.mv (v := .bool true) rfl) ?_
          refine RL.go rfl rfl rfl (Ex.not (b := true) rfl) ?_
          refine RL.go rfl rfl rfl (Ex.mv (v := (.bool false)) rfl) ?_
          refine RL.go rfl rfl rfl (fa67_3 (b := ⟨b2, 3, none⟩) rfl rfl) ?_
          refine RL.go rfl rfl rfl (Ex.ldv rfl (loadC1 lo3 (Ob.cell (v := (.int .i64 x.number)) (H148.ob (i := 0) rfl) rfl))) ?_
          refine RL.go rfl rfl rfl (fa67_2 (b := ⟨b2, 2, none⟩) rfl rfl) ?_
          refine RL.go rfl rfl rfl (Ex.ldv rfl (loadC1 lo3 (Ob.cell (v := (.int .i64 x.base)) (H148.ob (i := 0) rfl) rfl))) ?_
          refine RL.go rfl rfl rfl (fa67_5 (b := ⟨b2, 5, none⟩) rfl rfl) ?_
          refine RL.go rfl rfl rfl (Ex.ldv rfl (loadC1 lo22 (Ob.cell (v := (.slice Ax nx cx)) (H148.ob (i := 0) rfl) rfl))) ?_
          refine RL.go rfl rfl rfl (Ex.len Tryz.underlying22 rfl) ?_
          refine RL.go rfl rfl rfl (Ex.add (r := x.base + (nx : Nat)) rfl rfl (w64 (by omega) (by omega))) ?_
          refine RL.br (p := (x.number : Int) ≠ (x.base + (nx : Nat) : Int)) rfl rfl rfl (fun r hr => Ex.neD rfl rfl hr) (fun h179 => ?_) (fun h179 => ?_)
          ·skip
           refine RL.go rfl rfl rfl (Ex.pkF (v := (.bool true)) rfl rfl) ?_
           refine RL.go rfl rfl rfl (Ex.mv (v := (.bool true)) rfl) ?_
           refine RL.out rfl rfl rfl ?_
           refine RL.out rfl rfl rfl ?_
           refine RL.out rfl rfl rfl ?_
           refine RL.out rfl rfl rfl ?_
           refine RL.out rfl rfl rfl ?_
           refine RL.out rfl rfl rfl ?_
           refine RL.out rfl rfl rfl ?_
           refine RL.out rfl rfl rfl ?_
           refine RL.go rfl rfl rfl (Ex.pkT (v := (.bool true)) rfl rfl) ?_
           refine RL.nil (thn.n (CW.condT rfl (CW.seq (CW.region ?_))))
           refine RL.go rfl rfl rfl (Ex.as (v := (.int .i64 150)) rfl) ?_
           refine RL.nil (thn.n (CW.ret (thn.r ?_)))
           refine finQ.r (v := (.int .i64 150)) (res1 rfl rfl) ?_
           rw [List.take_of_length_le (by omega)] at hfo
           exact ⟨ret_int (by unfold vChkB; rw [hfo, ← hnx]; first | simp [h150, h179] | (simp [h150, h179]; omega)), (H148.fix (i := 1) rfl)⟩
          ·skip
           refine RL.go rfl rfl rfl (Ex.pkF (v := (.bool false)) rfl rfl) ?_
           refine RL.go rfl rfl rfl (Ex.mv (v := (.bool false)) rfl) ?_
           refine RL.go rfl rfl rfl (fa67_4 (b := ⟨b2, 4, none⟩) rfl rfl) ?_
           refine RL.go rfl rfl rfl (Ex.ldv rfl (loadC1 lo3 (Ob.cell (v := (.int .i64 x.commit)) (H148.ob (i := 0) rfl) rfl))) ?_
           refine RL.go rfl rfl rfl (fa67_2 (b := ⟨b2, 2, none⟩) rfl rfl) ?_
           refine RL.go rfl rfl rfl (Ex.ldv rfl (loadC1 lo3 (Ob.cell (v := (.int .i64 x.base)) (H148.ob (i := 0) rfl) rfl))) ?_
           refine RL.go rfl rfl rfl (fa67_3 (b := ⟨b2, 3, none⟩) rfl rfl) ?_
           refine RL.go rfl rfl rfl (Ex.ldv rfl (loadC1 lo3 (Ob.cell (v := (.int .i64 x.number)) (H148.ob (i := 0) rfl) rfl))) ?_
           refine RL.call Tryz.call87 (within_change _ x.commit x.base x.number) rfl rfl rfl ?_
           rintro _ _ ⟨rfl, rfl⟩
           rcases hb183 : (withinB x.commit x.base x.number) with _ | _
           ·skip
            refine RL.go rfl rfl rfl (Ex.not (b := false) rfl) ?_
            refine RL.go rfl rfl rfl (Ex.pkF (v := (.bool true)) rfl rfl) ?_
            refine RL.nil (thn.n (CW.condT rfl (CW.seq (CW.region ?_))))
            refine RL.go rfl rfl rfl (Ex.as (v := (.int .i64 150)) rfl) ?_
            refine RL.nil (thn.n (CW.ret (thn.r ?_)))
            refine finQ.r (v := (.int .i64 150)) (res1 rfl rfl) ?_
            rw [List.take_of_length_le (by omega)] at hfo
            exact ⟨ret_int (by unfold vChkB; rw [hfo, ← hnx]; first | simp [h150, h179, hb183] | (simp [h150, h179, hb183]; omega)), (H148.fix (i := 1) rfl)⟩
           ·have hw180 := withinB_t hb183
            refine RL.go rfl rfl rfl (Ex.not (b := true) rfl) ?_
            refine RL.go rfl rfl rfl (Ex.pkF (v := (.bool false)) rfl rfl) ?_
            refine RL.nil (thn.n (CW.condF rfl (CW.skip (thn.n (CW.seq (CW.region ?_))))))
            refine RL.go rfl rfl rfl (Ex.as (v := (.int .i64 0)) rfl) ?_
            refine RL.nil (thn.n (CW.ret ?_))
            refine finQ.r (v := (.int .i64 0)) (res1 rfl rfl) ?_
            rw [List.take_of_length_le (by omega)] at hfo
            exact ⟨ret_int (by unfold vChkB; rw [hfo, ← hnx]; first | simp [h150, h179, hb183] | (simp [h150, h179, hb183]; omega)), (H148.fix (i := 1) rfl)⟩
      ·skip
       refine RL.go rfl rfl rfl (Ex.pkT (v := (.bool true)) rfl rfl) ?_
       refine RL.go rfl rfl rfl (Ex.as (v := (.bool true)) rfl) ?_
       refine RL.nil (thn.n (CW.seq (CW.region ?_)))
       refine RL.go rfl rfl rfl (Ex.as (v := (.int .i64 0)) rfl) ?_
       refine RL.nil (thn.n (CW.seq (CW.seq (CW.region ?_))))
       refine RL.go rfl rfl rfl (fa67_5 (b := ⟨b2, 5, none⟩) rfl rfl) ?_
       refine RL.go rfl rfl rfl (Ex.ldv rfl (loadC1 lo22 (Ob.cell (v := (.slice Ax nx cx)) (H142.ob (i := 0) rfl) rfl))) ?_
       refine RL.go rfl rfl rfl (Ex.len Tryz.underlying22 rfl) ?_
       refine RL.go rfl rfl rfl (Ex.mv (v := (.int .i64 0)) rfl) ?_
       refine RL.nil (thn.n (CW.block ?_))
       have hhd : vHead x = true := by unfold vHead; rw [← hnx]; first | (simp only [hb12, hb55, hb99, h139, hb144]; rfl) | (simp [hb12, hb55, hb99, h139, hb144]; done) | (simp [hb12, hb55, hb99, h139, hb144]; omega) | (simp [hb12, hb55, hb99, h139, hb144]; intro _; omega)
       refine CW.loop (fun t => (Nat.ble 3 t && Nat.ble t 4) || Nat.beq t 6 || (Nat.ble 36 t && Nat.ble t 55)) (fun nL ρ wl => ∃ (i : Nat) (b : Bool) (vv : Int), ρ 36 = (.int .i64 (i : Int)) ∧ ρ 3 = (.bool b) ∧ ρ 4 = (.int .i64 vv) ∧ nL = nx - i ∧ Sp [BlkA b2 67 [(.int .i64 x.node), (.int .i64 x.normal), (.int .i64 x.base), (.int .i64 x.number), (.int .i64 x.commit), (.slice Ax nx cx)], Fix w NoB] wl ∧ i ≤ nx ∧ (x.ents.take i).foldl (chkStep x.normal) (vHead x, 0) = (b, vv)) (nx) ?aa0 ?bb0
       case aa0 =>
        exact ⟨0, true, 0, rfl, rfl, rfl, rfl, H142, Nat.zero_le _, by rw [hhd]; rfl⟩
       case bb0 =>
        rintro n185 ρ0 w184 ho186 ⟨i, b, vv, hs0_36, hs0_3, hs0_4, hn0, H187, hi, hfo⟩
        obtain ⟨j0, rfl⟩ := ho186.shape3 hs0_36 hs0_3 hs0_4
        clear ho186 hs0_36 hs0_3 hs0_4
        subst hn0
        have z188 := (H187.fix (i := 1) rfl).size
        refine CW.seq (CW.region ?_)
        refine RL.br (p := ((i : Int) : Int) < ((nx : Nat) : Int)) rfl rfl rfl (fun r hr => Ex.lt rfl rfl hr) (fun h189 => ?_) (fun h189 => ?_)
        ·skip
         refine RL.nil (thn.n (CW.seq (CW.condT rfl (CW.skip (thn.n (CW.seq (CW.block (CW.seq (CW.region ?_)))))))))
         obtain ⟨e190, he191⟩ : ∃ e, (x.ents)[i]? = some e := ⟨_, List.getElem?_eq_getElem (by omega)⟩
         obtain ⟨ad192, hA193⟩ := Rd.sm (hrx.st0 (H187.fix (i := 1) rfl)) (ents_get he191)
         have hl194 := Eng.lt_len (ents_get he191)
         refine RL.go rfl rfl rfl (Ex.ix (b := (ad192.add (i * 11))) (i := i) Tryz.underlying22 Tryz.sizeOf31 (by rw [← hA193]; rfl) rfl (by omega) (by omega) rfl) ?_
         refine RL.go rfl rfl rfl (Ex.ldv rfl (loadCN (cs := e190.cells) wh31 (Rd.cl (hrx.st0 (H187.fix (i := 1) rfl)) hA193 (ents_get he191)))) ?_
         refine RL.al (cs := [(.int .i64 0), (.int .i64 0), (.int .i64 0), (.int .i64 0), (.int .i64 0), (.int .i64 0), (.int .i64 0), (.int .i64 0), (.int .i64 0), (.int .i64 0), (.int .i64 0)]) Tryz.zeroValue31 rfl rfl rfl ?_
         intro w195 b196 hb197 hz198 g199 o200
         have H201 := H187.newB g199 o200 (by omega)
         have z202 := g199.size
         refine RL.st (vs := e190.cells) (cs' := e190.cells) Tryz.sizeOf31 (H201.ob (i := 0) rfl) rfl rfl rfl rfl rfl rfl ?_
         intro w203 hz204 g205 o206
         have H207 : Sp [BlkA b196 31 e190.cells, BlkA b2 67 [(.int .i64 x.node), (.int .i64 x.normal), (.int .i64 x.base), (.int .i64 x.number), (.int .i64 x.commit), (.slice Ax nx cx)], Fix w NoB] w203 := H201.setB (i := 0) rfl g205 o206 rfl
         have z208 := g205.size
         refine RL.nil (thn.n (CW.seq (CW.region ?_)))
         rcases b with _ | _
         ·skip
          refine RL.go rfl rfl rfl (Ex.mv (v := .bool false) rfl) ?_
          refine RL.go rfl rfl rfl (Ex.mv (v := (.bool false)) rfl) ?_
          refine RL.out rfl rfl rfl ?_
          refine RL.out rfl rfl rfl ?_
          refine RL.go rfl rfl rfl (Ex.pkF (v := (.bool false)) rfl rfl) ?_
          refine RL.go rfl rfl rfl (Ex.mv (v := (.bool false)) rfl) ?_
          refine RL.out rfl rfl rfl ?_
          refine RL.out rfl rfl rfl ?_
          refine RL.out rfl rfl rfl ?_
          refine RL.out rfl rfl rfl ?_
          refine RL.out rfl rfl rfl ?_
          refine RL.out rfl rfl rfl ?_
          refine RL.go rfl rfl rfl (Ex.pkF (v := (.bool false)) rfl rfl) ?_
          refine RL.go rfl rfl rfl (Ex.as (v := (.bool false)) rfl) ?_
          refine RL.nil (thn.n (CW.region ?_))
          refine RL.go rfl rfl rfl (fa31_1 (b := ⟨b196, 1, none⟩) rfl rfl) ?_
          refine RL.go rfl rfl rfl (Ex.ldv rfl (loadC1 lo3 (Ob.cell (v := (.int .i64 e190.view)) (H207.ob (i := 0) rfl) rfl))) ?_
          refine RL.go rfl rfl rfl (Ex.as (v := (.int .i64 e190.view)) rfl) ?_
          refine RL.nil (inB.n (thn.n (CW.region ?_)))
          refine RL.go rfl rfl rfl (Ex.add (r := (i : Int) + 1) rfl rfl (w64 (by omega) (by omega))) ?_
          refine RL.go rfl rfl rfl (Ex.mv (v := (.int .i64 ((i : Int) + 1))) rfl) ?_
          refine RL.nil (thn.n ?_)
          refine ⟨(by repeat (first | exact Out.mix _ _ | exact Out.refl _ _ | refine Out.up ?_ rfl _)), _, ?_, i + 1, false, e190.view, rfl, rfl, rfl, rfl, (H207.sel [1, 2] (by decide) rfl), by omega, by rw [chk_snoc hfo he191]; simp [h189]⟩
          omega
         ·skip
          refine RL.go rfl rfl rfl (Ex.mv (v := .bool true) rfl) ?_
          refine RL.go rfl rfl rfl (Ex.mv (v := (.bool true)) rfl) ?_
          refine RL.go rfl rfl rfl (Ex.ldv rfl (loadCN (cs := e190.cells) wh31 (H207.ob (i := 0) rfl).cl)) ?_
          refine RL.call Tryz.call97 (may_e _ e190) rfl rfl rfl ?_
          rintro _ w209 ⟨rfl, g210⟩
          have H211 := H207.grow g210
          have z212 := g210.size
          rcases hb213 : (mayE e190) with _ | _
          ·skip
           refine RL.go rfl rfl rfl (Ex.pkT (v := (.bool false)) rfl rfl) ?_
           refine RL.go rfl rfl rfl (Ex.mv (v := (.bool false)) rfl) ?_
           refine RL.out rfl rfl rfl ?_
           refine RL.out rfl rfl rfl ?_
           refine RL.out rfl rfl rfl ?_
           refine RL.out rfl rfl rfl ?_
           refine RL.out rfl rfl rfl ?_
           refine RL.out rfl rfl rfl ?_
           refine RL.go rfl rfl rfl (Ex.pkF (v := (.bool false)) rfl rfl) ?_
           refine RL.go rfl rfl rfl (Ex.as (v := (.bool false)) rfl) ?_
           refine RL.nil (thn.n (CW.region ?_))
           refine RL.go rfl rfl rfl (fa31_1 (b := ⟨b196, 1, none⟩) rfl rfl) ?_
           refine RL.go rfl rfl rfl (Ex.ldv rfl (loadC1 lo3 (Ob.cell (v := (.int .i64 e190.view)) (H211.ob (i := 0) rfl) rfl))) ?_
           refine RL.go rfl rfl rfl (Ex.as (v := (.int .i64 e190.view)) rfl) ?_
           refine RL.nil (inB.n (thn.n (CW.region ?_)))
           refine RL.go rfl rfl rfl (Ex.add (r := (i : Int) + 1) rfl rfl (w64 (by omega) (by omega))) ?_
           refine RL.go rfl rfl rfl (Ex.mv (v := (.int .i64 ((i : Int) + 1))) rfl) ?_
           refine RL.nil (thn.n ?_)
           refine ⟨(by repeat (first | exact Out.mix _ _ | exact Out.refl _ _ | refine Out.up ?_ rfl _)), _, ?_, i + 1, false, e190.view, rfl, rfl, rfl, rfl, (H211.sel [1, 2] (by decide) rfl), by omega, by rw [chk_snoc hfo he191]; simp [h189, hb213]⟩
           omega
          ·skip
           refine RL.go rfl rfl rfl (Ex.pkT (v := (.bool true)) rfl rfl) ?_
           refine RL.go rfl rfl rfl (Ex.mv (v := (.bool true)) rfl) ?_
           refine RL.go rfl rfl rfl (fa31_1 (b := ⟨b196, 1, none⟩) rfl rfl) ?_
           refine RL.go rfl rfl rfl (Ex.ldv rfl (loadC1 lo3 (Ob.cell (v := (.int .i64 e190.view)) (H211.ob (i := 0) rfl) rfl))) ?_
           refine RL.go rfl rfl rfl (Ex.mv (v := (.int .i64 vv)) rfl) ?_
           refine RL.go rfl rfl rfl (fa67_1 (b := ⟨b2, 1, none⟩) rfl rfl) ?_
           refine RL.go rfl rfl rfl (Ex.ldv rfl (loadC1 lo3 (Ob.cell (v := (.int .i64 x.normal)) (H211.ob (i := 1) rfl) rfl))) ?_
           refine RL.call Tryz.call87 (within_change _ e190.view vv x.normal) rfl rfl rfl ?_
           rintro _ _ ⟨rfl, rfl⟩
           rcases hb217 : (withinB e190.view vv x.normal) with _ | _
           ·skip
            refine RL.go rfl rfl rfl (Ex.pkT (v := (.bool false)) rfl rfl) ?_
            refine RL.go rfl rfl rfl (Ex.as (v := (.bool false)) rfl) ?_
            refine RL.nil (thn.n (CW.region ?_))
            refine RL.go rfl rfl rfl (fa31_1 (b := ⟨b196, 1, none⟩) rfl rfl) ?_
            refine RL.go rfl rfl rfl (Ex.ldv rfl (loadC1 lo3 (Ob.cell (v := (.int .i64 e190.view)) (H211.ob (i := 0) rfl) rfl))) ?_
            refine RL.go rfl rfl rfl (Ex.as (v := (.int .i64 e190.view)) rfl) ?_
            refine RL.nil (inB.n (thn.n (CW.region ?_)))
            refine RL.go rfl rfl rfl (Ex.add (r := (i : Int) + 1) rfl rfl (w64 (by omega) (by omega))) ?_
            refine RL.go rfl rfl rfl (Ex.mv (v := (.int .i64 ((i : Int) + 1))) rfl) ?_
            refine RL.nil (thn.n ?_)
            refine ⟨(by repeat (first | exact Out.mix _ _ | exact Out.refl _ _ | refine Out.up ?_ rfl _)), _, ?_, i + 1, false, e190.view, rfl, rfl, rfl, rfl, (H211.sel [1, 2] (by decide) rfl), by omega, by rw [chk_snoc hfo he191]; simp [h189, hb213, hb217]⟩
            omega
           ·have hw214 := withinB_t hb217
            refine RL.go rfl rfl rfl (Ex.pkT (v := (.bool true)) rfl rfl) ?_
            refine RL.go rfl rfl rfl (Ex.as (v := (.bool true)) rfl) ?_
            refine RL.nil (thn.n (CW.region ?_))
            refine RL.go rfl rfl rfl (fa31_1 (b := ⟨b196, 1, none⟩) rfl rfl) ?_
            refine RL.go rfl rfl rfl (Ex.ldv rfl (loadC1 lo3 (Ob.cell (v := (.int .i64 e190.view)) (H211.ob (i := 0) rfl) rfl))) ?_
            refine RL.go rfl rfl rfl (Ex.as (v := (.int .i64 e190.view)) rfl) ?_
            refine RL.nil (inB.n (thn.n (CW.region ?_)))
            refine RL.go rfl rfl rfl (Ex.add (r := (i : Int) + 1) rfl rfl (w64 (by omega) (by omega))) ?_
            refine RL.go rfl rfl rfl (Ex.mv (v := (.int .i64 ((i : Int) + 1))) rfl) ?_
            refine RL.nil (thn.n ?_)
            refine ⟨(by repeat (first | exact Out.mix _ _ | exact Out.refl _ _ | refine Out.up ?_ rfl _)), _, ?_, i + 1, true, e190.view, rfl, rfl, rfl, rfl, (H211.sel [1, 2] (by decide) rfl), by omega, by rw [chk_snoc hfo he191]; simp [h189, hb213, hb217]⟩
            omega
        ·skip
         refine RL.nil (thn.n (CW.seq (CW.condF rfl (CW.exit (thn.x (thn.x (inB.hit (thn.n (CW.seq (CW.seq (CW.region ?_)))))))))))
         rcases b with _ | _
         ·skip
          refine RL.go rfl rfl rfl (Ex.mv (v := .bool false) rfl) ?_
          refine RL.go rfl rfl rfl (Ex.not (b := false) rfl) ?_
          refine RL.go rfl rfl rfl (Ex.mv (v := (.bool true)) rfl) ?_
          refine RL.out rfl rfl rfl ?_
          refine RL.out rfl rfl rfl ?_
          refine RL.out rfl rfl rfl ?_
          refine RL.out rfl rfl rfl ?_
          refine RL.out rfl rfl rfl ?_
          refine RL.out rfl rfl rfl ?_
          refine RL.out rfl rfl rfl ?_
          refine RL.out rfl rfl rfl ?_
          refine RL.out rfl rfl rfl ?_
          refine RL.go rfl rfl rfl (Ex.pkT (v := (.bool true)) rfl rfl) ?_
          refine RL.go rfl rfl rfl (Ex.mv (v := (.bool true)) rfl) ?_
          refine RL.out rfl rfl rfl ?_
          refine RL.out rfl rfl rfl ?_
          refine RL.out rfl rfl rfl ?_
          refine RL.out rfl rfl rfl ?_
          refine RL.out rfl rfl rfl ?_
          refine RL.out rfl rfl rfl ?_
          refine RL.out rfl rfl rfl ?_
          refine RL.out rfl rfl rfl ?_
          refine RL.go rfl rfl rfl (Ex.pkT (v := (.bool true)) rfl rfl) ?_
          refine RL.nil (thn.n (CW.condT rfl (CW.seq (CW.region ?_))))
          refine RL.go rfl rfl rfl (Ex.as (v := (.int .i64 150)) rfl) ?_
          refine RL.nil (thn.n (CW.ret (thn.r ?_)))
          refine finQ.r (v := (.int .i64 150)) (res1 rfl rfl) ?_
          rw [List.take_of_length_le (by omega)] at hfo
          exact ⟨ret_int (by unfold vChkB; rw [hfo, ← hnx]; first | simp [h189] | (simp [h189]; omega)), (H187.fix (i := 1) rfl)⟩
         ·skip
          have hvb := vHead_base (chk_head hfo)
          refine RL.go rfl rfl rfl (Ex.mv (v := .bool true) rfl) ?_
          refine RL.go rfl rfl rfl (Ex.not (b := true) rfl) ?_
          refine RL.go rfl rfl rfl (Ex.mv (v := (.bool false)) rfl) ?_
          refine RL.go rfl rfl rfl (fa67_3 (b := ⟨b2, 3, none⟩) rfl rfl) ?_
          refine RL.go rfl rfl rfl (Ex.ldv rfl (loadC1 lo3 (Ob.cell (v := (.int .i64 x.number)) (H187.ob (i := 0) rfl) rfl))) ?_
          refine RL.go rfl rfl rfl (fa67_2 (b := ⟨b2, 2, none⟩) rfl rfl) ?_
          refine RL.go rfl rfl rfl (Ex.ldv rfl (loadC1 lo3 (Ob.cell (v := (.int .i64 x.base)) (H187.ob (i := 0) rfl) rfl))) ?_
          refine RL.go rfl rfl rfl (fa67_5 (b := ⟨b2, 5, none⟩) rfl rfl) ?_
          refine RL.go rfl rfl rfl (Ex.ldv rfl (loadC1 lo22 (Ob.cell (v := (.slice Ax nx cx)) (H187.ob (i := 0) rfl) rfl))) ?_
          refine RL.go rfl rfl rfl (Ex.len Tryz.underlying22 rfl) ?_
          refine RL.go rfl rfl rfl (Ex.add (r := x.base + (nx : Nat)) rfl rfl (w64 (by omega) (by omega))) ?_
          refine RL.br (p := (x.number : Int) ≠ (x.base + (nx : Nat) : Int)) rfl rfl rfl (fun r hr => Ex.neD rfl rfl hr) (fun h218 => ?_) (fun h218 => ?_)
          ·skip
           refine RL.go rfl rfl rfl (Ex.pkF (v := (.bool true)) rfl rfl) ?_
           refine RL.go rfl rfl rfl (Ex.mv (v := (.bool true)) rfl) ?_
           refine RL.out rfl rfl rfl ?_
           refine RL.out rfl rfl rfl ?_
           refine RL.out rfl rfl rfl ?_
           refine RL.out rfl rfl rfl ?_
           refine RL.out rfl rfl rfl ?_
           refine RL.out rfl rfl rfl ?_
           refine RL.out rfl rfl rfl ?_
           refine RL.out rfl rfl rfl ?_
           refine RL.go rfl rfl rfl (Ex.pkT (v := (.bool true)) rfl rfl) ?_
           refine RL.nil (thn.n (CW.condT rfl (CW.seq (CW.region ?_))))
           refine RL.go rfl rfl rfl (Ex.as (v := (.int .i64 150)) rfl) ?_
           refine RL.nil (thn.n (CW.ret (thn.r ?_)))
           refine finQ.r (v := (.int .i64 150)) (res1 rfl rfl) ?_
           rw [List.take_of_length_le (by omega)] at hfo
           exact ⟨ret_int (by unfold vChkB; rw [hfo, ← hnx]; first | simp [h189, h218] | (simp [h189, h218]; omega)), (H187.fix (i := 1) rfl)⟩
          ·skip
           refine RL.go rfl rfl rfl (Ex.pkF (v := (.bool false)) rfl rfl) ?_
           refine RL.go rfl rfl rfl (Ex.mv (v := (.bool false)) rfl) ?_
           refine RL.go rfl rfl rfl (fa67_4 (b := ⟨b2, 4, none⟩) rfl rfl) ?_
           refine RL.go rfl rfl rfl (Ex.ldv rfl (loadC1 lo3 (Ob.cell (v := (.int .i64 x.commit)) (H187.ob (i := 0) rfl) rfl))) ?_
           refine RL.go rfl rfl rfl (fa67_2 (b := ⟨b2, 2, none⟩) rfl rfl) ?_
           refine RL.go rfl rfl rfl (Ex.ldv rfl (loadC1 lo3 (Ob.cell (v := (.int .i64 x.base)) (H187.ob (i := 0) rfl) rfl))) ?_
           refine RL.go rfl rfl rfl (fa67_3 (b := ⟨b2, 3, none⟩) rfl rfl) ?_
           refine RL.go rfl rfl rfl (Ex.ldv rfl (loadC1 lo3 (Ob.cell (v := (.int .i64 x.number)) (H187.ob (i := 0) rfl) rfl))) ?_
           refine RL.call Tryz.call87 (within_change _ x.commit x.base x.number) rfl rfl rfl ?_
           rintro _ _ ⟨rfl, rfl⟩
           rcases hb222 : (withinB x.commit x.base x.number) with _ | _
           ·skip
            refine RL.go rfl rfl rfl (Ex.not (b := false) rfl) ?_
            refine RL.go rfl rfl rfl (Ex.pkF (v := (.bool true)) rfl rfl) ?_
            refine RL.nil (thn.n (CW.condT rfl (CW.seq (CW.region ?_))))
            refine RL.go rfl rfl rfl (Ex.as (v := (.int .i64 150)) rfl) ?_
            refine RL.nil (thn.n (CW.ret (thn.r ?_)))
            refine finQ.r (v := (.int .i64 150)) (res1 rfl rfl) ?_
            rw [List.take_of_length_le (by omega)] at hfo
            exact ⟨ret_int (by unfold vChkB; rw [hfo, ← hnx]; first | simp [h189, h218, hb222] | (simp [h189, h218, hb222]; omega)), (H187.fix (i := 1) rfl)⟩
           ·have hw219 := withinB_t hb222
            refine RL.go rfl rfl rfl (Ex.not (b := true) rfl) ?_
            refine RL.go rfl rfl rfl (Ex.pkF (v := (.bool false)) rfl rfl) ?_
            refine RL.nil (thn.n (CW.condF rfl (CW.skip (thn.n (CW.seq (CW.region ?_))))))
            refine RL.go rfl rfl rfl (Ex.as (v := (.int .i64 0)) rfl) ?_
            refine RL.nil (thn.n (CW.ret ?_))
            refine finQ.r (v := (.int .i64 0)) (res1 rfl rfl) ?_
            rw [List.take_of_length_le (by omega)] at hfo
            exact ⟨ret_int (by unfold vChkB; rw [hfo, ← hnx]; first | simp [h189, h218, hb222] | (simp [h189, h218, hb222]; omega)), (H187.fix (i := 1) rfl)⟩
     ·skip
      refine RL.go rfl rfl rfl (Ex.pkT (v := (.bool false)) rfl rfl) ?_
      refine RL.go rfl rfl rfl (Ex.mv (v := (.bool false)) rfl) ?_
      refine RL.out rfl rfl rfl ?_
      refine RL.out rfl rfl rfl ?_
      refine RL.out rfl rfl rfl ?_
      refine RL.out rfl rfl rfl ?_
      refine RL.out rfl rfl rfl ?_
      refine RL.go rfl rfl rfl (Ex.pkF (v := (.bool false)) rfl rfl) ?_
      refine RL.go rfl rfl rfl (Ex.as (v := (.bool false)) rfl) ?_
      refine RL.nil (thn.n (CW.seq (CW.region ?_)))
      refine RL.go rfl rfl rfl (Ex.as (v := (.int .i64 0)) rfl) ?_
      refine RL.nil (thn.n (CW.seq (CW.seq (CW.region ?_))))
      refine RL.go rfl rfl rfl (fa67_5 (b := ⟨b2, 5, none⟩) rfl rfl) ?_
      refine RL.go rfl rfl rfl (Ex.ldv rfl (loadC1 lo22 (Ob.cell (v := (.slice Ax nx cx)) (H7.ob (i := 0) rfl) rfl))) ?_
      refine RL.go rfl rfl rfl (Ex.len Tryz.underlying22 rfl) ?_
      refine RL.go rfl rfl rfl (Ex.mv (v := (.int .i64 0)) rfl) ?_
      refine RL.nil (thn.n (CW.block ?_))
      have hhd : vHead x = false := by unfold vHead; rw [← hnx]; first | (simp only [hb12, hb55, hb99, h139]; rfl) | (simp [hb12, hb55, hb99, h139]; done) | (simp [hb12, hb55, hb99, h139]; omega) | (simp [hb12, hb55, hb99, h139]; intro _; omega)
      refine CW.loop (fun t => (Nat.ble 3 t && Nat.ble t 4) || Nat.beq t 6 || (Nat.ble 36 t && Nat.ble t 55)) (fun nL ρ wl => ∃ (i : Nat) (b : Bool) (vv : Int), ρ 36 = (.int .i64 (i : Int)) ∧ ρ 3 = (.bool b) ∧ ρ 4 = (.int .i64 vv) ∧ nL = nx - i ∧ Sp [BlkA b2 67 [(.int .i64 x.node), (.int .i64 x.normal), (.int .i64 x.base), (.int .i64 x.number), (.int .i64 x.commit), (.slice Ax nx cx)], Fix w NoB] wl ∧ i ≤ nx ∧ (x.ents.take i).foldl (chkStep x.normal) (vHead x, 0) = (b, vv)) (nx) ?aa0 ?bb0
      case aa0 =>
       exact ⟨0, false, 0, rfl, rfl, rfl, rfl, H7, Nat.zero_le _, by rw [hhd]; rfl⟩
      case bb0 =>
       rintro n224 ρ0 w223 ho225 ⟨i, b, vv, hs0_36, hs0_3, hs0_4, hn0, H226, hi, hfo⟩
       obtain ⟨j0, rfl⟩ := ho225.shape3 hs0_36 hs0_3 hs0_4
       clear ho225 hs0_36 hs0_3 hs0_4
       subst hn0
       have z227 := (H226.fix (i := 1) rfl).size
       refine CW.seq (CW.region ?_)
       refine RL.br (p := ((i : Int) : Int) < ((nx : Nat) : Int)) rfl rfl rfl (fun r hr => Ex.lt rfl rfl hr) (fun h228 => ?_) (fun h228 => ?_)
       ·skip
        refine RL.nil (thn.n (CW.seq (CW.condT rfl (CW.skip (thn.n (CW.seq (CW.block (CW.seq (CW.region ?_)))))))))
        obtain ⟨e229, he230⟩ : ∃ e, (x.ents)[i]? = some e := ⟨_, List.getElem?_eq_getElem (by omega)⟩
        obtain ⟨ad231, hA232⟩ := Rd.sm (hrx.st0 (H226.fix (i := 1) rfl)) (ents_get he230)
        have hl233 := Eng.lt_len (ents_get he230)
        refine RL.go rfl rfl rfl (Ex.ix (b := (ad231.add (i * 11))) (i := i) Tryz.underlying22 Tryz.sizeOf31 (by rw [← hA232]; rfl) rfl (by omega) (by omega) rfl) ?_
        refine RL.go rfl rfl rfl (Ex.ldv rfl (loadCN (cs := e229.cells) wh31 (Rd.cl (hrx.st0 (H226.fix (i := 1) rfl)) hA232 (ents_get he230)))) ?_
        refine RL.al (cs := [(.int .i64 0), (.int .i64 0), (.int .i64 0), (.int .i64 0), (.int .i64 0), (.int .i64 0), (.int .i64 0), (.int .i64 0), (.int .i64 0), (.int .i64 0), (.int .i64 0)]) Tryz.zeroValue31 rfl rfl rfl ?_
        intro w234 b235 hb236 hz237 g238 o239
        have H240 := H226.newB g238 o239 (by omega)
        have z241 := g238.size
        refine RL.st (vs := e229.cells) (cs' := e229.cells) Tryz.sizeOf31 (H240.ob (i := 0) rfl) rfl rfl rfl rfl rfl rfl ?_
        intro w242 hz243 g244 o245
        have H246 : Sp [BlkA b235 31 e229.cells, BlkA b2 67 [(.int .i64 x.node), (.int .i64 x.normal), (.int .i64 x.base), (.int .i64 x.number), (.int .i64 x.commit), (.slice Ax nx cx)], Fix w NoB] w242 := H240.setB (i := 0) rfl g244 o245 rfl
        have z247 := g244.size
        refine RL.nil (thn.n (CW.seq (CW.region ?_)))
        rcases b with _ | _
        ·skip
         refine RL.go rfl rfl rfl (Ex.mv (v := .bool false) rfl) ?_
         refine RL.go rfl rfl rfl (Ex.mv (v := (.bool false)) rfl) ?_
         refine RL.out rfl rfl rfl ?_
         refine RL.out rfl rfl rfl ?_
         refine RL.go rfl rfl rfl (Ex.pkF (v := (.bool false)) rfl rfl) ?_
         refine RL.go rfl rfl rfl (Ex.mv (v := (.bool false)) rfl) ?_
         refine RL.out rfl rfl rfl ?_
         refine RL.out rfl rfl rfl ?_
         refine RL.out rfl rfl rfl ?_
         refine RL.out rfl rfl rfl ?_
         refine RL.out rfl rfl rfl ?_
         refine RL.out rfl rfl rfl ?_
         refine RL.go rfl rfl rfl (Ex.pkF (v := (.bool false)) rfl rfl) ?_
         refine RL.go rfl rfl rfl (Ex.as (v := (.bool false)) rfl) ?_
         refine RL.nil (thn.n (CW.region ?_))
         refine RL.go rfl rfl rfl (fa31_1 (b := ⟨b235, 1, none⟩) rfl rfl) ?_
         refine RL.go rfl rfl rfl (Ex.ldv rfl (loadC1 lo3 (Ob.cell (v := (.int .i64 e229.view)) (H246.ob (i := 0) rfl) rfl))) ?_
         refine RL.go rfl rfl rfl (Ex.as (v := (.int .i64 e229.view)) rfl) ?_
         refine RL.nil (inB.n (thn.n (CW.region ?_)))
         refine RL.go rfl rfl rfl (Ex.add (r := (i : Int) + 1) rfl rfl (w64 (by omega) (by omega))) ?_
         refine RL.go rfl rfl rfl (Ex.mv (v := (.int .i64 ((i : Int) + 1))) rfl) ?_
         refine RL.nil (thn.n ?_)
         refine ⟨(by repeat (first | exact Out.mix _ _ | exact Out.refl _ _ | refine Out.up ?_ rfl _)), _, ?_, i + 1, false, e229.view, rfl, rfl, rfl, rfl, (H246.sel [1, 2] (by decide) rfl), by omega, by rw [chk_snoc hfo he230]; simp [h228]⟩
         omega
        ·skip
         refine RL.go rfl rfl rfl (Ex.mv (v := .bool true) rfl) ?_
         refine RL.go rfl rfl rfl (Ex.mv (v := (.bool true)) rfl) ?_
         refine RL.go rfl rfl rfl (Ex.ldv rfl (loadCN (cs := e229.cells) wh31 (H246.ob (i := 0) rfl).cl)) ?_
         refine RL.call Tryz.call97 (may_e _ e229) rfl rfl rfl ?_
         rintro _ w248 ⟨rfl, g249⟩
         have H250 := H246.grow g249
         have z251 := g249.size
         rcases hb252 : (mayE e229) with _ | _
         ·skip
          refine RL.go rfl rfl rfl (Ex.pkT (v := (.bool false)) rfl rfl) ?_
          refine RL.go rfl rfl rfl (Ex.mv (v := (.bool false)) rfl) ?_
          refine RL.out rfl rfl rfl ?_
          refine RL.out rfl rfl rfl ?_
          refine RL.out rfl rfl rfl ?_
          refine RL.out rfl rfl rfl ?_
          refine RL.out rfl rfl rfl ?_
          refine RL.out rfl rfl rfl ?_
          refine RL.go rfl rfl rfl (Ex.pkF (v := (.bool false)) rfl rfl) ?_
          refine RL.go rfl rfl rfl (Ex.as (v := (.bool false)) rfl) ?_
          refine RL.nil (thn.n (CW.region ?_))
          refine RL.go rfl rfl rfl (fa31_1 (b := ⟨b235, 1, none⟩) rfl rfl) ?_
          refine RL.go rfl rfl rfl (Ex.ldv rfl (loadC1 lo3 (Ob.cell (v := (.int .i64 e229.view)) (H250.ob (i := 0) rfl) rfl))) ?_
          refine RL.go rfl rfl rfl (Ex.as (v := (.int .i64 e229.view)) rfl) ?_
          refine RL.nil (inB.n (thn.n (CW.region ?_)))
          refine RL.go rfl rfl rfl (Ex.add (r := (i : Int) + 1) rfl rfl (w64 (by omega) (by omega))) ?_
          refine RL.go rfl rfl rfl (Ex.mv (v := (.int .i64 ((i : Int) + 1))) rfl) ?_
          refine RL.nil (thn.n ?_)
          refine ⟨(by repeat (first | exact Out.mix _ _ | exact Out.refl _ _ | refine Out.up ?_ rfl _)), _, ?_, i + 1, false, e229.view, rfl, rfl, rfl, rfl, (H250.sel [1, 2] (by decide) rfl), by omega, by rw [chk_snoc hfo he230]; simp [h228, hb252]⟩
          omega
         ·skip
          refine RL.go rfl rfl rfl (Ex.pkT (v := (.bool true)) rfl rfl) ?_
          refine RL.go rfl rfl rfl (Ex.mv (v := (.bool true)) rfl) ?_
          refine RL.go rfl rfl rfl (fa31_1 (b := ⟨b235, 1, none⟩) rfl rfl) ?_
          refine RL.go rfl rfl rfl (Ex.ldv rfl (loadC1 lo3 (Ob.cell (v := (.int .i64 e229.view)) (H250.ob (i := 0) rfl) rfl))) ?_
          refine RL.go rfl rfl rfl (Ex.mv (v := (.int .i64 vv)) rfl) ?_
          refine RL.go rfl rfl rfl (fa67_1 (b := ⟨b2, 1, none⟩) rfl rfl) ?_
          refine RL.go rfl rfl rfl (Ex.ldv rfl (loadC1 lo3 (Ob.cell (v := (.int .i64 x.normal)) (H250.ob (i := 1) rfl) rfl))) ?_
          refine RL.call Tryz.call87 (within_change _ e229.view vv x.normal) rfl rfl rfl ?_
          rintro _ _ ⟨rfl, rfl⟩
          rcases hb256 : (withinB e229.view vv x.normal) with _ | _
          ·skip
           refine RL.go rfl rfl rfl (Ex.pkT (v := (.bool false)) rfl rfl) ?_
           refine RL.go rfl rfl rfl (Ex.as (v := (.bool false)) rfl) ?_
           refine RL.nil (thn.n (CW.region ?_))
           refine RL.go rfl rfl rfl (fa31_1 (b := ⟨b235, 1, none⟩) rfl rfl) ?_
           refine RL.go rfl rfl rfl (Ex.ldv rfl (loadC1 lo3 (Ob.cell (v := (.int .i64 e229.view)) (H250.ob (i := 0) rfl) rfl))) ?_
           refine RL.go rfl rfl rfl (Ex.as (v := (.int .i64 e229.view)) rfl) ?_
           refine RL.nil (inB.n (thn.n (CW.region ?_)))
           refine RL.go rfl rfl rfl (Ex.add (r := (i : Int) + 1) rfl rfl (w64 (by omega) (by omega))) ?_
           refine RL.go rfl rfl rfl (Ex.mv (v := (.int .i64 ((i : Int) + 1))) rfl) ?_
           refine RL.nil (thn.n ?_)
           refine ⟨(by repeat (first | exact Out.mix _ _ | exact Out.refl _ _ | refine Out.up ?_ rfl _)), _, ?_, i + 1, false, e229.view, rfl, rfl, rfl, rfl, (H250.sel [1, 2] (by decide) rfl), by omega, by rw [chk_snoc hfo he230]; simp [h228, hb252, hb256]⟩
           omega
          ·have hw253 := withinB_t hb256
           refine RL.go rfl rfl rfl (Ex.pkT (v := (.bool true)) rfl rfl) ?_
           refine RL.go rfl rfl rfl (Ex.as (v := (.bool true)) rfl) ?_
           refine RL.nil (thn.n (CW.region ?_))
           refine RL.go rfl rfl rfl (fa31_1 (b := ⟨b235, 1, none⟩) rfl rfl) ?_
           refine RL.go rfl rfl rfl (Ex.ldv rfl (loadC1 lo3 (Ob.cell (v := (.int .i64 e229.view)) (H250.ob (i := 0) rfl) rfl))) ?_
           refine RL.go rfl rfl rfl (Ex.as (v := (.int .i64 e229.view)) rfl) ?_
           refine RL.nil (inB.n (thn.n (CW.region ?_)))
           refine RL.go rfl rfl rfl (Ex.add (r := (i : Int) + 1) rfl rfl (w64 (by omega) (by omega))) ?_
           refine RL.go rfl rfl rfl (Ex.mv (v := (.int .i64 ((i : Int) + 1))) rfl) ?_
           refine RL.nil (thn.n ?_)
           refine ⟨(by repeat (first | exact Out.mix _ _ | exact Out.refl _ _ | refine Out.up ?_ rfl _)), _, ?_, i + 1, true, e229.view, rfl, rfl, rfl, rfl, (H250.sel [1, 2] (by decide) rfl), by omega, by rw [chk_snoc hfo he230]; simp [h228, hb252, hb256]⟩
           omega
       ·skip
        refine RL.nil (thn.n (CW.seq (CW.condF rfl (CW.exit (thn.x (thn.x (inB.hit (thn.n (CW.seq (CW.seq (CW.region ?_)))))))))))
        rcases b with _ | _
        ·skip
         refine RL.go rfl rfl rfl (Ex.mv (v := .bool false) rfl) ?_
         refine RL.go rfl rfl rfl (Ex.not (b := false) rfl) ?_
         refine RL.go rfl rfl rfl (Ex.mv (v := (.bool true)) rfl) ?_
         refine RL.out rfl rfl rfl ?_
         refine RL.out rfl rfl rfl ?_
         refine RL.out rfl rfl rfl ?_
         refine RL.out rfl rfl rfl ?_
         refine RL.out rfl rfl rfl ?_
         refine RL.out rfl rfl rfl ?_
         refine RL.out rfl rfl rfl ?_
         refine RL.out rfl rfl rfl ?_
         refine RL.out rfl rfl rfl ?_
         refine RL.go rfl rfl rfl (Ex.pkT (v := (.bool true)) rfl rfl) ?_
         refine RL.go rfl rfl rfl (Ex.mv (v := (.bool true)) rfl) ?_
         refine RL.out rfl rfl rfl ?_
         refine RL.out rfl rfl rfl ?_
         refine RL.out rfl rfl rfl ?_
         refine RL.out rfl rfl rfl ?_
         refine RL.out rfl rfl rfl ?_
         refine RL.out rfl rfl rfl ?_
         refine RL.out rfl rfl rfl ?_
         refine RL.out rfl rfl rfl ?_
         refine RL.go rfl rfl rfl (Ex.pkT (v := (.bool true)) rfl rfl) ?_
         refine RL.nil (thn.n (CW.condT rfl (CW.seq (CW.region ?_))))
         refine RL.go rfl rfl rfl (Ex.as (v := (.int .i64 150)) rfl) ?_
         refine RL.nil (thn.n (CW.ret (thn.r ?_)))
         refine finQ.r (v := (.int .i64 150)) (res1 rfl rfl) ?_
         rw [List.take_of_length_le (by omega)] at hfo
         exact ⟨ret_int (by unfold vChkB; rw [hfo, ← hnx]; first | simp [h228] | (simp [h228]; omega)), (H226.fix (i := 1) rfl)⟩
        ·skip
         have hvb := vHead_base (chk_head hfo)
         refine RL.go rfl rfl rfl (Ex.mv (v := .bool true) rfl) ?_
         refine RL.go rfl rfl rfl (Ex.not (b := true) rfl) ?_
         refine RL.go rfl rfl rfl (Ex.mv (v := (.bool false)) rfl) ?_
         refine RL.go rfl rfl rfl (fa67_3 (b := ⟨b2, 3, none⟩) rfl rfl) ?_
         refine RL.go rfl rfl rfl (Ex.ldv rfl (loadC1 lo3 (Ob.cell (v := (.int .i64 x.number)) (H226.ob (i := 0) rfl) rfl))) ?_
         refine RL.go rfl rfl rfl (fa67_2 (b := ⟨b2, 2, none⟩) rfl rfl) ?_
         refine RL.go rfl rfl rfl (Ex.ldv rfl (loadC1 lo3 (Ob.cell (v := (.int .i64 x.base)) (H226.ob (i := 0) rfl) rfl))) ?_
         refine RL.go rfl rfl rfl (fa67_5 (b := ⟨b2, 5, none⟩) rfl rfl) ?_
         refine RL.go rfl rfl rfl (Ex.ldv rfl (loadC1 lo22 (Ob.cell (v := (.slice Ax nx cx)) (H226.ob (i := 0) rfl) rfl))) ?_
         refine RL.go rfl rfl rfl (Ex.len Tryz.underlying22 rfl) ?_
         refine RL.go rfl rfl rfl (Ex.add (r := x.base + (nx : Nat)) rfl rfl (w64 (by omega) (by omega))) ?_
         refine RL.br (p := (x.number : Int) ≠ (x.base + (nx : Nat) : Int)) rfl rfl rfl (fun r hr => Ex.neD rfl rfl hr) (fun h257 => ?_) (fun h257 => ?_)
         ·skip
          refine RL.go rfl rfl rfl (Ex.pkF (v := (.bool true)) rfl rfl) ?_
          refine RL.go rfl rfl rfl (Ex.mv (v := (.bool true)) rfl) ?_
          refine RL.out rfl rfl rfl ?_
          refine RL.out rfl rfl rfl ?_
          refine RL.out rfl rfl rfl ?_
          refine RL.out rfl rfl rfl ?_
          refine RL.out rfl rfl rfl ?_
          refine RL.out rfl rfl rfl ?_
          refine RL.out rfl rfl rfl ?_
          refine RL.out rfl rfl rfl ?_
          refine RL.go rfl rfl rfl (Ex.pkT (v := (.bool true)) rfl rfl) ?_
          refine RL.nil (thn.n (CW.condT rfl (CW.seq (CW.region ?_))))
          refine RL.go rfl rfl rfl (Ex.as (v := (.int .i64 150)) rfl) ?_
          refine RL.nil (thn.n (CW.ret (thn.r ?_)))
          refine finQ.r (v := (.int .i64 150)) (res1 rfl rfl) ?_
          rw [List.take_of_length_le (by omega)] at hfo
          exact ⟨ret_int (by unfold vChkB; rw [hfo, ← hnx]; first | simp [h228, h257] | (simp [h228, h257]; omega)), (H226.fix (i := 1) rfl)⟩
         ·skip
          refine RL.go rfl rfl rfl (Ex.pkF (v := (.bool false)) rfl rfl) ?_
          refine RL.go rfl rfl rfl (Ex.mv (v := (.bool false)) rfl) ?_
          refine RL.go rfl rfl rfl (fa67_4 (b := ⟨b2, 4, none⟩) rfl rfl) ?_
          refine RL.go rfl rfl rfl (Ex.ldv rfl (loadC1 lo3 (Ob.cell (v := (.int .i64 x.commit)) (H226.ob (i := 0) rfl) rfl))) ?_
          refine RL.go rfl rfl rfl (fa67_2 (b := ⟨b2, 2, none⟩) rfl rfl) ?_
          refine RL.go rfl rfl rfl (Ex.ldv rfl (loadC1 lo3 (Ob.cell (v := (.int .i64 x.base)) (H226.ob (i := 0) rfl) rfl))) ?_
          refine RL.go rfl rfl rfl (fa67_3 (b := ⟨b2, 3, none⟩) rfl rfl) ?_
          refine RL.go rfl rfl rfl (Ex.ldv rfl (loadC1 lo3 (Ob.cell (v := (.int .i64 x.number)) (H226.ob (i := 0) rfl) rfl))) ?_
          refine RL.call Tryz.call87 (within_change _ x.commit x.base x.number) rfl rfl rfl ?_
          rintro _ _ ⟨rfl, rfl⟩
          rcases hb261 : (withinB x.commit x.base x.number) with _ | _
          ·skip
           refine RL.go rfl rfl rfl (Ex.not (b := false) rfl) ?_
           refine RL.go rfl rfl rfl (Ex.pkF (v := (.bool true)) rfl rfl) ?_
           refine RL.nil (thn.n (CW.condT rfl (CW.seq (CW.region ?_))))
           refine RL.go rfl rfl rfl (Ex.as (v := (.int .i64 150)) rfl) ?_
           refine RL.nil (thn.n (CW.ret (thn.r ?_)))
           refine finQ.r (v := (.int .i64 150)) (res1 rfl rfl) ?_
           rw [List.take_of_length_le (by omega)] at hfo
           exact ⟨ret_int (by unfold vChkB; rw [hfo, ← hnx]; first | simp [h228, h257, hb261] | (simp [h228, h257, hb261]; omega)), (H226.fix (i := 1) rfl)⟩
          ·have hw258 := withinB_t hb261
           refine RL.go rfl rfl rfl (Ex.not (b := true) rfl) ?_
           refine RL.go rfl rfl rfl (Ex.pkF (v := (.bool false)) rfl rfl) ?_
           refine RL.nil (thn.n (CW.condF rfl (CW.skip (thn.n (CW.seq (CW.region ?_))))))
           refine RL.go rfl rfl rfl (Ex.as (v := (.int .i64 0)) rfl) ?_
           refine RL.nil (thn.n (CW.ret ?_))
           refine finQ.r (v := (.int .i64 0)) (res1 rfl rfl) ?_
           rw [List.take_of_length_le (by omega)] at hfo
           exact ⟨ret_int (by unfold vChkB; rw [hfo, ← hnx]; first | simp [h228, h257, hb261] | (simp [h228, h257, hb261]; omega)), (H226.fix (i := 1) rfl)⟩
end Go.Proofs.YtfokljnhllflbaaGreat
namespace Go.Eng
open Go
def RiseV (l : List Vote) : Prop := l.Pairwise (fun a b => a.node < b.node)
def addS (l : List Vote) (x : Vote) : List Vote := l.filter (fun r => decide (r.node < x.node)) ++ [x] ++ l.filter (fun r => decide (x.node < r.node))
theorem posV_rise {x : Vote} : ∀ {l : List Vote}, RiseV l → (∀ r ∈ l, r.node ≠ x.node) →
    l.take (posV (fun r => decide (x.node < r.node)) l) = l.filter (fun r => decide (r.node < x.node)) ∧ l.drop (posV (fun r => decide (x.node < r.node)) l) = l.filter (fun r => decide (x.node < r.node)) := by
  intro l hl hn
  by_cases h : idxF (fun r : Vote => decide (x.node < r.node)) l = -1
  · have hno := idxFrom_none h
    rw [posV_neg (by omega), List.take_of_length_le (Nat.le_refl _), List.drop_of_length_le (Nat.le_refl _)]
    refine ⟨(List.filter_eq_self.2 fun r hr => ?_).symm, (List.filter_eq_nil_iff.2 fun r hr => ?_).symm⟩
    · have h1 := hno r hr
      have h2 := hn r hr
      simp at h1 ⊢
      omega
    · have h1 := hno r hr
      simp at h1 ⊢
      omega
  · obtain ⟨i, h1, h2, h3, y, h4, h5⟩ := idxF_some h
    rw [posV_nat h1]
    have hsp := List.take_append_drop i l
    have ht : ∀ r ∈ l.take i, r.node < x.node := fun r hr => by
      have q1 := h3 r hr
      have q2 := hn r (List.mem_of_mem_take hr)
      simp at q1
      omega
    have hd : ∀ r ∈ l.drop i, x.node < r.node := fun r hr => by
      obtain ⟨j, hj⟩ := List.mem_iff_getElem?.1 hr
      rw [List.getElem?_drop] at hj
      rcases Nat.eq_zero_or_pos j with h0 | h0
      · subst h0; rw [Nat.add_zero, h4] at hj; injection hj with hj; subst hj; simpa using h5
      · have hlt : i < i + j := by omega
        have a1 := lt_len h4
        have a2 := lt_len hj
        have := (List.pairwise_iff_getElem.1 hl) i (i + j) a1 a2 hlt
        rw [List.getElem?_eq_getElem a1] at h4
        rw [List.getElem?_eq_getElem a2] at hj
        injection h4 with h4
        injection hj with hj
        rw [h4, hj] at this
        simp at h5
        omega
    constructor
    · conv => rhs; rw [← hsp, List.filter_append]
      rw [List.filter_eq_self.2 fun r hr => by simpa using ht r hr, List.filter_eq_nil_iff.2 fun r hr => by have := hd r hr; simp; omega, List.append_nil]
    · conv => rhs; rw [← hsp, List.filter_append]
      rw [List.filter_eq_nil_iff.2 fun r hr => by have := ht r hr; simp; omega, List.filter_eq_self.2 fun r hr => by simpa using hd r hr, List.nil_append]
theorem addV_rise {l : List Vote} {x : Vote} (hl : RiseV l) : addV l x = addS l x := by
  unfold addV addS
  have hf : RiseV (l.filter (fun r => !decide (r.node = x.node))) := hl.filter _
  obtain ⟨h1, h2⟩ := posV_rise (x := x) hf (fun r hr => by have := (List.mem_filter.1 hr).2; simpa using this)
  simp only [h1, h2, List.filter_filter]
  congr 1
  · congr 2
    funext r
    by_cases h : r.node < x.node <;> simp [h] <;> omega
  · congr 1
    funext r
    by_cases h : x.node < r.node <;> simp [h] <;> omega
theorem mem_addS {l : List Vote} {x r : Vote} : r ∈ addS l x ↔ r = x ∨ (r ∈ l ∧ r.node ≠ x.node) := by
  unfold addS
  simp only [List.mem_append, List.mem_filter, List.mem_singleton, decide_eq_true_eq]
  constructor
  · rintro ((⟨h1, h2⟩ | h) | ⟨h1, h2⟩)
    · exact .inr ⟨h1, by omega⟩
    · exact .inl h
    · exact .inr ⟨h1, by omega⟩
  · rintro (h | ⟨h1, h2⟩)
    · exact .inl (.inr h)
    · rcases Int.lt_or_gt_of_ne h2 with h3 | h3
      · exact .inl (.inl ⟨h1, h3⟩)
      · exact .inr ⟨h1, h3⟩
theorem rise_addS {l : List Vote} {x : Vote} (hl : RiseV l) : RiseV (addS l x) := by
  unfold addS RiseV
  rw [List.pairwise_append, List.pairwise_append]
  refine ⟨⟨hl.filter _, List.pairwise_singleton _ _, fun a ha b hb => ?_⟩, hl.filter _, fun a ha b hb => ?_⟩
  · rw [List.mem_singleton] at hb
    subst hb
    have := (List.mem_filter.1 ha).2
    simpa using this
  · have h2 := (List.mem_filter.1 hb).2
    simp only [decide_eq_true_eq] at h2
    rcases List.mem_append.1 ha with ha | ha
    · have := (List.mem_filter.1 ha).2
      simp only [decide_eq_true_eq] at this
      omega
    · rw [List.mem_singleton] at ha
      rw [ha]; exact h2
theorem rise_ext : ∀ {l m : List Vote}, RiseV l → RiseV m → (∀ r, r ∈ l ↔ r ∈ m) → l = m
  | [], [], _, _, _ => rfl
  | [], b :: m, _, _, h => absurd ((h b).2 (by simp)) (by simp)
  | a :: l, [], _, _, h => absurd ((h a).1 (by simp)) (by simp)
  | a :: l, b :: m, hl, hm, h => by
    obtain ⟨l1, l2⟩ := List.pairwise_cons.1 hl
    obtain ⟨m1, m2⟩ := List.pairwise_cons.1 hm
    have e : a = b := by
      rcases List.mem_cons.1 ((h a).1 (by simp)) with e | e
      · exact e
      · rcases List.mem_cons.1 ((h b).2 (by simp)) with e2 | e2
        · exact e2.symm
        · have := m1 a e; have := l1 b e2; omega
    subst e
    rw [rise_ext l2 m2 fun r => ⟨fun hr => ?_, fun hr => ?_⟩]
    · rcases List.mem_cons.1 ((h r).1 (List.mem_cons_of_mem _ hr)) with e | e
      · subst e; have := l1 r hr; omega
      · exact e
    · rcases List.mem_cons.1 ((h r).2 (List.mem_cons_of_mem _ hr)) with e | e
      · subst e; have := m1 r hr; omega
      · exact e
theorem add_swap {l : List Vote} {a b : Vote} (hl : RiseV l) (hab : a.node ≠ b.node) : addV (addV l a) b = addV (addV l b) a := by
  rw [addV_rise hl, addV_rise hl, addV_rise (rise_addS hl), addV_rise (rise_addS hl)]
  refine rise_ext (rise_addS (rise_addS hl)) (rise_addS (rise_addS hl)) fun r => ?_
  simp only [mem_addS]
  constructor
  · rintro (h | ⟨h | ⟨h1, h2⟩, h3⟩)
    · subst h; exact .inr ⟨.inl rfl, fun h => hab h.symm⟩
    · exact .inl h
    · exact .inr ⟨.inr ⟨h1, h3⟩, h2⟩
  · rintro (h | ⟨h | ⟨h1, h2⟩, h3⟩)
    · subst h; exact .inr ⟨.inl rfl, hab⟩
    · exact .inl h
    · exact .inr ⟨.inr ⟨h1, h3⟩, h2⟩
theorem add_again {l : List Vote} {a b : Vote} (hl : RiseV l) (hab : a.node ≠ b.node) : addV (addV (addV l a) b) a = addV (addV l a) b := by
  rw [addV_rise hl, addV_rise (rise_addS hl), addV_rise (rise_addS (rise_addS hl))]
  refine rise_ext (rise_addS (rise_addS (rise_addS hl))) (rise_addS (rise_addS hl)) fun r => ?_
  simp only [mem_addS]
  constructor
  · rintro (h | ⟨h, _⟩)
    · subst h; exact .inr ⟨.inl rfl, hab⟩
    · exact h
  · intro h
    by_cases e : r = a
    · exact .inl e
    · refine .inr ⟨h, fun hn => ?_⟩
      rcases h with h | ⟨h | ⟨_, h2⟩, _⟩
      · subst h; exact hab hn.symm
      · exact e h
      · exact h2 hn
end Go.Eng
namespace Go.Eng
open Go
theorem mem_addV {l : List Vote} {x r : Vote} (h : r ∈ addV l x) : r = x ∨ r ∈ l := by
  unfold addV at h
  simp only [List.mem_append, List.mem_singleton] at h
  rcases h with (h | h) | h
  · exact .inr (List.mem_filter.1 (List.mem_of_mem_take h)).1
  · exact .inl h
  · exact .inr (List.mem_filter.1 (List.mem_of_mem_drop h)).1
theorem addV_len (l : List Vote) (x : Vote) : (addV l x).length ≤ l.length + 1 := by
  unfold addV
  have h := List.length_filter_le (fun r : Vote => !decide (r.node = x.node)) l
  simp only [List.length_append, List.length_take, List.length_drop, List.length_cons, List.length_nil]
  omega
theorem add_bd {rs l : List RVote} {x : Vote} (hm : rs.map RVote.v = addV (l.map RVote.v) x) (hl : ∀ r ∈ l, r.v.ents.length ≤ 1000000) (hx : x.ents.length ≤ 1000000) : ∀ r ∈ rs, r.v.ents.length ≤ 1000000 := fun r hr => by
  have h : r.v ∈ addV (l.map RVote.v) x := by rw [← hm]; exact List.mem_map.2 ⟨r, hr, rfl⟩
  rcases mem_addV h with h | h
  · rw [h]; exact hx
  · obtain ⟨q, hq, e⟩ := List.mem_map.1 h
    rw [← e]; exact hl q hq
theorem add_len {rs l : List RVote} {x : Vote} (hm : rs.map RVote.v = addV (l.map RVote.v) x) : rs.length ≤ l.length + 1 := by
  have h := congrArg List.length hm
  rw [List.length_map] at h
  rw [h]
  have := addV_len (l.map RVote.v) x
  rwa [List.length_map] at this
theorem at_vote {rs : List RVote} {L M : List Vote} {k : Nat} {e : RVote} {x : Vote} (hm : rs.map RVote.v = L) (hL : L = M) (he : rs[k]? = some e) (hk : M[k]? = some x) : e.v = x := by
  have : (rs.map RVote.v)[k]? = some e.v := by rw [List.getElem?_map, he]; rfl
  rw [hm, hL, hk] at this
  injection this with this
  exact this.symm
def va1 : List Vote := [⟨1, 0, 0, 2, 0, tl2⟩, ⟨2, 0, 0, 1, 0, tl1⟩]
def va2 : List Vote := [⟨2, 0, 0, 3, 0, tl3⟩]
theorem va1_eq : addV [⟨2, 0, 0, 1, 0, tl1⟩] ⟨1, 0, 0, 2, 0, tl2⟩ = va1 := by decide +kernel
theorem va2_eq : addV [⟨2, 0, 0, 1, 0, tl1⟩] ⟨2, 0, 0, 3, 0, tl3⟩ = va2 := by decide +kernel
def vk3 : Vote := voteK 2 tk3 1
theorem vk3_eq : vk3 = ⟨2, 0, 0, 3, 1, tl3⟩ := by decide +kernel
theorem vk3_ok : vChkB vk3 = true := by rw [vk3_eq]; decide +kernel
theorem vz_no : vChkB ⟨0, 0, 0, 0, 0, []⟩ = false := by decide +kernel
theorem rise_adj {l : List RVote} {n : Nat} (hn : l.length ≤ n) (h : ∀ (j : Nat) (x y : RVote), j + 1 < n → l[j]? = some x → l[j + 1]? = some y → x.v.node < y.v.node) : RiseV (l.map RVote.v) := by
  have key : ∀ (d j : Nat) (x y : RVote), l[j]? = some x → l[j + d + 1]? = some y → x.v.node < y.v.node := by
    intro d
    induction d with
    | zero => intro j x y hx hy; exact h j x y (by have := lt_len hy; omega) hx hy
    | succ d ih =>
      intro j x y hx hy
      have hlt := lt_len hy
      have hz := List.getElem?_eq_getElem (show j + d + 1 < l.length by omega)
      have h1 := ih j x _ hx hz
      have h2 := h (j + d + 1) _ y (by omega) hz hy
      omega
  unfold RiseV
  rw [List.pairwise_map, List.pairwise_iff_getElem]
  intro i j hi hj hij
  obtain ⟨d, rfl⟩ : ∃ d, j = i + d + 1 := ⟨j - i - 1, by omega⟩
  exact key d i _ _ (List.getElem?_eq_getElem hi) (List.getElem?_eq_getElem hj)
theorem rise_at {rs : List RVote} {L : List Vote} (hm : rs.map RVote.v = L) (hL : RiseV L) {i j : Nat} {x y : RVote} (hij : i < j) (hx : rs[i]? = some x) (hy : rs[j]? = some y) : x.v.node < y.v.node := by
  rw [← hm] at hL
  unfold RiseV at hL
  rw [List.pairwise_map, List.pairwise_iff_getElem] at hL
  have l1 := lt_len hx
  have l2 := lt_len hy
  have := hL i j l1 l2 hij
  rw [List.getElem?_eq_getElem l1] at hx
  rw [List.getElem?_eq_getElem l2] at hy
  injection hx with hx
  injection hy with hy
  rw [hx, hy] at this
  exact this
theorem rise_addV {l : List Vote} {x : Vote} (hl : RiseV l) : RiseV (addV l x) := by rw [addV_rise hl]; exact rise_addS hl
theorem adj_go {l : List RVote} {i : Nat} {e1 e2 : RVote} (hadj : ∀ (j : Nat) (x y : RVote), j + 1 < i → l[j]? = some x → l[j + 1]? = some y → x.v.node < y.v.node) (hi : 1 ≤ i) (he1 : l[i - 1]? = some e1) (he2 : l[i]? = some e2) (h : e1.v.node < e2.v.node) :
    ∀ (j : Nat) (x y : RVote), j + 1 < i + 1 → l[j]? = some x → l[j + 1]? = some y → x.v.node < y.v.node := fun j x y hj hx hy => by
  rcases Nat.lt_or_ge (j + 1) i with h1 | h1
  · exact hadj j x y h1 hx hy
  · obtain ⟨k, rfl⟩ : ∃ k, i = k + 1 := ⟨i - 1, by omega⟩
    have : j = k := by omega
    subst this
    rw [Nat.add_sub_cancel, hx] at he1
    rw [hy] at he2
    injection he1 with he1
    injection he2 with he2
    rw [he1, he2]; exact h
end Go.Eng
namespace Go.Proofs.YtfokljnhllflbaaGreat
open Go Go.Eng Go.RowKit
set_option maxHeartbeats 1000000 in
set_option maxRecDepth 20000 in
theorem votes17 (w : World)  : Ret Tryz.prog 54 [] w (fun v w' => v = .bool true ∧ w.grownBy w' none) := by
  have H0 : Sp [Fix w NoB] w := Sp.start w
  refine Ret.body Tryz.func54 rfl rfl rfl ?_
  refine CW.seq (CW.region ?_)
  refine RL.go rfl rfl rfl (Ex.as (v := (.bool false)) rfl) ?_
  refine RL.nil (thn.n (CW.seq (CW.region ?_)))
  refine RL.call Tryz.call120 (vote17_1 _ 2) rfl rfl rfl ?_
  rintro _ w3 ⟨A1, c2, rfl, g4⟩
  have g5 := g4.fix (i := 1) rfl
  have H6 : Sp [RowA 31 11 A1 1 c2 (ents tl1), Fix w NoB] w3 := H0.join (m := [RowA 31 11 A1 1 c2 (ents tl1)]) g4
  have z7 := g5.size
  refine RL.bs (cs := [(.int .i64 2), (.int .i64 0), (.int .i64 0), (.int .i64 1), (.int .i64 0), (.slice A1 1 c2)]) Tryz.underlying65 Tryz.sizeOf67 ze65 rfl rfl rfl (by decide) rfl rfl rfl ?_
  intro w8 b9 hb10 hz11 g12 o13
  have H14 := H6.newB g12 o13 (by omega)
  have z15 := g12.size
  refine RL.call Tryz.call120 (vote17_2 _ 1) rfl rfl rfl ?_
  rintro _ w18 ⟨A16, c17, rfl, g19⟩
  have g20 := g19.fix (i := 1) rfl
  have H21 : Sp [RowA 31 11 A16 2 c17 (ents tl2), BlkA b9 67 [(.int .i64 2), (.int .i64 0), (.int .i64 0), (.int .i64 1), (.int .i64 0), (.slice A1 1 c2)], RowA 31 11 A1 1 c2 (ents tl1), Fix w NoB] w18 := H14.join (m := [RowA 31 11 A16 2 c17 (ents tl2)]) g19
  have z22 := g20.size
  have hl30 := H21.len (i := 0) rfl
  rw [ents_length] at hl30
  have hc31 := H21.cap (i := 0) rfl
  have hl32 := H21.len (i := 2) rfl
  rw [ents_length] at hl32
  have hc33 := H21.cap (i := 2) rfl
  have hbx34 : (⟨1, 0, 0, 2, 0, tl2⟩ : Vote).ents.length ≤ 1000000 := by first | assumption | decide | omega
  have hbl35 : ∀ r ∈ [(⟨(⟨2, 0, 0, 1, 0, tl1⟩ : Vote), ⟨A1, 1, c2⟩⟩ : RVote)], r.v.ents.length ≤ 1000000 := (fun r hr => by rw [List.mem_singleton] at hr; subst hr; show (⟨2, 0, 0, 1, 0, tl1⟩ : Vote).ents.length ≤ 1000000; first | decide | assumption | omega)
  refine RL.call Tryz.call51 (addV_ _ w18.heap.size ([(⟨(⟨2, 0, 0, 1, 0, tl1⟩ : Vote), ⟨A1, 1, c2⟩⟩ : RVote)]) (some ⟨b9, 0, none⟩) 1 1 ((Ob.rd1 (H21.ob (i := 1) rfl) rfl).more (by have := ((H21.ob (i := 1) rfl)).lt; omega)) (fun r hr => by rw [List.mem_singleton] at hr; subst hr; exact ⟨((H21.rowrd (i := 2) rfl).more (Nat.le_refl _)), by first | assumption | rfl | omega, by first | assumption | omega⟩) (Nat.le_refl _) (by first | assumption | rfl | omega) (by first | assumption | rfl | omega) hbl35 (⟨1, 0, 0, 2, 0, tl2⟩ : Vote) A16 2 c17 ((H21.rowrd (i := 0) rfl).more (Nat.le_refl _)) (by first | assumption | rfl | omega) (by first | assumption | rfl | omega) (by first | assumption | rfl | omega)) rfl rfl rfl ?_
  rintro _ w36 ⟨A23, n24, c25, rs26, rfl, g37, hma27⟩
  have g38 := g37.fix (i := 2) rfl
  have H39 : Sp [RowA 67 6 A23 n24 c25 (rvotes rs26), EnO rs26, RowA 31 11 A16 2 c17 (ents tl2), BlkA b9 67 [(.int .i64 2), (.int .i64 0), (.int .i64 0), (.int .i64 1), (.int .i64 0), (.slice A1 1 c2)], RowA 31 11 A1 1 c2 (ents tl1), Fix w NoB] w36 := H21.join (m := [RowA 67 6 A23 n24 c25 (rvotes rs26), EnO rs26]) g37
  have z40 := g38.size
  have hvb28 := add_bd hma27 hbl35 hbx34
  have hle29 := add_len hma27
  refine RL.go rfl rfl rfl (Ex.as (v := (.slice A23 n24 c25)) rfl) ?_
  refine RL.nil (thn.n (CW.seq (CW.region ?_)))
  refine RL.call Tryz.call120 (vote17_1 _ 2) rfl rfl rfl ?_
  rintro _ w43 ⟨A41, c42, rfl, g44⟩
  have g45 := g44.fix (i := 1) rfl
  have H46 : Sp [RowA 31 11 A41 1 c42 (ents tl1), RowA 67 6 A23 n24 c25 (rvotes rs26), EnO rs26, RowA 31 11 A16 2 c17 (ents tl2), BlkA b9 67 [(.int .i64 2), (.int .i64 0), (.int .i64 0), (.int .i64 1), (.int .i64 0), (.slice A1 1 c2)], RowA 31 11 A1 1 c2 (ents tl1), Fix w NoB] w43 := H39.join (m := [RowA 31 11 A41 1 c42 (ents tl1)]) g44
  have z47 := g45.size
  refine RL.bs (cs := [(.int .i64 2), (.int .i64 0), (.int .i64 0), (.int .i64 1), (.int .i64 0), (.slice A41 1 c42)]) Tryz.underlying65 Tryz.sizeOf67 ze65 rfl rfl rfl (by decide) rfl rfl rfl ?_
  intro w48 b49 hb50 hz51 g52 o53
  have H54 := H46.newB g52 o53 (by omega)
  have z55 := g52.size
  refine RL.call Tryz.call120 (vote17_3 _ 2) rfl rfl rfl ?_
  rintro _ w58 ⟨A56, c57, rfl, g59⟩
  have g60 := g59.fix (i := 1) rfl
  have H61 : Sp [RowA 31 11 A56 3 c57 (ents tl3), BlkA b49 67 [(.int .i64 2), (.int .i64 0), (.int .i64 0), (.int .i64 1), (.int .i64 0), (.slice A41 1 c42)], RowA 31 11 A41 1 c42 (ents tl1), RowA 67 6 A23 n24 c25 (rvotes rs26), EnO rs26, RowA 31 11 A16 2 c17 (ents tl2), BlkA b9 67 [(.int .i64 2), (.int .i64 0), (.int .i64 0), (.int .i64 1), (.int .i64 0), (.slice A1 1 c2)], RowA 31 11 A1 1 c2 (ents tl1), Fix w NoB] w58 := H54.join (m := [RowA 31 11 A56 3 c57 (ents tl3)]) g59
  have z62 := g60.size
  have hl71 := H61.len (i := 0) rfl
  rw [ents_length] at hl71
  have hc72 := H61.cap (i := 0) rfl
  have hl73 := H61.len (i := 2) rfl
  rw [ents_length] at hl73
  have hc74 := H61.cap (i := 2) rfl
  have hbx75 : (⟨2, 0, 0, 3, 0, tl3⟩ : Vote).ents.length ≤ 1000000 := by first | assumption | decide | omega
  have hbl76 : ∀ r ∈ [(⟨(⟨2, 0, 0, 1, 0, tl1⟩ : Vote), ⟨A41, 1, c42⟩⟩ : RVote)], r.v.ents.length ≤ 1000000 := (fun r hr => by rw [List.mem_singleton] at hr; subst hr; show (⟨2, 0, 0, 1, 0, tl1⟩ : Vote).ents.length ≤ 1000000; first | decide | assumption | omega)
  refine RL.call Tryz.call51 (addV_ _ w58.heap.size ([(⟨(⟨2, 0, 0, 1, 0, tl1⟩ : Vote), ⟨A41, 1, c42⟩⟩ : RVote)]) (some ⟨b49, 0, none⟩) 1 1 ((Ob.rd1 (H61.ob (i := 1) rfl) rfl).more (by have := ((H61.ob (i := 1) rfl)).lt; omega)) (fun r hr => by rw [List.mem_singleton] at hr; subst hr; exact ⟨((H61.rowrd (i := 2) rfl).more (Nat.le_refl _)), by first | assumption | rfl | omega, by first | assumption | omega⟩) (Nat.le_refl _) (by first | assumption | rfl | omega) (by first | assumption | rfl | omega) hbl76 (⟨2, 0, 0, 3, 0, tl3⟩ : Vote) A56 3 c57 ((H61.rowrd (i := 0) rfl).more (Nat.le_refl _)) (by first | assumption | rfl | omega) (by first | assumption | rfl | omega) (by first | assumption | rfl | omega)) rfl rfl rfl ?_
  rintro _ w77 ⟨A63, n65, c66, rs67, rfl, g78, hma68⟩
  have g79 := g78.fix (i := 2) rfl
  have H80 : Sp [RowA 67 6 A63 n65 c66 (rvotes rs67), EnO rs67, RowA 31 11 A56 3 c57 (ents tl3), BlkA b49 67 [(.int .i64 2), (.int .i64 0), (.int .i64 0), (.int .i64 1), (.int .i64 0), (.slice A41 1 c42)], RowA 31 11 A41 1 c42 (ents tl1), RowA 67 6 A23 n24 c25 (rvotes rs26), EnO rs26, RowA 31 11 A16 2 c17 (ents tl2), BlkA b9 67 [(.int .i64 2), (.int .i64 0), (.int .i64 0), (.int .i64 1), (.int .i64 0), (.slice A1 1 c2)], RowA 31 11 A1 1 c2 (ents tl1), Fix w NoB] w77 := H61.join (m := [RowA 67 6 A63 n65 c66 (rvotes rs67), EnO rs67]) g78
  have z81 := g79.size
  have hvb69 := add_bd hma68 hbl76 hbx75
  have hle70 := add_len hma68
  refine RL.go rfl rfl rfl (Ex.as (v := (.slice A63 n65 c66)) rfl) ?_
  refine RL.nil (thn.n (CW.seq (CW.region ?_)))
  refine RL.call Tryz.call92 (three17 _) rfl rfl rfl ?_
  rintro _ w84 ⟨A82, c83, rfl, g85⟩
  have g86 := g85.fix (i := 1) rfl
  have H87 : Sp [RowA 31 11 A82 3 c83 (ents tk3.ents), RowA 67 6 A63 n65 c66 (rvotes rs67), EnO rs67, RowA 31 11 A56 3 c57 (ents tl3), BlkA b49 67 [(.int .i64 2), (.int .i64 0), (.int .i64 0), (.int .i64 1), (.int .i64 0), (.slice A41 1 c42)], RowA 31 11 A41 1 c42 (ents tl1), RowA 67 6 A23 n24 c25 (rvotes rs26), EnO rs26, RowA 31 11 A16 2 c17 (ents tl2), BlkA b9 67 [(.int .i64 2), (.int .i64 0), (.int .i64 0), (.int .i64 1), (.int .i64 0), (.slice A1 1 c2)], RowA 31 11 A1 1 c2 (ents tl1), Fix w NoB] w84 := H80.join (m := [RowA 31 11 A82 3 c83 (ents tk3.ents)]) g85
  have z88 := g86.size
  have hfl89 : tk3.ents.length ≤ 4000 := (by decide)
  have hfi90 : tk3.image.length ≤ 4136 := (by decide +kernel)
  have hl91 := H87.len (i := 0) rfl
  rw [ents_length] at hl91
  have hc92 := H87.cap (i := 0) rfl
  refine RL.call Tryz.call46 (voteC_ _ w84.heap.size tk3 A82 3 c83 (H87.rowrd (i := 0) rfl) (Nat.le_refl _) (by first | assumption | rfl | omega | decide +kernel) (by first | assumption | rfl | omega | decide +kernel) (by first | assumption | rfl | omega | decide +kernel) (by first | assumption | rfl | omega | decide +kernel) 2 1) rfl rfl rfl ?_
  rintro _ w96 ⟨A93, n94, c95, rfl, g97⟩
  have g98 := g97.fix (i := 1) rfl
  have H99 : Sp [RowA 31 11 A93 n94 c95 (ents vk3.ents), RowA 31 11 A82 3 c83 (ents tk3.ents), RowA 67 6 A63 n65 c66 (rvotes rs67), EnO rs67, RowA 31 11 A56 3 c57 (ents tl3), BlkA b49 67 [(.int .i64 2), (.int .i64 0), (.int .i64 0), (.int .i64 1), (.int .i64 0), (.slice A41 1 c42)], RowA 31 11 A41 1 c42 (ents tl1), RowA 67 6 A23 n24 c25 (rvotes rs26), EnO rs26, RowA 31 11 A16 2 c17 (ents tl2), BlkA b9 67 [(.int .i64 2), (.int .i64 0), (.int .i64 0), (.int .i64 1), (.int .i64 0), (.slice A1 1 c2)], RowA 31 11 A1 1 c2 (ents tl1), Fix w NoB] w96 := H87.join (m := [RowA 31 11 A93 n94 c95 (ents vk3.ents)]) g97
  have z100 := g98.size
  refine RL.al (cs := [(.int .i64 0), (.int .i64 0), (.int .i64 0), (.int .i64 0), (.int .i64 0), (.slice none 0 0)]) Tryz.zeroValue67 rfl rfl rfl ?_
  intro w101 b102 hb103 hz104 g105 o106
  have H107 := H99.newB g105 o106 (by omega)
  have z108 := g105.size
  refine RL.st (vs := [(.int .i64 vk3.node), (.int .i64 vk3.normal), (.int .i64 vk3.base), (.int .i64 vk3.number), (.int .i64 vk3.commit), (.slice A93 n94 c95)]) (cs' := [(.int .i64 vk3.node), (.int .i64 vk3.normal), (.int .i64 vk3.base), (.int .i64 vk3.number), (.int .i64 vk3.commit), (.slice A93 n94 c95)]) Tryz.sizeOf67 (H107.ob (i := 0) rfl) rfl rfl rfl rfl rfl rfl ?_
  intro w109 hz110 g111 o112
  have H113 : Sp [BlkA b102 67 [(.int .i64 vk3.node), (.int .i64 vk3.normal), (.int .i64 vk3.base), (.int .i64 vk3.number), (.int .i64 vk3.commit), (.slice A93 n94 c95)], RowA 31 11 A93 n94 c95 (ents vk3.ents), RowA 31 11 A82 3 c83 (ents tk3.ents), RowA 67 6 A63 n65 c66 (rvotes rs67), EnO rs67, RowA 31 11 A56 3 c57 (ents tl3), BlkA b49 67 [(.int .i64 2), (.int .i64 0), (.int .i64 0), (.int .i64 1), (.int .i64 0), (.slice A41 1 c42)], RowA 31 11 A41 1 c42 (ents tl1), RowA 67 6 A23 n24 c25 (rvotes rs26), EnO rs26, RowA 31 11 A16 2 c17 (ents tl2), BlkA b9 67 [(.int .i64 2), (.int .i64 0), (.int .i64 0), (.int .i64 1), (.int .i64 0), (.slice A1 1 c2)], RowA 31 11 A1 1 c2 (ents tl1), Fix w NoB] w109 := H107.setB (i := 0) rfl g111 o112 rfl
  have z114 := g111.size
  refine RL.nil (thn.n (CW.seq ?_))
  have hl115 := H113.len (i := 8) rfl
  rw [rvotes_length] at hl115
  have hl116 : rs26.length = 2 := by have := congrArg List.length (Eq.trans hma27 va1_eq); rw [List.length_map] at this; exact this
  have hl117 := H113.len (i := 3) rfl
  rw [rvotes_length] at hl117
  have hl118 : rs67.length = 1 := by have := congrArg List.length (Eq.trans hma68 va2_eq); rw [List.length_map] at this; exact this
  have hl3 := H113.len (i := 1) rfl
  rw [ents_length, vk3_eq] at hl3; simp only [tl3, List.length_cons, List.length_nil] at hl3
  refine CW.region ?_
  refine RL.go rfl rfl rfl (Ex.mv (v := (.slice A23 n24 c25)) rfl) ?_
  refine RL.go rfl rfl rfl (Ex.len Tryz.underlying65 rfl) ?_
  refine RL.go rfl rfl rfl (Ex.eqD (r := true) rfl rfl (decide_eq_true (by omega))) ?_
  refine RL.go rfl rfl rfl (Ex.mv (v := (.bool true)) rfl) ?_
  refine RL.go rfl rfl rfl (Ex.mv (v := (.slice A23 n24 c25)) rfl) ?_
  obtain ⟨e119, he120⟩ : ∃ e, (rs26)[0]? = some e := ⟨_, List.getElem?_eq_getElem (by omega)⟩
  obtain ⟨hre121, hne122, hce123⟩ := (H113.enR (i := 9) rfl).get he120
  obtain ⟨ad124, hA125⟩ := Rd.sm (H113.rowrd (i := 8) rfl) (rvotes_get he120)
  have hl126 := Eng.lt_len (rvotes_get he120)
  refine RL.go rfl rfl rfl (Ex.ix (b := (ad124.add (0 * 6))) (i := 0) Tryz.underlying65 Tryz.sizeOf67 (by rw [← hA125]; rfl) rfl (by omega) (by omega) rfl) ?_
  refine RL.go rfl rfl rfl (fa67_0 (b := ((ad124.add (0 * 6)))) rfl rfl) ?_
  refine RL.go rfl rfl rfl (Ex.ldv rfl (loadC1 lo3 (Cl.at_ (v := (.int .i64 e119.v.node)) (Rd.cl (H113.rowrd (i := 8) rfl) hA125 (rvotes_get he120)) (i := 0) rfl))) ?_
  have hq1 := at_vote hma27 va1_eq he120 (show va1[0]? = some _ from rfl)
  refine RL.go rfl rfl rfl (Ex.eqD (r := true) rfl rfl (decide_eq_true (by rw [hq1]))) ?_
  refine RL.go rfl rfl rfl (Ex.pkT (v := (.bool true)) rfl rfl) ?_
  refine RL.go rfl rfl rfl (Ex.mv (v := (.bool true)) rfl) ?_
  refine RL.go rfl rfl rfl (Ex.mv (v := (.slice A23 n24 c25)) rfl) ?_
  obtain ⟨e127, he128⟩ : ∃ e, (rs26)[1]? = some e := ⟨_, List.getElem?_eq_getElem (by omega)⟩
  obtain ⟨hre129, hne130, hce131⟩ := (H113.enR (i := 9) rfl).get he128
  obtain ⟨ad132, hA133⟩ := Rd.sm (H113.rowrd (i := 8) rfl) (rvotes_get he128)
  have hl134 := Eng.lt_len (rvotes_get he128)
  refine RL.go rfl rfl rfl (Ex.ix (b := (ad132.add (1 * 6))) (i := 1) Tryz.underlying65 Tryz.sizeOf67 (by rw [← hA133]; rfl) rfl (by omega) (by omega) rfl) ?_
  refine RL.go rfl rfl rfl (fa67_0 (b := ((ad132.add (1 * 6)))) rfl rfl) ?_
  refine RL.go rfl rfl rfl (Ex.ldv rfl (loadC1 lo3 (Cl.at_ (v := (.int .i64 e127.v.node)) (Rd.cl (H113.rowrd (i := 8) rfl) hA133 (rvotes_get he128)) (i := 0) rfl))) ?_
  have hq2 := at_vote hma27 va1_eq he128 (show va1[1]? = some _ from rfl)
  refine RL.go rfl rfl rfl (Ex.eqD (r := true) rfl rfl (decide_eq_true (by rw [hq2]))) ?_
  refine RL.go rfl rfl rfl (Ex.pkT (v := (.bool true)) rfl rfl) ?_
  refine RL.go rfl rfl rfl (Ex.mv (v := (.bool true)) rfl) ?_
  refine RL.go rfl rfl rfl (Ex.mv (v := (.slice A63 n65 c66)) rfl) ?_
  refine RL.go rfl rfl rfl (Ex.len Tryz.underlying65 rfl) ?_
  refine RL.go rfl rfl rfl (Ex.eqD (r := true) rfl rfl (decide_eq_true (by omega))) ?_
  refine RL.go rfl rfl rfl (Ex.pkT (v := (.bool true)) rfl rfl) ?_
  refine RL.go rfl rfl rfl (Ex.mv (v := (.bool true)) rfl) ?_
  refine RL.go rfl rfl rfl (Ex.mv (v := (.slice A63 n65 c66)) rfl) ?_
  obtain ⟨e135, he136⟩ : ∃ e, (rs67)[0]? = some e := ⟨_, List.getElem?_eq_getElem (by omega)⟩
  obtain ⟨hre137, hne138, hce139⟩ := (H113.enR (i := 4) rfl).get he136
  obtain ⟨ad140, hA141⟩ := Rd.sm (H113.rowrd (i := 3) rfl) (rvotes_get he136)
  have hl142 := Eng.lt_len (rvotes_get he136)
  refine RL.go rfl rfl rfl (Ex.ix (b := (ad140.add (0 * 6))) (i := 0) Tryz.underlying65 Tryz.sizeOf67 (by rw [← hA141]; rfl) rfl (by omega) (by omega) rfl) ?_
  refine RL.go rfl rfl rfl (fa67_3 (b := (((ad140.add (0 * 6))).add 3)) rfl rfl) ?_
  refine RL.go rfl rfl rfl (Ex.ldv rfl (loadC1 lo3 (Cl.at_ (v := (.int .i64 e135.v.number)) (Rd.cl (H113.rowrd (i := 3) rfl) hA141 (rvotes_get he136)) (i := 3) rfl))) ?_
  have hq3 := at_vote hma68 va2_eq he136 (show va2[0]? = some _ from rfl)
  refine RL.go rfl rfl rfl (Ex.eqD (r := true) rfl rfl (decide_eq_true (by rw [hq3]))) ?_
  refine RL.go rfl rfl rfl (Ex.pkT (v := (.bool true)) rfl rfl) ?_
  refine RL.go rfl rfl rfl (Ex.mv (v := (.bool true)) rfl) ?_
  refine RL.go rfl rfl rfl (fa67_3 (b := ⟨b102, 3, none⟩) rfl rfl) ?_
  refine RL.go rfl rfl rfl (Ex.ldv rfl (loadC1 lo3 (Ob.cell (v := (.int .i64 vk3.number)) (H113.ob (i := 0) rfl) rfl))) ?_
  refine RL.go rfl rfl rfl (Ex.eqD (r := true) rfl rfl (decide_eq_true (by rw [vk3_eq]))) ?_
  refine RL.go rfl rfl rfl (Ex.pkT (v := (.bool true)) rfl rfl) ?_
  refine RL.go rfl rfl rfl (Ex.mv (v := (.bool true)) rfl) ?_
  refine RL.go rfl rfl rfl (fa67_4 (b := ⟨b102, 4, none⟩) rfl rfl) ?_
  refine RL.go rfl rfl rfl (Ex.ldv rfl (loadC1 lo3 (Ob.cell (v := (.int .i64 vk3.commit)) (H113.ob (i := 0) rfl) rfl))) ?_
  refine RL.go rfl rfl rfl (Ex.eqD (r := true) rfl rfl (decide_eq_true (by rw [vk3_eq]))) ?_
  refine RL.go rfl rfl rfl (Ex.pkT (v := (.bool true)) rfl rfl) ?_
  refine RL.go rfl rfl rfl (Ex.mv (v := (.bool true)) rfl) ?_
  refine RL.go rfl rfl rfl (fa67_5 (b := ⟨b102, 5, none⟩) rfl rfl) ?_
  refine RL.go rfl rfl rfl (Ex.ldv rfl (loadC1 lo22 (Ob.cell (v := (.slice A93 n94 c95)) (H113.ob (i := 0) rfl) rfl))) ?_
  refine RL.go rfl rfl rfl (Ex.len Tryz.underlying22 rfl) ?_
  refine RL.go rfl rfl rfl (Ex.eqD (r := true) rfl rfl (decide_eq_true (by omega))) ?_
  refine RL.go rfl rfl rfl (Ex.pkT (v := (.bool true)) rfl rfl) ?_
  refine RL.go rfl rfl rfl (Ex.mv (v := (.bool true)) rfl) ?_
  refine RL.go rfl rfl rfl (Ex.ldv rfl (loadCN (cs := [(.int .i64 vk3.node), (.int .i64 vk3.normal), (.int .i64 vk3.base), (.int .i64 vk3.number), (.int .i64 vk3.commit), (.slice A93 n94 c95)]) wh67 (H113.ob (i := 0) rfl).cl)) ?_
  have hl143 := H113.len (i := 1) rfl
  rw [ents_length] at hl143
  have hc144 := H113.cap (i := 1) rfl
  refine RL.call Tryz.call49 (vCheck_ _ w109.heap.size vk3 A93 n94 c95 ((H113.rowrd (i := 1) rfl).more (Nat.le_refl _)) (Nat.le_refl _) (by first | assumption | rfl | omega) (by first | assumption | rfl | omega) (by first | assumption | rfl | omega)) rfl rfl rfl ?_
  rintro _ w145 ⟨rfl, g146⟩
  have H147 := H113.grow g146
  have z148 := g146.size
  refine RL.go rfl rfl rfl (Ex.eqD (r := true) rfl rfl (decide_eq_true (by rw [vk3_ok]; rfl))) ?_
  refine RL.go rfl rfl rfl (Ex.pkT (v := (.bool true)) rfl rfl) ?_
  refine RL.go rfl rfl rfl (Ex.mv (v := (.bool true)) rfl) ?_
  refine RL.go rfl rfl rfl (Ex.bd (cs := [(.int .i64 0), (.int .i64 0), (.int .i64 0), (.int .i64 0), (.int .i64 0), (.slice none 0 0)]) bd67 rfl) ?_
  refine RL.call Tryz.call49 (vCheck_ _ w145.heap.size (⟨0, 0, 0, 0, 0, []⟩ : Vote) none 0 0 (Rd.nil_ _ _ 11 none) (Nat.le_refl _) (by first | assumption | rfl | omega) (by first | assumption | rfl | omega) (by first | assumption | rfl | omega)) rfl rfl rfl ?_
  rintro _ w149 ⟨rfl, g150⟩
  have H151 := H147.grow g150
  have z152 := g150.size
  refine RL.go rfl rfl rfl (Ex.eqD (r := true) rfl rfl (decide_eq_true (by rw [vz_no]; rfl))) ?_
  refine RL.go rfl rfl rfl (Ex.pkT (v := (.bool true)) rfl rfl) ?_
  refine RL.go rfl rfl rfl (Ex.as (v := (.bool true)) rfl) ?_
  refine RL.nil (thn.n (CW.ret ?_))
  refine finQ.r (v := (.bool true)) (res1 rfl rfl) ?_
  exact ⟨rfl, (H151.fix (i := 13) rfl)⟩
end Go.Proofs.YtfokljnhllflbaaGreat
namespace Go.Proofs.YtfokljnhllflbaaGreat
open Go Go.Eng Go.RowKit
set_option maxHeartbeats 2000000 in
set_option maxRecDepth 20000 in
theorem changeOrder_ (w : World) (B : Nat) (l : List RVote) (A : Option Addr) (n c : Nat) (hr : Rd w B 6 A (rvotes l)) (hv : VtR w B l) (hB : B ≤ w.heap.size) (hn : n = l.length) (a1 : Vote) (A1 : Option Addr) (n1 c1 : Nat) (hr1 : Rd w B 11 A1 (ents a1.ents)) (hn1 : n1 = a1.ents.length) (hc1 : n1 ≤ c1) (a2 : Vote) (A2 : Option Addr) (n2 c2 : Nat) (hr2 : Rd w B 11 A2 (ents a2.ents)) (hn2 : n2 = a2.ents.length) (hc2 : n2 ≤ c2) : Ret Tryz.prog 7 [(.slice A n c), (.agg ([(.int .i64 a1.node), (.int .i64 a1.normal), (.int .i64 a1.base), (.int .i64 a1.number), (.int .i64 a1.commit), (.slice A1 n1 c1)]).toArray), (.agg ([(.int .i64 a2.node), (.int .i64 a2.normal), (.int .i64 a2.base), (.int .i64 a2.number), (.int .i64 a2.commit), (.slice A2 n2 c2)]).toArray)] w (fun v w' => v = .bool true ∧ w.grownBy w' none) := by
  have H0 : Sp [Fix w NoB] w := Sp.start w
  refine Ret.body Tryz.func7 rfl rfl rfl ?_
  refine CW.seq (CW.region ?_)
  refine RL.bx (cs := [(.int .i64 a1.node), (.int .i64 a1.normal), (.int .i64 a1.base), (.int .i64 a1.number), (.int .i64 a1.commit), (.slice A1 n1 c1)]) rfl rfl rfl ?_
  intro w1 b2 hb3 hz4 g5 o6
  have H7 := H0.newB g5 o6 (by omega)
  have z8 := g5.size
  refine RL.bx (cs := [(.int .i64 a2.node), (.int .i64 a2.normal), (.int .i64 a2.base), (.int .i64 a2.number), (.int .i64 a2.commit), (.slice A2 n2 c2)]) rfl rfl rfl ?_
  intro w9 b10 hb11 hz12 g13 o14
  have H15 := H7.newB g13 o14 (by omega)
  have z16 := g13.size
  refine RL.go rfl rfl rfl (Ex.as (v := (.bool false)) rfl) ?_
  refine RL.nil (thn.n (CW.seq (CW.seq (CW.region ?_))))
  refine RL.go rfl rfl rfl (Ex.mv (v := (.slice A n c)) rfl) ?_
  refine RL.go rfl rfl rfl (Ex.bd (cs := [(.int .i64 0), (.int .i64 0), (.int .i64 0), (.string (⟨#[]⟩)), (.slice none 0 0)]) bd24 rfl) ?_
  refine RL.call Tryz.call44 (big17_ _ w9.heap.size l A n c ((hr.st0 (H15.fix (i := 2) rfl)).more (by omega)) ((show VtR _ _ _ from (VtR.st0 hv (H15.fix (i := 2) rfl))).more (by omega)) (by first | assumption | rfl | omega) (⟨0, 0, 0, [], []⟩ : Kept) none 0 0 (Rd.nil_ _ _ 11 none) (by first | assumption | rfl | omega) (Nat.le_refl _)) rfl rfl rfl ?_
  rintro _ w17 (⟨rfl, g18⟩ | ⟨rfl, g19, hb50, hbig, hb200⟩)
  ·skip
   have H20 := H15.grow g18
   have z21 := g18.size
   refine RL.go rfl rfl rfl (Ex.mv (v := (.bool true)) rfl) ?_
   refine RL.out rfl rfl rfl ?_
   refine RL.out rfl rfl rfl ?_
   refine RL.out rfl rfl rfl ?_
   refine RL.out rfl rfl rfl ?_
   refine RL.go rfl rfl rfl (Ex.pkT (v := (.bool true)) rfl rfl) ?_
   refine RL.go rfl rfl rfl (Ex.mv (v := (.bool true)) rfl) ?_
   refine RL.out rfl rfl rfl ?_
   refine RL.out rfl rfl rfl ?_
   refine RL.out rfl rfl rfl ?_
   refine RL.out rfl rfl rfl ?_
   refine RL.go rfl rfl rfl (Ex.pkT (v := (.bool true)) rfl rfl) ?_
   refine RL.go rfl rfl rfl (Ex.mv (v := (.bool true)) rfl) ?_
   refine RL.out rfl rfl rfl ?_
   refine RL.out rfl rfl rfl ?_
   refine RL.out rfl rfl rfl ?_
   refine RL.out rfl rfl rfl ?_
   refine RL.out rfl rfl rfl ?_
   refine RL.go rfl rfl rfl (Ex.pkT (v := (.bool true)) rfl rfl) ?_
   refine RL.nil (thn.n (CW.condT rfl (CW.seq (CW.region ?_))))
   refine RL.call Tryz.call54 (votes17 _) rfl rfl rfl ?_
   rintro _ w22 ⟨rfl, g23⟩
   have H24 := H20.grow g23
   have z25 := g23.size
   refine RL.go rfl rfl rfl (Ex.as (v := (.bool true)) rfl) ?_
   refine RL.nil (thn.n (CW.ret (thn.r ?_)))
   refine finQ.r (v := (.bool true)) (res1 rfl rfl) ?_
   exact ⟨rfl, (H24.fix (i := 2) rfl)⟩
  ·skip
   have H26 := H15.grow g19
   have z27 := g19.size
   have hvb : ∀ r ∈ l, r.v.ents.length ≤ 1000000 := fun r hr => by have := hb200 r hr; omega
   refine RL.go rfl rfl rfl (Ex.mv (v := (.bool false)) rfl) ?_
   refine RL.go rfl rfl rfl (fa67_5 (b := ⟨b2, 5, none⟩) rfl rfl) ?_
   refine RL.go rfl rfl rfl (Ex.ldv rfl (loadC1 lo22 (Ob.cell (v := (.slice A1 n1 c1)) (H26.ob (i := 1) rfl) rfl))) ?_
   refine RL.go rfl rfl rfl (Ex.len Tryz.underlying22 rfl) ?_
   refine RL.br (p := (200 : Int) < ((n1 : Nat) : Int)) rfl rfl rfl (fun r hr => Ex.gt rfl rfl hr) (fun h28 => ?_) (fun h28 => ?_)
   ·skip
    refine RL.go rfl rfl rfl (Ex.pkF (v := (.bool true)) rfl rfl) ?_
    refine RL.go rfl rfl rfl (Ex.mv (v := (.bool true)) rfl) ?_
    refine RL.out rfl rfl rfl ?_
    refine RL.out rfl rfl rfl ?_
    refine RL.out rfl rfl rfl ?_
    refine RL.out rfl rfl rfl ?_
    refine RL.go rfl rfl rfl (Ex.pkT (v := (.bool true)) rfl rfl) ?_
    refine RL.go rfl rfl rfl (Ex.mv (v := (.bool true)) rfl) ?_
    refine RL.out rfl rfl rfl ?_
    refine RL.out rfl rfl rfl ?_
    refine RL.out rfl rfl rfl ?_
    refine RL.out rfl rfl rfl ?_
    refine RL.out rfl rfl rfl ?_
    refine RL.go rfl rfl rfl (Ex.pkT (v := (.bool true)) rfl rfl) ?_
    refine RL.nil (thn.n (CW.condT rfl (CW.seq (CW.region ?_))))
    refine RL.call Tryz.call54 (votes17 _) rfl rfl rfl ?_
    rintro _ w29 ⟨rfl, g30⟩
    have H31 := H26.grow g30
    have z32 := g30.size
    refine RL.go rfl rfl rfl (Ex.as (v := (.bool true)) rfl) ?_
    refine RL.nil (thn.n (CW.ret (thn.r ?_)))
    refine finQ.r (v := (.bool true)) (res1 rfl rfl) ?_
    exact ⟨rfl, (H31.fix (i := 2) rfl)⟩
   ·skip
    refine RL.go rfl rfl rfl (Ex.pkF (v := (.bool false)) rfl rfl) ?_
    refine RL.go rfl rfl rfl (Ex.mv (v := (.bool false)) rfl) ?_
    refine RL.go rfl rfl rfl (fa67_5 (b := ⟨b10, 5, none⟩) rfl rfl) ?_
    refine RL.go rfl rfl rfl (Ex.ldv rfl (loadC1 lo22 (Ob.cell (v := (.slice A2 n2 c2)) (H26.ob (i := 0) rfl) rfl))) ?_
    refine RL.go rfl rfl rfl (Ex.len Tryz.underlying22 rfl) ?_
    refine RL.br (p := (200 : Int) < ((n2 : Nat) : Int)) rfl rfl rfl (fun r hr => Ex.gt rfl rfl hr) (fun h33 => ?_) (fun h33 => ?_)
    ·skip
     refine RL.go rfl rfl rfl (Ex.pkF (v := (.bool true)) rfl rfl) ?_
     refine RL.go rfl rfl rfl (Ex.mv (v := (.bool true)) rfl) ?_
     refine RL.out rfl rfl rfl ?_
     refine RL.out rfl rfl rfl ?_
     refine RL.out rfl rfl rfl ?_
     refine RL.out rfl rfl rfl ?_
     refine RL.out rfl rfl rfl ?_
     refine RL.go rfl rfl rfl (Ex.pkT (v := (.bool true)) rfl rfl) ?_
     refine RL.nil (thn.n (CW.condT rfl (CW.seq (CW.region ?_))))
     refine RL.call Tryz.call54 (votes17 _) rfl rfl rfl ?_
     rintro _ w34 ⟨rfl, g35⟩
     have H36 := H26.grow g35
     have z37 := g35.size
     refine RL.go rfl rfl rfl (Ex.as (v := (.bool true)) rfl) ?_
     refine RL.nil (thn.n (CW.ret (thn.r ?_)))
     refine finQ.r (v := (.bool true)) (res1 rfl rfl) ?_
     exact ⟨rfl, (H36.fix (i := 2) rfl)⟩
    ·skip
     refine RL.go rfl rfl rfl (Ex.pkF (v := (.bool false)) rfl rfl) ?_
     refine RL.go rfl rfl rfl (Ex.mv (v := (.bool false)) rfl) ?_
     refine RL.go rfl rfl rfl (fa67_0 (b := ⟨b2, 0, none⟩) rfl rfl) ?_
     refine RL.go rfl rfl rfl (Ex.ldv rfl (loadC1 lo3 (Ob.cell (v := (.int .i64 a1.node)) (H26.ob (i := 1) rfl) rfl))) ?_
     refine RL.go rfl rfl rfl (fa67_0 (b := ⟨b10, 0, none⟩) rfl rfl) ?_
     refine RL.go rfl rfl rfl (Ex.ldv rfl (loadC1 lo3 (Ob.cell (v := (.int .i64 a2.node)) (H26.ob (i := 0) rfl) rfl))) ?_
     refine RL.br (p := (a1.node : Int) = (a2.node : Int)) rfl rfl rfl (fun r hr => Ex.eqD rfl rfl hr) (fun h38 => ?_) (fun h38 => ?_)
     ·skip
      refine RL.go rfl rfl rfl (Ex.pkF (v := (.bool true)) rfl rfl) ?_
      refine RL.nil (thn.n (CW.condT rfl (CW.seq (CW.region ?_))))
      refine RL.call Tryz.call54 (votes17 _) rfl rfl rfl ?_
      rintro _ w39 ⟨rfl, g40⟩
      have H41 := H26.grow g40
      have z42 := g40.size
      refine RL.go rfl rfl rfl (Ex.as (v := (.bool true)) rfl) ?_
      refine RL.nil (thn.n (CW.ret (thn.r ?_)))
      refine finQ.r (v := (.bool true)) (res1 rfl rfl) ?_
      exact ⟨rfl, (H41.fix (i := 2) rfl)⟩
     ·skip
      refine RL.go rfl rfl rfl (Ex.pkF (v := (.bool false)) rfl rfl) ?_
      refine RL.nil (thn.n (CW.condF rfl (CW.skip (thn.n (CW.seq (CW.seq (CW.region ?_)))))))
      have hne : a1.node ≠ a2.node := h38
      refine RL.go rfl rfl rfl (Ex.as (v := (.int .i64 1)) rfl) ?_
      refine RL.nil (thn.n (CW.block ?_))
      refine CW.loop (fun t => (Nat.ble 6 t && Nat.ble t 7) || (Nat.ble 35 t && Nat.ble t 53)) (fun nL ρ wl => ∃ (i : Nat), ρ 7 = (.int .i64 (i : Int)) ∧ nL = n + 1 - i ∧ Sp [BlkA b10 67 [(.int .i64 a2.node), (.int .i64 a2.normal), (.int .i64 a2.base), (.int .i64 a2.number), (.int .i64 a2.commit), (.slice A2 n2 c2)], BlkA b2 67 [(.int .i64 a1.node), (.int .i64 a1.normal), (.int .i64 a1.base), (.int .i64 a1.number), (.int .i64 a1.commit), (.slice A1 n1 c1)], Fix w NoB] wl ∧ 1 ≤ i ∧ i ≤ n + 1 ∧ ∀ (j : Nat) (x y : RVote), j + 1 < i → l[j]? = some x → l[j + 1]? = some y → x.v.node < y.v.node) (n) ?aa0 ?bb0
      case aa0 =>
       exact ⟨1, rfl, rfl, H26, Nat.le_refl _, by omega, fun j x y h _ _ => by omega⟩
      case bb0 =>
       rintro n44 ρ0 w43 ho45 ⟨i, hs0_7, hn0, H46, hi1, hi2, hadj⟩
       obtain ⟨j0, rfl⟩ := ho45.shape1 hs0_7
       clear ho45 hs0_7
       subst hn0
       have z47 := (H46.fix (i := 2) rfl).size
       refine CW.seq (CW.seq ?_)
       refine CW.region ?_
       refine RL.go rfl rfl rfl (Ex.mv (v := (.int .i64 (i : Int))) rfl) ?_
       refine RL.go rfl rfl rfl (Ex.mv (v := (.slice A n c)) rfl) ?_
       refine RL.go rfl rfl rfl (Ex.len Tryz.underlying65 rfl) ?_
       refine RL.br (p := ((i : Int) : Int) < ((n : Nat) : Int)) rfl rfl rfl (fun r hr => Ex.lt rfl rfl hr) (fun h48 => ?_) (fun h48 => ?_)
       ·skip
        refine RL.nil (thn.n (CW.condT rfl (CW.skip (thn.n (CW.seq (CW.block (CW.seq ?_)))))))
        refine CW.quiet (fun wq => World.grownBy w43 wq none) Tryz.mixed (by kernel_rfl) ⟨rfl, rfl, rfl, Nat.le_refl _, fun _ _ _ => rfl⟩ ?_
        refine QL.go rfl rfl rfl (fun wq gq => Ex.mv (v := (.slice A n c)) rfl) ?_
        refine QL.go rfl rfl rfl (fun wq gq => Ex.mv (v := (.int .i64 (i : Int))) rfl) ?_
        refine QL.go rfl rfl rfl (fun wq gq => Ex.sub_ (r := ((i - 1 : Nat) : Int)) rfl rfl (by rw [w64 (by omega) (by omega)]; omega)) ?_
        obtain ⟨e49, he50⟩ : ∃ e, (l)[(i - 1)]? = some e := ⟨_, List.getElem?_eq_getElem (by omega)⟩
        obtain ⟨hre51, hne52, hce53⟩ := (hv).get he50
        obtain ⟨ad54, hA55⟩ := Rd.sm (hr.st0 (H46.fix (i := 2) rfl)) (rvotes_get he50)
        have hl56 := Eng.lt_len (rvotes_get he50)
        refine QL.go rfl rfl rfl (fun wq gq => Ex.ix (b := (ad54.add ((i - 1) * 6))) (i := (i - 1)) Tryz.underlying65 Tryz.sizeOf67 (by rw [← hA55]; rfl) rfl (by omega) (by omega) rfl) ?_
        refine QL.go rfl rfl rfl (fun wq gq => fa67_0 (b := ((ad54.add ((i - 1) * 6)))) rfl rfl) ?_
        refine QL.go rfl rfl rfl (fun wq gq => Ex.ldv rfl (loadC1 lo3 (Cl.at_ (v := (.int .i64 e49.v.node)) (Rd.cl (hr.st0 ((H46.grow gq).fix (i := 2) rfl)) hA55 (rvotes_get he50)) (i := 0) rfl))) ?_
        refine QL.go rfl rfl rfl (fun wq gq => Ex.mv (v := (.slice A n c)) rfl) ?_
        refine QL.go rfl rfl rfl (fun wq gq => Ex.mv (v := (.int .i64 (i : Int))) rfl) ?_
        obtain ⟨e57, he58⟩ : ∃ e, (l)[i]? = some e := ⟨_, List.getElem?_eq_getElem (by omega)⟩
        obtain ⟨hre59, hne60, hce61⟩ := (hv).get he58
        obtain ⟨ad62, hA63⟩ := Rd.sm (hr.st0 (H46.fix (i := 2) rfl)) (rvotes_get he58)
        have hl65 := Eng.lt_len (rvotes_get he58)
        refine QL.go rfl rfl rfl (fun wq gq => Ex.ix (b := (ad62.add (i * 6))) (i := i) Tryz.underlying65 Tryz.sizeOf67 (by rw [← hA63]; rfl) rfl (by omega) (by omega) rfl) ?_
        refine QL.go rfl rfl rfl (fun wq gq => fa67_0 (b := ((ad62.add (i * 6)))) rfl rfl) ?_
        refine QL.go rfl rfl rfl (fun wq gq => Ex.ldv rfl (loadC1 lo3 (Cl.at_ (v := (.int .i64 e57.v.node)) (Rd.cl (hr.st0 ((H46.grow gq).fix (i := 2) rfl)) hA63 (rvotes_get he58)) (i := 0) rfl))) ?_
        refine QL.br (p := (e57.v.node : Int) ≤ (e49.v.node : Int)) rfl rfl rfl (fun r hr wq gq => Ex.ge rfl rfl hr) (fun h66 => ?_) (fun h66 => ?_)
        ·skip
         refine QL.nil ?_
         intro w67 g68
         have H69 := H46.grow g68
         have z70 := g68.size
         refine thn.n (CW.condT rfl ?_)
         refine CW.seq (CW.region ?_)
         refine RL.call Tryz.call54 (votes17 _) rfl rfl rfl ?_
         rintro _ w71 ⟨rfl, g72⟩
         have H73 := H69.grow g72
         have z74 := g72.size
         refine RL.go rfl rfl rfl (Ex.as (v := (.bool true)) rfl) ?_
         refine RL.nil (thn.n (CW.ret (inB.r (thn.r (thn.r (inB.r (thn.r ?_)))))))
         refine finQ.r (v := (.bool true)) (res1 rfl rfl) ?_
         exact ⟨rfl, (H73.fix (i := 2) rfl)⟩
        ·skip
         refine QL.nil ?_
         intro w75 g76
         have H77 := H46.grow g76
         have z78 := g76.size
         refine thn.n (CW.condF rfl ?_)
         refine CW.skip (inB.n (thn.n (CW.region ?_)))
         refine RL.go rfl rfl rfl (Ex.mv (v := (.int .i64 (i : Int))) rfl) ?_
         refine RL.go rfl rfl rfl (Ex.add (r := (i : Int) + 1) rfl rfl (w64 (by omega) (by omega))) ?_
         refine RL.go rfl rfl rfl (Ex.as (v := (.int .i64 ((i : Int) + 1))) rfl) ?_
         refine RL.nil (thn.n ?_)
         refine ⟨(by repeat (first | exact Out.mix _ _ | exact Out.refl _ _ | refine Out.up ?_ rfl _)), _, ?_, i + 1, rfl, rfl, H77, by omega, by omega, adj_go hadj hi1 he50 he58 (by omega)⟩
         omega
       ·skip
        refine RL.nil (thn.n (CW.condF rfl (CW.exit (thn.x (thn.x (inB.hit (thn.n (CW.seq ?_))))))))
        have hrise : RiseV (l.map RVote.v) := rise_adj (n := n) (by omega) (fun j x y hj hx hy => hadj j x y (by omega) hx hy)
        refine CW.held (fun wq => Sp [BlkA b10 67 [(.int .i64 a2.node), (.int .i64 a2.normal), (.int .i64 a2.base), (.int .i64 a2.number), (.int .i64 a2.commit), (.slice A2 n2 c2)], BlkA b2 67 [(.int .i64 a1.node), (.int .i64 a1.normal), (.int .i64 a1.base), (.int .i64 a1.number), (.int .i64 a1.commit), (.slice A1 n1 c1)], Fix w NoB] wq) Tryz.mixed rfl ?_
        intro w79 g80
        have H81 := H46.grow g80
        have z82 := g80.size
        refine RA.tk 0 0 1 rfl rfl rfl (by kernel_rfl) (fun wq hq => Ex.mv (v := (.slice A n c)) rfl) H81 ?_
        refine RA.tk 1 1 3 rfl rfl rfl (by kernel_rfl) (fun wq hq => Ex.ldv rfl (loadCN (cs := [(.int .i64 a1.node), (.int .i64 a1.normal), (.int .i64 a1.base), (.int .i64 a1.number), (.int .i64 a1.commit), (.slice A1 n1 c1)]) wh67 (hq.ob (i := 1) rfl).cl)) H81 ?_
        refine RA.tk 3 3 11 rfl rfl rfl (by kernel_rfl) (fun wq hq => Ex.ldv rfl (loadCN (cs := [(.int .i64 a2.node), (.int .i64 a2.normal), (.int .i64 a2.base), (.int .i64 a2.number), (.int .i64 a2.commit), (.slice A2 n2 c2)]) wh67 (hq.ob (i := 0) rfl).cl)) H81 ?_
        refine RA.one (i := 2) (by kernel_rfl) ?_
        refine ⟨_, 15, rfl, by kernel_rfl, ?_⟩
        have hbx90 : a1.ents.length ≤ 1000000 := by first | assumption | decide | omega
        have hbl91 : ∀ r ∈ l, r.v.ents.length ≤ 1000000 := hvb
        refine RL.call Tryz.call51 (addV_ _ w79.heap.size l A n c ((hr.st0 (H81.fix (i := 2) rfl)).more (by omega)) ((show VtR _ _ _ from (VtR.st0 hv (H81.fix (i := 2) rfl))).more (by omega)) (Nat.le_refl _) (by first | assumption | rfl | omega) (by first | assumption | rfl | omega) hbl91 a1 A1 n1 c1 ((hr1.st0 (H81.fix (i := 2) rfl)).more (by omega)) (by first | assumption | rfl | omega) (by first | assumption | rfl | omega) (by first | assumption | rfl | omega)) rfl rfl rfl ?_
        rintro _ w92 ⟨A83, n84, c85, rs86, rfl, g93, hma87⟩
        have g94 := g93.fix (i := 2) rfl
        have H95 : Sp [RowA 67 6 A83 n84 c85 (rvotes rs86), EnO rs86, BlkA b10 67 [(.int .i64 a2.node), (.int .i64 a2.normal), (.int .i64 a2.base), (.int .i64 a2.number), (.int .i64 a2.commit), (.slice A2 n2 c2)], BlkA b2 67 [(.int .i64 a1.node), (.int .i64 a1.normal), (.int .i64 a1.base), (.int .i64 a1.number), (.int .i64 a1.commit), (.slice A1 n1 c1)], Fix w NoB] w92 := H81.join (m := [RowA 67 6 A83 n84 c85 (rvotes rs86), EnO rs86]) g93
        have z96 := g94.size
        have hvb88 := add_bd hma87 hbl91 hbx90
        have hle89 := add_len hma87
        refine RL.nil ?_
        refine ⟨(H95.sel [2, 3, 4] (by decide) rfl), ?_⟩
        refine RA.one (i := 4) (by kernel_rfl) ?_
        refine ⟨_, 31, rfl, by kernel_rfl, ?_⟩
        have hl104 := H95.len (i := 0) rfl
        rw [rvotes_length] at hl104
        have hbx105 : a2.ents.length ≤ 1000000 := by first | assumption | decide | omega
        have hbl106 : ∀ r ∈ rs86, r.v.ents.length ≤ 1000000 := hvb88
        refine RL.call Tryz.call51 (addV_ _ w92.heap.size rs86 A83 n84 c85 ((H95.rowrd (i := 0) rfl).more (Nat.le_refl _)) (H95.enR (i := 1) rfl) (Nat.le_refl _) (by first | assumption | rfl | omega) (by first | assumption | rfl | omega) hbl106 a2 A2 n2 c2 ((hr2.st0 (H95.fix (i := 4) rfl)).more (by omega)) (by first | assumption | rfl | omega) (by first | assumption | rfl | omega) (by first | assumption | rfl | omega)) rfl rfl rfl ?_
        rintro _ w107 ⟨A97, n98, c99, rs100, rfl, g108, hma101⟩
        have g109 := g108.fix (i := 2) rfl
        have H110 : Sp [RowA 67 6 A97 n98 c99 (rvotes rs100), EnO rs100, RowA 67 6 A83 n84 c85 (rvotes rs86), EnO rs86, BlkA b10 67 [(.int .i64 a2.node), (.int .i64 a2.normal), (.int .i64 a2.base), (.int .i64 a2.number), (.int .i64 a2.commit), (.slice A2 n2 c2)], BlkA b2 67 [(.int .i64 a1.node), (.int .i64 a1.normal), (.int .i64 a1.base), (.int .i64 a1.number), (.int .i64 a1.commit), (.slice A1 n1 c1)], Fix w NoB] w107 := H95.join (m := [RowA 67 6 A97 n98 c99 (rvotes rs100), EnO rs100]) g108
        have z111 := g109.size
        have hvb102 := add_bd hma101 hbl106 hbx105
        have hle103 := add_len hma101
        refine RL.nil ?_
        refine ⟨(H110.sel [4, 5, 6] (by decide) rfl), ?_⟩
        refine RA.tk 5 31 63 rfl rfl rfl (by kernel_rfl) (fun wq hq => Ex.as (v := (.slice A97 n98 c99)) rfl) (H110.sel [4, 5, 6] (by decide) rfl) ?_
        refine RA.done (by kernel_rfl) ?_
        refine thn.n (CW.seq ?_)
        refine CW.held (fun wq => Sp [RowA 67 6 A97 n98 c99 (rvotes rs100), EnO rs100, RowA 67 6 A83 n84 c85 (rvotes rs86), EnO rs86, BlkA b10 67 [(.int .i64 a2.node), (.int .i64 a2.normal), (.int .i64 a2.base), (.int .i64 a2.number), (.int .i64 a2.commit), (.slice A2 n2 c2)], BlkA b2 67 [(.int .i64 a1.node), (.int .i64 a1.normal), (.int .i64 a1.base), (.int .i64 a1.number), (.int .i64 a1.commit), (.slice A1 n1 c1)], Fix w NoB] wq) Tryz.mixed rfl ?_
        intro w112 g113
        have H114 := H110.grow g113
        have z115 := g113.size
        refine RA.tk 0 0 1 rfl rfl rfl (by kernel_rfl) (fun wq hq => Ex.mv (v := (.slice A n c)) rfl) H114 ?_
        refine RA.tk 1 1 3 rfl rfl rfl (by kernel_rfl) (fun wq hq => Ex.ldv rfl (loadCN (cs := [(.int .i64 a2.node), (.int .i64 a2.normal), (.int .i64 a2.base), (.int .i64 a2.number), (.int .i64 a2.commit), (.slice A2 n2 c2)]) wh67 (hq.ob (i := 4) rfl).cl)) H114 ?_
        refine RA.tk 3 3 11 rfl rfl rfl (by kernel_rfl) (fun wq hq => Ex.ldv rfl (loadCN (cs := [(.int .i64 a1.node), (.int .i64 a1.normal), (.int .i64 a1.base), (.int .i64 a1.number), (.int .i64 a1.commit), (.slice A1 n1 c1)]) wh67 (hq.ob (i := 5) rfl).cl)) H114 ?_
        refine RA.one (i := 2) (by kernel_rfl) ?_
        refine ⟨_, 15, rfl, by kernel_rfl, ?_⟩
        have hbx123 : a2.ents.length ≤ 1000000 := by first | assumption | decide | omega
        have hbl124 : ∀ r ∈ l, r.v.ents.length ≤ 1000000 := hvb
        refine RL.call Tryz.call51 (addV_ _ w112.heap.size l A n c ((hr.st0 (H114.fix (i := 6) rfl)).more (by omega)) ((show VtR _ _ _ from (VtR.st0 hv (H114.fix (i := 6) rfl))).more (by omega)) (Nat.le_refl _) (by first | assumption | rfl | omega) (by first | assumption | rfl | omega) hbl124 a2 A2 n2 c2 ((hr2.st0 (H114.fix (i := 6) rfl)).more (by omega)) (by first | assumption | rfl | omega) (by first | assumption | rfl | omega) (by first | assumption | rfl | omega)) rfl rfl rfl ?_
        rintro _ w125 ⟨A116, n117, c118, rs119, rfl, g126, hma120⟩
        have g127 := g126.fix (i := 2) rfl
        have H128 : Sp [RowA 67 6 A116 n117 c118 (rvotes rs119), EnO rs119, RowA 67 6 A97 n98 c99 (rvotes rs100), EnO rs100, RowA 67 6 A83 n84 c85 (rvotes rs86), EnO rs86, BlkA b10 67 [(.int .i64 a2.node), (.int .i64 a2.normal), (.int .i64 a2.base), (.int .i64 a2.number), (.int .i64 a2.commit), (.slice A2 n2 c2)], BlkA b2 67 [(.int .i64 a1.node), (.int .i64 a1.normal), (.int .i64 a1.base), (.int .i64 a1.number), (.int .i64 a1.commit), (.slice A1 n1 c1)], Fix w NoB] w125 := H114.join (m := [RowA 67 6 A116 n117 c118 (rvotes rs119), EnO rs119]) g126
        have z129 := g127.size
        have hvb121 := add_bd hma120 hbl124 hbx123
        have hle122 := add_len hma120
        refine RL.nil ?_
        refine ⟨(H128.sel [2, 3, 4, 5, 6, 7, 8] (by decide) rfl), ?_⟩
        refine RA.one (i := 4) (by kernel_rfl) ?_
        refine ⟨_, 31, rfl, by kernel_rfl, ?_⟩
        have hl137 := H128.len (i := 0) rfl
        rw [rvotes_length] at hl137
        have hbx138 : a1.ents.length ≤ 1000000 := by first | assumption | decide | omega
        have hbl139 : ∀ r ∈ rs119, r.v.ents.length ≤ 1000000 := hvb121
        refine RL.call Tryz.call51 (addV_ _ w125.heap.size rs119 A116 n117 c118 ((H128.rowrd (i := 0) rfl).more (Nat.le_refl _)) (H128.enR (i := 1) rfl) (Nat.le_refl _) (by first | assumption | rfl | omega) (by first | assumption | rfl | omega) hbl139 a1 A1 n1 c1 ((hr1.st0 (H128.fix (i := 8) rfl)).more (by omega)) (by first | assumption | rfl | omega) (by first | assumption | rfl | omega) (by first | assumption | rfl | omega)) rfl rfl rfl ?_
        rintro _ w140 ⟨A130, n131, c132, rs133, rfl, g141, hma134⟩
        have g142 := g141.fix (i := 2) rfl
        have H143 : Sp [RowA 67 6 A130 n131 c132 (rvotes rs133), EnO rs133, RowA 67 6 A116 n117 c118 (rvotes rs119), EnO rs119, RowA 67 6 A97 n98 c99 (rvotes rs100), EnO rs100, RowA 67 6 A83 n84 c85 (rvotes rs86), EnO rs86, BlkA b10 67 [(.int .i64 a2.node), (.int .i64 a2.normal), (.int .i64 a2.base), (.int .i64 a2.number), (.int .i64 a2.commit), (.slice A2 n2 c2)], BlkA b2 67 [(.int .i64 a1.node), (.int .i64 a1.normal), (.int .i64 a1.base), (.int .i64 a1.number), (.int .i64 a1.commit), (.slice A1 n1 c1)], Fix w NoB] w140 := H128.join (m := [RowA 67 6 A130 n131 c132 (rvotes rs133), EnO rs133]) g141
        have z144 := g142.size
        have hvb135 := add_bd hma134 hbl139 hbx138
        have hle136 := add_len hma134
        refine RL.nil ?_
        refine ⟨(H143.sel [4, 5, 6, 7, 8, 9, 10] (by decide) rfl), ?_⟩
        refine RA.tk 5 31 63 rfl rfl rfl (by kernel_rfl) (fun wq hq => Ex.as (v := (.slice A130 n131 c132)) rfl) (H143.sel [4, 5, 6, 7, 8, 9, 10] (by decide) rfl) ?_
        refine RA.done (by kernel_rfl) ?_
        refine thn.n (CW.seq ?_)
        refine CW.region ?_
        refine RL.go rfl rfl rfl (Ex.mv (v := (.slice A97 n98 c99)) rfl) ?_
        refine RL.go rfl rfl rfl (Ex.ldv rfl (loadCN (cs := [(.int .i64 a1.node), (.int .i64 a1.normal), (.int .i64 a1.base), (.int .i64 a1.number), (.int .i64 a1.commit), (.slice A1 n1 c1)]) wh67 (H143.ob (i := 9) rfl).cl)) ?_
        have hl152 := H143.len (i := 4) rfl
        rw [rvotes_length] at hl152
        have hbx153 : a1.ents.length ≤ 1000000 := by first | assumption | decide | omega
        have hbl154 : ∀ r ∈ rs100, r.v.ents.length ≤ 1000000 := hvb102
        refine RL.call Tryz.call51 (addV_ _ w140.heap.size rs100 A97 n98 c99 ((H143.rowrd (i := 4) rfl).more (Nat.le_refl _)) (H143.enR (i := 5) rfl) (Nat.le_refl _) (by first | assumption | rfl | omega) (by first | assumption | rfl | omega) hbl154 a1 A1 n1 c1 ((hr1.st0 (H143.fix (i := 10) rfl)).more (by omega)) (by first | assumption | rfl | omega) (by first | assumption | rfl | omega) (by first | assumption | rfl | omega)) rfl rfl rfl ?_
        rintro _ w155 ⟨A145, n146, c147, rs148, rfl, g156, hma149⟩
        have g157 := g156.fix (i := 2) rfl
        have H158 : Sp [RowA 67 6 A145 n146 c147 (rvotes rs148), EnO rs148, RowA 67 6 A130 n131 c132 (rvotes rs133), EnO rs133, RowA 67 6 A116 n117 c118 (rvotes rs119), EnO rs119, RowA 67 6 A97 n98 c99 (rvotes rs100), EnO rs100, RowA 67 6 A83 n84 c85 (rvotes rs86), EnO rs86, BlkA b10 67 [(.int .i64 a2.node), (.int .i64 a2.normal), (.int .i64 a2.base), (.int .i64 a2.number), (.int .i64 a2.commit), (.slice A2 n2 c2)], BlkA b2 67 [(.int .i64 a1.node), (.int .i64 a1.normal), (.int .i64 a1.base), (.int .i64 a1.number), (.int .i64 a1.commit), (.slice A1 n1 c1)], Fix w NoB] w155 := H143.join (m := [RowA 67 6 A145 n146 c147 (rvotes rs148), EnO rs148]) g156
        have z159 := g157.size
        have hvb150 := add_bd hma149 hbl154 hbx153
        have hle151 := add_len hma149
        refine RL.go rfl rfl rfl (Ex.as (v := (.slice A145 n146 c147)) rfl) ?_
        refine RL.nil (thn.n (CW.seq (CW.seq (CW.region ?_))))
        refine RL.go rfl rfl rfl (Ex.as (v := (.int .i64 1)) rfl) ?_
        refine RL.nil (thn.n (CW.block ?_))
        have hl160 := H158.len (i := 6) rfl
        rw [rvotes_length] at hl160
        have hr2 : RiseV (addV (rs86.map RVote.v) a2) := rise_addV (by rw [hma87]; exact rise_addV hrise)
        refine CW.loop (fun t => Nat.beq t 6 || Nat.beq t 11 || (Nat.ble 67 t && Nat.ble t 84)) (fun nL ρ wl => ∃ (i2 : Nat), ρ 11 = (.int .i64 (i2 : Int)) ∧ nL = n98 + 1 - i2 ∧ Sp [RowA 67 6 A145 n146 c147 (rvotes rs148), EnO rs148, RowA 67 6 A130 n131 c132 (rvotes rs133), EnO rs133, RowA 67 6 A116 n117 c118 (rvotes rs119), EnO rs119, RowA 67 6 A97 n98 c99 (rvotes rs100), EnO rs100, RowA 67 6 A83 n84 c85 (rvotes rs86), EnO rs86, BlkA b10 67 [(.int .i64 a2.node), (.int .i64 a2.normal), (.int .i64 a2.base), (.int .i64 a2.number), (.int .i64 a2.commit), (.slice A2 n2 c2)], BlkA b2 67 [(.int .i64 a1.node), (.int .i64 a1.normal), (.int .i64 a1.base), (.int .i64 a1.number), (.int .i64 a1.commit), (.slice A1 n1 c1)], Fix w NoB] wl ∧ 1 ≤ i2 ∧ i2 ≤ n98 + 1) (n98) ?aa1 ?bb1
        case aa1 =>
         exact ⟨1, rfl, rfl, H158, Nat.le_refl _, by omega⟩
        case bb1 =>
         rintro n162 ρ1 w161 ho163 ⟨i2, hs1_11, hn1, H164, hi3, hi4⟩
         obtain ⟨j1, rfl⟩ := ho163.shape1 hs1_11
         clear ho163 hs1_11
         subst hn1
         have z165 := (H164.fix (i := 12) rfl).size
         refine CW.seq (CW.seq ?_)
         refine CW.region ?_
         refine RL.go rfl rfl rfl (Ex.mv (v := (.int .i64 (i2 : Int))) rfl) ?_
         refine RL.go rfl rfl rfl (Ex.mv (v := (.slice A97 n98 c99)) rfl) ?_
         refine RL.go rfl rfl rfl (Ex.len Tryz.underlying65 rfl) ?_
         refine RL.br (p := ((i2 : Int) : Int) < ((n98 : Nat) : Int)) rfl rfl rfl (fun r hr => Ex.lt rfl rfl hr) (fun h166 => ?_) (fun h166 => ?_)
         ·skip
          refine RL.nil (thn.n (CW.condT rfl (CW.skip (thn.n (CW.seq (CW.block (CW.seq ?_)))))))
          refine CW.quiet (fun wq => World.grownBy w161 wq none) Tryz.mixed (by kernel_rfl) ⟨rfl, rfl, rfl, Nat.le_refl _, fun _ _ _ => rfl⟩ ?_
          refine QL.go rfl rfl rfl (fun wq gq => Ex.mv (v := (.slice A97 n98 c99)) rfl) ?_
          refine QL.go rfl rfl rfl (fun wq gq => Ex.mv (v := (.int .i64 (i2 : Int))) rfl) ?_
          refine QL.go rfl rfl rfl (fun wq gq => Ex.sub_ (r := ((i2 - 1 : Nat) : Int)) rfl rfl (by rw [w64 (by omega) (by omega)]; omega)) ?_
          obtain ⟨e167, he168⟩ : ∃ e, (rs100)[(i2 - 1)]? = some e := ⟨_, List.getElem?_eq_getElem (by omega)⟩
          obtain ⟨hre169, hne170, hce171⟩ := (H164.enR (i := 7) rfl).get he168
          obtain ⟨ad172, hA173⟩ := Rd.sm (H164.rowrd (i := 6) rfl) (rvotes_get he168)
          have hl174 := Eng.lt_len (rvotes_get he168)
          refine QL.go rfl rfl rfl (fun wq gq => Ex.ix (b := (ad172.add ((i2 - 1) * 6))) (i := (i2 - 1)) Tryz.underlying65 Tryz.sizeOf67 (by rw [← hA173]; rfl) rfl (by omega) (by omega) rfl) ?_
          refine QL.go rfl rfl rfl (fun wq gq => fa67_0 (b := ((ad172.add ((i2 - 1) * 6)))) rfl rfl) ?_
          refine QL.go rfl rfl rfl (fun wq gq => Ex.ldv rfl (loadC1 lo3 (Cl.at_ (v := (.int .i64 e167.v.node)) (Rd.cl ((H164.grow gq).rowrd (i := 6) rfl) hA173 (rvotes_get he168)) (i := 0) rfl))) ?_
          refine QL.go rfl rfl rfl (fun wq gq => Ex.mv (v := (.slice A97 n98 c99)) rfl) ?_
          refine QL.go rfl rfl rfl (fun wq gq => Ex.mv (v := (.int .i64 (i2 : Int))) rfl) ?_
          obtain ⟨e175, he176⟩ : ∃ e, (rs100)[i2]? = some e := ⟨_, List.getElem?_eq_getElem (by omega)⟩
          obtain ⟨hre177, hne178, hce179⟩ := (H164.enR (i := 7) rfl).get he176
          obtain ⟨ad180, hA181⟩ := Rd.sm (H164.rowrd (i := 6) rfl) (rvotes_get he176)
          have hl182 := Eng.lt_len (rvotes_get he176)
          refine QL.go rfl rfl rfl (fun wq gq => Ex.ix (b := (ad180.add (i2 * 6))) (i := i2) Tryz.underlying65 Tryz.sizeOf67 (by rw [← hA181]; rfl) rfl (by omega) (by omega) rfl) ?_
          refine QL.go rfl rfl rfl (fun wq gq => fa67_0 (b := ((ad180.add (i2 * 6)))) rfl rfl) ?_
          refine QL.go rfl rfl rfl (fun wq gq => Ex.ldv rfl (loadC1 lo3 (Cl.at_ (v := (.int .i64 e175.v.node)) (Rd.cl ((H164.grow gq).rowrd (i := 6) rfl) hA181 (rvotes_get he176)) (i := 0) rfl))) ?_
          have hlt183 := rise_at hma101 hr2 (by omega) he168 he176
          refine QL.go rfl rfl rfl (fun wq gq => Ex.ge (r := false) rfl rfl (decide_eq_false (by omega))) ?_
          refine QL.nil ?_
          intro w184 g185
          have H186 := H164.grow g185
          have z187 := g185.size
          refine thn.n (CW.condF rfl ?_)
          refine CW.skip (inB.n (thn.n (CW.region ?_)))
          refine RL.go rfl rfl rfl (Ex.mv (v := (.int .i64 (i2 : Int))) rfl) ?_
          refine RL.go rfl rfl rfl (Ex.add (r := (i2 : Int) + 1) rfl rfl (w64 (by omega) (by omega))) ?_
          refine RL.go rfl rfl rfl (Ex.as (v := (.int .i64 ((i2 : Int) + 1))) rfl) ?_
          refine RL.nil (thn.n ?_)
          refine ⟨(by repeat (first | exact Out.mix _ _ | exact Out.refl _ _ | refine Out.up ?_ rfl _)), _, ?_, i2 + 1, rfl, rfl, H186, by omega, by omega⟩
          omega
         ·skip
          refine RL.nil (thn.n (CW.condF rfl (CW.exit (thn.x (thn.x (inB.hit (thn.n (CW.seq ?_))))))))
          have hAB : decide (rs100.map RVote.v = rs133.map RVote.v) = true := decide_eq_true (by rw [hma101, hma87, hma134, hma120]; exact add_swap hrise hne)
          have hAC : decide (rs100.map RVote.v = rs148.map RVote.v) = true := decide_eq_true (by rw [hma149, hma101, hma87]; exact (add_again hrise hne).symm)
          refine CW.region ?_
          refine RL.call Tryz.call54 (votes17 _) rfl rfl rfl ?_
          rintro _ w188 ⟨rfl, g189⟩
          have H190 := H164.grow g189
          have z191 := g189.size
          refine RL.go rfl rfl rfl (Ex.mv (v := (.bool true)) rfl) ?_
          refine RL.go rfl rfl rfl (Ex.mv (v := (.slice A97 n98 c99)) rfl) ?_
          refine RL.go rfl rfl rfl (Ex.mv (v := (.slice A130 n131 c132)) rfl) ?_
          have hl192 := H190.len (i := 6) rfl
          rw [rvotes_length] at hl192
          have hl193 := H190.len (i := 2) rfl
          rw [rvotes_length] at hl193
          refine RL.call Tryz.call52 (all17_ _ w188.heap.size rs100 rs133 A97 A130 n98 c99 n131 c132 ((H190.rowrd (i := 6) rfl).more (Nat.le_refl _)) (H190.enR (i := 7) rfl) (Nat.le_refl _) (by first | assumption | rfl | omega) ((H190.rowrd (i := 2) rfl).more (Nat.le_refl _)) (H190.enR (i := 3) rfl) (by first | assumption | rfl | omega) (by first | assumption | rfl | omega) hvb102) rfl rfl rfl ?_
          rintro _ w194 ⟨rfl, g195⟩
          have H196 := H190.grow g195
          have z197 := g195.size
          refine RL.go rfl rfl rfl (Ex.pkT (v := (.bool (decide (rs100.map RVote.v = rs133.map RVote.v)))) rfl rfl) ?_
          refine RL.go rfl rfl rfl (Ex.mv (v := .bool true) (by show Value.bool (decide (rs100.map RVote.v = rs133.map RVote.v)) = _; rw [hAB])) ?_
          refine RL.go rfl rfl rfl (Ex.mv (v := (.slice A97 n98 c99)) rfl) ?_
          refine RL.go rfl rfl rfl (Ex.mv (v := (.slice A145 n146 c147)) rfl) ?_
          have hl198 := H196.len (i := 6) rfl
          rw [rvotes_length] at hl198
          have hl199 := H196.len (i := 0) rfl
          rw [rvotes_length] at hl199
          refine RL.call Tryz.call52 (all17_ _ w194.heap.size rs100 rs148 A97 A145 n98 c99 n146 c147 ((H196.rowrd (i := 6) rfl).more (Nat.le_refl _)) (H196.enR (i := 7) rfl) (Nat.le_refl _) (by first | assumption | rfl | omega) ((H196.rowrd (i := 0) rfl).more (Nat.le_refl _)) (H196.enR (i := 1) rfl) (by first | assumption | rfl | omega) (by first | assumption | rfl | omega) hvb102) rfl rfl rfl ?_
          rintro _ w200 ⟨rfl, g201⟩
          have H202 := H196.grow g201
          have z203 := g201.size
          refine RL.go rfl rfl rfl (Ex.pkT (v := (.bool (decide (rs100.map RVote.v = rs148.map RVote.v)))) rfl rfl) ?_
          refine RL.go rfl rfl rfl (Ex.as (v := .bool true) (by show Value.bool (decide (rs100.map RVote.v = rs148.map RVote.v)) = _; rw [hAC])) ?_
          refine RL.nil (thn.n (CW.ret ?_))
          refine finQ.r (v := (.bool true)) (res1 rfl rfl) ?_
          exact ⟨rfl, (H202.fix (i := 12) rfl)⟩
end Go.Proofs.YtfokljnhllflbaaGreat
namespace Go.Proofs.YtfokljnhllflbaaGreat
open Go
set_option maxRecDepth 100000
def sp : Char := Char.ofNat 32
theorem ws_app (r : List Char) : ∀ (a : List Char), (a.all fun c => c != sp) = true → wordsSigns (a ++ sp :: r) = a :: wordsSigns r
  | [], _ => rfl
  | c :: a, h => by
    simp only [List.all_cons, Bool.and_eq_true, bne_iff_ne, ne_eq] at h
    have ih := ws_app r a h.2
    rw [List.cons_append]
    conv => lhs; unfold wordsSigns
    split
    · rename_i e; cases e
    · rename_i e; injection e with e1 _; exact absurd e1 h.1
    · rename_i c' r' hne e
      injection e with e1 e2
      subst e1
      rw [← e2, ih]
theorem io_eq : Tryz.prog.initOrder.toList = "harness".toList ++ sp :: ("e992cc6d704afc89758aaf8fd9a77071690771db51468eeba60045f0eed610c9".toList ++ sp :: ("cut".toList ++ sp :: Tryz.prog.initOrder.toList.drop 77)) := by kernel_rfl
theorem io_words : behindMainWord (wordsSigns Tryz.prog.initOrder.toList) = "cut".toList :: wordsSigns (Tryz.prog.initOrder.toList.drop 77) := by
  rw [io_eq, ws_app _ _ (by decide), ws_app _ _ (by decide), ws_app _ _ (by decide)]
  rw [← io_eq]
  generalize wordsSigns (Tryz.prog.initOrder.toList.drop 77) = ws
  show (if (("harness".toList == "harness".toList || "harness".toList == "ownmain".toList) && isSumSigns "e992cc6d704afc89758aaf8fd9a77071690771db51468eeba60045f0eed610c9".toList) = true then "cut".toList :: ws else "harness".toList :: "e992cc6d704afc89758aaf8fd9a77071690771db51468eeba60045f0eed610c9".toList :: "cut".toList :: ws) = _
  rw [if_pos (by decide)]
theorem sl (ws : List (List Char)) : stripLifts liftWords ("cut".toList :: ws) = ([], "cut".toList :: ws) := by
  unfold liftWords
  simp only [stripLifts]
  rfl
theorem hl : Tryz.prog.headLifts = [] := by unfold Program.headLifts; rw [io_words, sl]; rfl
theorem jf_later : Tryz.prog.laysLater = false := by kernel_rfl
theorem jf_refl : Tryz.prog.bearsReflect = false := by kernel_rfl
theorem jf_rows : Tryz.prog.doorRows = [] := by kernel_rfl
theorem jf_door : Tryz.prog.doorFits [] = true := by unfold Program.doorFits; rw [jf_rows]; rfl
theorem jf_may : Tryz.prog.mayEnter = true := by
  unfold Program.mayEnter
  rw [io_words]
  generalize wordsSigns (Tryz.prog.initOrder.toList.drop 77) = ws
  have e := sl ws
  simp only [e, jf_later, jf_refl, jf_door]
  simp
theorem jf_lift : Tryz.prog.liftsFinal = false := by
  unfold Program.liftsFinal
  rw [io_words, hl]
  generalize wordsSigns (Tryz.prog.initOrder.toList.drop 77) = ws
  rfl
theorem jf_make : Tryz.prog.make = some .cut := by
  unfold Program.make
  rw [io_words]
  generalize wordsSigns (Tryz.prog.initOrder.toList.drop 77) = ws
  rfl
end Go.Proofs.YtfokljnhllflbaaGreat
namespace Go.Proofs.YtfokljnhllflbaaGreat
open Go
set_option maxRecDepth 100000
theorem jf_changeOrder0 : (Rows.changeOrderRow.wf (OpenSpec.ofChange Rows.changeOrderSpec)) = true := by kernel_rfl
theorem jf_changeOrder1 : (laidOutB Tryz.prog) = true := by kernel_rfl
theorem jf_changeOrder2 : (mapsRowed Tryz.prog) = true := by kernel_rfl
theorem jf_changeOrder3 : (Tryz.f7.params.all (Tryz.prog.readableRec ·)) = true := by kernel_rfl
theorem jf_changeOrder4 : (namedTie Tryz.prog Rows.changeOrderRow.named Rows.changeOrderSpec.vars) = true := by kernel_rfl
theorem jf_changeOrder5 : ((Rows.changeOrderRow.stops == [])) = true := by kernel_rfl
theorem jf_changeOrder6 : ((Tryz.prog.stops == [])) = true := by kernel_rfl
theorem jf_changeOrder7 : ((Rows.changeOrderRow.knobs == [])) = true := by kernel_rfl
theorem jf_changeOrder8 : ((Tryz.prog.stopKnobs == [])) = true := by kernel_rfl
theorem jf_changeOrder9 : ((Rows.changeOrderRow.inPlace == Tryz.prog.inPlace 7)) = true := by kernel_rfl
theorem jf_changeOrder10 : ((Rows.changeOrderRow.unfollowed == Tryz.prog.unfollowed 7)) = true := by kernel_rfl
theorem jf_changeOrder11 : ((Rows.changeOrderRow.recurses == Tryz.prog.recurses 7)) = true := by kernel_rfl
theorem jf_changeOrder12 : ((Rows.changeOrderRow.named == Tryz.prog.varsNamed 7)) = true := by kernel_rfl
theorem jf_changeOrder13 : ((Rows.changeOrderRow.maps == (Tryz.f7.params.toList ++ Rows.changeOrderSpec.plain.varTypes Tryz.prog).any (Tryz.prog.mapsRec ·))) = true := by kernel_rfl
theorem jf_changeOrder14 : ((Rows.changeOrderRow.ifaces == (Tryz.f7.params.toList ++ Rows.changeOrderSpec.plain.varTypes Tryz.prog).any (Tryz.prog.ifacesRec ·))) = true := by kernel_rfl
theorem jf_changeOrder15 : ((Rows.changeOrderRow.mapsOut == Tryz.prog.mapsAmong Tryz.f7.resultTypes.toList)) = true := by kernel_rfl
theorem jf_changeOrder16 : ((Rows.changeOrderRow.loops == (Tryz.f7.params.toList ++ Rows.changeOrderSpec.plain.varTypes Tryz.prog).any (Tryz.prog.loopsFrom ·))) = true := by kernel_rfl
theorem jf_changeOrder17 : ((Rows.changeOrderRow.wideKeys == (Tryz.f7.params.toList ++ Rows.changeOrderSpec.plain.varTypes Tryz.prog ++ Tryz.f7.resultTypes.toList).any (Tryz.prog.wideKeysFrom ·))) = true := by kernel_rfl
theorem jf_changeOrder18 : (Rows.changeOrderSpec.vars.all (Tryz.prog.varReadable ·)) = true := by kernel_rfl
theorem jf_changeOrder19 : (Tryz.f7.resultTypes.all (fun t => Tryz.prog.readableRec t && decide (t < Tryz.prog.types.size))) = true := by kernel_rfl
theorem jf_changeOrder20 : ((Rows.changeOrderRow.ifacesOut == Tryz.f7.resultTypes.toList.any (Tryz.prog.ifacesRec ·))) = true := by kernel_rfl
theorem jf_changeOrder21 : ((Rows.changeOrderRow.loopsOut == Tryz.f7.resultTypes.toList.any (Tryz.prog.loopsFrom ·))) = true := by kernel_rfl
theorem jf_changeOrder22 : ((Rows.changeOrderRow.plainKeys == Tryz.prog.plainKeys)) = true := by kernel_rfl
theorem jf_changeOrder23 : (Rows.changeOrderRow.shortTexts.isNone) = true := by kernel_rfl
theorem jf_changeOrder24 : (Tryz.prog.stopsHeard) = true := by kernel_rfl
theorem jf_changeOrder25 : (Tryz.prog.mayEnter) = true := jf_may
theorem jf_changeOrder26 : ((Rows.changeOrderRow.lifted == Tryz.prog.liftsFinal)) = true := by rw [jf_lift]; rfl
theorem jf_changeOrder27 : ((Tryz.prog.make == some Rows.changeOrderRow.make)) = true := by rw [jf_make]; rfl
theorem jf_changeOrder28 : ((Rows.changeOrderRow.kinds == (if Rows.changeOrderRow.domain.isEmpty then [] else Tryz.f7.params.toList.map fun t => match Tryz.prog.underlying t with | some (.int k) => some k | _ => none))) = true := by kernel_rfl
theorem jf_changeOrder29 : ((Rows.changeOrderRow.pinned == Rows.changeOrderRow.pinnedBy)) = true := by kernel_rfl
theorem jf_changeOrder30 : ((Rows.changeOrderRow.veiled == (Tryz.f7.params.toList ++ Rows.changeOrderSpec.plain.varTypes Tryz.prog ++ Tryz.f7.resultTypes.toList).any (Tryz.prog.veiledRec ·))) = true := by kernel_rfl
theorem jf_changeOrder31 : (Rows.changeOrderRow.veiledFits Tryz.prog Tryz.f7.params.toList (Tryz.f7.params.toList ++ Rows.changeOrderSpec.plain.varTypes Tryz.prog ++ Tryz.f7.resultTypes.toList)) = true := by kernel_rfl
theorem jf_changeOrder : joinedFacts Tryz.prog 7 Tryz.f7 Rows.changeOrderSpec Rows.changeOrderRow = true := by
  unfold joinedFacts
  simp only [Bool.and_eq_true]
  exact ⟨⟨⟨⟨⟨⟨⟨⟨⟨⟨⟨⟨⟨⟨⟨⟨⟨⟨⟨⟨⟨⟨⟨⟨⟨⟨⟨⟨⟨⟨⟨jf_changeOrder0, jf_changeOrder1⟩, jf_changeOrder2⟩, jf_changeOrder3⟩, jf_changeOrder4⟩, jf_changeOrder5⟩, jf_changeOrder6⟩, jf_changeOrder7⟩, jf_changeOrder8⟩, jf_changeOrder9⟩, jf_changeOrder10⟩, jf_changeOrder11⟩, jf_changeOrder12⟩, jf_changeOrder13⟩, jf_changeOrder14⟩, jf_changeOrder15⟩, jf_changeOrder16⟩, jf_changeOrder17⟩, jf_changeOrder18⟩, jf_changeOrder19⟩, jf_changeOrder20⟩, jf_changeOrder21⟩, jf_changeOrder22⟩, jf_changeOrder23⟩, jf_changeOrder24⟩, jf_changeOrder25⟩, jf_changeOrder26⟩, jf_changeOrder27⟩, jf_changeOrder28⟩, jf_changeOrder29⟩, jf_changeOrder30⟩, jf_changeOrder31⟩
end Go.Proofs.YtfokljnhllflbaaGreat
namespace Go.Proofs.YtfokljnhllflbaaGreat
open Go Go.Eng Go.ChangeShapes Go.WideShapes Go.ChangeAt Go.RowKit
set_option maxRecDepth 100000 in
theorem changeOrder_lifted (os : Os) (started : os.Started) (H : Type) (enc : TypeId × Value → H) :
    ReturnsInHanded {} Tryz.checked os 7 .any (Rows.changeOrderSpec.pre6 enc Tryz.prog Tryz.f7 Rows.changeOrderRow.domain false) (Rows.changeOrderSpec.post enc Tryz.prog Tryz.f7 false true false false) := by
  refine returnsInHanded_of_change (C := Tryz.checked) Tryz.own started (by kernel_rfl) Tryz.func7
    (ChangeSpec.witness6 (enc := enc) (C := Tryz.checked) false ⟨#[], #[(.slice none 0 0), (.agg #[(.int .i64 0), (.int .i64 0), (.int .i64 0), (.int .i64 0), (.int .i64 0), (.slice none 0 0)]), (.agg #[(.int .i64 0), (.int .i64 0), (.int .i64 0), (.int .i64 0), (.int .i64 0), (.slice none 0 0)])], []⟩ 8 (by kernel_rfl) (by kernel_rfl) (by kernel_rfl) (by kernel_rfl)) ?_
  intro W base args ds gs before hval0 hW hcnd _
  have hval : ∀ (j : Nat) t v, Tryz.f7.params[j]? = some t → args[j]? = some v → Value.okWide Tryz.prog W .any base t v := hval0
  have hW' := hW
  obtain ⟨p, q, hA0, hV, rfl, hfz, hnd⟩ := hW
  have hA : DataW.TrodAll enc Tryz.prog W 0 (fun _ => true) true Tryz.f7.params.toList args.toList ds p := hA0
  rw [Tryz.params7] at hA hval
  clear hA0 hval0
  obtain ⟨v0, vs0, d0, ds0, p0, q0, ha0, rfl, rfl, h0, hA⟩ := trodAll_cons hA
  obtain ⟨v1, vs1, d1, ds1, p1, q1, ha1, rfl, rfl, h1, hA⟩ := trodAll_cons hA
  obtain ⟨v2, vs2, d2, ds2, p2, q2, ha2, rfl, rfl, h2, hA⟩ := trodAll_cons hA
  obtain ⟨hz1, rfl, rfl⟩ := trodAll_nil hA
  obtain ⟨rfl, rfl⟩ := trodVars_none hV
  have hargs : args = #[v0, v1, v2] := by apply Array.ext'; rw [ha0, ha1, ha2, hz1]
  subst hargs
  obtain ⟨m0, h0⟩ := h0
  obtain ⟨A, n, c, mm0, xs0, q0, hn, hc, hr, hx0⟩ := tr_psl Tryz.underlying65 co67 (by decide) (hval 0 65 v0 rfl rfl) h0
  subst q0
  clear h0
  obtain ⟨l, q0, hle⟩ := tr_list (f := RVote.cells) (p := (VOk W)) (fun y hy => by obtain ⟨z, hz⟩ := hy; exact op_RVote hz) hx0
  subst q0
  rw [List.length_map] at hn
  obtain ⟨l1, e1, c1⟩ := tr_agg Tryz.underlying67 (hval 1 67 v1 rfl rfl)
  obtain ⟨m1, h1⟩ := h1
  rw [c1] at h1
  clear c1
  obtain ⟨a1, A1, n1, c1, q1, hr1, hn1, hc1, x1a, x1b, x1c, x1d, x1e, x1f⟩ := op_Vote h1
  subst q1
  subst e1
  obtain ⟨l2, e2, c2⟩ := tr_agg Tryz.underlying67 (hval 2 67 v2 rfl rfl)
  obtain ⟨m2, h2⟩ := h2
  rw [c2] at h2
  clear c2
  obtain ⟨a2, A2, n2, c2, q2, hr2, hn2, hc2, x2a, x2b, x2c, x2d, x2e, x2f⟩ := op_Vote h2
  subst q2
  subst e2
  refine Calls.mono (changeOrder_ W W.heap.size l A n c hr (VOk.vt hle) (Nat.le_refl _) hn a1 A1 n1 c1 hr1 hn1 hc1 a2 A2 n2 c2 hr2 hn2 hc2) ?_
  rintro e W' ⟨v, rfl, rfl, g⟩
  exact ⟨_, rfl, law_post (t := 4) Tryz.laidOut (by kernel_rfl) rfl Tryz.underlying4 hW' rfl rfl g⟩
theorem changeOrder_holds : Rows.ChangeOrderSaid :=
  OpenClaim.holds_of_wide 7 Tryz.f7 rfl rfl rfl rfl rfl rfl rfl ⟨rfl, rfl, rfl, rfl, rfl⟩ rfl rfl rfl rfl rfl (by kernel_rfl) Tryz.func7 jf_changeOrder
    (of_decide_eq_true (by kernel_rfl)) (by unfold Func.isWrapper; first | (rw [if_pos (by decide +kernel)]; kernel_rfl) | (rw [if_neg (by decide +kernel)]; exact ⟨rfl, rfl⟩))
    (fun os started H enc _ => changeOrder_lifted os started H enc)
#print axioms changeOrder_holds
end Go.Proofs.YtfokljnhllflbaaGreat
