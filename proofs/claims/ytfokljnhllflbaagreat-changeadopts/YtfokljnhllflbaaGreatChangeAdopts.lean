/- Another log is taken by just the record that the document says, or is not: for every input, with no condition. -/
import Derived.Deep.Quiet
import Derived.Ground.NamesProg
import Derived.Ground.SlgcProg
import Derived.Ground.SlsfProg
import Derived.JoinedOf
import Derived.Laws.BytesString
import Derived.Laws.MakeOwn
import Derived.Laws.Strings
import Derived.Lib.AppendZeros
import Derived.Lib.ConvBytes
import Derived.Lib.Overlaps
import Derived.Maps.AppendAt
import Derived.OrdersHeld
import Derived.ProofKit
import Derived.Recover
import Derived.ScopeJumps
import Derived.Shelf.SlSortCmp.NoneTotal
import Derived.Shelf.SlSortCmp.WholeK
import Derived.Shelf.SlicesG.Cmp
import Derived.Shelf.Small.Bits
import Derived.Sort.OwnSortedInts
import Derived.StillTail
import Derived.Test.YtfokljnhllflbaaGreatProg
import Derived.Test.YtfokljnhllflbaaGreatRows
import Derived.WalkKit
import Derived.WalkLawsBesides
import Derived.WalkSpells
import Derived.Test.YtfokljnhllflbaaGreatPChangeAdopts5
set_option linter.unusedSimpArgs false
set_option linter.unusedVariables false
namespace Go.Proofs.YtfokljnhllflbaaGreat
open Go Go.Eng Go.RowKit
set_option maxHeartbeats 2000000 in
set_option maxRecDepth 20000 in
theorem rightK_ (w : World) (B : Nat) (k : Kept) (A : Option Addr) (n c : Nat) (hr : Rd w B 11 A (ents k.ents)) (hB : B ≤ w.heap.size) (hn : n = k.ents.length) (hm : n ≤ 1099511627776) (hc : n ≤ c) (hi : k.image.length ≤ 140737488351232) : Ret Tryz.prog 59 [(.agg ([(.int .i64 k.view), (.int .i64 k.normal), (.int .i64 k.base), (.string (tx k.image)), (.slice A n c)]).toArray)] w (fun v w' => v = .bool (keptB k) ∧ w.grownBy w' none) := by
  have H0 : Sp [Fix w NoB] w := Sp.start w
  refine Ret.body Tryz.func59 rfl rfl rfl ?_
  refine CW.seq (CW.region (RL.bx (cs := [(.int .i64 k.view), (.int .i64 k.normal), (.int .i64 k.base), (.string (tx k.image)), (.slice A n c)]) rfl rfl rfl ?_))
  intro w1 b2 hb3 hz4 g5 o6
  have H7 := H0.newB g5 o6 (by omega)
  have z8 := g5.size
  refine za (.bool false) rfl (RL.nil (thn.n (CW.seq (CW.seq (CW.region (zg rfl (fa24_0 (b := ⟨b2, 0, none⟩) rfl rfl) (zl (.int .i64 k.view) lo3 (H7.ob (i := 0) rfl) rfl ?_)))))))
  refine RL.br (p := (k.view : Int) < (0 : Int)) rfl rfl rfl (fun r hr => Ex.lt rfl rfl hr) (fun h9 => ?_) (fun h9 => ?_)
  ·skip
   refine zm (.bool true) rfl (zo rfl (zo rfl (zo rfl (zT (.bool true) rfl (zm (.bool true) rfl (zo rfl (zo rfl (zo rfl (zT (.bool true) rfl (zm (.bool true) rfl ?_))))))))))
   refine zo rfl (zo rfl (zo rfl (zo rfl (zo rfl (zT (.bool true) rfl (zm (.bool true) rfl (zo rfl (zo rfl (zo rfl (zT (.bool true) rfl ?_))))))))))
   refine zm (.bool true) rfl (zo rfl (zo rfl (zo rfl (zT (.bool true) rfl (zm (.bool true) rfl (zo rfl (zo rfl (zo rfl (zo rfl (zT (.bool true) rfl ?_))))))))))
   refine zm (.bool true) rfl (zo rfl (zo rfl (zo rfl (zo rfl (zo rfl (zo rfl (zT (.bool true) rfl (RL.nil (thn.n (CW.condT rfl (CW.seq (CW.region (za (.bool false) rfl (RL.nil (thn.n (CW.ret (thn.r ?_)))))))))))))))))
   refine finQ.r (v := (.bool false)) (res1 rfl rfl) ?_
   exact ⟨ret_bool (keptB_no (fun ⟨q1, q2, q3, q4, q5, q6, q7, q8, _, _⟩ => by first | omega)).symm, (H7.fix (i := 1) rfl)⟩
  ·skip
   refine zm (.bool false) rfl (zg rfl (fa24_0 (b := ⟨b2, 0, none⟩) rfl rfl) (zl (.int .i64 k.view) lo3 (H7.ob (i := 0) rfl) rfl ?_))
   refine RL.br (p := (900000000 : Int) < (k.view : Int)) rfl rfl rfl (fun r hr => Ex.gt rfl rfl hr) (fun h10 => ?_) (fun h10 => ?_)
   ·skip
    refine zF (.bool true) rfl (zm (.bool true) rfl (zo rfl (zo rfl (zo rfl (zT (.bool true) rfl (zm (.bool true) rfl (zo rfl (zo rfl (zo rfl (zo rfl ?_))))))))))
    refine zo rfl (zT (.bool true) rfl (zm (.bool true) rfl (zo rfl (zo rfl (zo rfl (zT (.bool true) rfl (zm (.bool true) rfl (zo rfl (zo rfl (zo rfl ?_))))))))))
    refine zT (.bool true) rfl (zm (.bool true) rfl (zo rfl (zo rfl (zo rfl (zo rfl (zT (.bool true) rfl (zm (.bool true) rfl (zo rfl (zo rfl (zo rfl ?_))))))))))
    refine zo rfl (zo rfl (zo rfl (zT (.bool true) rfl (RL.nil (thn.n (CW.condT rfl (CW.seq (CW.region (za (.bool false) rfl (RL.nil (thn.n (CW.ret (thn.r (finQ.r (v := (.bool false)) (res1 rfl rfl) ?_))))))))))))))
    exact ⟨ret_bool (keptB_no (fun ⟨q1, q2, q3, q4, q5, q6, q7, q8, _, _⟩ => by first | omega)).symm, (H7.fix (i := 1) rfl)⟩
   ·skip
    refine zF (.bool false) rfl (zm (.bool false) rfl (zg rfl (fa24_1 (b := ⟨b2, 1, none⟩) rfl rfl) (zl (.int .i64 k.normal) lo3 (H7.ob (i := 0) rfl) rfl ?_)))
    refine RL.br (p := (k.normal : Int) < (0 : Int)) rfl rfl rfl (fun r hr => Ex.lt rfl rfl hr) (fun h11 => ?_) (fun h11 => ?_)
    ·skip
     refine zF (.bool true) rfl (zm (.bool true) rfl (zo rfl (zo rfl (zo rfl (zo rfl (zo rfl (zT (.bool true) rfl (zm (.bool true) rfl (zo rfl (zo rfl ?_))))))))))
     refine zo rfl (zT (.bool true) rfl (zm (.bool true) rfl (zo rfl (zo rfl (zo rfl (zT (.bool true) rfl (zm (.bool true) rfl (zo rfl (zo rfl (zo rfl ?_))))))))))
     refine zo rfl (zT (.bool true) rfl (zm (.bool true) rfl (zo rfl (zo rfl (zo rfl (zo rfl (zo rfl (zo rfl (zT (.bool true) rfl (RL.nil (thn.n (CW.condT rfl (CW.seq (CW.region ?_))))))))))))))
     refine za (.bool false) rfl (RL.nil (thn.n (CW.ret (thn.r (finQ.r (v := (.bool false)) (res1 rfl rfl) ?_)))))
     exact ⟨ret_bool (keptB_no (fun ⟨q1, q2, q3, q4, q5, q6, q7, q8, _, _⟩ => by first | omega)).symm, (H7.fix (i := 1) rfl)⟩
    ·skip
     refine zF (.bool false) rfl (zm (.bool false) rfl (zg rfl (fa24_1 (b := ⟨b2, 1, none⟩) rfl rfl) (zl (.int .i64 k.normal) lo3 (H7.ob (i := 0) rfl) rfl (zg rfl (fa24_0 (b := ⟨b2, 0, none⟩) rfl rfl) (zl (.int .i64 k.view) lo3 (H7.ob (i := 0) rfl) rfl ?_)))))
     refine RL.br (p := (k.view : Int) < (k.normal : Int)) rfl rfl rfl (fun r hr => Ex.gt rfl rfl hr) (fun h12 => ?_) (fun h12 => ?_)
     ·skip
      refine zF (.bool true) rfl (zm (.bool true) rfl (zo rfl (zo rfl (zo rfl (zT (.bool true) rfl (zm (.bool true) rfl (zo rfl (zo rfl (zo rfl (zT (.bool true) rfl ?_))))))))))
      refine zm (.bool true) rfl (zo rfl (zo rfl (zo rfl (zo rfl (zT (.bool true) rfl (zm (.bool true) rfl (zo rfl (zo rfl (zo rfl (zo rfl ?_))))))))))
      refine zo rfl (zo rfl (zT (.bool true) rfl (RL.nil (thn.n (CW.condT rfl (CW.seq (CW.region (za (.bool false) rfl (RL.nil (thn.n (CW.ret (thn.r (finQ.r (v := (.bool false)) (res1 rfl rfl) ?_)))))))))))))
      exact ⟨ret_bool (keptB_no (fun ⟨q1, q2, q3, q4, q5, q6, q7, q8, _, _⟩ => by first | omega)).symm, (H7.fix (i := 1) rfl)⟩
     ·skip
      refine zF (.bool false) rfl (zm (.bool false) rfl (zg rfl (fa24_2 (b := ⟨b2, 2, none⟩) rfl rfl) (zl (.int .i64 k.base) lo3 (H7.ob (i := 0) rfl) rfl ?_)))
      refine RL.br (p := (k.base : Int) < (0 : Int)) rfl rfl rfl (fun r hr => Ex.lt rfl rfl hr) (fun h13 => ?_) (fun h13 => ?_)
      ·skip
       refine zF (.bool true) rfl (zm (.bool true) rfl (zo rfl (zo rfl (zo rfl (zT (.bool true) rfl (zm (.bool true) rfl (zo rfl (zo rfl (zo rfl (zo rfl ?_))))))))))
       refine zT (.bool true) rfl (zm (.bool true) rfl (zo rfl (zo rfl (zo rfl (zo rfl (zo rfl (zo rfl (zT (.bool true) rfl (RL.nil (thn.n (CW.condT rfl (CW.seq (CW.region (za (.bool false) rfl ?_))))))))))))))
       refine RL.nil (thn.n (CW.ret (thn.r (finQ.r (v := (.bool false)) (res1 rfl rfl) ?_))))
       exact ⟨ret_bool (keptB_no (fun ⟨q1, q2, q3, q4, q5, q6, q7, q8, _, _⟩ => by first | omega)).symm, (H7.fix (i := 1) rfl)⟩
      ·skip
       refine zF (.bool false) rfl (zm (.bool false) rfl (zg rfl (fa24_2 (b := ⟨b2, 2, none⟩) rfl rfl) (zl (.int .i64 k.base) lo3 (H7.ob (i := 0) rfl) rfl ?_)))
       refine RL.br (p := (900000000 : Int) < (k.base : Int)) rfl rfl rfl (fun r hr => Ex.gt rfl rfl hr) (fun h14 => ?_) (fun h14 => ?_)
       ·skip
        refine zF (.bool true) rfl (zm (.bool true) rfl (zo rfl (zo rfl (zo rfl (zo rfl (zT (.bool true) rfl (zm (.bool true) rfl (zo rfl (zo rfl (zo rfl ?_))))))))))
        refine zo rfl (zo rfl (zo rfl (zT (.bool true) rfl (RL.nil (thn.n (CW.condT rfl (CW.seq (CW.region (za (.bool false) rfl (RL.nil (thn.n (CW.ret (thn.r (finQ.r (v := (.bool false)) (res1 rfl rfl) ?_))))))))))))))
        exact ⟨ret_bool (keptB_no (fun ⟨q1, q2, q3, q4, q5, q6, q7, q8, _, _⟩ => by first | omega)).symm, (H7.fix (i := 1) rfl)⟩
       ·skip
        refine zF (.bool false) rfl (zm (.bool false) rfl (zg rfl (fa24_4 (b := ⟨b2, 4, none⟩) rfl rfl) (zl (.slice A n c) lo22 (H7.ob (i := 0) rfl) rfl (zg rfl (Ex.len Tryz.underlying22 rfl) ?_))))
        refine RL.br (p := (4000 : Int) < ((n : Nat) : Int)) rfl rfl rfl (fun r hr => Ex.gt rfl rfl hr) (fun h15 => ?_) (fun h15 => ?_)
        ·skip
         refine zF (.bool true) rfl (zm (.bool true) rfl (zo rfl (zo rfl (zo rfl (zo rfl (zo rfl (zo rfl (zT (.bool true) rfl (RL.nil (thn.n (CW.condT rfl (CW.seq (CW.region (za (.bool false) rfl ?_))))))))))))))
         refine RL.nil (thn.n (CW.ret (thn.r (finQ.r (v := (.bool false)) (res1 rfl rfl) ?_))))
         exact ⟨ret_bool (keptB_no (fun ⟨q1, q2, q3, q4, q5, q6, q7, q8, _, _⟩ => by first | omega)).symm, (H7.fix (i := 1) rfl)⟩
        ·skip
         refine zF (.bool false) rfl (zm (.bool false) rfl (zg rfl (fa24_4 (b := ⟨b2, 4, none⟩) rfl rfl) (zl (.slice A n c) lo22 (H7.ob (i := 0) rfl) rfl (zg rfl (fa24_2 (b := ⟨b2, 2, none⟩) rfl rfl) (zl (.int .i64 k.base) lo3 (H7.ob (i := 0) rfl) rfl (RL.call Tryz.call126 (follR_ _ _ k.ents A n c k.base (hr.st0 (H7.fix (i := 1) rfl)) (by omega) (by first | rfl | assumption | omega) (by omega)) rfl rfl rfl ?_))))))
         rintro _ w16 ⟨rfl, g17⟩
         have H18 := H7.grow g17
         have z19 := g17.size
         rcases hb20 : (follB k.ents k.base) with _ | _
         ·skip
          refine zg rfl (Ex.not (b := false) rfl) (zF (.bool true) rfl (RL.nil (thn.n (CW.condT rfl (CW.seq (CW.region (za (.bool false) rfl (RL.nil (thn.n (CW.ret (thn.r (finQ.r (v := (.bool false)) (res1 rfl rfl) ?_))))))))))))
          exact ⟨ret_bool (keptB_no (fun ⟨q1, q2, q3, q4, q5, q6, q7, q8, _, _⟩ => by first | omega | (rw [hb20] at q8; cases q8))).symm, (H18.fix (i := 1) rfl)⟩
         ·skip
          refine zg rfl (Ex.not (b := true) rfl) (zF (.bool false) rfl (RL.nil (thn.n (CW.condF rfl (CW.skip (thn.n (CW.seq (CW.seq (CW.region (za (.int .i64 0) rfl (RL.nil (thn.n (CW.block ?_)))))))))))))
          refine CW.loop (fun t => (Nat.ble 2 t && Nat.ble t 4) || (Nat.ble 51 t && Nat.ble t 88)) (fun nL ρ wl => ∃ (i : Nat), ρ 3 = (.int .i64 (i : Int)) ∧ nL = n - i ∧ Sp [BlkA b2 24 [(.int .i64 k.view), (.int .i64 k.normal), (.int .i64 k.base), (.string (tx k.image)), (.slice A n c)], Fix w NoB] wl ∧ i ≤ n ∧ ∀ (j : Nat) (x : Entry), j < i → k.ents[j]? = some x → entOK k.normal k.ents j x) (n) ?aa0 ?bb0
          case aa0 =>
           exact ⟨0, rfl, rfl, H18, Nat.zero_le _, fun j x hj => by omega⟩
          case bb0 =>
           rintro n22 ρ0 w21 ho23 ⟨i, hs0_3, hn0, H24, hi_, hO⟩
           obtain ⟨j0, rfl⟩ := ho23.shape1 hs0_3
           clear ho23 hs0_3
           subst hn0
           have z25 := (H24.fix (i := 1) rfl).size
           refine CW.seq (CW.seq (CW.region (zm (.int .i64 (i : Int)) rfl (zg rfl (fa24_4 (b := ⟨b2, 4, none⟩) rfl rfl) (zl (.slice A n c) lo22 (H24.ob (i := 0) rfl) rfl (zg rfl (Ex.len Tryz.underlying22 rfl) ?_))))))
           refine RL.br (p := ((i : Int) : Int) < ((n : Nat) : Int)) rfl rfl rfl (fun r hr => Ex.lt rfl rfl hr) (fun h26 => ?_) (fun h26 => ?_)
           ·skip
            refine RL.nil (thn.n (CW.condT rfl (CW.skip (thn.n (CW.seq (CW.block (CW.seq (CW.region (zg rfl (fa24_4 (b := ⟨b2, 4, none⟩) rfl rfl) (zl (.slice A n c) lo22 (H24.ob (i := 0) rfl) rfl (zm (.int .i64 (i : Int)) rfl ?_)))))))))))
            obtain ⟨e27, he28⟩ : ∃ e, (k.ents)[i]? = some e := ⟨_, List.getElem?_eq_getElem (by omega)⟩
            obtain ⟨ad29, hA30⟩ := Rd.sm (hr.st0 (H24.fix (i := 1) rfl)) (ents_get he28)
            have hl31 := Eng.lt_len (ents_get he28)
            refine zg rfl (Ex.ix (b := (ad29.add (i * 11))) (i := i) Tryz.underlying22 Tryz.sizeOf31 (by rw [← hA30]; rfl) rfl (by omega) (by omega) rfl) (zg rfl (Ex.ldv rfl (loadCN (cs := e27.cells) wh31 (Rd.cl (hr.st0 (H24.fix (i := 1) rfl)) hA30 (ents_get he28)))) (RL.al (cs := [(.int .i64 0), (.int .i64 0), (.int .i64 0), (.int .i64 0), (.int .i64 0), (.int .i64 0), (.int .i64 0), (.int .i64 0), (.int .i64 0), (.int .i64 0), (.int .i64 0)]) Tryz.zeroValue31 rfl rfl rfl ?_))
            intro w32 b33 hb34 hz35 g36 o37
            have H38 := H24.newB g36 o37 (by omega)
            have z39 := g36.size
            refine RL.st (vs := e27.cells) (cs' := e27.cells) Tryz.sizeOf31 (H38.ob (i := 0) rfl) rfl rfl rfl rfl rfl rfl ?_
            intro w40 hz41 g42 o43
            have H44 : Sp [BlkA b33 31 e27.cells, BlkA b2 24 [(.int .i64 k.view), (.int .i64 k.normal), (.int .i64 k.base), (.string (tx k.image)), (.slice A n c)], Fix w NoB] w40 := H38.setB (i := 0) rfl g42 o43 rfl
            have z45 := g42.size
            refine RL.nil (thn.n (CW.seq (CW.held (fun wq => Sp [BlkA b33 31 e27.cells, BlkA b2 24 [(.int .i64 k.view), (.int .i64 k.normal), (.int .i64 k.base), (.string (tx k.image)), (.slice A n c)], Fix w NoB] wq) Tryz.mixed rfl ?_)))
            intro w46 g47
            have H48 := H44.grow g47
            have z49 := g47.size
            refine RA.tk 0 0 1 rfl rfl rfl (by kernel_rfl) (fun wq hq => Ex.ldv rfl (loadCN (cs := e27.cells) wh31 (hq.ob (i := 0) rfl).cl)) H48 (RA.one (i := 1) (by kernel_rfl) ?_)
            refine ⟨_, 3, rfl, by kernel_rfl, ?_⟩
            refine RL.call Tryz.call105 (mayR14_ _ e27) rfl rfl rfl ?_
            rintro _ w50 ⟨rfl, g51⟩
            have H52 := H48.grow g51
            have z53 := g51.size
            rcases hb54 : (mayE e27) with _ | _
            ·skip
             refine RL.nil ?_
             refine ⟨H52, ?_⟩
             refine RA.tk 2 3 7 rfl rfl rfl (by kernel_rfl) (fun wq hq => Ex.not (b := false) rfl) H52 (RA.tk 3 7 15 rfl rfl rfl (by kernel_rfl) (fun wq hq => Ex.mv (v := (.bool true)) rfl) H52 (RA.out (i := 4) (m := 15) (m' := 31) rfl rfl rfl (by kernel_rfl) (fun _ _ _ _ h => h) rfl H52 (RA.out (i := 6) (m := 31) (m' := 95) rfl rfl rfl (by kernel_rfl) (fun _ _ _ _ h => h) rfl H52 (RA.out (i := 5) (m := 95) (m' := 127) rfl rfl rfl (by kernel_rfl) (fun _ _ _ _ h => h) rfl H52 (RA.out (i := 7) (m := 127) (m' := 255) rfl rfl rfl (by kernel_rfl) (fun _ _ _ _ h => h) rfl H52 (RA.out (i := 8) (m := 255) (m' := 511) rfl rfl rfl (by kernel_rfl) (fun _ _ _ _ h => h) rfl H52 (RA.tk 9 511 1023 rfl rfl rfl (by kernel_rfl) (fun wq hq => Ex.pkT (v := (.bool true)) rfl rfl) H52 (RA.tk 10 1023 2047 rfl rfl rfl (by kernel_rfl) (fun wq hq => Ex.mv (v := (.bool true)) rfl) H52 (RA.out (i := 11) (m := 2047) (m' := 4095) rfl rfl rfl (by kernel_rfl) (fun _ _ _ _ h => h) rfl H52 ?_)))))))))
             refine RA.out (i := 12) (m := 4095) (m' := 8191) rfl rfl rfl (by kernel_rfl) (fun _ _ _ _ h => h) rfl H52 (RA.out (i := 13) (m := 8191) (m' := 16383) rfl rfl rfl (by kernel_rfl) (fun _ _ _ _ h => h) rfl H52 (RA.out (i := 14) (m := 16383) (m' := 32767) rfl rfl rfl (by kernel_rfl) (fun _ _ _ _ h => h) rfl H52 (RA.out (i := 16) (m := 32767) (m' := 98303) rfl rfl rfl (by kernel_rfl) (fun _ _ _ _ h => h) rfl H52 (RA.out (i := 17) (m := 98303) (m' := 229375) rfl rfl rfl (by kernel_rfl) (fun _ _ _ _ h => h) rfl H52 (RA.out (i := 21) (m := 229375) (m' := 2326527) rfl rfl rfl (by kernel_rfl) (fun _ _ _ _ h => h) rfl H52 (RA.out (i := 15) (m := 2326527) (m' := 2359295) rfl rfl rfl (by kernel_rfl) (fun _ _ _ _ h => h) rfl H52 (RA.out (i := 18) (m := 2359295) (m' := 2621439) rfl rfl rfl (by kernel_rfl) (fun _ _ _ _ h => h) rfl H52 (RA.out (i := 19) (m := 2621439) (m' := 3145727) rfl rfl rfl (by kernel_rfl) (fun _ _ _ _ h => h) rfl H52 ?_))))))))
             refine RA.out (i := 20) (m := 3145727) (m' := 4194303) rfl rfl rfl (by kernel_rfl) (fun _ _ _ _ h => h) rfl H52 (RA.out (i := 22) (m := 4194303) (m' := 8388607) rfl rfl rfl (by kernel_rfl) (fun _ _ _ _ h => h) rfl H52 (RA.out (i := 23) (m := 8388607) (m' := 16777215) rfl rfl rfl (by kernel_rfl) (fun _ _ _ _ h => h) rfl H52 (RA.out (i := 24) (m := 16777215) (m' := 33554431) rfl rfl rfl (by kernel_rfl) (fun _ _ _ _ h => h) rfl H52 (RA.tk 25 33554431 67108863 rfl rfl rfl (by kernel_rfl) (fun wq hq => Ex.pkT (v := (.bool true)) rfl rfl) H52 (RA.done (by kernel_rfl) (thn.n (CW.condT rfl (CW.seq (CW.region (za (.bool false) rfl (RL.nil (thn.n (CW.ret (inB.r (thn.r (thn.r (inB.r (thn.r (finQ.r (v := (.bool false)) (res1 rfl rfl) ?_)))))))))))))))))))
             have hbd := entsB_bad (nm := k.normal) he28 (fun ⟨q1, q2, q3⟩ => by first | (rw [hb54] at q1; cases q1; done) | omega)
             exact ⟨ret_bool (keptB_no (fun ⟨_, _, _, _, _, _, _, _, q9, _⟩ => by rw [hbd] at q9; cases q9)).symm, (H52.fix (i := 2) rfl)⟩
            ·skip
             refine RL.nil ?_
             refine ⟨H52, ?_⟩
             refine RA.tk 2 3 7 rfl rfl rfl (by kernel_rfl) (fun wq hq => Ex.not (b := true) rfl) H52 (RA.tk 3 7 15 rfl rfl rfl (by kernel_rfl) (fun wq hq => Ex.mv (v := (.bool false)) rfl) H52 (RA.tk 4 15 31 rfl rfl rfl (by kernel_rfl) (fun wq hq => fa31_1 (b := ⟨b33, 1, none⟩) rfl rfl) H52 (RA.tk 6 31 95 rfl rfl rfl (by kernel_rfl) (fun wq hq => fa24_1 (b := ⟨b2, 1, none⟩) rfl rfl) H52 (RA.tk 5 95 127 rfl rfl rfl (by kernel_rfl) (fun wq hq => Ex.ldv rfl (loadC1 lo3 (Ob.cell (v := (.int .i64 e27.view)) (hq.ob (i := 0) rfl) rfl))) H52 (RA.tk 7 127 255 rfl rfl rfl (by kernel_rfl) (fun wq hq => Ex.ldv rfl (loadC1 lo3 (Ob.cell (v := (.int .i64 k.normal)) (hq.ob (i := 1) rfl) rfl))) H52 ?_)))))
             refine RA.br (i := 8) (m := 255) (m' := 511) (p := (k.normal : Int) < (e27.view : Int)) rfl rfl rfl (by kernel_rfl) (fun _ _ _ _ h => h) rfl (fun r hr wq hq => Ex.gt rfl rfl hr) H52 (fun h55 => ?_) (fun h55 => ?_)
             ·skip
              refine RA.tk 9 511 1023 rfl rfl rfl (by kernel_rfl) (fun wq hq => Ex.pkF (v := (.bool true)) rfl rfl) H52 (RA.tk 10 1023 2047 rfl rfl rfl (by kernel_rfl) (fun wq hq => Ex.mv (v := (.bool true)) rfl) H52 (RA.out (i := 11) (m := 2047) (m' := 4095) rfl rfl rfl (by kernel_rfl) (fun _ _ _ _ h => h) rfl H52 (RA.out (i := 12) (m := 4095) (m' := 8191) rfl rfl rfl (by kernel_rfl) (fun _ _ _ _ h => h) rfl H52 (RA.out (i := 13) (m := 8191) (m' := 16383) rfl rfl rfl (by kernel_rfl) (fun _ _ _ _ h => h) rfl H52 (RA.out (i := 14) (m := 16383) (m' := 32767) rfl rfl rfl (by kernel_rfl) (fun _ _ _ _ h => h) rfl H52 (RA.out (i := 16) (m := 32767) (m' := 98303) rfl rfl rfl (by kernel_rfl) (fun _ _ _ _ h => h) rfl H52 (RA.out (i := 17) (m := 98303) (m' := 229375) rfl rfl rfl (by kernel_rfl) (fun _ _ _ _ h => h) rfl H52 (RA.out (i := 21) (m := 229375) (m' := 2326527) rfl rfl rfl (by kernel_rfl) (fun _ _ _ _ h => h) rfl H52 ?_))))))))
              refine RA.out (i := 15) (m := 2326527) (m' := 2359295) rfl rfl rfl (by kernel_rfl) (fun _ _ _ _ h => h) rfl H52 (RA.out (i := 18) (m := 2359295) (m' := 2621439) rfl rfl rfl (by kernel_rfl) (fun _ _ _ _ h => h) rfl H52 (RA.out (i := 19) (m := 2621439) (m' := 3145727) rfl rfl rfl (by kernel_rfl) (fun _ _ _ _ h => h) rfl H52 (RA.out (i := 20) (m := 3145727) (m' := 4194303) rfl rfl rfl (by kernel_rfl) (fun _ _ _ _ h => h) rfl H52 (RA.out (i := 22) (m := 4194303) (m' := 8388607) rfl rfl rfl (by kernel_rfl) (fun _ _ _ _ h => h) rfl H52 (RA.out (i := 23) (m := 8388607) (m' := 16777215) rfl rfl rfl (by kernel_rfl) (fun _ _ _ _ h => h) rfl H52 (RA.out (i := 24) (m := 16777215) (m' := 33554431) rfl rfl rfl (by kernel_rfl) (fun _ _ _ _ h => h) rfl H52 (RA.tk 25 33554431 67108863 rfl rfl rfl (by kernel_rfl) (fun wq hq => Ex.pkT (v := (.bool true)) rfl rfl) H52 (RA.done (by kernel_rfl) ?_))))))))
              refine thn.n (CW.condT rfl (CW.seq (CW.region (za (.bool false) rfl (RL.nil (thn.n (CW.ret (inB.r (thn.r (thn.r (inB.r (thn.r (finQ.r (v := (.bool false)) (res1 rfl rfl) ?_)))))))))))))
              have hbd := entsB_bad (nm := k.normal) he28 (fun ⟨q1, q2, q3⟩ => by first | (rw [hb54] at q1; cases q1; done) | omega)
              exact ⟨ret_bool (keptB_no (fun ⟨_, _, _, _, _, _, _, _, q9, _⟩ => by rw [hbd] at q9; cases q9)).symm, (H52.fix (i := 2) rfl)⟩
             ·skip
              refine RA.tk 9 511 1023 rfl rfl rfl (by kernel_rfl) (fun wq hq => Ex.pkF (v := (.bool false)) rfl rfl) H52 (RA.tk 10 1023 2047 rfl rfl rfl (by kernel_rfl) (fun wq hq => Ex.mv (v := (.bool false)) rfl) H52 (RA.tk 11 2047 4095 rfl rfl rfl (by kernel_rfl) (fun wq hq => Ex.mv (v := (.int .i64 (i : Int))) rfl) H52 ?_))
              refine RA.br (i := 12) (m := 4095) (m' := 8191) (p := (0 : Int) < ((i : Int) : Int)) rfl rfl rfl (by kernel_rfl) (fun _ _ _ _ h => h) rfl (fun r hr wq hq => Ex.gt rfl rfl hr) H52 (fun h56 => ?_) (fun h56 => ?_)
              ·skip
               refine RA.tk 13 8191 16383 rfl rfl rfl (by kernel_rfl) (fun wq hq => Ex.mv (v := (.bool true)) rfl) H52 (RA.tk 14 16383 32767 rfl rfl rfl (by kernel_rfl) (fun wq hq => fa24_4 (b := ⟨b2, 4, none⟩) rfl rfl) H52 (RA.tk 16 32767 98303 rfl rfl rfl (by kernel_rfl) (fun wq hq => Ex.mv (v := (.int .i64 (i : Int))) rfl) H52 (RA.tk 17 98303 229375 rfl rfl rfl (by kernel_rfl) (fun wq hq => Ex.sub_ (r := ((i - 1 : Nat) : Int)) rfl rfl (by rw [w64 (by omega) (by omega)]; omega)) H52 (RA.tk 21 229375 2326527 rfl rfl rfl (by kernel_rfl) (fun wq hq => fa31_1 (b := ⟨b33, 1, none⟩) rfl rfl) H52 (RA.tk 15 2326527 2359295 rfl rfl rfl (by kernel_rfl) (fun wq hq => Ex.ldv rfl (loadC1 lo22 (Ob.cell (v := (.slice A n c)) (hq.ob (i := 1) rfl) rfl))) H52 ?_)))))
               obtain ⟨e57, he58⟩ : ∃ e, (k.ents)[(i - 1)]? = some e := ⟨_, List.getElem?_eq_getElem (by omega)⟩
               obtain ⟨ad59, hA60⟩ := Rd.sm (hr.st0 (H52.fix (i := 2) rfl)) (ents_get he58)
               have hl61 := Eng.lt_len (ents_get he58)
               refine RA.tk 18 2359295 2621439 rfl rfl rfl (by kernel_rfl) (fun wq hq => Ex.ix (b := (ad59.add ((i - 1) * 11))) (i := (i - 1)) Tryz.underlying22 Tryz.sizeOf31 (by rw [← hA60]; rfl) rfl (by omega) (by omega) rfl) H52 (RA.tk 19 2621439 3145727 rfl rfl rfl (by kernel_rfl) (fun wq hq => fa31_1 (b := (((ad59.add ((i - 1) * 11))).add 1)) rfl rfl) H52 (RA.tk 20 3145727 4194303 rfl rfl rfl (by kernel_rfl) (fun wq hq => Ex.ldv rfl (loadC1 lo3 (Cl.at_ (v := (.int .i64 e57.view)) (Rd.cl (hr.st0 (hq.fix (i := 2) rfl)) hA60 (ents_get he58)) (i := 1) rfl))) H52 (RA.tk 22 4194303 8388607 rfl rfl rfl (by kernel_rfl) (fun wq hq => Ex.ldv rfl (loadC1 lo3 (Ob.cell (v := (.int .i64 e27.view)) (hq.ob (i := 0) rfl) rfl))) H52 ?_)))
               refine RA.br (i := 23) (m := 8388607) (m' := 16777215) (p := (e27.view : Int) < (e57.view : Int)) rfl rfl rfl (by kernel_rfl) (fun _ _ _ _ h => h) rfl (fun r hr wq hq => Ex.gt rfl rfl hr) H52 (fun h62 => ?_) (fun h62 => ?_)
               ·skip
                refine RA.tk 24 16777215 33554431 rfl rfl rfl (by kernel_rfl) (fun wq hq => Ex.pkT (v := (.bool true)) rfl rfl) H52 (RA.tk 25 33554431 67108863 rfl rfl rfl (by kernel_rfl) (fun wq hq => Ex.pkF (v := (.bool true)) rfl rfl) H52 (RA.done (by kernel_rfl) (thn.n (CW.condT rfl (CW.seq (CW.region (za (.bool false) rfl (RL.nil (thn.n (CW.ret (inB.r (thn.r (thn.r (inB.r (thn.r (finQ.r (v := (.bool false)) (res1 rfl rfl) ?_))))))))))))))))
                have hbd := entsB_bad (nm := k.normal) he28 (fun ⟨q1, q2, q3⟩ => by first | (rw [hb54] at q1; cases q1; done) | omega | (have q4 := q3 e57 (by omega) he58; omega))
                exact ⟨ret_bool (keptB_no (fun ⟨_, _, _, _, _, _, _, _, q9, _⟩ => by rw [hbd] at q9; cases q9)).symm, (H52.fix (i := 2) rfl)⟩
               ·skip
                refine RA.tk 24 16777215 33554431 rfl rfl rfl (by kernel_rfl) (fun wq hq => Ex.pkT (v := (.bool false)) rfl rfl) H52 (RA.tk 25 33554431 67108863 rfl rfl rfl (by kernel_rfl) (fun wq hq => Ex.pkF (v := (.bool false)) rfl rfl) H52 (RA.done (by kernel_rfl) (thn.n (CW.condF rfl (CW.skip (inB.n (thn.n (CW.region (zm (.int .i64 (i : Int)) rfl (zg rfl (Ex.add (r := (i : Int) + 1) rfl rfl (w64 (by omega) (by omega))) (za (.int .i64 ((i : Int) + 1)) rfl (RL.nil (thn.n ?_)))))))))))))
                refine ⟨(by repeat (first | exact Out.mix _ _ | exact Out.refl _ _ | refine Out.up ?_ rfl _ | refine Out.mixIn ?_ (by intro t ht; simp only [Bool.or_eq_false_iff, Bool.and_eq_false_iff, ble_f, beq_f] at ht ⊢; omega))), _, ?_, i + 1, rfl, rfl, (H52.sel [1, 2] (by decide) rfl), by omega, upto_go hO he28 ⟨hb54, by omega, (fun y _ hy => by rw [he58] at hy; injection hy with hy; subst hy; omega)⟩⟩
                omega
              ·skip
               refine RA.tk 13 8191 16383 rfl rfl rfl (by kernel_rfl) (fun wq hq => Ex.mv (v := (.bool false)) rfl) H52 (RA.out (i := 14) (m := 16383) (m' := 32767) rfl rfl rfl (by kernel_rfl) (fun _ _ _ _ h => h) rfl H52 (RA.out (i := 16) (m := 32767) (m' := 98303) rfl rfl rfl (by kernel_rfl) (fun _ _ _ _ h => h) rfl H52 (RA.out (i := 17) (m := 98303) (m' := 229375) rfl rfl rfl (by kernel_rfl) (fun _ _ _ _ h => h) rfl H52 (RA.out (i := 21) (m := 229375) (m' := 2326527) rfl rfl rfl (by kernel_rfl) (fun _ _ _ _ h => h) rfl H52 (RA.out (i := 15) (m := 2326527) (m' := 2359295) rfl rfl rfl (by kernel_rfl) (fun _ _ _ _ h => h) rfl H52 (RA.out (i := 18) (m := 2359295) (m' := 2621439) rfl rfl rfl (by kernel_rfl) (fun _ _ _ _ h => h) rfl H52 (RA.out (i := 19) (m := 2621439) (m' := 3145727) rfl rfl rfl (by kernel_rfl) (fun _ _ _ _ h => h) rfl H52 (RA.out (i := 20) (m := 3145727) (m' := 4194303) rfl rfl rfl (by kernel_rfl) (fun _ _ _ _ h => h) rfl H52 ?_))))))))
               refine RA.out (i := 22) (m := 4194303) (m' := 8388607) rfl rfl rfl (by kernel_rfl) (fun _ _ _ _ h => h) rfl H52 (RA.out (i := 23) (m := 8388607) (m' := 16777215) rfl rfl rfl (by kernel_rfl) (fun _ _ _ _ h => h) rfl H52 (RA.tk 24 16777215 33554431 rfl rfl rfl (by kernel_rfl) (fun wq hq => Ex.pkF (v := (.bool false)) rfl rfl) H52 (RA.tk 25 33554431 67108863 rfl rfl rfl (by kernel_rfl) (fun wq hq => Ex.pkF (v := (.bool false)) rfl rfl) H52 (RA.done (by kernel_rfl) (thn.n (CW.condF rfl (CW.skip (inB.n (thn.n (CW.region (zm (.int .i64 (i : Int)) rfl (zg rfl (Ex.add (r := (i : Int) + 1) rfl rfl (w64 (by omega) (by omega))) (za (.int .i64 ((i : Int) + 1)) rfl (RL.nil (thn.n ?_)))))))))))))))
               refine ⟨(by repeat (first | exact Out.mix _ _ | exact Out.refl _ _ | refine Out.up ?_ rfl _ | refine Out.mixIn ?_ (by intro t ht; simp only [Bool.or_eq_false_iff, Bool.and_eq_false_iff, ble_f, beq_f] at ht ⊢; omega))), _, ?_, i + 1, rfl, rfl, (H52.sel [1, 2] (by decide) rfl), by omega, upto_go hO he28 ⟨hb54, by omega, (fun y hi0 hy => by omega)⟩⟩
               omega
           ·skip
            refine RL.nil (thn.n (CW.condF rfl (CW.exit (thn.x (thn.x (inB.hit (thn.n (CW.seq (CW.region (zg rfl (fa24_3 (b := ⟨b2, 3, none⟩) rfl rfl) (zl (.string (tx k.image)) lo9 (H24.ob (i := 0) rfl) rfl (RL.s2bT (l := k.image) Tryz.underlying9 Tryz.underlying97 Tryz.underlying5 rfl rfl rfl ?_))))))))))))
            intro w63 b65 c66 hb67 hz68 g69 rd70 hc71
            have H72 := H24.grow g69
            have z73 := g69.size
            refine RL.call Tryz.call127 (getStateR_ _ _ k.image (some ⟨b65, 0, none⟩) k.image.length c66 ⟨rd70, by first | rfl | omega, by omega, by omega⟩ (by omega)) rfl rfl rfl ?_
            rintro _ w80 (⟨rs74, ros75, ss76, rfl, g81, hgs77, hsb79⟩ | ⟨rfl, g82, hgs78⟩)
            ·skip
             have g83 := g81.fix (i := 1) rfl
             have H84 : Sp [StW rs74 ros75 ss76, BlkA b2 24 [(.int .i64 k.view), (.int .i64 k.normal), (.int .i64 k.base), (.string (tx k.image)), (.slice A n c)], Fix w NoB] w80 := H72.join (m := [StW rs74 ros75 ss76]) g81
             have z85 := g83.size
             refine zm (.tuple #[(.agg (rs74.cells).toArray), (.int .i64 0)]) rfl (zx (.agg (rs74.cells).toArray) rfl (zx (.int .i64 0) rfl (RL.al (cs := zState) Tryz.zeroValue50 rfl rfl rfl ?_)))
             intro w86 b87 hb88 hz89 g90 o91
             have H92 := H84.newB g90 o91 (by omega)
             have z93 := g90.size
             refine RL.st (vs := rs74.cells) (cs' := rs74.cells) Tryz.sizeOf50 (H92.ob (i := 0) rfl) rfl rfl rfl rfl rfl rfl ?_
             intro w94 hz95 g96 o97
             have H98 : Sp [BlkA b87 50 rs74.cells, StW rs74 ros75 ss76, BlkA b2 24 [(.int .i64 k.view), (.int .i64 k.normal), (.int .i64 k.base), (.string (tx k.image)), (.slice A n c)], Fix w NoB] w94 := H92.setB (i := 0) rfl g96 o97 rfl
             have z99 := g96.size
             refine za (.int .i64 0) rfl (RL.nil (thn.n (CW.seq (CW.region (zm (.int .i64 0) rfl (zg rfl (Ex.eqD (r := true) rfl rfl (by decide)) (za (.bool true) rfl (RL.nil (thn.n (CW.ret (finQ.r (v := (.bool true)) (res1 rfl rfl) ?_)))))))))))
             exact ⟨ret_bool (keptB_yes ⟨by omega, by omega, by omega, by omega, by omega, by omega, by omega, hb20, entsB_of (n := i) (by omega) hO, by rw [hgs77]; rfl⟩).symm, (H98.fix (i := 3) rfl)⟩
            ·skip
             have H100 := H72.grow g82
             have z101 := g82.size
             refine zm (.tuple #[(.agg (zState).toArray), (.int .i64 60)]) rfl (zx (.agg (zState).toArray) rfl (zx (.int .i64 60) rfl (RL.al (cs := zState) Tryz.zeroValue50 rfl rfl rfl ?_)))
             intro w102 b103 hb104 hz105 g106 o107
             have H108 := H100.newB g106 o107 (by omega)
             have z109 := g106.size
             refine RL.st (vs := zState) (cs' := zState) Tryz.sizeOf50 (H108.ob (i := 0) rfl) rfl rfl rfl rfl rfl rfl ?_
             intro w110 hz111 g112 o113
             have H114 : Sp [BlkA b103 50 zState, BlkA b2 24 [(.int .i64 k.view), (.int .i64 k.normal), (.int .i64 k.base), (.string (tx k.image)), (.slice A n c)], Fix w NoB] w110 := H108.setB (i := 0) rfl g112 o113 rfl
             have z115 := g112.size
             refine za (.int .i64 60) rfl (RL.nil (thn.n (CW.seq (CW.region (zm (.int .i64 60) rfl (zg rfl (Ex.eqD (r := false) rfl rfl (by decide)) (za (.bool false) rfl (RL.nil (thn.n (CW.ret (finQ.r (v := (.bool false)) (res1 rfl rfl) ?_)))))))))))
             exact ⟨ret_bool (keptB_no (fun ⟨_, _, _, _, _, _, _, _, _, q10⟩ => by rw [hgs78] at q10; cases q10)).symm, (H114.fix (i := 2) rfl)⟩
set_option maxHeartbeats 400000 in
set_option maxRecDepth 20000 in
theorem lastR_ (w : World) (k : Kept) (A : Option Addr) (n c : Nat) (hn : n = k.ents.length) (hk : keptB k = true) : Ret Tryz.prog 60 [(.agg ([(.int .i64 k.view), (.int .i64 k.normal), (.int .i64 k.base), (.string (tx k.image)), (.slice A n c)]).toArray)] w (fun v w' => v = .int .i64 (lastK k) ∧ w.grownBy w' none) := by
  have hkt := keptB_t hk
  have H0 : Sp [Fix w NoB] w := Sp.start w
  refine Ret.body Tryz.func60 rfl rfl rfl ?_
  refine CW.seq (CW.region (RL.bx (cs := [(.int .i64 k.view), (.int .i64 k.normal), (.int .i64 k.base), (.string (tx k.image)), (.slice A n c)]) rfl rfl rfl ?_))
  intro w1 b2 hb3 hz4 g5 o6
  have H7 := H0.newB g5 o6 (by omega)
  have z8 := g5.size
  refine za (.int .i64 0) rfl (RL.nil (thn.n (CW.seq (CW.region (zg rfl (fa24_2 (b := ⟨b2, 2, none⟩) rfl rfl) (zl (.int .i64 k.base) lo3 (H7.ob (i := 0) rfl) rfl (zg rfl (fa24_4 (b := ⟨b2, 4, none⟩) rfl rfl) (zl (.slice A n c) lo22 (H7.ob (i := 0) rfl) rfl (zg rfl (Ex.len Tryz.underlying22 rfl) (zg rfl (Ex.add (r := k.base + (n : Nat)) rfl rfl (w64 (by omega) (by omega))) (za (.int .i64 (k.base + (n : Nat))) rfl (RL.nil (thn.n (CW.ret (finQ.r (v := (.int .i64 (k.base + (n : Nat)))) (res1 rfl rfl) ?_)))))))))))))))
  exact ⟨ret_int (by unfold lastK; rw [hn]), (H7.fix (i := 1) rfl)⟩
set_option maxHeartbeats 400000 in
set_option maxRecDepth 20000 in
theorem entSameR_ (w : World) (B : Nat) (l m : List Entry) (A A2 : Option Addr) (n c n2 c2 : Nat) (hr : Rd w B 11 A (ents l)) (hn : n = l.length) (hr2 : Rd w B 11 A2 (ents m)) (hn2 : n2 = m.length) (hm : n ≤ 1099511627776) : Ret Tryz.prog 31 [(.slice A n c), (.slice A2 n2 c2)] w (fun v w' => v = .bool (decide (l = m)) ∧ w.grownBy w' none) := by
  have H0 : Sp [Fix w NoB] w := Sp.start w
  refine Ret.body Tryz.func31 rfl rfl rfl ?_
  refine CW.seq (CW.region (za (.bool false) rfl (RL.nil (thn.n (CW.seq (CW.seq (CW.region (zm (.slice A n c) rfl (zg rfl (Ex.len Tryz.underlying22 rfl) (zm (.slice A2 n2 c2) rfl (zg rfl (Ex.len Tryz.underlying22 rfl) ?_)))))))))))
  refine RL.br (p := ((n : Nat) : Int) ≠ ((n2 : Nat) : Int)) rfl rfl rfl (fun r hr => Ex.neD rfl rfl hr) (fun h1 => ?_) (fun h1 => ?_)
  ·skip
   refine RL.nil (thn.n (CW.condT rfl (CW.seq (CW.region (za (.bool false) rfl (RL.nil (thn.n (CW.ret (thn.r (finQ.r (v := (.bool false)) (res1 rfl rfl) ?_))))))))))
   exact ⟨ret_bool (by symm; rw [decide_eq_false_iff_not]; intro h; rw [h] at hn; omega), (H0.fix (i := 0) rfl)⟩
  ·skip
   refine RL.nil (thn.n (CW.condF rfl (CW.skip (thn.n (CW.seq (CW.seq (CW.region (za (.int .i64 0) rfl (RL.nil (thn.n (CW.block ?_)))))))))))
   refine CW.loop (fun t => (Nat.ble 4 t && Nat.ble t 5) || (Nat.ble 11 t && Nat.ble t 25)) (fun nL ρ wl => ∃ (i : Nat), ρ 5 = (.int .i64 (i : Int)) ∧ nL = n - i ∧ Sp [Fix w NoB] wl ∧ i ≤ n ∧ l.take i = m.take i) (n) ?aa0 ?bb0
   case aa0 =>
    exact ⟨0, rfl, rfl, H0, Nat.zero_le _, rfl⟩
   case bb0 =>
    rintro n3 ρ0 w2 ho4 ⟨i, hs0_5, hn0, H5, hi, htk⟩
    obtain ⟨j0, rfl⟩ := ho4.shape1 hs0_5
    clear ho4 hs0_5
    subst hn0
    have z6 := (H5.fix (i := 0) rfl).size
    refine CW.seq (CW.seq (CW.region (zm (.int .i64 (i : Int)) rfl (zm (.slice A n c) rfl (zg rfl (Ex.len Tryz.underlying22 rfl) ?_)))))
    refine RL.br (p := ((i : Int) : Int) < ((n : Nat) : Int)) rfl rfl rfl (fun r hr => Ex.lt rfl rfl hr) (fun h7 => ?_) (fun h7 => ?_)
    ·skip
     refine RL.nil (thn.n (CW.condT rfl (CW.skip (thn.n (CW.seq (CW.block (CW.seq (CW.quiet (fun wq => World.grownBy w2 wq none) Tryz.mixed (by kernel_rfl) ⟨rfl, rfl, rfl, Nat.le_refl _, fun _ _ _ => rfl⟩ (QL.go rfl rfl rfl (fun wq gq => Ex.mv (v := (.slice A n c)) rfl) (QL.go rfl rfl rfl (fun wq gq => Ex.mv (v := (.int .i64 (i : Int))) rfl) ?_))))))))))
     obtain ⟨e8, he9⟩ : ∃ e, (l)[i]? = some e := ⟨_, List.getElem?_eq_getElem (by omega)⟩
     obtain ⟨ad10, hA11⟩ := Rd.sm (hr.st0 (H5.fix (i := 0) rfl)) (ents_get he9)
     have hl12 := Eng.lt_len (ents_get he9)
     refine QL.go rfl rfl rfl (fun wq gq => Ex.ix (b := (ad10.add (i * 11))) (i := i) Tryz.underlying22 Tryz.sizeOf31 (by rw [← hA11]; rfl) rfl (by omega) (by omega) rfl) (QL.go rfl rfl rfl (fun wq gq => Ex.ldv rfl (loadCN (cs := e8.cells) wh31 (Rd.cl (hr.st0 ((H5.grow gq).fix (i := 0) rfl)) hA11 (ents_get he9)))) (QL.go rfl rfl rfl (fun wq gq => Ex.mv (v := (.slice A2 n2 c2)) rfl) (QL.go rfl rfl rfl (fun wq gq => Ex.mv (v := (.int .i64 (i : Int))) rfl) ?_)))
     obtain ⟨e13, he14⟩ : ∃ e, (m)[i]? = some e := ⟨_, List.getElem?_eq_getElem (by omega)⟩
     obtain ⟨ad15, hA16⟩ := Rd.sm (hr2.st0 (H5.fix (i := 0) rfl)) (ents_get he14)
     have hl17 := Eng.lt_len (ents_get he14)
     refine QL.go rfl rfl rfl (fun wq gq => Ex.ix (b := (ad15.add (i * 11))) (i := i) Tryz.underlying22 Tryz.sizeOf31 (by rw [← hA16]; rfl) rfl (by omega) (by omega) rfl) (QL.go rfl rfl rfl (fun wq gq => Ex.ldv rfl (loadCN (cs := e13.cells) wh31 (Rd.cl (hr2.st0 ((H5.grow gq).fix (i := 0) rfl)) hA16 (ents_get he14)))) ?_)
     refine QL.br (p := ¬ ((e8.num : Int) = (e13.num : Int) ∧ (e8.view : Int) = (e13.view : Int) ∧ (e8.client : Int) = (e13.client : Int) ∧ (e8.seq : Int) = (e13.seq : Int) ∧ (e8.op.kind : Int) = (e13.op.kind : Int) ∧ (e8.op.h : Int) = (e13.op.h : Int) ∧ (e8.op.i : Int) = (e13.op.i : Int) ∧ (e8.op.n : Int) = (e13.op.n : Int) ∧ (e8.op.k : Int) = (e13.op.k : Int) ∧ (e8.op.v : Int) = (e13.op.v : Int) ∧ (e8.op.t : Int) = (e13.op.t : Int))) rfl rfl rfl (fun r hr wq gq => Ex.neS (xs := e8.cells) (ys := e13.cells) Tryz.eqGuardType31 (eqT31 (by rw [← hr]; simp)) rfl rfl) (fun h18 => ?_) (fun h18 => ?_)
     ·skip
      refine QL.nil ?_
      intro w19 g20
      have H21 := H5.grow g20
      have z22 := g20.size
      refine thn.n (CW.condT rfl (CW.seq (CW.region (za (.bool false) rfl (RL.nil (thn.n (CW.ret (inB.r (thn.r (thn.r (inB.r (thn.r (finQ.r (v := (.bool false)) (res1 rfl rfl) ?_)))))))))))))
      exact ⟨ret_bool (by symm; rw [decide_eq_false_iff_not]; exact ne_at he9 he14 (fun h => h18 (by rw [h]; exact ⟨rfl, rfl, rfl, rfl, rfl, rfl, rfl, rfl, rfl, rfl, rfl⟩))), (H21.fix (i := 0) rfl)⟩
     ·skip
      refine QL.nil ?_
      intro w23 g24
      have H25 := H5.grow g24
      have z26 := g24.size
      refine thn.n (CW.condF rfl (CW.skip (inB.n (thn.n (CW.region (zm (.int .i64 (i : Int)) rfl (zg rfl (Ex.add (r := (i : Int) + 1) rfl rfl (w64 (by omega) (by omega))) (za (.int .i64 ((i : Int) + 1)) rfl (RL.nil (thn.n ?_))))))))))
      refine ⟨(by repeat (first | exact Out.mix _ _ | exact Out.refl _ _ | refine Out.up ?_ rfl _)), _, ?_, i + 1, rfl, rfl, H25, by omega, take_same htk he9 he14 (ent_eq (Decidable.not_not.1 h18))⟩
      omega
    ·skip
     refine RL.nil (thn.n (CW.condF rfl (CW.exit (thn.x (thn.x (inB.hit (thn.n (CW.seq (CW.region (za (.bool true) rfl (RL.nil (thn.n (CW.ret (finQ.r (v := (.bool true)) (res1 rfl rfl) ?_))))))))))))))
     exact ⟨ret_bool (by symm; rw [decide_eq_true_eq]; rw [← List.take_of_length_le (i := i) (l := l) (by omega), htk, List.take_of_length_le (by omega)]), (H5.fix (i := 0) rfl)⟩
set_option maxHeartbeats 400000 in
set_option maxRecDepth 20000 in
theorem own15_ (w : World) (B : Nat) (k : Kept) (A : Option Addr) (n c : Nat) (hr : Rd w B 11 A (ents k.ents)) (hB : B ≤ w.heap.size) (hn : n = k.ents.length) (hm : n ≤ 1099511627776) : Ret Tryz.prog 24 [(.agg ([(.int .i64 k.view), (.int .i64 k.normal), (.int .i64 k.base), (.string (tx k.image)), (.slice A n c)]).toArray)] w (fun v w' => ∃ (A' : Option Addr) (n' c' : Nat), v = .agg [.int .i64 k.view, .int .i64 k.normal, .int .i64 k.base, .string (tx k.image), .slice A' n' c'].toArray ∧ Sp ([RowA 31 11 A' n' c' (ents k.ents)] ++ [Fix w NoB]) w') := by
  have H0 : Sp [Fix w NoB] w := Sp.start w
  refine Ret.body Tryz.func24 rfl rfl rfl ?_
  refine CW.seq (CW.region (RL.bx (cs := [(.int .i64 k.view), (.int .i64 k.normal), (.int .i64 k.base), (.string (tx k.image)), (.slice A n c)]) rfl rfl rfl ?_))
  intro w1 b2 hb3 hz4 g5 o6
  have H7 := H0.newB g5 o6 (by omega)
  have z8 := g5.size
  refine RL.al (cs := [(.int .i64 0), (.int .i64 0), (.int .i64 0), (.string (⟨#[]⟩)), (.slice none 0 0)]) Tryz.zeroValue24 rfl rfl rfl ?_
  intro w9 b10 hb11 hz12 g13 o14
  have H15 := H7.newB g13 o14 (by omega)
  have z16 := g13.size
  refine RL.nil (thn.n (CW.seq (CW.region (za (.slice none 0 0) rfl (RL.nil (thn.n (CW.seq (CW.region (zm (.slice none 0 0) rfl (zg rfl (fa24_4 (b := ⟨b2, 4, none⟩) rfl rfl) (zl (.slice A n c) lo22 (H15.ob (i := 1) rfl) rfl ?_)))))))))))
  have H17 := H15.nil_ 31 11
  refine RL.apW (base := 0) (xss := (ents [])) (yss := (ents k.ents)) el22 (H17.wr (i := 0) rfl) rfl (hr.st0 (H17.fix (i := 3) rfl)) rfl (by simp only [bcs_length, ics_length, rows_length, blks_length, robjs_length, ents_length, List.length_append, List.length_cons, List.length_nil, List.length_take, List.length_drop, List.length_map, enc4, enc8, encN_len, encW_len, recsE_length]; try omega) (ents_one _) (by omega) (by omega) (by omega) rfl rfl ?_
  intro w18 A19 c20 g21 ow22 nx23
  have H24 : Sp [RowA 31 11 A19 (0 + n) c20 (ents k.ents), BlkA b10 24 [(.int .i64 0), (.int .i64 0), (.int .i64 0), (.string (⟨#[]⟩)), (.slice none 0 0)], BlkA b2 24 [(.int .i64 k.view), (.int .i64 k.normal), (.int .i64 k.base), (.string (tx k.image)), (.slice A n c)], Fix w NoB] w18 := H17.setR (i := 0) rfl g21 ((List.nil_append _) ▸ ow22) nx23 rfl
  have z25 := g21.size
  refine za (.slice A19 (0 + n) c20) rfl (RL.nil (thn.n (CW.seq (CW.region (zm (.slice A19 (0 + n) c20) rfl (zg rfl (fa24_4 (b := ⟨b2, 4, none⟩) rfl rfl) (RL.st (vs := [(.slice A19 (0 + n) c20)]) (cs' := [(.int .i64 k.view), (.int .i64 k.normal), (.int .i64 k.base), (.string (tx k.image)), (.slice A19 (0 + n) c20)]) Tryz.sizeOf22 (H24.ob (i := 2) rfl) rfl rfl rfl rfl rfl rfl ?_)))))))
  intro w26 hz27 g28 o29
  have H30 : Sp [RowA 31 11 A19 (0 + n) c20 (ents k.ents), BlkA b10 24 [(.int .i64 0), (.int .i64 0), (.int .i64 0), (.string (⟨#[]⟩)), (.slice none 0 0)], BlkA b2 24 [(.int .i64 k.view), (.int .i64 k.normal), (.int .i64 k.base), (.string (tx k.image)), (.slice A19 (0 + n) c20)], Fix w NoB] w26 := H24.setB (i := 2) rfl g28 o29 rfl
  have z31 := g28.size
  refine RL.nil (thn.n (CW.seq (CW.region (zg rfl (Ex.ldv rfl (loadCN (cs := [(.int .i64 k.view), (.int .i64 k.normal), (.int .i64 k.base), (.string (tx k.image)), (.slice A19 (0 + n) c20)]) wh24 (H30.ob (i := 2) rfl).cl)) (RL.st (vs := [(.int .i64 k.view), (.int .i64 k.normal), (.int .i64 k.base), (.string (tx k.image)), (.slice A19 (0 + n) c20)]) (cs' := [(.int .i64 k.view), (.int .i64 k.normal), (.int .i64 k.base), (.string (tx k.image)), (.slice A19 (0 + n) c20)]) Tryz.sizeOf24 (H30.ob (i := 1) rfl) rfl rfl rfl rfl rfl rfl ?_)))))
  intro w32 hz33 g34 o35
  have H36 : Sp [RowA 31 11 A19 (0 + n) c20 (ents k.ents), BlkA b10 24 [(.int .i64 k.view), (.int .i64 k.normal), (.int .i64 k.base), (.string (tx k.image)), (.slice A19 (0 + n) c20)], BlkA b2 24 [(.int .i64 k.view), (.int .i64 k.normal), (.int .i64 k.base), (.string (tx k.image)), (.slice A19 (0 + n) c20)], Fix w NoB] w32 := H30.setB (i := 1) rfl g34 o35 rfl
  have z37 := g34.size
  refine RL.nil (thn.n (CW.ret (finQ.r (v := (.agg ([(.int .i64 k.view), (.int .i64 k.normal), (.int .i64 k.base), (.string (tx k.image)), (.slice A19 (0 + n) c20)]).toArray)) (resv1 rfl (Rv.cell rfl (loadCN (cs := [(.int .i64 k.view), (.int .i64 k.normal), (.int .i64 k.base), (.string (tx k.image)), (.slice A19 (0 + n) c20)]) wh24 (H36.ob (i := 1) rfl).cl))) ?_)))
  exact ⟨_, _, _, rfl, (H36.sel [0, 3] (by decide) rfl)⟩
set_option maxHeartbeats 1000000 in
set_option maxRecDepth 20000 in
theorem same15_ (w : World) (B : Nat) (k q : Kept) (A A2 : Option Addr) (n c n2 c2 : Nat) (hr : Rd w B 11 A (ents k.ents)) (hr2 : Rd w B 11 A2 (ents q.ents)) (hB : B ≤ w.heap.size) (hn : n = k.ents.length) (hn2 : n2 = q.ents.length) (hm : n ≤ 1099511627776) : Ret Tryz.prog 30 [(.agg ([(.int .i64 k.view), (.int .i64 k.normal), (.int .i64 k.base), (.string (tx k.image)), (.slice A n c)]).toArray), (.agg ([(.int .i64 q.view), (.int .i64 q.normal), (.int .i64 q.base), (.string (tx q.image)), (.slice A2 n2 c2)]).toArray)] w (fun v w' => v = .bool (decide (k = q)) ∧ w.grownBy w' none) := by
  have H0 : Sp [Fix w NoB] w := Sp.start w
  refine Ret.body Tryz.func30 rfl rfl rfl ?_
  refine CW.seq (CW.region (RL.bx (cs := [(.int .i64 k.view), (.int .i64 k.normal), (.int .i64 k.base), (.string (tx k.image)), (.slice A n c)]) rfl rfl rfl ?_))
  intro w1 b2 hb3 hz4 g5 o6
  have H7 := H0.newB g5 o6 (by omega)
  have z8 := g5.size
  refine RL.bx (cs := [(.int .i64 q.view), (.int .i64 q.normal), (.int .i64 q.base), (.string (tx q.image)), (.slice A2 n2 c2)]) rfl rfl rfl ?_
  intro w9 b10 hb11 hz12 g13 o14
  have H15 := H7.newB g13 o14 (by omega)
  have z16 := g13.size
  refine za (.bool false) rfl (RL.nil (thn.n (CW.seq (CW.region (zg rfl (fa24_0 (b := ⟨b2, 0, none⟩) rfl rfl) (zl (.int .i64 k.view) lo3 (H15.ob (i := 1) rfl) rfl (zg rfl (fa24_0 (b := ⟨b10, 0, none⟩) rfl rfl) (zl (.int .i64 q.view) lo3 (H15.ob (i := 0) rfl) rfl ?_))))))))
  refine RL.br (p := (k.view : Int) = (q.view : Int)) rfl rfl rfl (fun r hr => Ex.eqD rfl rfl hr) (fun h17 => ?_) (fun h17 => ?_)
  ·skip
   refine zm (.bool true) rfl (zg rfl (fa24_1 (b := ⟨b2, 1, none⟩) rfl rfl) (zl (.int .i64 k.normal) lo3 (H15.ob (i := 1) rfl) rfl (zg rfl (fa24_1 (b := ⟨b10, 1, none⟩) rfl rfl) (zl (.int .i64 q.normal) lo3 (H15.ob (i := 0) rfl) rfl ?_))))
   refine RL.br (p := (k.normal : Int) = (q.normal : Int)) rfl rfl rfl (fun r hr => Ex.eqD rfl rfl hr) (fun h18 => ?_) (fun h18 => ?_)
   ·skip
    refine zT (.bool true) rfl (zm (.bool true) rfl (zg rfl (fa24_2 (b := ⟨b2, 2, none⟩) rfl rfl) (zl (.int .i64 k.base) lo3 (H15.ob (i := 1) rfl) rfl (zg rfl (fa24_2 (b := ⟨b10, 2, none⟩) rfl rfl) (zl (.int .i64 q.base) lo3 (H15.ob (i := 0) rfl) rfl ?_)))))
    refine RL.br (p := (k.base : Int) = (q.base : Int)) rfl rfl rfl (fun r hr => Ex.eqD rfl rfl hr) (fun h19 => ?_) (fun h19 => ?_)
    ·skip
     refine zT (.bool true) rfl (zm (.bool true) rfl (zg rfl (fa24_3 (b := ⟨b2, 3, none⟩) rfl rfl) (zl (.string (tx k.image)) lo9 (H15.ob (i := 1) rfl) rfl (zg rfl (fa24_3 (b := ⟨b10, 3, none⟩) rfl rfl) (zl (.string (tx q.image)) lo9 (H15.ob (i := 0) rfl) rfl ?_)))))
     refine RL.br (p := k.image = q.image) rfl rfl rfl (fun r hr => Ex.eqTx (l := k.image) (m := q.image) rfl rfl hr) (fun h20 => ?_) (fun h20 => ?_)
     ·skip
      refine zT (.bool true) rfl (zm (.bool true) rfl (zg rfl (fa24_4 (b := ⟨b2, 4, none⟩) rfl rfl) (zl (.slice A n c) lo22 (H15.ob (i := 1) rfl) rfl (zg rfl (fa24_4 (b := ⟨b10, 4, none⟩) rfl rfl) (zl (.slice A2 n2 c2) lo22 (H15.ob (i := 0) rfl) rfl (RL.call Tryz.call31 (entSameR_ _ _ k.ents q.ents A A2 n c n2 c2 ((hr.st0 (H15.fix (i := 2) rfl)).more (by omega)) (by first | assumption | rfl | omega) ((hr2.st0 (H15.fix (i := 2) rfl)).more (by omega)) (by first | assumption | rfl | omega) (by omega)) rfl rfl rfl ?_))))))
      rintro _ w21 ⟨rfl, g22⟩
      have H23 := H15.grow g22
      have z24 := g22.size
      rcases hb25 : (decide (k.ents = q.ents)) with _ | _
      ·skip
       refine zT (.bool false) rfl (za (.bool false) rfl (RL.nil (thn.n (CW.ret (finQ.r (v := (.bool false)) (res1 rfl rfl) ?_)))))
       exact ⟨ret_bool (by symm; rw [decide_eq_false_iff_not]; intro h; first | exact absurd (of_decide_eq_false hb25) (by rw [h]; simp) | exact hb25 (by rw [h]; exact ⟨rfl, rfl, rfl, rfl, rfl, rfl, rfl, rfl, rfl, rfl, rfl⟩) | exact hb25 (by rw [h])), (H23.fix (i := 2) rfl)⟩
      ·skip
       refine zT (.bool true) rfl (za (.bool true) rfl (RL.nil (thn.n (CW.ret (finQ.r (v := (.bool true)) (res1 rfl rfl) ?_)))))
       exact ⟨ret_bool (by symm; rw [decide_eq_true_eq]; exact kept_eq h17 h18 h19 h20 (of_decide_eq_true hb25)), (H23.fix (i := 2) rfl)⟩
     ·skip
      refine zT (.bool false) rfl (zm (.bool false) rfl (zo rfl (zo rfl (zo rfl (zo rfl (zo rfl (zF (.bool false) rfl (za (.bool false) rfl (RL.nil (thn.n (CW.ret (finQ.r (v := (.bool false)) (res1 rfl rfl) ?_))))))))))))
      exact ⟨ret_bool (by symm; rw [decide_eq_false_iff_not]; intro h; first | exact absurd (of_decide_eq_false h20) (by rw [h]; simp) | exact h20 (by rw [h]; exact ⟨rfl, rfl, rfl, rfl, rfl, rfl, rfl, rfl, rfl, rfl, rfl⟩) | exact h20 (by rw [h])), (H15.fix (i := 2) rfl)⟩
    ·skip
     refine zT (.bool false) rfl (zm (.bool false) rfl (zo rfl (zo rfl (zo rfl (zo rfl (zo rfl (zF (.bool false) rfl (zm (.bool false) rfl (zo rfl (zo rfl ?_))))))))))
     refine zo rfl (zo rfl (zo rfl (zF (.bool false) rfl (za (.bool false) rfl (RL.nil (thn.n (CW.ret (finQ.r (v := (.bool false)) (res1 rfl rfl) ?_))))))))
     exact ⟨ret_bool (by symm; rw [decide_eq_false_iff_not]; intro h; first | exact absurd (of_decide_eq_false h19) (by rw [h]; simp) | exact h19 (by rw [h]; exact ⟨rfl, rfl, rfl, rfl, rfl, rfl, rfl, rfl, rfl, rfl, rfl⟩) | exact h19 (by rw [h])), (H15.fix (i := 2) rfl)⟩
   ·skip
    refine zT (.bool false) rfl (zm (.bool false) rfl (zo rfl (zo rfl (zo rfl (zo rfl (zo rfl (zF (.bool false) rfl (zm (.bool false) rfl (zo rfl (zo rfl ?_))))))))))
    refine zo rfl (zo rfl (zo rfl (zF (.bool false) rfl (zm (.bool false) rfl (zo rfl (zo rfl (zo rfl (zo rfl (zo rfl (zF (.bool false) rfl ?_))))))))))
    refine za (.bool false) rfl (RL.nil (thn.n (CW.ret (finQ.r (v := (.bool false)) (res1 rfl rfl) ?_))))
    exact ⟨ret_bool (by symm; rw [decide_eq_false_iff_not]; intro h; first | exact absurd (of_decide_eq_false h18) (by rw [h]; simp) | exact h18 (by rw [h]; exact ⟨rfl, rfl, rfl, rfl, rfl, rfl, rfl, rfl, rfl, rfl, rfl⟩) | exact h18 (by rw [h])), (H15.fix (i := 2) rfl)⟩
  ·skip
   refine zm (.bool false) rfl (zo rfl (zo rfl (zo rfl (zo rfl (zo rfl (zF (.bool false) rfl (zm (.bool false) rfl (zo rfl (zo rfl (zo rfl ?_))))))))))
   refine zo rfl (zo rfl (zF (.bool false) rfl (zm (.bool false) rfl (zo rfl (zo rfl (zo rfl (zo rfl (zo rfl (zF (.bool false) rfl (zm (.bool false) rfl ?_))))))))))
   refine zo rfl (zo rfl (zo rfl (zo rfl (zo rfl (zF (.bool false) rfl (za (.bool false) rfl (RL.nil (thn.n (CW.ret (finQ.r (v := (.bool false)) (res1 rfl rfl) ?_))))))))))
   exact ⟨ret_bool (by symm; rw [decide_eq_false_iff_not]; intro h; first | exact absurd (of_decide_eq_false h17) (by rw [h]; simp) | exact h17 (by rw [h]; exact ⟨rfl, rfl, rfl, rfl, rfl, rfl, rfl, rfl, rfl, rfl, rfl⟩) | exact h17 (by rw [h])), (H15.fix (i := 2) rfl)⟩
set_option maxHeartbeats 1000000 in
set_option maxRecDepth 20000 in
theorem sameRec_ (w : World) (B : Nat) (ra qa : Rec) (A A2 : Option Addr) (n c n2 c2 : Nat) (hr : Rd w B 11 A (ents ra.ents)) (hr2 : Rd w B 11 A2 (ents qa.ents)) (hB : B ≤ w.heap.size) (hn : n = ra.ents.length) (hn2 : n2 = qa.ents.length) (hm : n ≤ 1099511627776) : Ret Tryz.prog 27 [(.agg ([(.int .i64 ra.kind), (.int .i64 ra.view), (.int .i64 ra.from_), (.int .i64 ra.number), (.string (tx ra.image)), (.int .i64 ra.entry.num), (.int .i64 ra.entry.view), (.int .i64 ra.entry.client), (.int .i64 ra.entry.seq), (.int .i64 ra.entry.op.kind), (.int .i64 ra.entry.op.h), (.int .i64 ra.entry.op.i), (.int .i64 ra.entry.op.n), (.int .i64 ra.entry.op.k), (.int .i64 ra.entry.op.v), (.int .i64 ra.entry.op.t), (.slice A n c)]).toArray), (.agg ([(.int .i64 qa.kind), (.int .i64 qa.view), (.int .i64 qa.from_), (.int .i64 qa.number), (.string (tx qa.image)), (.int .i64 qa.entry.num), (.int .i64 qa.entry.view), (.int .i64 qa.entry.client), (.int .i64 qa.entry.seq), (.int .i64 qa.entry.op.kind), (.int .i64 qa.entry.op.h), (.int .i64 qa.entry.op.i), (.int .i64 qa.entry.op.n), (.int .i64 qa.entry.op.k), (.int .i64 qa.entry.op.v), (.int .i64 qa.entry.op.t), (.slice A2 n2 c2)]).toArray)] w (fun v w' => v = .bool (decide (ra = qa)) ∧ w.grownBy w' none) := by
  have H0 : Sp [Fix w NoB] w := Sp.start w
  refine Ret.body Tryz.func27 rfl rfl rfl ?_
  refine CW.seq (CW.region (RL.bx (cs := [(.int .i64 ra.kind), (.int .i64 ra.view), (.int .i64 ra.from_), (.int .i64 ra.number), (.string (tx ra.image)), (.int .i64 ra.entry.num), (.int .i64 ra.entry.view), (.int .i64 ra.entry.client), (.int .i64 ra.entry.seq), (.int .i64 ra.entry.op.kind), (.int .i64 ra.entry.op.h), (.int .i64 ra.entry.op.i), (.int .i64 ra.entry.op.n), (.int .i64 ra.entry.op.k), (.int .i64 ra.entry.op.v), (.int .i64 ra.entry.op.t), (.slice A n c)]) rfl rfl rfl ?_))
  intro w1 b2 hb3 hz4 g5 o6
  have H7 := H0.newB g5 o6 (by omega)
  have z8 := g5.size
  refine RL.bx (cs := [(.int .i64 qa.kind), (.int .i64 qa.view), (.int .i64 qa.from_), (.int .i64 qa.number), (.string (tx qa.image)), (.int .i64 qa.entry.num), (.int .i64 qa.entry.view), (.int .i64 qa.entry.client), (.int .i64 qa.entry.seq), (.int .i64 qa.entry.op.kind), (.int .i64 qa.entry.op.h), (.int .i64 qa.entry.op.i), (.int .i64 qa.entry.op.n), (.int .i64 qa.entry.op.k), (.int .i64 qa.entry.op.v), (.int .i64 qa.entry.op.t), (.slice A2 n2 c2)]) rfl rfl rfl ?_
  intro w9 b10 hb11 hz12 g13 o14
  have H15 := H7.newB g13 o14 (by omega)
  have z16 := g13.size
  refine za (.bool false) rfl (RL.nil (thn.n (CW.seq (CW.region (zg rfl (fa33_0 (b := ⟨b2, 0, none⟩) rfl rfl) (zl (.int .i64 ra.kind) lo26 (H15.ob (i := 1) rfl) rfl (zg rfl (fa33_0 (b := ⟨b10, 0, none⟩) rfl rfl) (zl (.int .i64 qa.kind) lo26 (H15.ob (i := 0) rfl) rfl ?_))))))))
  refine RL.br (p := (ra.kind : Int) = (qa.kind : Int)) rfl rfl rfl (fun r hr => Ex.eqD rfl rfl hr) (fun h17 => ?_) (fun h17 => ?_)
  ·skip
   refine zm (.bool true) rfl (zg rfl (fa33_1 (b := ⟨b2, 1, none⟩) rfl rfl) (zl (.int .i64 ra.view) lo3 (H15.ob (i := 1) rfl) rfl (zg rfl (fa33_1 (b := ⟨b10, 1, none⟩) rfl rfl) (zl (.int .i64 qa.view) lo3 (H15.ob (i := 0) rfl) rfl ?_))))
   refine RL.br (p := (ra.view : Int) = (qa.view : Int)) rfl rfl rfl (fun r hr => Ex.eqD rfl rfl hr) (fun h18 => ?_) (fun h18 => ?_)
   ·skip
    refine zT (.bool true) rfl (zm (.bool true) rfl (zg rfl (fa33_2 (b := ⟨b2, 2, none⟩) rfl rfl) (zl (.int .i64 ra.from_) lo3 (H15.ob (i := 1) rfl) rfl (zg rfl (fa33_2 (b := ⟨b10, 2, none⟩) rfl rfl) (zl (.int .i64 qa.from_) lo3 (H15.ob (i := 0) rfl) rfl ?_)))))
    refine RL.br (p := (ra.from_ : Int) = (qa.from_ : Int)) rfl rfl rfl (fun r hr => Ex.eqD rfl rfl hr) (fun h19 => ?_) (fun h19 => ?_)
    ·skip
     refine zT (.bool true) rfl (zm (.bool true) rfl (zg rfl (fa33_3 (b := ⟨b2, 3, none⟩) rfl rfl) (zl (.int .i64 ra.number) lo3 (H15.ob (i := 1) rfl) rfl (zg rfl (fa33_3 (b := ⟨b10, 3, none⟩) rfl rfl) (zl (.int .i64 qa.number) lo3 (H15.ob (i := 0) rfl) rfl ?_)))))
     refine RL.br (p := (ra.number : Int) = (qa.number : Int)) rfl rfl rfl (fun r hr => Ex.eqD rfl rfl hr) (fun h20 => ?_) (fun h20 => ?_)
     ·skip
      refine zT (.bool true) rfl (zm (.bool true) rfl (zg rfl (fa33_4 (b := ⟨b2, 4, none⟩) rfl rfl) (zl (.string (tx ra.image)) lo9 (H15.ob (i := 1) rfl) rfl (zg rfl (fa33_4 (b := ⟨b10, 4, none⟩) rfl rfl) (zl (.string (tx qa.image)) lo9 (H15.ob (i := 0) rfl) rfl ?_)))))
      refine RL.br (p := ra.image = qa.image) rfl rfl rfl (fun r hr => Ex.eqTx (l := ra.image) (m := qa.image) rfl rfl hr) (fun h21 => ?_) (fun h21 => ?_)
      ·skip
       refine zT (.bool true) rfl (zm (.bool true) rfl (zg rfl (fa33_5 (b := ⟨b2, 5, none⟩) rfl rfl) (zg rfl (Ex.ldv rfl (loadCN (cs := [(.int .i64 ra.entry.num), (.int .i64 ra.entry.view), (.int .i64 ra.entry.client), (.int .i64 ra.entry.seq), (.int .i64 ra.entry.op.kind), (.int .i64 ra.entry.op.h), (.int .i64 ra.entry.op.i), (.int .i64 ra.entry.op.n), (.int .i64 ra.entry.op.k), (.int .i64 ra.entry.op.v), (.int .i64 ra.entry.op.t)]) wh31 ((H15.ob (i := 1) rfl).sub 5 11))) (zg rfl (fa33_5 (b := ⟨b10, 5, none⟩) rfl rfl) (zg rfl (Ex.ldv rfl (loadCN (cs := [(.int .i64 qa.entry.num), (.int .i64 qa.entry.view), (.int .i64 qa.entry.client), (.int .i64 qa.entry.seq), (.int .i64 qa.entry.op.kind), (.int .i64 qa.entry.op.h), (.int .i64 qa.entry.op.i), (.int .i64 qa.entry.op.n), (.int .i64 qa.entry.op.k), (.int .i64 qa.entry.op.v), (.int .i64 qa.entry.op.t)]) wh31 ((H15.ob (i := 0) rfl).sub 5 11))) ?_)))))
       refine RL.br (p := (ra.entry.num : Int) = (qa.entry.num : Int) ∧ (ra.entry.view : Int) = (qa.entry.view : Int) ∧ (ra.entry.client : Int) = (qa.entry.client : Int) ∧ (ra.entry.seq : Int) = (qa.entry.seq : Int) ∧ (ra.entry.op.kind : Int) = (qa.entry.op.kind : Int) ∧ (ra.entry.op.h : Int) = (qa.entry.op.h : Int) ∧ (ra.entry.op.i : Int) = (qa.entry.op.i : Int) ∧ (ra.entry.op.n : Int) = (qa.entry.op.n : Int) ∧ (ra.entry.op.k : Int) = (qa.entry.op.k : Int) ∧ (ra.entry.op.v : Int) = (qa.entry.op.v : Int) ∧ (ra.entry.op.t : Int) = (qa.entry.op.t : Int)) rfl rfl rfl (fun r hr => Ex.eqS (xs := [(.int .i64 ra.entry.num), (.int .i64 ra.entry.view), (.int .i64 ra.entry.client), (.int .i64 ra.entry.seq), (.int .i64 ra.entry.op.kind), (.int .i64 ra.entry.op.h), (.int .i64 ra.entry.op.i), (.int .i64 ra.entry.op.n), (.int .i64 ra.entry.op.k), (.int .i64 ra.entry.op.v), (.int .i64 ra.entry.op.t)]) (ys := [(.int .i64 qa.entry.num), (.int .i64 qa.entry.view), (.int .i64 qa.entry.client), (.int .i64 qa.entry.seq), (.int .i64 qa.entry.op.kind), (.int .i64 qa.entry.op.h), (.int .i64 qa.entry.op.i), (.int .i64 qa.entry.op.n), (.int .i64 qa.entry.op.k), (.int .i64 qa.entry.op.v), (.int .i64 qa.entry.op.t)]) Tryz.eqGuardType31 (eqT31 hr) rfl rfl) (fun h22 => ?_) (fun h22 => ?_)
       ·skip
        refine zT (.bool true) rfl (zm (.bool true) rfl (zg rfl (fa33_6 (b := ⟨b2, 16, none⟩) rfl rfl) (zl (.slice A n c) lo22 (H15.ob (i := 1) rfl) rfl (zg rfl (fa33_6 (b := ⟨b10, 16, none⟩) rfl rfl) (zl (.slice A2 n2 c2) lo22 (H15.ob (i := 0) rfl) rfl (RL.call Tryz.call31 (entSameR_ _ _ ra.ents qa.ents A A2 n c n2 c2 ((hr.st0 (H15.fix (i := 2) rfl)).more (by omega)) (by first | assumption | rfl | omega) ((hr2.st0 (H15.fix (i := 2) rfl)).more (by omega)) (by first | assumption | rfl | omega) (by omega)) rfl rfl rfl ?_))))))
        rintro _ w23 ⟨rfl, g24⟩
        have H25 := H15.grow g24
        have z26 := g24.size
        rcases hb27 : (decide (ra.ents = qa.ents)) with _ | _
        ·skip
         refine zT (.bool false) rfl (za (.bool false) rfl (RL.nil (thn.n (CW.ret (finQ.r (v := (.bool false)) (res1 rfl rfl) ?_)))))
         exact ⟨ret_bool (by symm; rw [decide_eq_false_iff_not]; intro h; first | exact absurd (of_decide_eq_false hb27) (by rw [h]; simp) | exact hb27 (by rw [h]; exact ⟨rfl, rfl, rfl, rfl, rfl, rfl, rfl, rfl, rfl, rfl, rfl⟩) | exact hb27 (by rw [h])), (H25.fix (i := 2) rfl)⟩
        ·skip
         refine zT (.bool true) rfl (za (.bool true) rfl (RL.nil (thn.n (CW.ret (finQ.r (v := (.bool true)) (res1 rfl rfl) ?_)))))
         exact ⟨ret_bool (by symm; rw [decide_eq_true_eq]; exact rec_eq h17 h18 h19 h20 h21 (ent_eq h22) (of_decide_eq_true hb27)), (H25.fix (i := 2) rfl)⟩
       ·skip
        refine zT (.bool false) rfl (zm (.bool false) rfl (zo rfl (zo rfl (zo rfl (zo rfl (zo rfl (zF (.bool false) rfl (za (.bool false) rfl (RL.nil (thn.n (CW.ret (finQ.r (v := (.bool false)) (res1 rfl rfl) ?_))))))))))))
        exact ⟨ret_bool (by symm; rw [decide_eq_false_iff_not]; intro h; first | exact absurd (of_decide_eq_false h22) (by rw [h]; simp) | exact h22 (by rw [h]; exact ⟨rfl, rfl, rfl, rfl, rfl, rfl, rfl, rfl, rfl, rfl, rfl⟩) | exact h22 (by rw [h])), (H15.fix (i := 2) rfl)⟩
      ·skip
       refine zT (.bool false) rfl (zm (.bool false) rfl (zo rfl (zo rfl (zo rfl (zo rfl (zo rfl (zF (.bool false) rfl (zm (.bool false) rfl (zo rfl (zo rfl ?_))))))))))
       refine zo rfl (zo rfl (zo rfl (zF (.bool false) rfl (za (.bool false) rfl (RL.nil (thn.n (CW.ret (finQ.r (v := (.bool false)) (res1 rfl rfl) ?_))))))))
       exact ⟨ret_bool (by symm; rw [decide_eq_false_iff_not]; intro h; first | exact absurd (of_decide_eq_false h21) (by rw [h]; simp) | exact h21 (by rw [h]; exact ⟨rfl, rfl, rfl, rfl, rfl, rfl, rfl, rfl, rfl, rfl, rfl⟩) | exact h21 (by rw [h])), (H15.fix (i := 2) rfl)⟩
     ·skip
      refine zT (.bool false) rfl (zm (.bool false) rfl (zo rfl (zo rfl (zo rfl (zo rfl (zo rfl (zF (.bool false) rfl (zm (.bool false) rfl (zo rfl (zo rfl ?_))))))))))
      refine zo rfl (zo rfl (zo rfl (zF (.bool false) rfl (zm (.bool false) rfl (zo rfl (zo rfl (zo rfl (zo rfl (zo rfl (zF (.bool false) rfl ?_))))))))))
      refine za (.bool false) rfl (RL.nil (thn.n (CW.ret (finQ.r (v := (.bool false)) (res1 rfl rfl) ?_))))
      exact ⟨ret_bool (by symm; rw [decide_eq_false_iff_not]; intro h; first | exact absurd (of_decide_eq_false h20) (by rw [h]; simp) | exact h20 (by rw [h]; exact ⟨rfl, rfl, rfl, rfl, rfl, rfl, rfl, rfl, rfl, rfl, rfl⟩) | exact h20 (by rw [h])), (H15.fix (i := 2) rfl)⟩
    ·skip
     refine zT (.bool false) rfl (zm (.bool false) rfl (zo rfl (zo rfl (zo rfl (zo rfl (zo rfl (zF (.bool false) rfl (zm (.bool false) rfl (zo rfl (zo rfl ?_))))))))))
     refine zo rfl (zo rfl (zo rfl (zF (.bool false) rfl (zm (.bool false) rfl (zo rfl (zo rfl (zo rfl (zo rfl (zo rfl (zF (.bool false) rfl ?_))))))))))
     refine zm (.bool false) rfl (zo rfl (zo rfl (zo rfl (zo rfl (zo rfl (zF (.bool false) rfl (za (.bool false) rfl (RL.nil (thn.n (CW.ret (finQ.r (v := (.bool false)) (res1 rfl rfl) ?_)))))))))))
     exact ⟨ret_bool (by symm; rw [decide_eq_false_iff_not]; intro h; first | exact absurd (of_decide_eq_false h19) (by rw [h]; simp) | exact h19 (by rw [h]; exact ⟨rfl, rfl, rfl, rfl, rfl, rfl, rfl, rfl, rfl, rfl, rfl⟩) | exact h19 (by rw [h])), (H15.fix (i := 2) rfl)⟩
   ·skip
    refine zT (.bool false) rfl (zm (.bool false) rfl (zo rfl (zo rfl (zo rfl (zo rfl (zo rfl (zF (.bool false) rfl (zm (.bool false) rfl (zo rfl (zo rfl ?_))))))))))
    refine zo rfl (zo rfl (zo rfl (zF (.bool false) rfl (zm (.bool false) rfl (zo rfl (zo rfl (zo rfl (zo rfl (zo rfl (zF (.bool false) rfl ?_))))))))))
    refine zm (.bool false) rfl (zo rfl (zo rfl (zo rfl (zo rfl (zo rfl (zF (.bool false) rfl (zm (.bool false) rfl (zo rfl (zo rfl (zo rfl ?_))))))))))
    refine zo rfl (zo rfl (zF (.bool false) rfl (za (.bool false) rfl (RL.nil (thn.n (CW.ret (finQ.r (v := (.bool false)) (res1 rfl rfl) ?_)))))))
    exact ⟨ret_bool (by symm; rw [decide_eq_false_iff_not]; intro h; first | exact absurd (of_decide_eq_false h18) (by rw [h]; simp) | exact h18 (by rw [h]; exact ⟨rfl, rfl, rfl, rfl, rfl, rfl, rfl, rfl, rfl, rfl, rfl⟩) | exact h18 (by rw [h])), (H15.fix (i := 2) rfl)⟩
  ·skip
   refine zm (.bool false) rfl (zo rfl (zo rfl (zo rfl (zo rfl (zo rfl (zF (.bool false) rfl (zm (.bool false) rfl (zo rfl (zo rfl (zo rfl ?_))))))))))
   refine zo rfl (zo rfl (zF (.bool false) rfl (zm (.bool false) rfl (zo rfl (zo rfl (zo rfl (zo rfl (zo rfl (zF (.bool false) rfl (zm (.bool false) rfl ?_))))))))))
   refine zo rfl (zo rfl (zo rfl (zo rfl (zo rfl (zF (.bool false) rfl (zm (.bool false) rfl (zo rfl (zo rfl (zo rfl (zo rfl ?_))))))))))
   refine zo rfl (zF (.bool false) rfl (zm (.bool false) rfl (zo rfl (zo rfl (zo rfl (zo rfl (zo rfl (zF (.bool false) rfl (za (.bool false) rfl (RL.nil (thn.n (CW.ret ?_))))))))))))
   refine finQ.r (v := (.bool false)) (res1 rfl rfl) ?_
   exact ⟨ret_bool (by symm; rw [decide_eq_false_iff_not]; intro h; first | exact absurd (of_decide_eq_false h17) (by rw [h]; simp) | exact h17 (by rw [h]; exact ⟨rfl, rfl, rfl, rfl, rfl, rfl, rfl, rfl, rfl, rfl, rfl⟩) | exact h17 (by rw [h])), (H15.fix (i := 2) rfl)⟩
set_option maxHeartbeats 400000 in
set_option maxRecDepth 20000 in
theorem over17_ (w : World) (S : Nat → Prop) (A : Option Addr) (n c : Nat) (l : List Entry) (hS : (AllA [RowA 31 11 A n c (ents l)]).ok S w) : Ret Tryz.prog 28 [(.slice A n c)] w (fun v w' => ∃ l' : List Entry, v = .tuple #[] ∧ Sp ([RowA 31 11 A n c (ents l')] ++ [Fix w S]) w') := by
  have H0 := Sp.startL hS
  have hln := H0.len (i := 0) rfl
  rw [ents_length] at hln
  have hnm : n ≤ 9223372036854775807 := H0.max (i := 0) rfl
  have H0 : Sp [RowA 31 11 A n c (ents l), Fix w S] w := H0
  refine Ret.body Tryz.func28 rfl rfl rfl ?_
  refine CW.seq (CW.region (za (.int .i64 0) rfl (RL.nil (thn.n (CW.block ?_)))))
  refine CW.loop (fun t => (Nat.ble 2 t && Nat.ble t 12)) (fun nL ρ wl => ∃ (i : Nat) (l1 : List Entry), ρ 2 = (.int .i64 (i : Int)) ∧ nL = n - i ∧ Sp [RowA 31 11 A n c (ents l1), Fix w S] wl ∧ i ≤ n ∧ l1.length = n) (n) ?aa0 ?bb0
  case aa0 =>
   exact ⟨0, l, rfl, rfl, H0, Nat.zero_le _, hln⟩
  case bb0 =>
   rintro n2 ρ0 w1 ho3 ⟨i, l1, hs0_2, hn0, H4, hi, hl1⟩
   obtain ⟨j0, rfl⟩ := ho3.shape1 hs0_2
   clear ho3 hs0_2
   subst hn0
   have z5 := (H4.chg (i := 1) rfl).size
   refine CW.seq (CW.seq (CW.region (zm (.int .i64 (i : Int)) rfl (zm (.slice A n c) rfl (zg rfl (Ex.len Tryz.underlying22 rfl) ?_)))))
   refine RL.br (p := ((i : Int) : Int) < ((n : Nat) : Int)) rfl rfl rfl (fun r hr => Ex.lt rfl rfl hr) (fun h6 => ?_) (fun h6 => ?_)
   ·skip
    refine RL.nil (thn.n (CW.condT rfl (CW.skip (thn.n (CW.seq (CW.block (CW.region (zm (.slice A n c) rfl (zm (.int .i64 (i : Int)) rfl ?_)))))))))
    obtain ⟨e7, he8⟩ : ∃ e, (l1)[i]? = some e := ⟨_, List.getElem?_eq_getElem (by omega)⟩
    obtain ⟨ad9, hA10⟩ := Rd.sm (H4.rowrd (i := 0) rfl) (ents_get he8)
    have hl11 := Eng.lt_len (ents_get he8)
    refine zg rfl (Ex.ix (b := (ad9.add (i * 11))) (i := i) Tryz.underlying22 Tryz.sizeOf31 (by rw [← hA10]; rfl) rfl (by omega) (by omega) rfl) (zg rfl (fa31_0 (b := ((ad9.add (i * 11)))) rfl rfl) (RL.stE (vs := [(.int .i64 (-77))]) (x2 := [(.int .i64 (-77)), (.int .i64 e7.view), (.int .i64 e7.client), (.int .i64 e7.seq), (.int .i64 e7.op.kind), (.int .i64 e7.op.h), (.int .i64 e7.op.i), (.int .i64 e7.op.n), (.int .i64 e7.op.k), (.int .i64 e7.op.v), (.int .i64 e7.op.t)]) (off := 0) Tryz.sizeOf3 (H4.wr (i := 0) rfl) hA10 (ents_get he8) rfl rfl rfl rfl rfl rfl ?_))
    intro w12 g13 ow14
    have H15 : Sp [RowA 31 11 A n c (ents (l1.set i { e7 with num := -77 })), Fix w S] w12 := H4.setR (i := 0) rfl (by rw [own_bk]; exact g13) ((ents_set _ _ { e7 with num := -77 }) ▸ ow14) (Nx.refl_ _ _) rfl
    have z16 := g13.size
    refine RL.nil (inB.n (thn.n (CW.region (zm (.int .i64 (i : Int)) rfl (zg rfl (Ex.add (r := (i : Int) + 1) rfl rfl (w64 (by omega) (by omega))) (za (.int .i64 ((i : Int) + 1)) rfl (RL.nil (thn.n ?_))))))))
    refine ⟨(by repeat (first | exact Out.mix _ _ | exact Out.refl _ _ | refine Out.up ?_ rfl _)), _, ?_, i + 1, (l1.set i { e7 with num := -77 }), rfl, rfl, H15, by omega, by rw [List.length_set]; exact hl1⟩
    omega
   ·skip
    refine RL.nil (thn.n (CW.condF rfl (CW.exit (thn.x (thn.x (inB.hit (finQ.n (v := (.tuple #[])) (res0 rfl) ?_)))))))
    exact ⟨_, rfl, (H4.sel [0, 1] (by decide) rfl)⟩
end Go.Proofs.YtfokljnhllflbaaGreat
namespace Go.Proofs.YtfokljnhllflbaaGreat
open Go Go.Eng Go.RowKit
set_option maxHeartbeats 2000000 in
set_option maxRecDepth 20000 in
theorem adoptRf_ (w : World) (B : Nat) (k : Kept) (A : Option Addr) (n c : Nat) (hr : Rd w B 11 A (ents k.ents)) (hB : B ≤ w.heap.size) (hn : n = k.ents.length) (hm : n ≤ 1099511627776) (hc : n ≤ c) (hi : k.image.length ≤ 140737488351232) (commit view base : Int) (l : List Entry) (A2 : Option Addr) (n2 c2 : Nat) (hr2 : Rd w B 11 A2 (ents l)) (hn2 : n2 = l.length) (hm2 : n2 ≤ 1000000) (hok : ∀ e ∈ l, rng e.num) : Ret Tryz.prog 26 [(.agg ([(.int .i64 k.view), (.int .i64 k.normal), (.int .i64 k.base), (.string (tx k.image)), (.slice A n c)]).toArray), (.int .i64 commit), (.int .i64 view), (.int .i64 base), (.slice A2 n2 c2)] w (fun v w' => ∃ (A' : Option Addr) (n' c' : Nat), v = .tuple #[.agg #[(.int .i64 ((adoptR k commit view base l).kind)), (.int .i64 ((adoptR k commit view base l).view)), (.int .i64 ((adoptR k commit view base l).from_)), (.int .i64 ((adoptR k commit view base l).number)), (.string (tx (adoptR k commit view base l).image)), (.int .i64 ((adoptR k commit view base l).entry.num)), (.int .i64 ((adoptR k commit view base l).entry.view)), (.int .i64 ((adoptR k commit view base l).entry.client)), (.int .i64 ((adoptR k commit view base l).entry.seq)), (.int .i64 ((adoptR k commit view base l).entry.op.kind)), (.int .i64 ((adoptR k commit view base l).entry.op.h)), (.int .i64 ((adoptR k commit view base l).entry.op.i)), (.int .i64 ((adoptR k commit view base l).entry.op.n)), (.int .i64 ((adoptR k commit view base l).entry.op.k)), (.int .i64 ((adoptR k commit view base l).entry.op.v)), (.int .i64 ((adoptR k commit view base l).entry.op.t)), (.slice A' n' c')], .bool (adoptB k commit view base l)] ∧ Sp ([RowA 31 11 A' n' c' (ents (adoptR k commit view base l).ents)] ++ [Fix w NoB]) w') := by
  have H0 : Sp [Fix w NoB] w := Sp.start w
  refine Ret.body Tryz.func26 rfl rfl rfl ?_
  refine CW.seq (CW.region (RL.bx (cs := [(.int .i64 k.view), (.int .i64 k.normal), (.int .i64 k.base), (.string (tx k.image)), (.slice A n c)]) rfl rfl rfl ?_))
  intro w1 b2 hb3 hz4 g5 o6
  have H7 := H0.newB g5 o6 (by omega)
  have z8 := g5.size
  refine RL.al (cs := [(.int .i64 0), (.int .i64 0), (.int .i64 0), (.int .i64 0), (.string (⟨#[]⟩)), (.int .i64 0), (.int .i64 0), (.int .i64 0), (.int .i64 0), (.int .i64 0), (.int .i64 0), (.int .i64 0), (.int .i64 0), (.int .i64 0), (.int .i64 0), (.int .i64 0), (.slice none 0 0)]) Tryz.zeroValue33 rfl rfl rfl ?_
  intro w9 b10 hb11 hz12 g13 o14
  have H15 := H7.newB g13 o14 (by omega)
  have z16 := g13.size
  refine za (.bool false) rfl (RL.nil (thn.n (CW.seq (CW.seq (CW.held (fun wq => Sp [BlkA b10 33 [(.int .i64 0), (.int .i64 0), (.int .i64 0), (.int .i64 0), (.string (⟨#[]⟩)), (.int .i64 0), (.int .i64 0), (.int .i64 0), (.int .i64 0), (.int .i64 0), (.int .i64 0), (.int .i64 0), (.int .i64 0), (.int .i64 0), (.int .i64 0), (.int .i64 0), (.slice none 0 0)], BlkA b2 24 [(.int .i64 k.view), (.int .i64 k.normal), (.int .i64 k.base), (.string (tx k.image)), (.slice A n c)], Fix w NoB] wq) Tryz.mixed rfl ?_)))))
  intro w17 g18
  have H19 := H15.grow g18
  have z20 := g18.size
  refine RA.tk 0 0 1 rfl rfl rfl (by kernel_rfl) (fun wq hq => Ex.ldv rfl (loadCN (cs := [(.int .i64 k.view), (.int .i64 k.normal), (.int .i64 k.base), (.string (tx k.image)), (.slice A n c)]) wh24 (hq.ob (i := 1) rfl).cl)) H19 (RA.one (i := 1) (by kernel_rfl) ?_)
  refine ⟨_, 3, rfl, by kernel_rfl, ?_⟩
  refine RL.call Tryz.call59 (rightK_ _ _ k A n c (hr.st0 (H19.fix (i := 2) rfl)) (by omega) (by first | assumption | rfl | omega | decide +kernel) (by first | assumption | rfl | omega | decide +kernel) (by first | assumption | rfl | omega | decide +kernel) (by first | assumption | rfl | omega | decide +kernel)) rfl rfl rfl ?_
  rintro _ w21 ⟨rfl, g22⟩
  have H23 := H19.grow g22
  have z24 := g22.size
  rcases hb25 : (keptB k) with _ | _
  ·skip
   refine RL.nil ?_
   refine ⟨H23, ?_⟩
   refine RA.tk 2 3 7 rfl rfl rfl (by kernel_rfl) (fun wq hq => Ex.not (b := false) rfl) H23 (RA.tk 3 7 15 rfl rfl rfl (by kernel_rfl) (fun wq hq => Ex.mv (v := (.bool true)) rfl) H23 (RA.out (i := 4) (m := 15) (m' := 31) rfl rfl rfl (by kernel_rfl) (fun _ _ _ _ h => h) rfl H23 (RA.out (i := 5) (m := 31) (m' := 63) rfl rfl rfl (by kernel_rfl) (fun _ _ _ _ h => h) rfl H23 (RA.out (i := 6) (m := 63) (m' := 127) rfl rfl rfl (by kernel_rfl) (fun _ _ _ _ h => h) rfl H23 (RA.out (i := 7) (m := 127) (m' := 255) rfl rfl rfl (by kernel_rfl) (fun _ _ _ _ h => h) rfl H23 (RA.out (i := 8) (m := 255) (m' := 511) rfl rfl rfl (by kernel_rfl) (fun _ _ _ _ h => h) rfl H23 (RA.out (i := 9) (m := 511) (m' := 1023) rfl rfl rfl (by kernel_rfl) (fun _ _ _ _ h => h) rfl H23 (RA.out (i := 10) (m := 1023) (m' := 2047) rfl rfl rfl (by kernel_rfl) (fun _ _ _ _ h => h) rfl H23 (RA.tk 11 2047 4095 rfl rfl rfl (by kernel_rfl) (fun wq hq => Ex.pkT (v := (.bool true)) rfl rfl) H23 ?_)))))))))
   refine RA.tk 12 4095 8191 rfl rfl rfl (by kernel_rfl) (fun wq hq => Ex.mv (v := (.bool true)) rfl) H23 (RA.out (i := 13) (m := 8191) (m' := 16383) rfl rfl rfl (by kernel_rfl) (fun _ _ _ _ h => h) rfl H23 (RA.out (i := 14) (m := 16383) (m' := 32767) rfl rfl rfl (by kernel_rfl) (fun _ _ _ _ h => h) rfl H23 (RA.out (i := 15) (m := 32767) (m' := 65535) rfl rfl rfl (by kernel_rfl) (fun _ _ _ _ h => h) rfl H23 (RA.out (i := 16) (m := 65535) (m' := 131071) rfl rfl rfl (by kernel_rfl) (fun _ _ _ _ h => h) rfl H23 (RA.out (i := 17) (m := 131071) (m' := 262143) rfl rfl rfl (by kernel_rfl) (fun _ _ _ _ h => h) rfl H23 (RA.tk 18 262143 524287 rfl rfl rfl (by kernel_rfl) (fun wq hq => Ex.pkT (v := (.bool true)) rfl rfl) H23 (RA.tk 19 524287 1048575 rfl rfl rfl (by kernel_rfl) (fun wq hq => Ex.mv (v := (.bool true)) rfl) H23 (RA.out (i := 20) (m := 1048575) (m' := 2097151) rfl rfl rfl (by kernel_rfl) (fun _ _ _ _ h => h) rfl H23 ?_))))))))
   refine RA.out (i := 21) (m := 2097151) (m' := 4194303) rfl rfl rfl (by kernel_rfl) (fun _ _ _ _ h => h) rfl H23 (RA.out (i := 22) (m := 4194303) (m' := 8388607) rfl rfl rfl (by kernel_rfl) (fun _ _ _ _ h => h) rfl H23 (RA.out (i := 23) (m := 8388607) (m' := 16777215) rfl rfl rfl (by kernel_rfl) (fun _ _ _ _ h => h) rfl H23 (RA.tk 24 16777215 33554431 rfl rfl rfl (by kernel_rfl) (fun wq hq => Ex.pkT (v := (.bool true)) rfl rfl) H23 (RA.tk 25 33554431 67108863 rfl rfl rfl (by kernel_rfl) (fun wq hq => Ex.mv (v := (.bool true)) rfl) H23 (RA.out (i := 26) (m := 67108863) (m' := 134217727) rfl rfl rfl (by kernel_rfl) (fun _ _ _ _ h => h) rfl H23 (RA.out (i := 27) (m := 134217727) (m' := 268435455) rfl rfl rfl (by kernel_rfl) (fun _ _ _ _ h => h) rfl H23 (RA.out (i := 28) (m := 268435455) (m' := 536870911) rfl rfl rfl (by kernel_rfl) (fun _ _ _ _ h => h) rfl H23 (RA.out (i := 29) (m := 536870911) (m' := 1073741823) rfl rfl rfl (by kernel_rfl) (fun _ _ _ _ h => h) rfl H23 ?_))))))))
   refine RA.tk 30 1073741823 2147483647 rfl rfl rfl (by kernel_rfl) (fun wq hq => Ex.pkT (v := (.bool true)) rfl rfl) H23 (RA.tk 31 2147483647 4294967295 rfl rfl rfl (by kernel_rfl) (fun wq hq => Ex.mv (v := (.bool true)) rfl) H23 (RA.out (i := 32) (m := 4294967295) (m' := 8589934591) rfl rfl rfl (by kernel_rfl) (fun _ _ _ _ h => h) rfl H23 (RA.out (i := 33) (m := 8589934591) (m' := 17179869183) rfl rfl rfl (by kernel_rfl) (fun _ _ _ _ h => h) rfl H23 (RA.out (i := 34) (m := 17179869183) (m' := 34359738367) rfl rfl rfl (by kernel_rfl) (fun _ _ _ _ h => h) rfl H23 (RA.out (i := 35) (m := 34359738367) (m' := 68719476735) rfl rfl rfl (by kernel_rfl) (fun _ _ _ _ h => h) rfl H23 (RA.out (i := 36) (m := 68719476735) (m' := 137438953471) rfl rfl rfl (by kernel_rfl) (fun _ _ _ _ h => h) rfl H23 (RA.out (i := 37) (m := 137438953471) (m' := 274877906943) rfl rfl rfl (by kernel_rfl) (fun _ _ _ _ h => h) rfl H23 ?_)))))))
   refine RA.tk 38 274877906943 549755813887 rfl rfl rfl (by kernel_rfl) (fun wq hq => Ex.pkT (v := (.bool true)) rfl rfl) H23 (RA.done (by kernel_rfl) (thn.n (CW.condT rfl (CW.seq (CW.region (zg rfl (Ex.bd (cs := [(.int .i64 0), (.int .i64 0), (.int .i64 0), (.int .i64 0), (.string (⟨#[]⟩)), (.int .i64 0), (.int .i64 0), (.int .i64 0), (.int .i64 0), (.int .i64 0), (.int .i64 0), (.int .i64 0), (.int .i64 0), (.int .i64 0), (.int .i64 0), (.int .i64 0), (.slice none 0 0)]) bd33 rfl) (RL.st (vs := [(.int .i64 0), (.int .i64 0), (.int .i64 0), (.int .i64 0), (.string (⟨#[]⟩)), (.int .i64 0), (.int .i64 0), (.int .i64 0), (.int .i64 0), (.int .i64 0), (.int .i64 0), (.int .i64 0), (.int .i64 0), (.int .i64 0), (.int .i64 0), (.int .i64 0), (.slice none 0 0)]) (cs' := [(.int .i64 0), (.int .i64 0), (.int .i64 0), (.int .i64 0), (.string (⟨#[]⟩)), (.int .i64 0), (.int .i64 0), (.int .i64 0), (.int .i64 0), (.int .i64 0), (.int .i64 0), (.int .i64 0), (.int .i64 0), (.int .i64 0), (.int .i64 0), (.int .i64 0), (.slice none 0 0)]) Tryz.sizeOf33 (H23.ob (i := 0) rfl) rfl rfl rfl rfl rfl rfl ?_)))))))
   intro w26 hz27 g28 o29
   have H30 : Sp [BlkA b10 33 [(.int .i64 0), (.int .i64 0), (.int .i64 0), (.int .i64 0), (.string (⟨#[]⟩)), (.int .i64 0), (.int .i64 0), (.int .i64 0), (.int .i64 0), (.int .i64 0), (.int .i64 0), (.int .i64 0), (.int .i64 0), (.int .i64 0), (.int .i64 0), (.int .i64 0), (.slice none 0 0)], BlkA b2 24 [(.int .i64 k.view), (.int .i64 k.normal), (.int .i64 k.base), (.string (tx k.image)), (.slice A n c)], Fix w NoB] w26 := H23.setB (i := 0) rfl g28 o29 rfl
   have z31 := g28.size
   refine za (.bool false) rfl (RL.nil (thn.n (CW.ret (thn.r (finQ.r (v := (.tuple #[(.agg ([(.int .i64 0), (.int .i64 0), (.int .i64 0), (.int .i64 0), (.string (⟨#[]⟩)), (.int .i64 0), (.int .i64 0), (.int .i64 0), (.int .i64 0), (.int .i64 0), (.int .i64 0), (.int .i64 0), (.int .i64 0), (.int .i64 0), (.int .i64 0), (.int .i64 0), (.slice none 0 0)]).toArray), (.bool false)])) (resv2 rfl (Rv.cell rfl (loadCN (cs := [(.int .i64 0), (.int .i64 0), (.int .i64 0), (.int .i64 0), (.string (⟨#[]⟩)), (.int .i64 0), (.int .i64 0), (.int .i64 0), (.int .i64 0), (.int .i64 0), (.int .i64 0), (.int .i64 0), (.int .i64 0), (.int .i64 0), (.int .i64 0), (.int .i64 0), (.slice none 0 0)]) wh33 (H30.ob (i := 0) rfl).cl)) (Rv.tmp rfl)) ?_)))))
   have H32 := H30.nil_ 31 11
   have hx : adoptB k commit view base l = false := adoptB_no (.inl hb25)
   have hy : adoptR k commit view base l = ⟨0, 0, 0, 0, [], ⟨0, 0, 0, 0, ⟨0, 0, 0, 0, 0, 0, 0⟩⟩, []⟩ := by unfold adoptR; rw [hx]; rfl
   exact ⟨none, 0, 0, by rw [hx, hy]; rfl, by rw [hy]; exact (H32.sel [0, 3] (by decide) rfl)⟩
  ·skip
   refine RL.nil ?_
   refine ⟨H23, ?_⟩
   refine RA.tk 2 3 7 rfl rfl rfl (by kernel_rfl) (fun wq hq => Ex.not (b := true) rfl) H23 (RA.tk 3 7 15 rfl rfl rfl (by kernel_rfl) (fun wq hq => Ex.mv (v := (.bool false)) rfl) H23 (RA.tk 4 15 31 rfl rfl rfl (by kernel_rfl) (fun wq hq => Ex.mv (v := (.int .i64 commit)) rfl) H23 (RA.tk 5 31 63 rfl rfl rfl (by kernel_rfl) (fun wq hq => fa24_2 (b := ⟨b2, 2, none⟩) rfl rfl) H23 (RA.tk 6 63 127 rfl rfl rfl (by kernel_rfl) (fun wq hq => Ex.ldv rfl (loadC1 lo3 (Ob.cell (v := (.int .i64 k.base)) (hq.ob (i := 1) rfl) rfl))) H23 (RA.tk 7 127 255 rfl rfl rfl (by kernel_rfl) (fun wq hq => Ex.ldv rfl (loadCN (cs := [(.int .i64 k.view), (.int .i64 k.normal), (.int .i64 k.base), (.string (tx k.image)), (.slice A n c)]) wh24 (hq.ob (i := 1) rfl).cl)) H23 (RA.one (i := 8) (by kernel_rfl) ?_))))))
   refine ⟨_, 511, rfl, by kernel_rfl, ?_⟩
   refine RL.call Tryz.call60 (lastR_ _ k A n c (by first | assumption | rfl | omega) hb25) rfl rfl rfl ?_
   rintro _ w33 ⟨rfl, g34⟩
   have H35 := H23.grow g34
   have z36 := g34.size
   refine RL.nil ?_
   refine ⟨H35, ?_⟩
   refine RA.one (i := 9) (by kernel_rfl) ?_
   refine ⟨_, 1023, rfl, by kernel_rfl, ?_⟩
   refine RL.call Tryz.call90 (within_tumulusref17 _ commit k.base (lastK k)) rfl rfl rfl ?_
   rintro _ _ ⟨rfl, rfl⟩
   rcases hb40 : (withinB commit k.base (lastK k)) with _ | _
   ·skip
    refine RL.nil ?_
    refine ⟨H35, ?_⟩
    refine RA.tk 10 1023 2047 rfl rfl rfl (by kernel_rfl) (fun wq hq => Ex.not (b := false) rfl) H35 (RA.tk 11 2047 4095 rfl rfl rfl (by kernel_rfl) (fun wq hq => Ex.pkF (v := (.bool true)) rfl rfl) H35 (RA.tk 12 4095 8191 rfl rfl rfl (by kernel_rfl) (fun wq hq => Ex.mv (v := (.bool true)) rfl) H35 (RA.out (i := 13) (m := 8191) (m' := 16383) rfl rfl rfl (by kernel_rfl) (fun _ _ _ _ h => h) rfl H35 (RA.out (i := 14) (m := 16383) (m' := 32767) rfl rfl rfl (by kernel_rfl) (fun _ _ _ _ h => h) rfl H35 (RA.out (i := 15) (m := 32767) (m' := 65535) rfl rfl rfl (by kernel_rfl) (fun _ _ _ _ h => h) rfl H35 (RA.out (i := 16) (m := 65535) (m' := 131071) rfl rfl rfl (by kernel_rfl) (fun _ _ _ _ h => h) rfl H35 (RA.out (i := 17) (m := 131071) (m' := 262143) rfl rfl rfl (by kernel_rfl) (fun _ _ _ _ h => h) rfl H35 (RA.tk 18 262143 524287 rfl rfl rfl (by kernel_rfl) (fun wq hq => Ex.pkT (v := (.bool true)) rfl rfl) H35 ?_))))))))
    refine RA.tk 19 524287 1048575 rfl rfl rfl (by kernel_rfl) (fun wq hq => Ex.mv (v := (.bool true)) rfl) H35 (RA.out (i := 20) (m := 1048575) (m' := 2097151) rfl rfl rfl (by kernel_rfl) (fun _ _ _ _ h => h) rfl H35 (RA.out (i := 21) (m := 2097151) (m' := 4194303) rfl rfl rfl (by kernel_rfl) (fun _ _ _ _ h => h) rfl H35 (RA.out (i := 22) (m := 4194303) (m' := 8388607) rfl rfl rfl (by kernel_rfl) (fun _ _ _ _ h => h) rfl H35 (RA.out (i := 23) (m := 8388607) (m' := 16777215) rfl rfl rfl (by kernel_rfl) (fun _ _ _ _ h => h) rfl H35 (RA.tk 24 16777215 33554431 rfl rfl rfl (by kernel_rfl) (fun wq hq => Ex.pkT (v := (.bool true)) rfl rfl) H35 (RA.tk 25 33554431 67108863 rfl rfl rfl (by kernel_rfl) (fun wq hq => Ex.mv (v := (.bool true)) rfl) H35 (RA.out (i := 26) (m := 67108863) (m' := 134217727) rfl rfl rfl (by kernel_rfl) (fun _ _ _ _ h => h) rfl H35 (RA.out (i := 27) (m := 134217727) (m' := 268435455) rfl rfl rfl (by kernel_rfl) (fun _ _ _ _ h => h) rfl H35 ?_))))))))
    refine RA.out (i := 28) (m := 268435455) (m' := 536870911) rfl rfl rfl (by kernel_rfl) (fun _ _ _ _ h => h) rfl H35 (RA.out (i := 29) (m := 536870911) (m' := 1073741823) rfl rfl rfl (by kernel_rfl) (fun _ _ _ _ h => h) rfl H35 (RA.tk 30 1073741823 2147483647 rfl rfl rfl (by kernel_rfl) (fun wq hq => Ex.pkT (v := (.bool true)) rfl rfl) H35 (RA.tk 31 2147483647 4294967295 rfl rfl rfl (by kernel_rfl) (fun wq hq => Ex.mv (v := (.bool true)) rfl) H35 (RA.out (i := 32) (m := 4294967295) (m' := 8589934591) rfl rfl rfl (by kernel_rfl) (fun _ _ _ _ h => h) rfl H35 (RA.out (i := 33) (m := 8589934591) (m' := 17179869183) rfl rfl rfl (by kernel_rfl) (fun _ _ _ _ h => h) rfl H35 (RA.out (i := 34) (m := 17179869183) (m' := 34359738367) rfl rfl rfl (by kernel_rfl) (fun _ _ _ _ h => h) rfl H35 (RA.out (i := 35) (m := 34359738367) (m' := 68719476735) rfl rfl rfl (by kernel_rfl) (fun _ _ _ _ h => h) rfl H35 ?_)))))))
    refine RA.out (i := 36) (m := 68719476735) (m' := 137438953471) rfl rfl rfl (by kernel_rfl) (fun _ _ _ _ h => h) rfl H35 (RA.out (i := 37) (m := 137438953471) (m' := 274877906943) rfl rfl rfl (by kernel_rfl) (fun _ _ _ _ h => h) rfl H35 (RA.tk 38 274877906943 549755813887 rfl rfl rfl (by kernel_rfl) (fun wq hq => Ex.pkT (v := (.bool true)) rfl rfl) H35 (RA.done (by kernel_rfl) (thn.n (CW.condT rfl (CW.seq (CW.region (zg rfl (Ex.bd (cs := [(.int .i64 0), (.int .i64 0), (.int .i64 0), (.int .i64 0), (.string (⟨#[]⟩)), (.int .i64 0), (.int .i64 0), (.int .i64 0), (.int .i64 0), (.int .i64 0), (.int .i64 0), (.int .i64 0), (.int .i64 0), (.int .i64 0), (.int .i64 0), (.int .i64 0), (.slice none 0 0)]) bd33 rfl) (RL.st (vs := [(.int .i64 0), (.int .i64 0), (.int .i64 0), (.int .i64 0), (.string (⟨#[]⟩)), (.int .i64 0), (.int .i64 0), (.int .i64 0), (.int .i64 0), (.int .i64 0), (.int .i64 0), (.int .i64 0), (.int .i64 0), (.int .i64 0), (.int .i64 0), (.int .i64 0), (.slice none 0 0)]) (cs' := [(.int .i64 0), (.int .i64 0), (.int .i64 0), (.int .i64 0), (.string (⟨#[]⟩)), (.int .i64 0), (.int .i64 0), (.int .i64 0), (.int .i64 0), (.int .i64 0), (.int .i64 0), (.int .i64 0), (.int .i64 0), (.int .i64 0), (.int .i64 0), (.int .i64 0), (.slice none 0 0)]) Tryz.sizeOf33 (H35.ob (i := 0) rfl) rfl rfl rfl rfl rfl rfl ?_)))))))))
    intro w41 hz42 g43 o44
    have H45 : Sp [BlkA b10 33 [(.int .i64 0), (.int .i64 0), (.int .i64 0), (.int .i64 0), (.string (⟨#[]⟩)), (.int .i64 0), (.int .i64 0), (.int .i64 0), (.int .i64 0), (.int .i64 0), (.int .i64 0), (.int .i64 0), (.int .i64 0), (.int .i64 0), (.int .i64 0), (.int .i64 0), (.slice none 0 0)], BlkA b2 24 [(.int .i64 k.view), (.int .i64 k.normal), (.int .i64 k.base), (.string (tx k.image)), (.slice A n c)], Fix w NoB] w41 := H35.setB (i := 0) rfl g43 o44 rfl
    have z46 := g43.size
    refine za (.bool false) rfl (RL.nil (thn.n (CW.ret (thn.r (finQ.r (v := (.tuple #[(.agg ([(.int .i64 0), (.int .i64 0), (.int .i64 0), (.int .i64 0), (.string (⟨#[]⟩)), (.int .i64 0), (.int .i64 0), (.int .i64 0), (.int .i64 0), (.int .i64 0), (.int .i64 0), (.int .i64 0), (.int .i64 0), (.int .i64 0), (.int .i64 0), (.int .i64 0), (.slice none 0 0)]).toArray), (.bool false)])) (resv2 rfl (Rv.cell rfl (loadCN (cs := [(.int .i64 0), (.int .i64 0), (.int .i64 0), (.int .i64 0), (.string (⟨#[]⟩)), (.int .i64 0), (.int .i64 0), (.int .i64 0), (.int .i64 0), (.int .i64 0), (.int .i64 0), (.int .i64 0), (.int .i64 0), (.int .i64 0), (.int .i64 0), (.int .i64 0), (.slice none 0 0)]) wh33 (H45.ob (i := 0) rfl).cl)) (Rv.tmp rfl)) ?_)))))
    have H47 := H45.nil_ 31 11
    have hx : adoptB k commit view base l = false := adoptB_no (.inr (.inl ⟨hb25, hb40⟩))
    have hy : adoptR k commit view base l = ⟨0, 0, 0, 0, [], ⟨0, 0, 0, 0, ⟨0, 0, 0, 0, 0, 0, 0⟩⟩, []⟩ := by unfold adoptR; rw [hx]; rfl
    exact ⟨none, 0, 0, by rw [hx, hy]; rfl, by rw [hy]; exact (H47.sel [0, 3] (by decide) rfl)⟩
   ·have hw37 := withinB_t hb40
    refine RL.nil ?_
    refine ⟨H35, ?_⟩
    refine RA.tk 10 1023 2047 rfl rfl rfl (by kernel_rfl) (fun wq hq => Ex.not (b := true) rfl) H35 (RA.tk 11 2047 4095 rfl rfl rfl (by kernel_rfl) (fun wq hq => Ex.pkF (v := (.bool false)) rfl rfl) H35 (RA.tk 12 4095 8191 rfl rfl rfl (by kernel_rfl) (fun wq hq => Ex.mv (v := (.bool false)) rfl) H35 (RA.tk 13 8191 16383 rfl rfl rfl (by kernel_rfl) (fun wq hq => Ex.mv (v := (.int .i64 view)) rfl) H35 (RA.tk 14 16383 32767 rfl rfl rfl (by kernel_rfl) (fun wq hq => fa24_0 (b := ⟨b2, 0, none⟩) rfl rfl) H35 (RA.tk 15 32767 65535 rfl rfl rfl (by kernel_rfl) (fun wq hq => Ex.ldv rfl (loadC1 lo3 (Ob.cell (v := (.int .i64 k.view)) (hq.ob (i := 1) rfl) rfl))) H35 (RA.one (i := 16) (by kernel_rfl) ?_))))))
    refine ⟨_, 131071, rfl, by kernel_rfl, ?_⟩
    refine RL.call Tryz.call90 (within_tumulusref17 _ view k.view 900000000) rfl rfl rfl ?_
    rintro _ _ ⟨rfl, rfl⟩
    rcases hb51 : (withinB view k.view 900000000) with _ | _
    ·skip
     refine RL.nil ?_
     refine ⟨H35, ?_⟩
     refine RA.tk 17 131071 262143 rfl rfl rfl (by kernel_rfl) (fun wq hq => Ex.not (b := false) rfl) H35 (RA.tk 18 262143 524287 rfl rfl rfl (by kernel_rfl) (fun wq hq => Ex.pkF (v := (.bool true)) rfl rfl) H35 (RA.tk 19 524287 1048575 rfl rfl rfl (by kernel_rfl) (fun wq hq => Ex.mv (v := (.bool true)) rfl) H35 (RA.out (i := 20) (m := 1048575) (m' := 2097151) rfl rfl rfl (by kernel_rfl) (fun _ _ _ _ h => h) rfl H35 (RA.out (i := 21) (m := 2097151) (m' := 4194303) rfl rfl rfl (by kernel_rfl) (fun _ _ _ _ h => h) rfl H35 (RA.out (i := 22) (m := 4194303) (m' := 8388607) rfl rfl rfl (by kernel_rfl) (fun _ _ _ _ h => h) rfl H35 (RA.out (i := 23) (m := 8388607) (m' := 16777215) rfl rfl rfl (by kernel_rfl) (fun _ _ _ _ h => h) rfl H35 (RA.tk 24 16777215 33554431 rfl rfl rfl (by kernel_rfl) (fun wq hq => Ex.pkT (v := (.bool true)) rfl rfl) H35 (RA.tk 25 33554431 67108863 rfl rfl rfl (by kernel_rfl) (fun wq hq => Ex.mv (v := (.bool true)) rfl) H35 ?_))))))))
     refine RA.out (i := 26) (m := 67108863) (m' := 134217727) rfl rfl rfl (by kernel_rfl) (fun _ _ _ _ h => h) rfl H35 (RA.out (i := 27) (m := 134217727) (m' := 268435455) rfl rfl rfl (by kernel_rfl) (fun _ _ _ _ h => h) rfl H35 (RA.out (i := 28) (m := 268435455) (m' := 536870911) rfl rfl rfl (by kernel_rfl) (fun _ _ _ _ h => h) rfl H35 (RA.out (i := 29) (m := 536870911) (m' := 1073741823) rfl rfl rfl (by kernel_rfl) (fun _ _ _ _ h => h) rfl H35 (RA.tk 30 1073741823 2147483647 rfl rfl rfl (by kernel_rfl) (fun wq hq => Ex.pkT (v := (.bool true)) rfl rfl) H35 (RA.tk 31 2147483647 4294967295 rfl rfl rfl (by kernel_rfl) (fun wq hq => Ex.mv (v := (.bool true)) rfl) H35 (RA.out (i := 32) (m := 4294967295) (m' := 8589934591) rfl rfl rfl (by kernel_rfl) (fun _ _ _ _ h => h) rfl H35 (RA.out (i := 33) (m := 8589934591) (m' := 17179869183) rfl rfl rfl (by kernel_rfl) (fun _ _ _ _ h => h) rfl H35 ?_)))))))
     refine RA.out (i := 34) (m := 17179869183) (m' := 34359738367) rfl rfl rfl (by kernel_rfl) (fun _ _ _ _ h => h) rfl H35 (RA.out (i := 35) (m := 34359738367) (m' := 68719476735) rfl rfl rfl (by kernel_rfl) (fun _ _ _ _ h => h) rfl H35 (RA.out (i := 36) (m := 68719476735) (m' := 137438953471) rfl rfl rfl (by kernel_rfl) (fun _ _ _ _ h => h) rfl H35 (RA.out (i := 37) (m := 137438953471) (m' := 274877906943) rfl rfl rfl (by kernel_rfl) (fun _ _ _ _ h => h) rfl H35 (RA.tk 38 274877906943 549755813887 rfl rfl rfl (by kernel_rfl) (fun wq hq => Ex.pkT (v := (.bool true)) rfl rfl) H35 (RA.done (by kernel_rfl) (thn.n (CW.condT rfl (CW.seq (CW.region (zg rfl (Ex.bd (cs := [(.int .i64 0), (.int .i64 0), (.int .i64 0), (.int .i64 0), (.string (⟨#[]⟩)), (.int .i64 0), (.int .i64 0), (.int .i64 0), (.int .i64 0), (.int .i64 0), (.int .i64 0), (.int .i64 0), (.int .i64 0), (.int .i64 0), (.int .i64 0), (.int .i64 0), (.slice none 0 0)]) bd33 rfl) ?_))))))))))
     refine RL.st (vs := [(.int .i64 0), (.int .i64 0), (.int .i64 0), (.int .i64 0), (.string (⟨#[]⟩)), (.int .i64 0), (.int .i64 0), (.int .i64 0), (.int .i64 0), (.int .i64 0), (.int .i64 0), (.int .i64 0), (.int .i64 0), (.int .i64 0), (.int .i64 0), (.int .i64 0), (.slice none 0 0)]) (cs' := [(.int .i64 0), (.int .i64 0), (.int .i64 0), (.int .i64 0), (.string (⟨#[]⟩)), (.int .i64 0), (.int .i64 0), (.int .i64 0), (.int .i64 0), (.int .i64 0), (.int .i64 0), (.int .i64 0), (.int .i64 0), (.int .i64 0), (.int .i64 0), (.int .i64 0), (.slice none 0 0)]) Tryz.sizeOf33 (H35.ob (i := 0) rfl) rfl rfl rfl rfl rfl rfl ?_
     intro w52 hz53 g54 o55
     have H56 : Sp [BlkA b10 33 [(.int .i64 0), (.int .i64 0), (.int .i64 0), (.int .i64 0), (.string (⟨#[]⟩)), (.int .i64 0), (.int .i64 0), (.int .i64 0), (.int .i64 0), (.int .i64 0), (.int .i64 0), (.int .i64 0), (.int .i64 0), (.int .i64 0), (.int .i64 0), (.int .i64 0), (.slice none 0 0)], BlkA b2 24 [(.int .i64 k.view), (.int .i64 k.normal), (.int .i64 k.base), (.string (tx k.image)), (.slice A n c)], Fix w NoB] w52 := H35.setB (i := 0) rfl g54 o55 rfl
     have z57 := g54.size
     refine za (.bool false) rfl (RL.nil (thn.n (CW.ret (thn.r (finQ.r (v := (.tuple #[(.agg ([(.int .i64 0), (.int .i64 0), (.int .i64 0), (.int .i64 0), (.string (⟨#[]⟩)), (.int .i64 0), (.int .i64 0), (.int .i64 0), (.int .i64 0), (.int .i64 0), (.int .i64 0), (.int .i64 0), (.int .i64 0), (.int .i64 0), (.int .i64 0), (.int .i64 0), (.slice none 0 0)]).toArray), (.bool false)])) (resv2 rfl (Rv.cell rfl (loadCN (cs := [(.int .i64 0), (.int .i64 0), (.int .i64 0), (.int .i64 0), (.string (⟨#[]⟩)), (.int .i64 0), (.int .i64 0), (.int .i64 0), (.int .i64 0), (.int .i64 0), (.int .i64 0), (.int .i64 0), (.int .i64 0), (.int .i64 0), (.int .i64 0), (.int .i64 0), (.slice none 0 0)]) wh33 (H56.ob (i := 0) rfl).cl)) (Rv.tmp rfl)) ?_)))))
     have H58 := H56.nil_ 31 11
     have hx : adoptB k commit view base l = false := adoptB_no (.inr (.inr (.inl hb51)))
     have hy : adoptR k commit view base l = ⟨0, 0, 0, 0, [], ⟨0, 0, 0, 0, ⟨0, 0, 0, 0, 0, 0, 0⟩⟩, []⟩ := by unfold adoptR; rw [hx]; rfl
     exact ⟨none, 0, 0, by rw [hx, hy]; rfl, by rw [hy]; exact (H58.sel [0, 3] (by decide) rfl)⟩
    ·have hw48 := withinB_t hb51
     refine RL.nil ?_
     refine ⟨H35, ?_⟩
     refine RA.tk 17 131071 262143 rfl rfl rfl (by kernel_rfl) (fun wq hq => Ex.not (b := true) rfl) H35 (RA.tk 18 262143 524287 rfl rfl rfl (by kernel_rfl) (fun wq hq => Ex.pkF (v := (.bool false)) rfl rfl) H35 (RA.tk 19 524287 1048575 rfl rfl rfl (by kernel_rfl) (fun wq hq => Ex.mv (v := (.bool false)) rfl) H35 (RA.tk 20 1048575 2097151 rfl rfl rfl (by kernel_rfl) (fun wq hq => Ex.mv (v := (.int .i64 base)) rfl) H35 (RA.tk 21 2097151 4194303 rfl rfl rfl (by kernel_rfl) (fun wq hq => Ex.mv (v := (.int .i64 commit)) rfl) H35 (RA.one (i := 22) (by kernel_rfl) ?_)))))
     refine ⟨_, 8388607, rfl, by kernel_rfl, ?_⟩
     refine RL.call Tryz.call90 (within_tumulusref17 _ base 0 commit) rfl rfl rfl ?_
     rintro _ _ ⟨rfl, rfl⟩
     rcases hb62 : (withinB base 0 commit) with _ | _
     ·skip
      refine RL.nil ?_
      refine ⟨H35, ?_⟩
      refine RA.tk 23 8388607 16777215 rfl rfl rfl (by kernel_rfl) (fun wq hq => Ex.not (b := false) rfl) H35 (RA.tk 24 16777215 33554431 rfl rfl rfl (by kernel_rfl) (fun wq hq => Ex.pkF (v := (.bool true)) rfl rfl) H35 (RA.tk 25 33554431 67108863 rfl rfl rfl (by kernel_rfl) (fun wq hq => Ex.mv (v := (.bool true)) rfl) H35 (RA.out (i := 26) (m := 67108863) (m' := 134217727) rfl rfl rfl (by kernel_rfl) (fun _ _ _ _ h => h) rfl H35 (RA.out (i := 27) (m := 134217727) (m' := 268435455) rfl rfl rfl (by kernel_rfl) (fun _ _ _ _ h => h) rfl H35 (RA.out (i := 28) (m := 268435455) (m' := 536870911) rfl rfl rfl (by kernel_rfl) (fun _ _ _ _ h => h) rfl H35 (RA.out (i := 29) (m := 536870911) (m' := 1073741823) rfl rfl rfl (by kernel_rfl) (fun _ _ _ _ h => h) rfl H35 (RA.tk 30 1073741823 2147483647 rfl rfl rfl (by kernel_rfl) (fun wq hq => Ex.pkT (v := (.bool true)) rfl rfl) H35 (RA.tk 31 2147483647 4294967295 rfl rfl rfl (by kernel_rfl) (fun wq hq => Ex.mv (v := (.bool true)) rfl) H35 ?_))))))))
      refine RA.out (i := 32) (m := 4294967295) (m' := 8589934591) rfl rfl rfl (by kernel_rfl) (fun _ _ _ _ h => h) rfl H35 (RA.out (i := 33) (m := 8589934591) (m' := 17179869183) rfl rfl rfl (by kernel_rfl) (fun _ _ _ _ h => h) rfl H35 (RA.out (i := 34) (m := 17179869183) (m' := 34359738367) rfl rfl rfl (by kernel_rfl) (fun _ _ _ _ h => h) rfl H35 (RA.out (i := 35) (m := 34359738367) (m' := 68719476735) rfl rfl rfl (by kernel_rfl) (fun _ _ _ _ h => h) rfl H35 (RA.out (i := 36) (m := 68719476735) (m' := 137438953471) rfl rfl rfl (by kernel_rfl) (fun _ _ _ _ h => h) rfl H35 (RA.out (i := 37) (m := 137438953471) (m' := 274877906943) rfl rfl rfl (by kernel_rfl) (fun _ _ _ _ h => h) rfl H35 (RA.tk 38 274877906943 549755813887 rfl rfl rfl (by kernel_rfl) (fun wq hq => Ex.pkT (v := (.bool true)) rfl rfl) H35 (RA.done (by kernel_rfl) (thn.n (CW.condT rfl (CW.seq (CW.region (zg rfl (Ex.bd (cs := [(.int .i64 0), (.int .i64 0), (.int .i64 0), (.int .i64 0), (.string (⟨#[]⟩)), (.int .i64 0), (.int .i64 0), (.int .i64 0), (.int .i64 0), (.int .i64 0), (.int .i64 0), (.int .i64 0), (.int .i64 0), (.int .i64 0), (.int .i64 0), (.int .i64 0), (.slice none 0 0)]) bd33 rfl) ?_))))))))))))
      refine RL.st (vs := [(.int .i64 0), (.int .i64 0), (.int .i64 0), (.int .i64 0), (.string (⟨#[]⟩)), (.int .i64 0), (.int .i64 0), (.int .i64 0), (.int .i64 0), (.int .i64 0), (.int .i64 0), (.int .i64 0), (.int .i64 0), (.int .i64 0), (.int .i64 0), (.int .i64 0), (.slice none 0 0)]) (cs' := [(.int .i64 0), (.int .i64 0), (.int .i64 0), (.int .i64 0), (.string (⟨#[]⟩)), (.int .i64 0), (.int .i64 0), (.int .i64 0), (.int .i64 0), (.int .i64 0), (.int .i64 0), (.int .i64 0), (.int .i64 0), (.int .i64 0), (.int .i64 0), (.int .i64 0), (.slice none 0 0)]) Tryz.sizeOf33 (H35.ob (i := 0) rfl) rfl rfl rfl rfl rfl rfl ?_
      intro w63 hz65 g66 o67
      have H68 : Sp [BlkA b10 33 [(.int .i64 0), (.int .i64 0), (.int .i64 0), (.int .i64 0), (.string (⟨#[]⟩)), (.int .i64 0), (.int .i64 0), (.int .i64 0), (.int .i64 0), (.int .i64 0), (.int .i64 0), (.int .i64 0), (.int .i64 0), (.int .i64 0), (.int .i64 0), (.int .i64 0), (.slice none 0 0)], BlkA b2 24 [(.int .i64 k.view), (.int .i64 k.normal), (.int .i64 k.base), (.string (tx k.image)), (.slice A n c)], Fix w NoB] w63 := H35.setB (i := 0) rfl g66 o67 rfl
      have z69 := g66.size
      refine za (.bool false) rfl (RL.nil (thn.n (CW.ret (thn.r (finQ.r (v := (.tuple #[(.agg ([(.int .i64 0), (.int .i64 0), (.int .i64 0), (.int .i64 0), (.string (⟨#[]⟩)), (.int .i64 0), (.int .i64 0), (.int .i64 0), (.int .i64 0), (.int .i64 0), (.int .i64 0), (.int .i64 0), (.int .i64 0), (.int .i64 0), (.int .i64 0), (.int .i64 0), (.slice none 0 0)]).toArray), (.bool false)])) (resv2 rfl (Rv.cell rfl (loadCN (cs := [(.int .i64 0), (.int .i64 0), (.int .i64 0), (.int .i64 0), (.string (⟨#[]⟩)), (.int .i64 0), (.int .i64 0), (.int .i64 0), (.int .i64 0), (.int .i64 0), (.int .i64 0), (.int .i64 0), (.int .i64 0), (.int .i64 0), (.int .i64 0), (.int .i64 0), (.slice none 0 0)]) wh33 (H68.ob (i := 0) rfl).cl)) (Rv.tmp rfl)) ?_)))))
      have H70 := H68.nil_ 31 11
      have hx : adoptB k commit view base l = false := adoptB_no (.inr (.inr (.inr (.inl hb62))))
      have hy : adoptR k commit view base l = ⟨0, 0, 0, 0, [], ⟨0, 0, 0, 0, ⟨0, 0, 0, 0, 0, 0, 0⟩⟩, []⟩ := by unfold adoptR; rw [hx]; rfl
      exact ⟨none, 0, 0, by rw [hx, hy]; rfl, by rw [hy]; exact (H70.sel [0, 3] (by decide) rfl)⟩
     ·have hw59 := withinB_t hb62
      refine RL.nil ?_
      refine ⟨H35, ?_⟩
      refine RA.tk 23 8388607 16777215 rfl rfl rfl (by kernel_rfl) (fun wq hq => Ex.not (b := true) rfl) H35 (RA.tk 24 16777215 33554431 rfl rfl rfl (by kernel_rfl) (fun wq hq => Ex.pkF (v := (.bool false)) rfl rfl) H35 (RA.tk 25 33554431 67108863 rfl rfl rfl (by kernel_rfl) (fun wq hq => Ex.mv (v := (.bool false)) rfl) H35 (RA.tk 26 67108863 134217727 rfl rfl rfl (by kernel_rfl) (fun wq hq => Ex.mv (v := (.slice A2 n2 c2)) rfl) H35 (RA.tk 27 134217727 268435455 rfl rfl rfl (by kernel_rfl) (fun wq hq => Ex.mv (v := (.int .i64 base)) rfl) H35 (RA.one (i := 28) (by kernel_rfl) ?_)))))
      refine ⟨_, 536870911, rfl, by kernel_rfl, ?_⟩
      refine RL.call Tryz.call91 (rowR_ _ _ l A2 n2 c2 base (hr2.st0 (H35.fix (i := 2) rfl)) (by omega) (by first | rfl | assumption | omega) (by omega)) rfl rfl rfl ?_
      rintro _ w71 ⟨rfl, g72⟩
      have H73 := H35.grow g72
      have z74 := g72.size
      rcases hb75 : (follB l base) with _ | _
      ·skip
       refine RL.nil ?_
       refine ⟨H73, ?_⟩
       refine RA.tk 29 536870911 1073741823 rfl rfl rfl (by kernel_rfl) (fun wq hq => Ex.not (b := false) rfl) H73 (RA.tk 30 1073741823 2147483647 rfl rfl rfl (by kernel_rfl) (fun wq hq => Ex.pkF (v := (.bool true)) rfl rfl) H73 (RA.tk 31 2147483647 4294967295 rfl rfl rfl (by kernel_rfl) (fun wq hq => Ex.mv (v := (.bool true)) rfl) H73 (RA.out (i := 32) (m := 4294967295) (m' := 8589934591) rfl rfl rfl (by kernel_rfl) (fun _ _ _ _ h => h) rfl H73 (RA.out (i := 33) (m := 8589934591) (m' := 17179869183) rfl rfl rfl (by kernel_rfl) (fun _ _ _ _ h => h) rfl H73 (RA.out (i := 34) (m := 17179869183) (m' := 34359738367) rfl rfl rfl (by kernel_rfl) (fun _ _ _ _ h => h) rfl H73 (RA.out (i := 35) (m := 34359738367) (m' := 68719476735) rfl rfl rfl (by kernel_rfl) (fun _ _ _ _ h => h) rfl H73 (RA.out (i := 36) (m := 68719476735) (m' := 137438953471) rfl rfl rfl (by kernel_rfl) (fun _ _ _ _ h => h) rfl H73 ?_)))))))
       refine RA.out (i := 37) (m := 137438953471) (m' := 274877906943) rfl rfl rfl (by kernel_rfl) (fun _ _ _ _ h => h) rfl H73 (RA.tk 38 274877906943 549755813887 rfl rfl rfl (by kernel_rfl) (fun wq hq => Ex.pkT (v := (.bool true)) rfl rfl) H73 (RA.done (by kernel_rfl) (thn.n (CW.condT rfl (CW.seq (CW.region (zg rfl (Ex.bd (cs := [(.int .i64 0), (.int .i64 0), (.int .i64 0), (.int .i64 0), (.string (⟨#[]⟩)), (.int .i64 0), (.int .i64 0), (.int .i64 0), (.int .i64 0), (.int .i64 0), (.int .i64 0), (.int .i64 0), (.int .i64 0), (.int .i64 0), (.int .i64 0), (.int .i64 0), (.slice none 0 0)]) bd33 rfl) (RL.st (vs := [(.int .i64 0), (.int .i64 0), (.int .i64 0), (.int .i64 0), (.string (⟨#[]⟩)), (.int .i64 0), (.int .i64 0), (.int .i64 0), (.int .i64 0), (.int .i64 0), (.int .i64 0), (.int .i64 0), (.int .i64 0), (.int .i64 0), (.int .i64 0), (.int .i64 0), (.slice none 0 0)]) (cs' := [(.int .i64 0), (.int .i64 0), (.int .i64 0), (.int .i64 0), (.string (⟨#[]⟩)), (.int .i64 0), (.int .i64 0), (.int .i64 0), (.int .i64 0), (.int .i64 0), (.int .i64 0), (.int .i64 0), (.int .i64 0), (.int .i64 0), (.int .i64 0), (.int .i64 0), (.slice none 0 0)]) Tryz.sizeOf33 (H73.ob (i := 0) rfl) rfl rfl rfl rfl rfl rfl ?_))))))))
       intro w76 hz77 g78 o79
       have H80 : Sp [BlkA b10 33 [(.int .i64 0), (.int .i64 0), (.int .i64 0), (.int .i64 0), (.string (⟨#[]⟩)), (.int .i64 0), (.int .i64 0), (.int .i64 0), (.int .i64 0), (.int .i64 0), (.int .i64 0), (.int .i64 0), (.int .i64 0), (.int .i64 0), (.int .i64 0), (.int .i64 0), (.slice none 0 0)], BlkA b2 24 [(.int .i64 k.view), (.int .i64 k.normal), (.int .i64 k.base), (.string (tx k.image)), (.slice A n c)], Fix w NoB] w76 := H73.setB (i := 0) rfl g78 o79 rfl
       have z81 := g78.size
       refine za (.bool false) rfl (RL.nil (thn.n (CW.ret (thn.r (finQ.r (v := (.tuple #[(.agg ([(.int .i64 0), (.int .i64 0), (.int .i64 0), (.int .i64 0), (.string (⟨#[]⟩)), (.int .i64 0), (.int .i64 0), (.int .i64 0), (.int .i64 0), (.int .i64 0), (.int .i64 0), (.int .i64 0), (.int .i64 0), (.int .i64 0), (.int .i64 0), (.int .i64 0), (.slice none 0 0)]).toArray), (.bool false)])) (resv2 rfl (Rv.cell rfl (loadCN (cs := [(.int .i64 0), (.int .i64 0), (.int .i64 0), (.int .i64 0), (.string (⟨#[]⟩)), (.int .i64 0), (.int .i64 0), (.int .i64 0), (.int .i64 0), (.int .i64 0), (.int .i64 0), (.int .i64 0), (.int .i64 0), (.int .i64 0), (.int .i64 0), (.int .i64 0), (.slice none 0 0)]) wh33 (H80.ob (i := 0) rfl).cl)) (Rv.tmp rfl)) ?_)))))
       have H82 := H80.nil_ 31 11
       have hx : adoptB k commit view base l = false := adoptB_no (.inr (.inr (.inr (.inr (.inl hb75)))))
       have hy : adoptR k commit view base l = ⟨0, 0, 0, 0, [], ⟨0, 0, 0, 0, ⟨0, 0, 0, 0, 0, 0, 0⟩⟩, []⟩ := by unfold adoptR; rw [hx]; rfl
       exact ⟨none, 0, 0, by rw [hx, hy]; rfl, by rw [hy]; exact (H82.sel [0, 3] (by decide) rfl)⟩
      ·skip
       refine RL.nil ?_
       refine ⟨H73, ?_⟩
       refine RA.tk 29 536870911 1073741823 rfl rfl rfl (by kernel_rfl) (fun wq hq => Ex.not (b := true) rfl) H73 (RA.tk 30 1073741823 2147483647 rfl rfl rfl (by kernel_rfl) (fun wq hq => Ex.pkF (v := (.bool false)) rfl rfl) H73 (RA.tk 31 2147483647 4294967295 rfl rfl rfl (by kernel_rfl) (fun wq hq => Ex.mv (v := (.bool false)) rfl) H73 (RA.tk 32 4294967295 8589934591 rfl rfl rfl (by kernel_rfl) (fun wq hq => Ex.mv (v := (.slice A2 n2 c2)) rfl) H73 (RA.tk 33 8589934591 17179869183 rfl rfl rfl (by kernel_rfl) (fun wq hq => Ex.len Tryz.underlying22 rfl) H73 (RA.tk 34 17179869183 34359738367 rfl rfl rfl (by kernel_rfl) (fun wq hq => Ex.mv (v := (.int .i64 commit)) rfl) H73 (RA.tk 35 34359738367 68719476735 rfl rfl rfl (by kernel_rfl) (fun wq hq => Ex.mv (v := (.int .i64 base)) rfl) H73 ?_))))))
       have hkt := keptB_t hb25
       have hlk : lastK k = k.base + k.ents.length := rfl
       refine RA.tk 36 68719476735 137438953471 rfl rfl rfl (by kernel_rfl) (fun wq hq => Ex.sub_ (r := commit - base) rfl rfl (w64 (by omega) (by omega))) H73 ?_
       refine RA.br (i := 37) (m := 137438953471) (m' := 274877906943) (p := ((n2 : Nat) : Int) < (commit - base : Int)) rfl rfl rfl (by kernel_rfl) (fun _ _ _ _ h => h) rfl (fun r hr wq hq => Ex.lt rfl rfl hr) H73 (fun h83 => ?_) (fun h83 => ?_)
       ·skip
        refine RA.tk 38 274877906943 549755813887 rfl rfl rfl (by kernel_rfl) (fun wq hq => Ex.pkF (v := (.bool true)) rfl rfl) H73 (RA.done (by kernel_rfl) (thn.n (CW.condT rfl (CW.seq (CW.region (zg rfl (Ex.bd (cs := [(.int .i64 0), (.int .i64 0), (.int .i64 0), (.int .i64 0), (.string (⟨#[]⟩)), (.int .i64 0), (.int .i64 0), (.int .i64 0), (.int .i64 0), (.int .i64 0), (.int .i64 0), (.int .i64 0), (.int .i64 0), (.int .i64 0), (.int .i64 0), (.int .i64 0), (.slice none 0 0)]) bd33 rfl) (RL.st (vs := [(.int .i64 0), (.int .i64 0), (.int .i64 0), (.int .i64 0), (.string (⟨#[]⟩)), (.int .i64 0), (.int .i64 0), (.int .i64 0), (.int .i64 0), (.int .i64 0), (.int .i64 0), (.int .i64 0), (.int .i64 0), (.int .i64 0), (.int .i64 0), (.int .i64 0), (.slice none 0 0)]) (cs' := [(.int .i64 0), (.int .i64 0), (.int .i64 0), (.int .i64 0), (.string (⟨#[]⟩)), (.int .i64 0), (.int .i64 0), (.int .i64 0), (.int .i64 0), (.int .i64 0), (.int .i64 0), (.int .i64 0), (.int .i64 0), (.int .i64 0), (.int .i64 0), (.int .i64 0), (.slice none 0 0)]) Tryz.sizeOf33 (H73.ob (i := 0) rfl) rfl rfl rfl rfl rfl rfl ?_)))))))
        intro w84 hz85 g86 o87
        have H88 : Sp [BlkA b10 33 [(.int .i64 0), (.int .i64 0), (.int .i64 0), (.int .i64 0), (.string (⟨#[]⟩)), (.int .i64 0), (.int .i64 0), (.int .i64 0), (.int .i64 0), (.int .i64 0), (.int .i64 0), (.int .i64 0), (.int .i64 0), (.int .i64 0), (.int .i64 0), (.int .i64 0), (.slice none 0 0)], BlkA b2 24 [(.int .i64 k.view), (.int .i64 k.normal), (.int .i64 k.base), (.string (tx k.image)), (.slice A n c)], Fix w NoB] w84 := H73.setB (i := 0) rfl g86 o87 rfl
        have z89 := g86.size
        refine za (.bool false) rfl (RL.nil (thn.n (CW.ret (thn.r (finQ.r (v := (.tuple #[(.agg ([(.int .i64 0), (.int .i64 0), (.int .i64 0), (.int .i64 0), (.string (⟨#[]⟩)), (.int .i64 0), (.int .i64 0), (.int .i64 0), (.int .i64 0), (.int .i64 0), (.int .i64 0), (.int .i64 0), (.int .i64 0), (.int .i64 0), (.int .i64 0), (.int .i64 0), (.slice none 0 0)]).toArray), (.bool false)])) (resv2 rfl (Rv.cell rfl (loadCN (cs := [(.int .i64 0), (.int .i64 0), (.int .i64 0), (.int .i64 0), (.string (⟨#[]⟩)), (.int .i64 0), (.int .i64 0), (.int .i64 0), (.int .i64 0), (.int .i64 0), (.int .i64 0), (.int .i64 0), (.int .i64 0), (.int .i64 0), (.int .i64 0), (.int .i64 0), (.slice none 0 0)]) wh33 (H88.ob (i := 0) rfl).cl)) (Rv.tmp rfl)) ?_)))))
        have H90 := H88.nil_ 31 11
        have hx : adoptB k commit view base l = false := adoptB_no (.inr (.inr (.inr (.inr (.inr (by omega))))))
        have hy : adoptR k commit view base l = ⟨0, 0, 0, 0, [], ⟨0, 0, 0, 0, ⟨0, 0, 0, 0, 0, 0, 0⟩⟩, []⟩ := by unfold adoptR; rw [hx]; rfl
        exact ⟨none, 0, 0, by rw [hx, hy]; rfl, by rw [hy]; exact (H90.sel [0, 3] (by decide) rfl)⟩
       ·skip
        refine RA.tk 38 274877906943 549755813887 rfl rfl rfl (by kernel_rfl) (fun wq hq => Ex.pkF (v := (.bool false)) rfl rfl) H73 (RA.done (by kernel_rfl) (thn.n (CW.condF rfl (CW.skip (thn.n (CW.seq (CW.region (za (.slice none 0 0) rfl (RL.nil (thn.n (CW.seq (CW.seq (CW.region (za (.int .i64 0) rfl (RL.nil (thn.n (CW.block ?_)))))))))))))))))
        have hx : adoptB k commit view base l = true := adoptB_of hb25 hb40 hb51 hb62 hb75 (by omega)
        have hflt := adopt_filter hx (by omega) hok
        have H91 := H73.nil_ 31 11
        refine CW.loop (fun t => (Nat.ble 12 t && Nat.ble t 13) || (Nat.ble 54 t && Nat.ble t 73)) (fun nL ρ wl => ∃ (i n1 c1 : Nat) (A1 : Option Addr), ρ 13 = (.int .i64 (i : Int)) ∧ ρ 12 = (.slice A1 n1 c1) ∧ nL = n2 - i ∧ Sp [RowA 31 11 A1 n1 c1 (ents (((l.take i).filter (fun e => decide (commit < e.num))))), BlkA b10 33 [(.int .i64 0), (.int .i64 0), (.int .i64 0), (.int .i64 0), (.string (⟨#[]⟩)), (.int .i64 0), (.int .i64 0), (.int .i64 0), (.int .i64 0), (.int .i64 0), (.int .i64 0), (.int .i64 0), (.int .i64 0), (.int .i64 0), (.int .i64 0), (.int .i64 0), (.slice none 0 0)], BlkA b2 24 [(.int .i64 k.view), (.int .i64 k.normal), (.int .i64 k.base), (.string (tx k.image)), (.slice A n c)], Fix w NoB] wl ∧ i ≤ n2 ∧ n1 ≤ i) (n2) ?aa0 ?bb0
        case aa0 =>
         exact ⟨0, 0, 0, none, rfl, rfl, rfl, H91, Nat.zero_le _, Nat.le_refl _⟩
        case bb0 =>
         rintro n93 ρ0 w92 ho94 ⟨i, n1, c1, A1, hs0_13, hs0_12, hn0, H95, hi_, hn1⟩
         obtain ⟨j0, rfl⟩ := ho94.shape2 hs0_13 hs0_12
         clear ho94 hs0_13 hs0_12
         subst hn0
         have z96 := (H95.fix (i := 3) rfl).size
         refine CW.seq (CW.seq (CW.region (zm (.int .i64 (i : Int)) rfl (zm (.slice A2 n2 c2) rfl (zg rfl (Ex.len Tryz.underlying22 rfl) ?_)))))
         refine RL.br (p := ((i : Int) : Int) < ((n2 : Nat) : Int)) rfl rfl rfl (fun r hr => Ex.lt rfl rfl hr) (fun h97 => ?_) (fun h97 => ?_)
         ·skip
          refine RL.nil (thn.n (CW.condT rfl (CW.skip (thn.n (CW.seq (CW.block (CW.seq (CW.region (zm (.slice A2 n2 c2) rfl (zm (.int .i64 (i : Int)) rfl ?_))))))))))
          obtain ⟨e98, he99⟩ : ∃ e, (l)[i]? = some e := ⟨_, List.getElem?_eq_getElem (by omega)⟩
          obtain ⟨ad100, hA101⟩ := Rd.sm (hr2.st0 (H95.fix (i := 3) rfl)) (ents_get he99)
          have hl102 := Eng.lt_len (ents_get he99)
          refine zg rfl (Ex.ix (b := (ad100.add (i * 11))) (i := i) Tryz.underlying22 Tryz.sizeOf31 (by rw [← hA101]; rfl) rfl (by omega) (by omega) rfl) (zg rfl (fa31_0 (b := ((ad100.add (i * 11)))) rfl rfl) (zg rfl (Ex.ldv rfl (loadC1 lo3 (Cl.at_ (v := (.int .i64 e98.num)) (Rd.cl (hr2.st0 (H95.fix (i := 3) rfl)) hA101 (ents_get he99)) (i := 0) rfl))) (zm (.int .i64 commit) rfl ?_)))
          refine RL.br (p := (commit : Int) < (e98.num : Int)) rfl rfl rfl (fun r hr => Ex.gt rfl rfl hr) (fun h103 => ?_) (fun h103 => ?_)
          ·skip
           refine RL.nil (thn.n (CW.condT rfl (CW.region (zm (.slice A1 n1 c1) rfl (zm (.slice A2 n2 c2) rfl (zm (.int .i64 (i : Int)) rfl ?_))))))
           obtain ⟨ad104, hA105⟩ := Rd.sm (hr2.st0 (H95.fix (i := 3) rfl)) (ents_get he99)
           have hl106 := Eng.lt_len (ents_get he99)
           refine zg rfl (Ex.ix (b := (ad104.add (i * 11))) (i := i) Tryz.underlying22 Tryz.sizeOf31 (by rw [← hA105]; rfl) rfl (by omega) (by omega) rfl) (zg rfl (Ex.ldv rfl (loadCN (cs := e98.cells) wh31 (Rd.cl (hr2.st0 (H95.fix (i := 3) rfl)) hA105 (ents_get he99)))) (RL.bs (cs := e98.cells) Tryz.underlying22 Tryz.sizeOf31 ze22 rfl rfl rfl (by decide) rfl rfl rfl ?_))
           intro w107 b108 hb109 hz110 g111 o112
           have H113 := H95.newB g111 o112 (by omega)
           have z114 := g111.size
           refine RL.apW (base := 0) (xss := (ents (((l.take i).filter (fun e => decide (commit < e.num)))))) (yss := (ents ([e98]))) el22 (H113.wr (i := 1) rfl) rfl (Ob.rd1 (H113.ob (i := 0) rfl) rfl) rfl (by simp only [bcs_length, ics_length, rows_length, blks_length, robjs_length, ents_length, List.length_append, List.length_cons, List.length_nil, List.length_take, List.length_drop, List.length_map, enc4, enc8, encN_len, encW_len, recsE_length]; try omega) (ents_one _) (by omega) (by omega) (by omega) rfl rfl ?_
           intro w115 A116 c117 g118 ow119 nx120
           have H121 : Sp [BlkA b108 31 e98.cells, RowA 31 11 A116 (n1 + 1) c117 (ents (((l.take i).filter (fun e => decide (commit < e.num))) ++ [e98])), BlkA b10 33 [(.int .i64 0), (.int .i64 0), (.int .i64 0), (.int .i64 0), (.string (⟨#[]⟩)), (.int .i64 0), (.int .i64 0), (.int .i64 0), (.int .i64 0), (.int .i64 0), (.int .i64 0), (.int .i64 0), (.int .i64 0), (.int .i64 0), (.int .i64 0), (.int .i64 0), (.slice none 0 0)], BlkA b2 24 [(.int .i64 k.view), (.int .i64 k.normal), (.int .i64 k.base), (.string (tx k.image)), (.slice A n c)], Fix w NoB] w115 := H113.setR (i := 1) rfl g118 ((ents_app _ _).symm ▸ ow119) nx120 rfl
           have z122 := g118.size
           refine za (.slice A116 (n1 + 1) c117) rfl (RL.nil (inB.n (thn.n (CW.region (zm (.int .i64 (i : Int)) rfl (zg rfl (Ex.add (r := (i : Int) + 1) rfl rfl (w64 (by omega) (by omega))) (za (.int .i64 ((i : Int) + 1)) rfl (RL.nil (thn.n ?_)))))))))
           have H123 : Sp [BlkA b108 31 e98.cells, RowA 31 11 A116 (n1 + 1) c117 (ents (((l.take (i + 1)).filter (fun e => decide (commit < e.num))))), BlkA b10 33 [(.int .i64 0), (.int .i64 0), (.int .i64 0), (.int .i64 0), (.string (⟨#[]⟩)), (.int .i64 0), (.int .i64 0), (.int .i64 0), (.int .i64 0), (.int .i64 0), (.int .i64 0), (.int .i64 0), (.int .i64 0), (.int .i64 0), (.int .i64 0), (.int .i64 0), (.slice none 0 0)], BlkA b2 24 [(.int .i64 k.view), (.int .i64 k.normal), (.int .i64 k.base), (.string (tx k.image)), (.slice A n c)], Fix w NoB] w115 := H121.eqR (i := 1) rfl rfl (by rw [filter_snoc he99, if_pos (by simpa using h103)]) rfl
           refine ⟨(by repeat (first | exact Out.mix _ _ | exact Out.refl _ _ | refine Out.up ?_ rfl _ | refine Out.mixIn ?_ (by intro t ht; simp only [Bool.or_eq_false_iff, Bool.and_eq_false_iff, ble_f, beq_f] at ht ⊢; omega))), _, ?_, i + 1, n1 + 1, c117, A116, rfl, rfl, rfl, (H123.sel [1, 2, 3, 4] (by decide) rfl), by omega, by omega⟩
           omega
          ·skip
           refine RL.nil (thn.n (CW.condF rfl (CW.skip (inB.n (thn.n (CW.region (zm (.int .i64 (i : Int)) rfl (zg rfl (Ex.add (r := (i : Int) + 1) rfl rfl (w64 (by omega) (by omega))) (za (.int .i64 ((i : Int) + 1)) rfl (RL.nil (thn.n ?_)))))))))))
           have H124 : Sp [RowA 31 11 A1 n1 c1 (ents (((l.take (i + 1)).filter (fun e => decide (commit < e.num))))), BlkA b10 33 [(.int .i64 0), (.int .i64 0), (.int .i64 0), (.int .i64 0), (.string (⟨#[]⟩)), (.int .i64 0), (.int .i64 0), (.int .i64 0), (.int .i64 0), (.int .i64 0), (.int .i64 0), (.int .i64 0), (.int .i64 0), (.int .i64 0), (.int .i64 0), (.int .i64 0), (.slice none 0 0)], BlkA b2 24 [(.int .i64 k.view), (.int .i64 k.normal), (.int .i64 k.base), (.string (tx k.image)), (.slice A n c)], Fix w NoB] w92 := H95.eqR (i := 0) rfl rfl (by rw [filter_snoc he99, if_neg (by simpa using h103), List.append_nil]) rfl
           refine ⟨(by repeat (first | exact Out.mix _ _ | exact Out.refl _ _ | refine Out.up ?_ rfl _ | refine Out.mixIn ?_ (by intro t ht; simp only [Bool.or_eq_false_iff, Bool.and_eq_false_iff, ble_f, beq_f] at ht ⊢; omega))), _, ?_, i + 1, n1, c1, A1, rfl, rfl, rfl, H124, by omega, by omega⟩
           omega
         ·skip
          refine RL.nil (thn.n (CW.condF rfl (CW.exit (thn.x (thn.x (inB.hit (thn.n (CW.seq (CW.region (zm (.int .i64 view) rfl (zm (.int .i64 commit) rfl (zm (.slice A1 n1 c1) rfl (zg rfl (Ex.bd (cs := [(.int .i64 3), (.int .i64 view), (.int .i64 commit), (.int .i64 0), (.string (⟨#[]⟩)), (.int .i64 0), (.int .i64 0), (.int .i64 0), (.int .i64 0), (.int .i64 0), (.int .i64 0), (.int .i64 0), (.int .i64 0), (.int .i64 0), (.int .i64 0), (.int .i64 0), (.slice A1 n1 c1)]) bd33 rfl) (RL.st (vs := [(.int .i64 3), (.int .i64 view), (.int .i64 commit), (.int .i64 0), (.string (⟨#[]⟩)), (.int .i64 0), (.int .i64 0), (.int .i64 0), (.int .i64 0), (.int .i64 0), (.int .i64 0), (.int .i64 0), (.int .i64 0), (.int .i64 0), (.int .i64 0), (.int .i64 0), (.slice A1 n1 c1)]) (cs' := [(.int .i64 3), (.int .i64 view), (.int .i64 commit), (.int .i64 0), (.string (⟨#[]⟩)), (.int .i64 0), (.int .i64 0), (.int .i64 0), (.int .i64 0), (.int .i64 0), (.int .i64 0), (.int .i64 0), (.int .i64 0), (.int .i64 0), (.int .i64 0), (.int .i64 0), (.slice A1 n1 c1)]) Tryz.sizeOf33 (H95.ob (i := 1) rfl) rfl rfl rfl rfl rfl rfl ?_))))))))))))))
          intro w125 hz126 g127 o128
          have H129 : Sp [RowA 31 11 A1 n1 c1 (ents (((l.take i).filter (fun e => decide (commit < e.num))))), BlkA b10 33 [(.int .i64 3), (.int .i64 view), (.int .i64 commit), (.int .i64 0), (.string (⟨#[]⟩)), (.int .i64 0), (.int .i64 0), (.int .i64 0), (.int .i64 0), (.int .i64 0), (.int .i64 0), (.int .i64 0), (.int .i64 0), (.int .i64 0), (.int .i64 0), (.int .i64 0), (.slice A1 n1 c1)], BlkA b2 24 [(.int .i64 k.view), (.int .i64 k.normal), (.int .i64 k.base), (.string (tx k.image)), (.slice A n c)], Fix w NoB] w125 := H95.setB (i := 1) rfl g127 o128 rfl
          have z130 := g127.size
          refine za (.bool true) rfl (RL.nil (thn.n (CW.ret (finQ.r (v := (.tuple #[(.agg ([(.int .i64 3), (.int .i64 view), (.int .i64 commit), (.int .i64 0), (.string (⟨#[]⟩)), (.int .i64 0), (.int .i64 0), (.int .i64 0), (.int .i64 0), (.int .i64 0), (.int .i64 0), (.int .i64 0), (.int .i64 0), (.int .i64 0), (.int .i64 0), (.int .i64 0), (.slice A1 n1 c1)]).toArray), (.bool true)])) (resv2 rfl (Rv.cell rfl (loadCN (cs := [(.int .i64 3), (.int .i64 view), (.int .i64 commit), (.int .i64 0), (.string (⟨#[]⟩)), (.int .i64 0), (.int .i64 0), (.int .i64 0), (.int .i64 0), (.int .i64 0), (.int .i64 0), (.int .i64 0), (.int .i64 0), (.int .i64 0), (.int .i64 0), (.int .i64 0), (.slice A1 n1 c1)]) wh33 (H129.ob (i := 1) rfl).cl)) (Rv.tmp rfl)) ?_))))
          have hkk : l.take i = l := List.take_of_length_le (by omega)
          rw [hkk, hflt] at H129
          exact ⟨_, _, _, by rw [hx, adoptR_t hx]; rfl, by rw [adoptR_t hx]; exact (H129.sel [0, 3] (by decide) rfl)⟩
end Go.Proofs.YtfokljnhllflbaaGreat
namespace Go.Proofs.YtfokljnhllflbaaGreat
open Go Go.Eng Go.RowKit
set_option maxHeartbeats 2000000 in
set_option maxRecDepth 20000 in
theorem changeAdopts_ (w : World) (B : Nat) (k : Kept) (A : Option Addr) (n c : Nat) (hr : Rd w B 11 A (ents k.ents)) (hB : B ≤ w.heap.size) (hn : n = k.ents.length) (hc : n ≤ c) (commit view base : Int) (hcr : rng commit) (l : List Entry) (A2 : Option Addr) (n2 c2 : Nat) (hr2 : Rd w B 11 A2 (ents l)) (hn2 : n2 = l.length) (hc2 : n2 ≤ c2) (hok : ∀ e ∈ l, rng e.num) : Ret Tryz.prog 3 [(.agg ([(.int .i64 k.view), (.int .i64 k.normal), (.int .i64 k.base), (.string (tx k.image)), (.slice A n c)]).toArray), (.int .i64 commit), (.int .i64 view), (.int .i64 base), (.slice A2 n2 c2)] w (fun v w' => v = .bool true ∧ w.grownBy w' none) := by
  have H0 : Sp [Fix w NoB] w := Sp.start w
  refine Ret.body Tryz.func3 rfl rfl rfl ?_
  refine CW.seq (CW.region (RL.bx (cs := [(.int .i64 k.view), (.int .i64 k.normal), (.int .i64 k.base), (.string (tx k.image)), (.slice A n c)]) rfl rfl rfl ?_))
  intro w1 b2 hb3 hz4 g5 o6
  have H7 := H0.newB g5 o6 (by omega)
  have z8 := g5.size
  refine za (.bool false) rfl (RL.nil (thn.n (CW.seq (CW.seq (CW.region (zg rfl (Ex.ldv rfl (loadCN (cs := [(.int .i64 k.view), (.int .i64 k.normal), (.int .i64 k.base), (.string (tx k.image)), (.slice A n c)]) wh24 (H7.ob (i := 0) rfl).cl)) (zm (.slice A2 n2 c2) rfl (zg rfl (Ex.bd (cs := [(.int .i64 0), (.int .i64 0), (.int .i64 0), (.int .i64 0), (.string (⟨#[]⟩)), (.int .i64 0), (.int .i64 0), (.int .i64 0), (.int .i64 0), (.int .i64 0), (.int .i64 0), (.int .i64 0), (.int .i64 0), (.int .i64 0), (.int .i64 0), (.int .i64 0), (.slice A2 n2 c2)]) bd33 rfl) (RL.call Tryz.call23 (big15 _ k A n c (by first | assumption | rfl | omega) (⟨0, 0, 0, 0, [], (⟨0, 0, 0, 0, ⟨0, 0, 0, 0, 0, 0, 0⟩⟩ : Entry), l⟩ : Rec) A2 n2 c2 (by first | assumption | rfl | omega)) rfl rfl rfl ?_)))))))))
  rintro _ w9 ⟨rfl, g10⟩
  have H11 := H7.grow g10
  have z12 := g10.size
  rcases hb13 : (bigK k (⟨0, 0, 0, 0, [], (⟨0, 0, 0, 0, ⟨0, 0, 0, 0, 0, 0, 0⟩⟩ : Entry), l⟩ : Rec)) with _ | _
  ·obtain ⟨hbg1, hbg2, hbg3, hbg4⟩ := bigK_f hb13
   refine RL.nil (thn.n (CW.condF rfl (CW.skip (thn.n (CW.seq (CW.region ?_))))))
   have hbl : l.length ≤ 300 := hbg2
   refine zg rfl (Ex.ldv rfl (loadCN (cs := [(.int .i64 k.view), (.int .i64 k.normal), (.int .i64 k.base), (.string (tx k.image)), (.slice A n c)]) wh24 (H11.ob (i := 0) rfl).cl)) (RL.call Tryz.call24 (own15_ _ w9.heap.size k A n c ((hr.st0 (H11.fix (i := 1) rfl)).more (by omega)) (Nat.le_refl _) (by first | assumption | rfl | omega) (by omega)) rfl rfl rfl ?_)
   rintro _ w17 ⟨A14, n15, c16, rfl, g18⟩
   have g19 := g18.fix (i := 1) rfl
   have H20 : Sp [RowA 31 11 A14 n15 c16 (ents k.ents), BlkA b2 24 [(.int .i64 k.view), (.int .i64 k.normal), (.int .i64 k.base), (.string (tx k.image)), (.slice A n c)], Fix w NoB] w17 := H11.join (m := [RowA 31 11 A14 n15 c16 (ents k.ents)]) g18
   have z21 := g19.size
   refine RL.al (cs := [(.int .i64 0), (.int .i64 0), (.int .i64 0), (.string (⟨#[]⟩)), (.slice none 0 0)]) Tryz.zeroValue24 rfl rfl rfl ?_
   intro w22 b23 hb24 hz25 g26 o27
   have H28 := H20.newB g26 o27 (by omega)
   have z29 := g26.size
   refine RL.st (vs := [(.int .i64 k.view), (.int .i64 k.normal), (.int .i64 k.base), (.string (tx k.image)), (.slice A14 n15 c16)]) (cs' := [(.int .i64 k.view), (.int .i64 k.normal), (.int .i64 k.base), (.string (tx k.image)), (.slice A14 n15 c16)]) Tryz.sizeOf24 (H28.ob (i := 0) rfl) rfl rfl rfl rfl rfl rfl ?_
   intro w30 hz31 g32 o33
   have H34 : Sp [BlkA b23 24 [(.int .i64 k.view), (.int .i64 k.normal), (.int .i64 k.base), (.string (tx k.image)), (.slice A14 n15 c16)], RowA 31 11 A14 n15 c16 (ents k.ents), BlkA b2 24 [(.int .i64 k.view), (.int .i64 k.normal), (.int .i64 k.base), (.string (tx k.image)), (.slice A n c)], Fix w NoB] w30 := H28.setB (i := 0) rfl g32 o33 rfl
   have z35 := g32.size
   refine RL.nil (thn.n (CW.seq (CW.region (za (.slice none 0 0) rfl (RL.nil (thn.n (CW.seq (CW.region (zm (.slice none 0 0) rfl (zm (.slice A2 n2 c2) rfl ?_))))))))))
   have H36 := H34.nil_ 31 11
   refine RL.apW (base := 0) (xss := (ents [])) (yss := (ents l)) el22 (H36.wr (i := 0) rfl) rfl (hr2.st0 (H36.fix (i := 4) rfl)) rfl (by simp only [bcs_length, ics_length, rows_length, blks_length, robjs_length, ents_length, List.length_append, List.length_cons, List.length_nil, List.length_take, List.length_drop, List.length_map, enc4, enc8, encN_len, encW_len, recsE_length]; try omega) (ents_one _) (by omega) (by omega) (by omega) rfl rfl ?_
   intro w37 A38 c39 g40 ow41 nx42
   have H43 : Sp [RowA 31 11 A38 (0 + n2) c39 (ents l), BlkA b23 24 [(.int .i64 k.view), (.int .i64 k.normal), (.int .i64 k.base), (.string (tx k.image)), (.slice A14 n15 c16)], RowA 31 11 A14 n15 c16 (ents k.ents), BlkA b2 24 [(.int .i64 k.view), (.int .i64 k.normal), (.int .i64 k.base), (.string (tx k.image)), (.slice A n c)], Fix w NoB] w37 := H36.setR (i := 0) rfl g40 ((List.nil_append _) ▸ ow41) nx42 rfl
   have z44 := g40.size
   refine za (.slice A38 (0 + n2) c39) rfl (RL.nil (thn.n (CW.seq (CW.region (zg rfl (Ex.ldv rfl (loadCN (cs := [(.int .i64 k.view), (.int .i64 k.normal), (.int .i64 k.base), (.string (tx k.image)), (.slice A n c)]) wh24 (H43.ob (i := 3) rfl).cl)) (zm (.int .i64 commit) rfl (zm (.int .i64 view) rfl (zm (.int .i64 base) rfl (zm (.slice A2 n2 c2) rfl (RL.call Tryz.call25 (adopt_ _ w37.heap.size k A n c ((hr.st0 (H43.fix (i := 4) rfl)).more (by omega)) (by omega) (by first | assumption | rfl | omega | decide +kernel) (by first | assumption | rfl | omega | decide +kernel) (by first | assumption | rfl | omega | decide +kernel) (by first | assumption | rfl | omega | decide +kernel) commit view base (by first | assumption | decide | (unfold rng; omega)) l A2 n2 c2 ((hr2.st0 (H43.fix (i := 4) rfl)).more (by omega)) (by first | assumption | rfl | omega | decide +kernel) (by first | assumption | rfl | omega | decide +kernel) (by first | assumption | rfl | omega | decide +kernel)) rfl rfl rfl ?_))))))))))
   rintro _ w48 ⟨A45, n46, c47, rfl, g49⟩
   have g50 := g49.fix (i := 1) rfl
   have H51 : Sp [RowA 31 11 A45 n46 c47 (ents ((adoptR k commit view base l).ents)), RowA 31 11 A38 (0 + n2) c39 (ents l), BlkA b23 24 [(.int .i64 k.view), (.int .i64 k.normal), (.int .i64 k.base), (.string (tx k.image)), (.slice A14 n15 c16)], RowA 31 11 A14 n15 c16 (ents k.ents), BlkA b2 24 [(.int .i64 k.view), (.int .i64 k.normal), (.int .i64 k.base), (.string (tx k.image)), (.slice A n c)], Fix w NoB] w48 := H43.join (m := [RowA 31 11 A45 n46 c47 (ents ((adoptR k commit view base l).ents))]) g49
   have z52 := g50.size
   refine zm (.tuple #[(.agg ([(.int .i64 ((adoptR k commit view base l).kind)), (.int .i64 ((adoptR k commit view base l).view)), (.int .i64 ((adoptR k commit view base l).from_)), (.int .i64 ((adoptR k commit view base l).number)), (.string (tx (adoptR k commit view base l).image)), (.int .i64 ((adoptR k commit view base l).entry.num)), (.int .i64 ((adoptR k commit view base l).entry.view)), (.int .i64 ((adoptR k commit view base l).entry.client)), (.int .i64 ((adoptR k commit view base l).entry.seq)), (.int .i64 ((adoptR k commit view base l).entry.op.kind)), (.int .i64 ((adoptR k commit view base l).entry.op.h)), (.int .i64 ((adoptR k commit view base l).entry.op.i)), (.int .i64 ((adoptR k commit view base l).entry.op.n)), (.int .i64 ((adoptR k commit view base l).entry.op.k)), (.int .i64 ((adoptR k commit view base l).entry.op.v)), (.int .i64 ((adoptR k commit view base l).entry.op.t)), (.slice A45 n46 c47)]).toArray), (.bool (adoptB k commit view base l))]) rfl ?_
   refine zx (.agg ([(.int .i64 ((adoptR k commit view base l).kind)), (.int .i64 ((adoptR k commit view base l).view)), (.int .i64 ((adoptR k commit view base l).from_)), (.int .i64 ((adoptR k commit view base l).number)), (.string (tx (adoptR k commit view base l).image)), (.int .i64 ((adoptR k commit view base l).entry.num)), (.int .i64 ((adoptR k commit view base l).entry.view)), (.int .i64 ((adoptR k commit view base l).entry.client)), (.int .i64 ((adoptR k commit view base l).entry.seq)), (.int .i64 ((adoptR k commit view base l).entry.op.kind)), (.int .i64 ((adoptR k commit view base l).entry.op.h)), (.int .i64 ((adoptR k commit view base l).entry.op.i)), (.int .i64 ((adoptR k commit view base l).entry.op.n)), (.int .i64 ((adoptR k commit view base l).entry.op.k)), (.int .i64 ((adoptR k commit view base l).entry.op.v)), (.int .i64 ((adoptR k commit view base l).entry.op.t)), (.slice A45 n46 c47)]).toArray) rfl ?_
   refine zx (.bool (adoptB k commit view base l)) rfl (RL.al (cs := [(.int .i64 0), (.int .i64 0), (.int .i64 0), (.int .i64 0), (.string (⟨#[]⟩)), (.int .i64 0), (.int .i64 0), (.int .i64 0), (.int .i64 0), (.int .i64 0), (.int .i64 0), (.int .i64 0), (.int .i64 0), (.int .i64 0), (.int .i64 0), (.int .i64 0), (.slice none 0 0)]) Tryz.zeroValue33 rfl rfl rfl ?_)
   intro w53 b54 hb55 hz56 g57 o58
   have H59 := H51.newB g57 o58 (by omega)
   have z60 := g57.size
   refine RL.st (vs := [(.int .i64 ((adoptR k commit view base l).kind)), (.int .i64 ((adoptR k commit view base l).view)), (.int .i64 ((adoptR k commit view base l).from_)), (.int .i64 ((adoptR k commit view base l).number)), (.string (tx (adoptR k commit view base l).image)), (.int .i64 ((adoptR k commit view base l).entry.num)), (.int .i64 ((adoptR k commit view base l).entry.view)), (.int .i64 ((adoptR k commit view base l).entry.client)), (.int .i64 ((adoptR k commit view base l).entry.seq)), (.int .i64 ((adoptR k commit view base l).entry.op.kind)), (.int .i64 ((adoptR k commit view base l).entry.op.h)), (.int .i64 ((adoptR k commit view base l).entry.op.i)), (.int .i64 ((adoptR k commit view base l).entry.op.n)), (.int .i64 ((adoptR k commit view base l).entry.op.k)), (.int .i64 ((adoptR k commit view base l).entry.op.v)), (.int .i64 ((adoptR k commit view base l).entry.op.t)), (.slice A45 n46 c47)]) (cs' := [(.int .i64 ((adoptR k commit view base l).kind)), (.int .i64 ((adoptR k commit view base l).view)), (.int .i64 ((adoptR k commit view base l).from_)), (.int .i64 ((adoptR k commit view base l).number)), (.string (tx (adoptR k commit view base l).image)), (.int .i64 ((adoptR k commit view base l).entry.num)), (.int .i64 ((adoptR k commit view base l).entry.view)), (.int .i64 ((adoptR k commit view base l).entry.client)), (.int .i64 ((adoptR k commit view base l).entry.seq)), (.int .i64 ((adoptR k commit view base l).entry.op.kind)), (.int .i64 ((adoptR k commit view base l).entry.op.h)), (.int .i64 ((adoptR k commit view base l).entry.op.i)), (.int .i64 ((adoptR k commit view base l).entry.op.n)), (.int .i64 ((adoptR k commit view base l).entry.op.k)), (.int .i64 ((adoptR k commit view base l).entry.op.v)), (.int .i64 ((adoptR k commit view base l).entry.op.t)), (.slice A45 n46 c47)]) Tryz.sizeOf33 (H59.ob (i := 0) rfl) rfl rfl rfl rfl rfl rfl ?_
   intro w61 hz62 g63 o65
   have H66 : Sp [BlkA b54 33 [(.int .i64 ((adoptR k commit view base l).kind)), (.int .i64 ((adoptR k commit view base l).view)), (.int .i64 ((adoptR k commit view base l).from_)), (.int .i64 ((adoptR k commit view base l).number)), (.string (tx (adoptR k commit view base l).image)), (.int .i64 ((adoptR k commit view base l).entry.num)), (.int .i64 ((adoptR k commit view base l).entry.view)), (.int .i64 ((adoptR k commit view base l).entry.client)), (.int .i64 ((adoptR k commit view base l).entry.seq)), (.int .i64 ((adoptR k commit view base l).entry.op.kind)), (.int .i64 ((adoptR k commit view base l).entry.op.h)), (.int .i64 ((adoptR k commit view base l).entry.op.i)), (.int .i64 ((adoptR k commit view base l).entry.op.n)), (.int .i64 ((adoptR k commit view base l).entry.op.k)), (.int .i64 ((adoptR k commit view base l).entry.op.v)), (.int .i64 ((adoptR k commit view base l).entry.op.t)), (.slice A45 n46 c47)], RowA 31 11 A45 n46 c47 (ents ((adoptR k commit view base l).ents)), RowA 31 11 A38 (0 + n2) c39 (ents l), BlkA b23 24 [(.int .i64 k.view), (.int .i64 k.normal), (.int .i64 k.base), (.string (tx k.image)), (.slice A14 n15 c16)], RowA 31 11 A14 n15 c16 (ents k.ents), BlkA b2 24 [(.int .i64 k.view), (.int .i64 k.normal), (.int .i64 k.base), (.string (tx k.image)), (.slice A n c)], Fix w NoB] w61 := H59.setB (i := 0) rfl g63 o65 rfl
   have z67 := g63.size
   refine za (.bool (adoptB k commit view base l)) rfl (RL.nil (thn.n (CW.seq (CW.region (zg rfl (Ex.ldv rfl (loadCN (cs := [(.int .i64 k.view), (.int .i64 k.normal), (.int .i64 k.base), (.string (tx k.image)), (.slice A14 n15 c16)]) wh24 (H66.ob (i := 3) rfl).cl)) (zm (.int .i64 commit) rfl (zm (.int .i64 view) rfl (zm (.int .i64 base) rfl (zm (.slice A38 (0 + n2) c39) rfl ?_)))))))))
   have hl68 := H66.len (i := 4) rfl
   rw [ents_length] at hl68
   have hc69 := H66.cap (i := 4) rfl
   have hl70 := H66.len (i := 4) rfl
   rw [ents_length] at hl70
   have hl71 := H66.len (i := 2) rfl
   rw [ents_length] at hl71
   refine RL.call Tryz.call26 (adoptRf_ _ w61.heap.size k A14 n15 c16 ((H66.rowrd (i := 4) rfl).more (Nat.le_refl _)) (Nat.le_refl _) (by first | assumption | rfl | omega) (by first | assumption | rfl | omega) (by first | assumption | rfl | omega) (by first | assumption | rfl | omega) commit view base l A38 (0 + n2) c39 ((H66.rowrd (i := 2) rfl).more (Nat.le_refl _)) (by first | assumption | rfl | omega) (by first | assumption | rfl | omega) hok) rfl rfl rfl ?_
   rintro _ w75 ⟨A72, n73, c74, rfl, g76⟩
   have g77 := g76.fix (i := 1) rfl
   have H78 : Sp [RowA 31 11 A72 n73 c74 (ents ((adoptR k commit view base l).ents)), BlkA b54 33 [(.int .i64 ((adoptR k commit view base l).kind)), (.int .i64 ((adoptR k commit view base l).view)), (.int .i64 ((adoptR k commit view base l).from_)), (.int .i64 ((adoptR k commit view base l).number)), (.string (tx (adoptR k commit view base l).image)), (.int .i64 ((adoptR k commit view base l).entry.num)), (.int .i64 ((adoptR k commit view base l).entry.view)), (.int .i64 ((adoptR k commit view base l).entry.client)), (.int .i64 ((adoptR k commit view base l).entry.seq)), (.int .i64 ((adoptR k commit view base l).entry.op.kind)), (.int .i64 ((adoptR k commit view base l).entry.op.h)), (.int .i64 ((adoptR k commit view base l).entry.op.i)), (.int .i64 ((adoptR k commit view base l).entry.op.n)), (.int .i64 ((adoptR k commit view base l).entry.op.k)), (.int .i64 ((adoptR k commit view base l).entry.op.v)), (.int .i64 ((adoptR k commit view base l).entry.op.t)), (.slice A45 n46 c47)], RowA 31 11 A45 n46 c47 (ents ((adoptR k commit view base l).ents)), RowA 31 11 A38 (0 + n2) c39 (ents l), BlkA b23 24 [(.int .i64 k.view), (.int .i64 k.normal), (.int .i64 k.base), (.string (tx k.image)), (.slice A14 n15 c16)], RowA 31 11 A14 n15 c16 (ents k.ents), BlkA b2 24 [(.int .i64 k.view), (.int .i64 k.normal), (.int .i64 k.base), (.string (tx k.image)), (.slice A n c)], Fix w NoB] w75 := H66.join (m := [RowA 31 11 A72 n73 c74 (ents ((adoptR k commit view base l).ents))]) g76
   have z79 := g77.size
   refine zm (.tuple #[(.agg ([(.int .i64 ((adoptR k commit view base l).kind)), (.int .i64 ((adoptR k commit view base l).view)), (.int .i64 ((adoptR k commit view base l).from_)), (.int .i64 ((adoptR k commit view base l).number)), (.string (tx (adoptR k commit view base l).image)), (.int .i64 ((adoptR k commit view base l).entry.num)), (.int .i64 ((adoptR k commit view base l).entry.view)), (.int .i64 ((adoptR k commit view base l).entry.client)), (.int .i64 ((adoptR k commit view base l).entry.seq)), (.int .i64 ((adoptR k commit view base l).entry.op.kind)), (.int .i64 ((adoptR k commit view base l).entry.op.h)), (.int .i64 ((adoptR k commit view base l).entry.op.i)), (.int .i64 ((adoptR k commit view base l).entry.op.n)), (.int .i64 ((adoptR k commit view base l).entry.op.k)), (.int .i64 ((adoptR k commit view base l).entry.op.v)), (.int .i64 ((adoptR k commit view base l).entry.op.t)), (.slice A72 n73 c74)]).toArray), (.bool (adoptB k commit view base l))]) rfl ?_
   refine zx (.agg ([(.int .i64 ((adoptR k commit view base l).kind)), (.int .i64 ((adoptR k commit view base l).view)), (.int .i64 ((adoptR k commit view base l).from_)), (.int .i64 ((adoptR k commit view base l).number)), (.string (tx (adoptR k commit view base l).image)), (.int .i64 ((adoptR k commit view base l).entry.num)), (.int .i64 ((adoptR k commit view base l).entry.view)), (.int .i64 ((adoptR k commit view base l).entry.client)), (.int .i64 ((adoptR k commit view base l).entry.seq)), (.int .i64 ((adoptR k commit view base l).entry.op.kind)), (.int .i64 ((adoptR k commit view base l).entry.op.h)), (.int .i64 ((adoptR k commit view base l).entry.op.i)), (.int .i64 ((adoptR k commit view base l).entry.op.n)), (.int .i64 ((adoptR k commit view base l).entry.op.k)), (.int .i64 ((adoptR k commit view base l).entry.op.v)), (.int .i64 ((adoptR k commit view base l).entry.op.t)), (.slice A72 n73 c74)]).toArray) rfl ?_
   refine zx (.bool (adoptB k commit view base l)) rfl (RL.al (cs := [(.int .i64 0), (.int .i64 0), (.int .i64 0), (.int .i64 0), (.string (⟨#[]⟩)), (.int .i64 0), (.int .i64 0), (.int .i64 0), (.int .i64 0), (.int .i64 0), (.int .i64 0), (.int .i64 0), (.int .i64 0), (.int .i64 0), (.int .i64 0), (.int .i64 0), (.slice none 0 0)]) Tryz.zeroValue33 rfl rfl rfl ?_)
   intro w80 b81 hb82 hz83 g84 o85
   have H86 := H78.newB g84 o85 (by omega)
   have z87 := g84.size
   refine RL.st (vs := [(.int .i64 ((adoptR k commit view base l).kind)), (.int .i64 ((adoptR k commit view base l).view)), (.int .i64 ((adoptR k commit view base l).from_)), (.int .i64 ((adoptR k commit view base l).number)), (.string (tx (adoptR k commit view base l).image)), (.int .i64 ((adoptR k commit view base l).entry.num)), (.int .i64 ((adoptR k commit view base l).entry.view)), (.int .i64 ((adoptR k commit view base l).entry.client)), (.int .i64 ((adoptR k commit view base l).entry.seq)), (.int .i64 ((adoptR k commit view base l).entry.op.kind)), (.int .i64 ((adoptR k commit view base l).entry.op.h)), (.int .i64 ((adoptR k commit view base l).entry.op.i)), (.int .i64 ((adoptR k commit view base l).entry.op.n)), (.int .i64 ((adoptR k commit view base l).entry.op.k)), (.int .i64 ((adoptR k commit view base l).entry.op.v)), (.int .i64 ((adoptR k commit view base l).entry.op.t)), (.slice A72 n73 c74)]) (cs' := [(.int .i64 ((adoptR k commit view base l).kind)), (.int .i64 ((adoptR k commit view base l).view)), (.int .i64 ((adoptR k commit view base l).from_)), (.int .i64 ((adoptR k commit view base l).number)), (.string (tx (adoptR k commit view base l).image)), (.int .i64 ((adoptR k commit view base l).entry.num)), (.int .i64 ((adoptR k commit view base l).entry.view)), (.int .i64 ((adoptR k commit view base l).entry.client)), (.int .i64 ((adoptR k commit view base l).entry.seq)), (.int .i64 ((adoptR k commit view base l).entry.op.kind)), (.int .i64 ((adoptR k commit view base l).entry.op.h)), (.int .i64 ((adoptR k commit view base l).entry.op.i)), (.int .i64 ((adoptR k commit view base l).entry.op.n)), (.int .i64 ((adoptR k commit view base l).entry.op.k)), (.int .i64 ((adoptR k commit view base l).entry.op.v)), (.int .i64 ((adoptR k commit view base l).entry.op.t)), (.slice A72 n73 c74)]) Tryz.sizeOf33 (H86.ob (i := 0) rfl) rfl rfl rfl rfl rfl rfl ?_
   intro w88 hz89 g90 o91
   have H92 : Sp [BlkA b81 33 [(.int .i64 ((adoptR k commit view base l).kind)), (.int .i64 ((adoptR k commit view base l).view)), (.int .i64 ((adoptR k commit view base l).from_)), (.int .i64 ((adoptR k commit view base l).number)), (.string (tx (adoptR k commit view base l).image)), (.int .i64 ((adoptR k commit view base l).entry.num)), (.int .i64 ((adoptR k commit view base l).entry.view)), (.int .i64 ((adoptR k commit view base l).entry.client)), (.int .i64 ((adoptR k commit view base l).entry.seq)), (.int .i64 ((adoptR k commit view base l).entry.op.kind)), (.int .i64 ((adoptR k commit view base l).entry.op.h)), (.int .i64 ((adoptR k commit view base l).entry.op.i)), (.int .i64 ((adoptR k commit view base l).entry.op.n)), (.int .i64 ((adoptR k commit view base l).entry.op.k)), (.int .i64 ((adoptR k commit view base l).entry.op.v)), (.int .i64 ((adoptR k commit view base l).entry.op.t)), (.slice A72 n73 c74)], RowA 31 11 A72 n73 c74 (ents ((adoptR k commit view base l).ents)), BlkA b54 33 [(.int .i64 ((adoptR k commit view base l).kind)), (.int .i64 ((adoptR k commit view base l).view)), (.int .i64 ((adoptR k commit view base l).from_)), (.int .i64 ((adoptR k commit view base l).number)), (.string (tx (adoptR k commit view base l).image)), (.int .i64 ((adoptR k commit view base l).entry.num)), (.int .i64 ((adoptR k commit view base l).entry.view)), (.int .i64 ((adoptR k commit view base l).entry.client)), (.int .i64 ((adoptR k commit view base l).entry.seq)), (.int .i64 ((adoptR k commit view base l).entry.op.kind)), (.int .i64 ((adoptR k commit view base l).entry.op.h)), (.int .i64 ((adoptR k commit view base l).entry.op.i)), (.int .i64 ((adoptR k commit view base l).entry.op.n)), (.int .i64 ((adoptR k commit view base l).entry.op.k)), (.int .i64 ((adoptR k commit view base l).entry.op.v)), (.int .i64 ((adoptR k commit view base l).entry.op.t)), (.slice A45 n46 c47)], RowA 31 11 A45 n46 c47 (ents ((adoptR k commit view base l).ents)), RowA 31 11 A38 (0 + n2) c39 (ents l), BlkA b23 24 [(.int .i64 k.view), (.int .i64 k.normal), (.int .i64 k.base), (.string (tx k.image)), (.slice A14 n15 c16)], RowA 31 11 A14 n15 c16 (ents k.ents), BlkA b2 24 [(.int .i64 k.view), (.int .i64 k.normal), (.int .i64 k.base), (.string (tx k.image)), (.slice A n c)], Fix w NoB] w88 := H86.setB (i := 0) rfl g90 o91 rfl
   have z93 := g90.size
   refine za (.bool (adoptB k commit view base l)) rfl (RL.nil (thn.n (CW.seq (CW.region ?_))))
   have hal := adoptR_len k commit view base l
   refine zm (.bool (adoptB k commit view base l)) rfl (zm (.bool (adoptB k commit view base l)) rfl (zg rfl (Ex.eqB (r := true) Tryz.underlying4 rfl rfl (by simp)) (zm (.bool true) rfl (zg rfl (Ex.ldv rfl (loadCN (cs := [(.int .i64 ((adoptR k commit view base l).kind)), (.int .i64 ((adoptR k commit view base l).view)), (.int .i64 ((adoptR k commit view base l).from_)), (.int .i64 ((adoptR k commit view base l).number)), (.string (tx (adoptR k commit view base l).image)), (.int .i64 ((adoptR k commit view base l).entry.num)), (.int .i64 ((adoptR k commit view base l).entry.view)), (.int .i64 ((adoptR k commit view base l).entry.client)), (.int .i64 ((adoptR k commit view base l).entry.seq)), (.int .i64 ((adoptR k commit view base l).entry.op.kind)), (.int .i64 ((adoptR k commit view base l).entry.op.h)), (.int .i64 ((adoptR k commit view base l).entry.op.i)), (.int .i64 ((adoptR k commit view base l).entry.op.n)), (.int .i64 ((adoptR k commit view base l).entry.op.k)), (.int .i64 ((adoptR k commit view base l).entry.op.v)), (.int .i64 ((adoptR k commit view base l).entry.op.t)), (.slice A45 n46 c47)]) wh33 (H92.ob (i := 2) rfl).cl)) ?_))))
   refine zg rfl (Ex.ldv rfl (loadCN (cs := [(.int .i64 ((adoptR k commit view base l).kind)), (.int .i64 ((adoptR k commit view base l).view)), (.int .i64 ((adoptR k commit view base l).from_)), (.int .i64 ((adoptR k commit view base l).number)), (.string (tx (adoptR k commit view base l).image)), (.int .i64 ((adoptR k commit view base l).entry.num)), (.int .i64 ((adoptR k commit view base l).entry.view)), (.int .i64 ((adoptR k commit view base l).entry.client)), (.int .i64 ((adoptR k commit view base l).entry.seq)), (.int .i64 ((adoptR k commit view base l).entry.op.kind)), (.int .i64 ((adoptR k commit view base l).entry.op.h)), (.int .i64 ((adoptR k commit view base l).entry.op.i)), (.int .i64 ((adoptR k commit view base l).entry.op.n)), (.int .i64 ((adoptR k commit view base l).entry.op.k)), (.int .i64 ((adoptR k commit view base l).entry.op.v)), (.int .i64 ((adoptR k commit view base l).entry.op.t)), (.slice A72 n73 c74)]) wh33 (H92.ob (i := 0) rfl).cl)) ?_
   have hl94 := H92.len (i := 3) rfl
   rw [ents_length] at hl94
   have hl95 := H92.len (i := 1) rfl
   rw [ents_length] at hl95
   refine RL.call Tryz.call27 ((Ret.sure (sameRec_ _ w88.heap.size (adoptR k commit view base l) (adoptR k commit view base l) A45 A72 n46 c47 n73 c74 ((H92.rowrd (i := 3) rfl).more (Nat.le_refl _)) ((H92.rowrd (i := 1) rfl).more (Nat.le_refl _)) (Nat.le_refl _) (by first | assumption | rfl | omega) (by first | assumption | rfl | omega) (by omega)) (decide_eq_true rfl))) rfl rfl rfl ?_
   rintro _ w96 ⟨rfl, g97⟩
   have H98 := H92.grow g97
   have z99 := g97.size
   refine zT (.bool true) rfl (za (.bool true) rfl (RL.nil (thn.n (CW.seq (CW.region (zg rfl (fa33_6 (b := ⟨b54, 16, none⟩) rfl rfl) (zl (.slice A45 n46 c47) lo22 (H98.ob (i := 2) rfl) rfl ?_)))))))
   obtain ⟨S101, hS102, hO103, K104⟩ := Sp.takeL (l1 := [RowA 31 11 A45 n46 c47 (ents ((adoptR k commit view base l).ents))]) (l2 := [BlkA b81 33 [(.int .i64 ((adoptR k commit view base l).kind)), (.int .i64 ((adoptR k commit view base l).view)), (.int .i64 ((adoptR k commit view base l).from_)), (.int .i64 ((adoptR k commit view base l).number)), (.string (tx (adoptR k commit view base l).image)), (.int .i64 ((adoptR k commit view base l).entry.num)), (.int .i64 ((adoptR k commit view base l).entry.view)), (.int .i64 ((adoptR k commit view base l).entry.client)), (.int .i64 ((adoptR k commit view base l).entry.seq)), (.int .i64 ((adoptR k commit view base l).entry.op.kind)), (.int .i64 ((adoptR k commit view base l).entry.op.h)), (.int .i64 ((adoptR k commit view base l).entry.op.i)), (.int .i64 ((adoptR k commit view base l).entry.op.n)), (.int .i64 ((adoptR k commit view base l).entry.op.k)), (.int .i64 ((adoptR k commit view base l).entry.op.v)), (.int .i64 ((adoptR k commit view base l).entry.op.t)), (.slice A72 n73 c74)], RowA 31 11 A72 n73 c74 (ents ((adoptR k commit view base l).ents)), BlkA b54 33 [(.int .i64 ((adoptR k commit view base l).kind)), (.int .i64 ((adoptR k commit view base l).view)), (.int .i64 ((adoptR k commit view base l).from_)), (.int .i64 ((adoptR k commit view base l).number)), (.string (tx (adoptR k commit view base l).image)), (.int .i64 ((adoptR k commit view base l).entry.num)), (.int .i64 ((adoptR k commit view base l).entry.view)), (.int .i64 ((adoptR k commit view base l).entry.client)), (.int .i64 ((adoptR k commit view base l).entry.seq)), (.int .i64 ((adoptR k commit view base l).entry.op.kind)), (.int .i64 ((adoptR k commit view base l).entry.op.h)), (.int .i64 ((adoptR k commit view base l).entry.op.i)), (.int .i64 ((adoptR k commit view base l).entry.op.n)), (.int .i64 ((adoptR k commit view base l).entry.op.k)), (.int .i64 ((adoptR k commit view base l).entry.op.v)), (.int .i64 ((adoptR k commit view base l).entry.op.t)), (.slice A45 n46 c47)], RowA 31 11 A38 (0 + n2) c39 (ents l), BlkA b23 24 [(.int .i64 k.view), (.int .i64 k.normal), (.int .i64 k.base), (.string (tx k.image)), (.slice A14 n15 c16)], RowA 31 11 A14 n15 c16 (ents k.ents), BlkA b2 24 [(.int .i64 k.view), (.int .i64 k.normal), (.int .i64 k.base), (.string (tx k.image)), (.slice A n c)], Fix w NoB]) (w := w96) (H98.sel [3, 0, 1, 2, 4, 5, 6, 7, 8] (by decide) rfl)
   refine RL.call Tryz.call28 (over17_ _ S101 A45 n46 c47 ((adoptR k commit view base l).ents) hS102) rfl rfl rfl ?_
   rintro _ w105 ⟨l100, rfl, g106⟩
   have H107 : Sp [RowA 31 11 A45 n46 c47 (ents l100), BlkA b81 33 [(.int .i64 ((adoptR k commit view base l).kind)), (.int .i64 ((adoptR k commit view base l).view)), (.int .i64 ((adoptR k commit view base l).from_)), (.int .i64 ((adoptR k commit view base l).number)), (.string (tx (adoptR k commit view base l).image)), (.int .i64 ((adoptR k commit view base l).entry.num)), (.int .i64 ((adoptR k commit view base l).entry.view)), (.int .i64 ((adoptR k commit view base l).entry.client)), (.int .i64 ((adoptR k commit view base l).entry.seq)), (.int .i64 ((adoptR k commit view base l).entry.op.kind)), (.int .i64 ((adoptR k commit view base l).entry.op.h)), (.int .i64 ((adoptR k commit view base l).entry.op.i)), (.int .i64 ((adoptR k commit view base l).entry.op.n)), (.int .i64 ((adoptR k commit view base l).entry.op.k)), (.int .i64 ((adoptR k commit view base l).entry.op.v)), (.int .i64 ((adoptR k commit view base l).entry.op.t)), (.slice A72 n73 c74)], RowA 31 11 A72 n73 c74 (ents ((adoptR k commit view base l).ents)), BlkA b54 33 [(.int .i64 ((adoptR k commit view base l).kind)), (.int .i64 ((adoptR k commit view base l).view)), (.int .i64 ((adoptR k commit view base l).from_)), (.int .i64 ((adoptR k commit view base l).number)), (.string (tx (adoptR k commit view base l).image)), (.int .i64 ((adoptR k commit view base l).entry.num)), (.int .i64 ((adoptR k commit view base l).entry.view)), (.int .i64 ((adoptR k commit view base l).entry.client)), (.int .i64 ((adoptR k commit view base l).entry.seq)), (.int .i64 ((adoptR k commit view base l).entry.op.kind)), (.int .i64 ((adoptR k commit view base l).entry.op.h)), (.int .i64 ((adoptR k commit view base l).entry.op.i)), (.int .i64 ((adoptR k commit view base l).entry.op.n)), (.int .i64 ((adoptR k commit view base l).entry.op.k)), (.int .i64 ((adoptR k commit view base l).entry.op.v)), (.int .i64 ((adoptR k commit view base l).entry.op.t)), (.slice A45 n46 c47)], RowA 31 11 A38 (0 + n2) c39 (ents l), BlkA b23 24 [(.int .i64 k.view), (.int .i64 k.normal), (.int .i64 k.base), (.string (tx k.image)), (.slice A14 n15 c16)], RowA 31 11 A14 n15 c16 (ents k.ents), BlkA b2 24 [(.int .i64 k.view), (.int .i64 k.normal), (.int .i64 k.base), (.string (tx k.image)), (.slice A n c)], Fix w NoB] w105 := K104 _ _ g106
   have z108 := (H107.fix (i := 8) rfl).size
   refine RL.nil (thn.n (CW.seq (CW.region (RL.call Tryz.call29 (adopts17 _) rfl rfl rfl ?_))))
   rintro _ w109 ⟨rfl, g110⟩
   have H111 := H107.grow g110
   have z112 := g110.size
   refine zm (.bool true) rfl (zm (.bool true) rfl (zT (.bool true) rfl (zm (.bool true) rfl (zg rfl (Ex.ldv rfl (loadCN (cs := [(.int .i64 k.view), (.int .i64 k.normal), (.int .i64 k.base), (.string (tx k.image)), (.slice A n c)]) wh24 (H111.ob (i := 7) rfl).cl)) (zg rfl (Ex.ldv rfl (loadCN (cs := [(.int .i64 k.view), (.int .i64 k.normal), (.int .i64 k.base), (.string (tx k.image)), (.slice A14 n15 c16)]) wh24 (H111.ob (i := 5) rfl).cl)) ?_)))))
   have hl113 := H111.len (i := 6) rfl
   rw [ents_length] at hl113
   refine RL.call Tryz.call30 ((Ret.sure (same15_ _ w109.heap.size k k A A14 n c n15 c16 ((hr.st0 (H111.fix (i := 8) rfl)).more (by omega)) ((H111.rowrd (i := 6) rfl).more (Nat.le_refl _)) (Nat.le_refl _) (by first | assumption | rfl | omega) (by first | assumption | rfl | omega) (by omega)) (decide_eq_true rfl))) rfl rfl rfl ?_
   rintro _ w114 ⟨rfl, g115⟩
   have H116 := H111.grow g115
   have z117 := g115.size
   refine zT (.bool true) rfl (zm (.bool true) rfl (zm (.slice A2 n2 c2) rfl (zm (.slice A38 (0 + n2) c39) rfl ?_)))
   have hl118 := H116.len (i := 4) rfl
   rw [ents_length] at hl118
   refine RL.call Tryz.call31 ((Ret.sure (entSameR_ _ _ l l A2 A38 n2 c2 (0 + n2) c39 ((hr2.st0 (H116.fix (i := 8) rfl)).more (by omega)) (by first | assumption | rfl | omega) ((H116.rowrd (i := 4) rfl).more (Nat.le_refl _)) (by first | assumption | rfl | omega) (by omega)) (decide_eq_true rfl))) rfl rfl rfl ?_
   rintro _ w119 ⟨rfl, g120⟩
   have H121 := H116.grow g120
   have z122 := g120.size
   refine zT (.bool true) rfl (za (.bool true) rfl (RL.nil (thn.n (CW.ret (finQ.r (v := (.bool true)) (res1 rfl rfl) ?_)))))
   exact ⟨rfl, (H121.fix (i := 8) rfl)⟩
  ·skip
   refine RL.nil (thn.n (CW.condT rfl (CW.seq (CW.region (za (.bool true) rfl (RL.nil (thn.n (CW.ret (thn.r (finQ.r (v := (.bool true)) (res1 rfl rfl) ?_))))))))))
   exact ⟨rfl, (H11.fix (i := 1) rfl)⟩
end Go.Proofs.YtfokljnhllflbaaGreat
namespace Go.Proofs.YtfokljnhllflbaaGreat
open Go
set_option maxRecDepth 100000
def sp : Char := Char.ofNat 32
theorem ws_app (r : List Char) : ∀ (a : List Char), (a.all fun c => c != sp) = true → wordsSigns (a ++ sp :: r) = a :: wordsSigns r
  | [], _ => rfl
  | c :: a, h => by
    simp only [List.all_cons, Bool.and_eq_true, bne_iff_ne, ne_eq] at h
    have ih := ws_app r a h.2
    rw [List.cons_append]
    conv => lhs; unfold wordsSigns
    split
    · rename_i e; cases e
    · rename_i e; injection e with e1 _; exact absurd e1 h.1
    · rename_i c' r' hne e
      injection e with e1 e2
      subst e1
      rw [← e2, ih]
theorem io_eq : Tryz.prog.initOrder.toList = "harness".toList ++ sp :: ("e992cc6d704afc89758aaf8fd9a77071690771db51468eeba60045f0eed610c9".toList ++ sp :: ("cut".toList ++ sp :: Tryz.prog.initOrder.toList.drop 77)) := by kernel_rfl
theorem io_words : behindMainWord (wordsSigns Tryz.prog.initOrder.toList) = "cut".toList :: wordsSigns (Tryz.prog.initOrder.toList.drop 77) := by
  rw [io_eq, ws_app _ _ (by decide), ws_app _ _ (by decide), ws_app _ _ (by decide)]
  rw [← io_eq]
  generalize wordsSigns (Tryz.prog.initOrder.toList.drop 77) = ws
  show (if (("harness".toList == "harness".toList || "harness".toList == "ownmain".toList) && isSumSigns "e992cc6d704afc89758aaf8fd9a77071690771db51468eeba60045f0eed610c9".toList) = true then "cut".toList :: ws else "harness".toList :: "e992cc6d704afc89758aaf8fd9a77071690771db51468eeba60045f0eed610c9".toList :: "cut".toList :: ws) = _
  rw [if_pos (by decide)]
theorem sl (ws : List (List Char)) : stripLifts liftWords ("cut".toList :: ws) = ([], "cut".toList :: ws) := by
  unfold liftWords
  simp only [stripLifts]
  rfl
theorem hl : Tryz.prog.headLifts = [] := by unfold Program.headLifts; rw [io_words, sl]; rfl
theorem jf_later : Tryz.prog.laysLater = false := by kernel_rfl
theorem jf_refl : Tryz.prog.bearsReflect = false := by kernel_rfl
theorem jf_rows : Tryz.prog.doorRows = [] := by kernel_rfl
theorem jf_door : Tryz.prog.doorFits [] = true := by unfold Program.doorFits; rw [jf_rows]; rfl
theorem jf_may : Tryz.prog.mayEnter = true := by
  unfold Program.mayEnter
  rw [io_words]
  generalize wordsSigns (Tryz.prog.initOrder.toList.drop 77) = ws
  have e := sl ws
  simp only [e, jf_later, jf_refl, jf_door]
  simp
theorem jf_lift : Tryz.prog.liftsFinal = false := by
  unfold Program.liftsFinal
  rw [io_words, hl]
  generalize wordsSigns (Tryz.prog.initOrder.toList.drop 77) = ws
  rfl
theorem jf_make : Tryz.prog.make = some .cut := by
  unfold Program.make
  rw [io_words]
  generalize wordsSigns (Tryz.prog.initOrder.toList.drop 77) = ws
  rfl
end Go.Proofs.YtfokljnhllflbaaGreat
namespace Go.Proofs.YtfokljnhllflbaaGreat
open Go
set_option maxRecDepth 100000
theorem jf_changeAdopts0 : (Rows.changeAdoptsRow.wf (OpenSpec.ofChange Rows.changeAdoptsSpec)) = true := by kernel_rfl
theorem jf_changeAdopts1 : (laidOutB Tryz.prog) = true := by kernel_rfl
theorem jf_changeAdopts2 : (mapsRowed Tryz.prog) = true := by kernel_rfl
theorem jf_changeAdopts3 : (Tryz.f3.params.all (Tryz.prog.readableRec ·)) = true := by kernel_rfl
theorem jf_changeAdopts4 : (namedTie Tryz.prog Rows.changeAdoptsRow.named Rows.changeAdoptsSpec.vars) = true := by kernel_rfl
theorem jf_changeAdopts5 : ((Rows.changeAdoptsRow.stops == [])) = true := by kernel_rfl
theorem jf_changeAdopts6 : ((Tryz.prog.stops == [])) = true := by kernel_rfl
theorem jf_changeAdopts7 : ((Rows.changeAdoptsRow.knobs == [])) = true := by kernel_rfl
theorem jf_changeAdopts8 : ((Tryz.prog.stopKnobs == [])) = true := by kernel_rfl
theorem jf_changeAdopts9 : ((Rows.changeAdoptsRow.inPlace == Tryz.prog.inPlace 3)) = true := by kernel_rfl
theorem jf_changeAdopts10 : ((Rows.changeAdoptsRow.unfollowed == Tryz.prog.unfollowed 3)) = true := by kernel_rfl
theorem jf_changeAdopts11 : ((Rows.changeAdoptsRow.recurses == Tryz.prog.recurses 3)) = true := by kernel_rfl
theorem jf_changeAdopts12 : ((Rows.changeAdoptsRow.named == Tryz.prog.varsNamed 3)) = true := by kernel_rfl
theorem jf_changeAdopts13 : ((Rows.changeAdoptsRow.maps == (Tryz.f3.params.toList ++ Rows.changeAdoptsSpec.plain.varTypes Tryz.prog).any (Tryz.prog.mapsRec ·))) = true := by kernel_rfl
theorem jf_changeAdopts14 : ((Rows.changeAdoptsRow.ifaces == (Tryz.f3.params.toList ++ Rows.changeAdoptsSpec.plain.varTypes Tryz.prog).any (Tryz.prog.ifacesRec ·))) = true := by kernel_rfl
theorem jf_changeAdopts15 : ((Rows.changeAdoptsRow.mapsOut == Tryz.prog.mapsAmong Tryz.f3.resultTypes.toList)) = true := by kernel_rfl
theorem jf_changeAdopts16 : ((Rows.changeAdoptsRow.loops == (Tryz.f3.params.toList ++ Rows.changeAdoptsSpec.plain.varTypes Tryz.prog).any (Tryz.prog.loopsFrom ·))) = true := by kernel_rfl
theorem jf_changeAdopts17 : ((Rows.changeAdoptsRow.wideKeys == (Tryz.f3.params.toList ++ Rows.changeAdoptsSpec.plain.varTypes Tryz.prog ++ Tryz.f3.resultTypes.toList).any (Tryz.prog.wideKeysFrom ·))) = true := by kernel_rfl
theorem jf_changeAdopts18 : (Rows.changeAdoptsSpec.vars.all (Tryz.prog.varReadable ·)) = true := by kernel_rfl
theorem jf_changeAdopts19 : (Tryz.f3.resultTypes.all (fun t => Tryz.prog.readableRec t && decide (t < Tryz.prog.types.size))) = true := by kernel_rfl
theorem jf_changeAdopts20 : ((Rows.changeAdoptsRow.ifacesOut == Tryz.f3.resultTypes.toList.any (Tryz.prog.ifacesRec ·))) = true := by kernel_rfl
theorem jf_changeAdopts21 : ((Rows.changeAdoptsRow.loopsOut == Tryz.f3.resultTypes.toList.any (Tryz.prog.loopsFrom ·))) = true := by kernel_rfl
theorem jf_changeAdopts22 : ((Rows.changeAdoptsRow.plainKeys == Tryz.prog.plainKeys)) = true := by kernel_rfl
theorem jf_changeAdopts23 : (Rows.changeAdoptsRow.shortTexts.isNone) = true := by kernel_rfl
theorem jf_changeAdopts24 : (Tryz.prog.stopsHeard) = true := by kernel_rfl
theorem jf_changeAdopts25 : (Tryz.prog.mayEnter) = true := jf_may
theorem jf_changeAdopts26 : ((Rows.changeAdoptsRow.lifted == Tryz.prog.liftsFinal)) = true := by rw [jf_lift]; rfl
theorem jf_changeAdopts27 : ((Tryz.prog.make == some Rows.changeAdoptsRow.make)) = true := by rw [jf_make]; rfl
theorem jf_changeAdopts28 : ((Rows.changeAdoptsRow.kinds == (if Rows.changeAdoptsRow.domain.isEmpty then [] else Tryz.f3.params.toList.map fun t => match Tryz.prog.underlying t with | some (.int k) => some k | _ => none))) = true := by kernel_rfl
theorem jf_changeAdopts29 : ((Rows.changeAdoptsRow.pinned == Rows.changeAdoptsRow.pinnedBy)) = true := by kernel_rfl
theorem jf_changeAdopts30 : ((Rows.changeAdoptsRow.veiled == (Tryz.f3.params.toList ++ Rows.changeAdoptsSpec.plain.varTypes Tryz.prog ++ Tryz.f3.resultTypes.toList).any (Tryz.prog.veiledRec ·))) = true := by kernel_rfl
theorem jf_changeAdopts31 : (Rows.changeAdoptsRow.veiledFits Tryz.prog Tryz.f3.params.toList (Tryz.f3.params.toList ++ Rows.changeAdoptsSpec.plain.varTypes Tryz.prog ++ Tryz.f3.resultTypes.toList)) = true := by kernel_rfl
theorem jf_changeAdopts : joinedFacts Tryz.prog 3 Tryz.f3 Rows.changeAdoptsSpec Rows.changeAdoptsRow = true := by
  unfold joinedFacts
  simp only [Bool.and_eq_true]
  exact ⟨⟨⟨⟨⟨⟨⟨⟨⟨⟨⟨⟨⟨⟨⟨⟨⟨⟨⟨⟨⟨⟨⟨⟨⟨⟨⟨⟨⟨⟨⟨jf_changeAdopts0, jf_changeAdopts1⟩, jf_changeAdopts2⟩, jf_changeAdopts3⟩, jf_changeAdopts4⟩, jf_changeAdopts5⟩, jf_changeAdopts6⟩, jf_changeAdopts7⟩, jf_changeAdopts8⟩, jf_changeAdopts9⟩, jf_changeAdopts10⟩, jf_changeAdopts11⟩, jf_changeAdopts12⟩, jf_changeAdopts13⟩, jf_changeAdopts14⟩, jf_changeAdopts15⟩, jf_changeAdopts16⟩, jf_changeAdopts17⟩, jf_changeAdopts18⟩, jf_changeAdopts19⟩, jf_changeAdopts20⟩, jf_changeAdopts21⟩, jf_changeAdopts22⟩, jf_changeAdopts23⟩, jf_changeAdopts24⟩, jf_changeAdopts25⟩, jf_changeAdopts26⟩, jf_changeAdopts27⟩, jf_changeAdopts28⟩, jf_changeAdopts29⟩, jf_changeAdopts30⟩, jf_changeAdopts31⟩
end Go.Proofs.YtfokljnhllflbaaGreat
namespace Go.Proofs.YtfokljnhllflbaaGreat
open Go Go.Eng Go.ChangeShapes Go.WideShapes Go.ChangeAt Go.RowKit
set_option maxRecDepth 100000 in
theorem changeAdopts_lifted (os : Os) (started : os.Started) (H : Type) (enc : TypeId × Value → H) :
    ReturnsInHanded {} Tryz.checked os 3 .any (Rows.changeAdoptsSpec.pre6 enc Tryz.prog Tryz.f3 Rows.changeAdoptsRow.domain false) (Rows.changeAdoptsSpec.post enc Tryz.prog Tryz.f3 false true false false) := by
  refine returnsInHanded_of_change (C := Tryz.checked) Tryz.own started (by kernel_rfl) Tryz.func3
    (ChangeSpec.witness6 (enc := enc) (C := Tryz.checked) false ⟨#[], #[(.agg #[(.int .i64 0), (.int .i64 0), (.int .i64 0), (.string (⟨#[]⟩)), (.slice none 0 0)]), (.int .i64 0), (.int .i64 0), (.int .i64 0), (.slice none 0 0)], []⟩ 8 (by kernel_rfl) (by kernel_rfl) (by kernel_rfl) (by kernel_rfl)) ?_
  intro W base args ds gs before hval0 hW hcnd _
  have hval : ∀ (j : Nat) t v, Tryz.f3.params[j]? = some t → args[j]? = some v → Value.okWide Tryz.prog W .any base t v := hval0
  have hW' := hW
  obtain ⟨p, q, hA0, hV, rfl, hfz, hnd⟩ := hW
  have hA : DataW.TrodAll enc Tryz.prog W 0 (fun _ => true) true Tryz.f3.params.toList args.toList ds p := hA0
  rw [Tryz.params3] at hA hval
  clear hA0 hval0
  obtain ⟨v0, vs0, d0, ds0, p0, q0, ha0, rfl, rfl, h0, hA⟩ := trodAll_cons hA
  obtain ⟨v1, vs1, d1, ds1, p1, q1, ha1, rfl, rfl, h1, hA⟩ := trodAll_cons hA
  obtain ⟨v2, vs2, d2, ds2, p2, q2, ha2, rfl, rfl, h2, hA⟩ := trodAll_cons hA
  obtain ⟨v3, vs3, d3, ds3, p3, q3, ha3, rfl, rfl, h3, hA⟩ := trodAll_cons hA
  obtain ⟨v4, vs4, d4, ds4, p4, q4, ha4, rfl, rfl, h4, hA⟩ := trodAll_cons hA
  obtain ⟨hz1, rfl, rfl⟩ := trodAll_nil hA
  obtain ⟨rfl, rfl⟩ := trodVars_none hV
  have hargs : args = #[v0, v1, v2, v3, v4] := by apply Array.ext'; rw [ha0, ha1, ha2, ha3, ha4, hz1]
  subst hargs
  obtain ⟨l0, e0, c0⟩ := tr_agg Tryz.underlying24 (hval 0 24 v0 rfl rfl)
  obtain ⟨m0, h0⟩ := h0
  rw [c0] at h0
  clear c0
  obtain ⟨k, A, n, c, q0, hr, hn, hc, hk0, hk1, hk2, hke⟩ := op_Kept h0
  subst q0
  subst e0
  obtain ⟨commit, q1, hcr⟩ := tr_pint Tryz.underlying3 (hval 1 3 v1 rfl rfl)
  subst q1
  clear h1
  obtain ⟨view, q2, hvr⟩ := tr_pint Tryz.underlying3 (hval 2 3 v2 rfl rfl)
  subst q2
  clear h2
  obtain ⟨base, q3, hbr⟩ := tr_pint Tryz.underlying3 (hval 3 3 v3 rfl rfl)
  subst q3
  clear h3
  obtain ⟨m4, h4⟩ := h4
  obtain ⟨A2, n2, c2, mm4, xs4, q4, hn2, hc2, hr2, hx4⟩ := tr_psl Tryz.underlying22 co31 (by decide) (hval 4 22 v4 rfl rfl) h4
  subst q4
  clear h4
  obtain ⟨l, q4, hle⟩ := tr_list (f := Entry.cells) (p := Entry.ok) (fun y hy => by obtain ⟨z, hz⟩ := hy; exact op_Entry hz) hx4
  subst q4
  rw [List.length_map] at hn2
  refine Calls.mono (changeAdopts_ W W.heap.size k A n c hr (Nat.le_refl _) hn hc commit view base hcr l A2 n2 c2 hr2 hn2 hc2 (fun e he => (hle e he).1)) ?_
  rintro e W' ⟨v, rfl, rfl, g⟩
  exact ⟨_, rfl, law_post (t := 4) Tryz.laidOut (by kernel_rfl) rfl Tryz.underlying4 hW' rfl rfl g⟩
theorem changeAdopts_holds : Rows.ChangeAdoptsSaid :=
  OpenClaim.holds_of_wide 3 Tryz.f3 rfl rfl rfl rfl rfl rfl rfl ⟨rfl, rfl, rfl, rfl, rfl⟩ rfl rfl rfl rfl rfl (by kernel_rfl) Tryz.func3 jf_changeAdopts
    (of_decide_eq_true (by kernel_rfl)) (by unfold Func.isWrapper; first | (rw [if_pos (by decide +kernel)]; kernel_rfl) | (rw [if_neg (by decide +kernel)]; exact ⟨rfl, rfl⟩))
    (fun os started H enc _ => changeAdopts_lifted os started H enc)
#print axioms changeAdopts_holds
end Go.Proofs.YtfokljnhllflbaaGreat
