/- Part 4 of the proof of ChangeAdopts: C11, C12, C13, C14, C16, C17, Spec13, C18, Spec14, Spec15, C19, EngVote. -/
import Derived.Deep.Quiet
import Derived.Ground.NamesProg
import Derived.Ground.SlgcProg
import Derived.Ground.SlsfProg
import Derived.JoinedOf
import Derived.Laws.BytesString
import Derived.Laws.MakeOwn
import Derived.Laws.Strings
import Derived.Lib.AppendZeros
import Derived.Lib.ConvBytes
import Derived.Lib.Overlaps
import Derived.Maps.AppendAt
import Derived.OrdersHeld
import Derived.ProofKit
import Derived.Recover
import Derived.ScopeJumps
import Derived.Shelf.SlSortCmp.NoneTotal
import Derived.Shelf.SlSortCmp.WholeK
import Derived.Shelf.SlicesG.Cmp
import Derived.Shelf.Small.Bits
import Derived.Sort.OwnSortedInts
import Derived.StillTail
import Derived.Test.YtfokljnhllflbaaGreatProg
import Derived.WalkKit
import Derived.WalkLawsBesides
import Derived.WalkSpells
import Derived.Test.YtfokljnhllflbaaGreatPChangeAdopts2
set_option linter.unusedSimpArgs false
set_option linter.unusedVariables false
namespace Go.Proofs.YtfokljnhllflbaaGreat
open Go Go.Eng Go.RowKit
set_option maxHeartbeats 1000000 in
set_option maxRecDepth 20000 in
theorem may_e (w : World) (e : Entry) : Ret Tryz.prog 97 [(.agg (e.cells).toArray)] w (fun v w' => v = .bool (mayE e) ∧ w.grownBy w' none) := by
  refine Ret.body Tryz.func97 rfl rfl rfl ?_
  refine CW.seq (CW.region (RL.bx (cs := e.cells) rfl rfl rfl ?_))
  intro w1 b2 hb3 hz4 g5 o6
  refine za (.bool false) rfl (RL.nil (thn.n (CW.seq (CW.region (zg rfl (fa31_0 (b := ⟨b2, 0, none⟩) rfl rfl) (zl (.int .i64 e.num) lo3 o6 rfl (RL.call Tryz.call160 (within_table _ e.num 1 900000000) rfl rfl rfl ?_)))))))
  rintro _ _ ⟨rfl, rfl⟩
  rcases hb8 : (withinB e.num 1 900000000) with _ | _
  ·skip
   refine zm (.bool false) rfl (zo rfl (zo rfl (zo rfl (zF (.bool false) rfl (za (.bool false) rfl (RL.nil (thn.n (CW.seq (CW.seq (CW.region (zg rfl (fa31_2 (b := ⟨b2, 2, none⟩) rfl rfl) (zl (.int .i64 e.client) lo3 o6 rfl ?_))))))))))))
   refine RL.br (p := (e.client : Int) = (0 : Int)) rfl rfl rfl (fun r hr => Ex.eqD rfl rfl hr) (fun h9 => ?_) (fun h9 => ?_)
   ·skip
    refine RL.nil (thn.n (CW.condT rfl (CW.seq (CW.region (zm (.bool false) rfl (zm (.bool false) rfl (zo rfl (zo rfl (zo rfl (zF (.bool false) rfl (zm (.bool false) rfl (zo rfl (zo rfl (zo rfl ?_))))))))))))))
    refine zo rfl (zF (.bool false) rfl (za (.bool false) rfl (RL.nil (thn.n (CW.ret (thn.r (finQ.r (v := (.bool false)) (res1 rfl rfl) ?_)))))))
    exact ⟨ret_bool (by unfold mayE zOp; simp only [op_eq]; simp [hb8, h9]), (g5)⟩
   ·skip
    refine RL.nil (thn.n (CW.condF rfl (CW.skip (thn.n (CW.seq (CW.region (zm (.bool false) rfl (zm (.bool false) rfl (zo rfl (zo rfl (zo rfl (zF (.bool false) rfl (zm (.bool false) rfl (zo rfl (zo rfl (zo rfl ?_))))))))))))))))
    refine zF (.bool false) rfl (za (.bool false) rfl (RL.nil (thn.n (CW.ret (finQ.r (v := (.bool false)) (res1 rfl rfl) ?_)))))
    exact ⟨ret_bool (by unfold mayE zOp; simp only [op_eq]; simp [hb8, h9]), (g5)⟩
  ·have hw7 := withinB_t hb8
   refine zm (.bool true) rfl (zg rfl (fa31_1 (b := ⟨b2, 1, none⟩) rfl rfl) (zl (.int .i64 e.view) lo3 o6 rfl (RL.call Tryz.call160 (within_table _ e.view 0 900000000) rfl rfl rfl ?_)))
   rintro _ _ ⟨rfl, rfl⟩
   rcases hb11 : (withinB e.view 0 900000000) with _ | _
   ·skip
    refine zT (.bool false) rfl (za (.bool false) rfl (RL.nil (thn.n (CW.seq (CW.seq (CW.region (zg rfl (fa31_2 (b := ⟨b2, 2, none⟩) rfl rfl) (zl (.int .i64 e.client) lo3 o6 rfl ?_))))))))
    refine RL.br (p := (e.client : Int) = (0 : Int)) rfl rfl rfl (fun r hr => Ex.eqD rfl rfl hr) (fun h12 => ?_) (fun h12 => ?_)
    ·skip
     refine RL.nil (thn.n (CW.condT rfl (CW.seq (CW.region (zm (.bool false) rfl (zm (.bool false) rfl (zo rfl (zo rfl (zo rfl (zF (.bool false) rfl (zm (.bool false) rfl (zo rfl (zo rfl (zo rfl ?_))))))))))))))
     refine zo rfl (zF (.bool false) rfl (za (.bool false) rfl (RL.nil (thn.n (CW.ret (thn.r (finQ.r (v := (.bool false)) (res1 rfl rfl) ?_)))))))
     exact ⟨ret_bool (by unfold mayE zOp; simp only [op_eq]; simp [hb8, hb11, h12]), (g5)⟩
    ·skip
     refine RL.nil (thn.n (CW.condF rfl (CW.skip (thn.n (CW.seq (CW.region (zm (.bool false) rfl (zm (.bool false) rfl (zo rfl (zo rfl (zo rfl (zF (.bool false) rfl (zm (.bool false) rfl (zo rfl (zo rfl (zo rfl ?_))))))))))))))))
     refine zF (.bool false) rfl (za (.bool false) rfl (RL.nil (thn.n (CW.ret (finQ.r (v := (.bool false)) (res1 rfl rfl) ?_)))))
     exact ⟨ret_bool (by unfold mayE zOp; simp only [op_eq]; simp [hb8, hb11, h12]), (g5)⟩
   ·have hw10 := withinB_t hb11
    refine zT (.bool true) rfl (za (.bool true) rfl (RL.nil (thn.n (CW.seq (CW.seq (CW.region (zg rfl (fa31_2 (b := ⟨b2, 2, none⟩) rfl rfl) (zl (.int .i64 e.client) lo3 o6 rfl ?_))))))))
    refine RL.br (p := (e.client : Int) = (0 : Int)) rfl rfl rfl (fun r hr => Ex.eqD rfl rfl hr) (fun h13 => ?_) (fun h13 => ?_)
    ·skip
     refine RL.nil (thn.n (CW.condT rfl (CW.seq (CW.region (zm (.bool true) rfl (zm (.bool true) rfl (zg rfl (fa31_3 (b := ⟨b2, 3, none⟩) rfl rfl) (zl (.int .i64 e.seq) lo3 o6 rfl ?_))))))))
     refine RL.br (p := (e.seq : Int) = (0 : Int)) rfl rfl rfl (fun r hr => Ex.eqD rfl rfl hr) (fun h14 => ?_) (fun h14 => ?_)
     ·skip
      refine zT (.bool true) rfl (zm (.bool true) rfl (zg rfl (fa31_4 (b := ⟨b2, 4, none⟩) rfl rfl) (zg rfl (Ex.ldv rfl (loadCN (cs := [(.int .i64 e.op.kind), (.int .i64 e.op.h), (.int .i64 e.op.i), (.int .i64 e.op.n), (.int .i64 e.op.k), (.int .i64 e.op.v), (.int .i64 e.op.t)]) wh29 (o6.sub 4 7))) (zg rfl (Ex.bd (cs := [(.int .i64 0), (.int .i64 0), (.int .i64 0), (.int .i64 0), (.int .i64 0), (.int .i64 0), (.int .i64 0)]) bd29 rfl) ?_))))
      refine RL.br (p := (e.op.kind : Int) = (0 : Int) ∧ (e.op.h : Int) = (0 : Int) ∧ (e.op.i : Int) = (0 : Int) ∧ (e.op.n : Int) = (0 : Int) ∧ (e.op.k : Int) = (0 : Int) ∧ (e.op.v : Int) = (0 : Int) ∧ (e.op.t : Int) = (0 : Int)) rfl rfl rfl (fun r hr => Ex.eqS (xs := [(.int .i64 e.op.kind), (.int .i64 e.op.h), (.int .i64 e.op.i), (.int .i64 e.op.n), (.int .i64 e.op.k), (.int .i64 e.op.v), (.int .i64 e.op.t)]) (ys := [(.int .i64 0), (.int .i64 0), (.int .i64 0), (.int .i64 0), (.int .i64 0), (.int .i64 0), (.int .i64 0)]) Tryz.eqGuardType29 (eqT29 hr) rfl rfl) (fun h15 => ?_) (fun h15 => ?_)
      ·skip
       refine zT (.bool true) rfl (za (.bool true) rfl (RL.nil (thn.n (CW.ret (thn.r (finQ.r (v := (.bool true)) (res1 rfl rfl) ?_))))))
       exact ⟨ret_bool (by unfold mayE zOp; simp only [op_eq]; simp [hb8, hb11, h13, h14, h15]), (g5)⟩
      ·skip
       refine zT (.bool false) rfl (za (.bool false) rfl (RL.nil (thn.n (CW.ret (thn.r (finQ.r (v := (.bool false)) (res1 rfl rfl) ?_))))))
       exact ⟨ret_bool (by unfold mayE zOp; simp only [op_eq]; simp [hb8, hb11, h13, h14, h15]), (g5)⟩
     ·skip
      refine zT (.bool false) rfl (zm (.bool false) rfl (zo rfl (zo rfl (zo rfl (zo rfl (zF (.bool false) rfl (za (.bool false) rfl (RL.nil (thn.n (CW.ret (thn.r (finQ.r (v := (.bool false)) (res1 rfl rfl) ?_))))))))))))
      exact ⟨ret_bool (by unfold mayE zOp; simp only [op_eq]; simp [hb8, hb11, h13, h14]), (g5)⟩
    ·skip
     refine RL.nil (thn.n (CW.condF rfl (CW.skip (thn.n (CW.seq (CW.region (zm (.bool true) rfl (zm (.bool true) rfl (zg rfl (fa31_2 (b := ⟨b2, 2, none⟩) rfl rfl) (zl (.int .i64 e.client) lo3 o6 rfl (RL.call Tryz.call160 (within_table _ e.client 1 4) rfl rfl rfl ?_)))))))))))
     rintro _ _ ⟨rfl, rfl⟩
     rcases hb17 : (withinB e.client 1 4) with _ | _
     ·skip
      refine zT (.bool false) rfl (zm (.bool false) rfl (zo rfl (zo rfl (zo rfl (zF (.bool false) rfl (za (.bool false) rfl (RL.nil (thn.n (CW.ret (finQ.r (v := (.bool false)) (res1 rfl rfl) ?_))))))))))
      exact ⟨ret_bool (by unfold mayE zOp; simp only [op_eq]; simp [hb8, hb11, h13, hb17]), (g5)⟩
     ·have hw16 := withinB_t hb17
      refine zT (.bool true) rfl (zm (.bool true) rfl (zg rfl (fa31_3 (b := ⟨b2, 3, none⟩) rfl rfl) (zl (.int .i64 e.seq) lo3 o6 rfl (RL.call Tryz.call160 (within_table _ e.seq 1 1000000) rfl rfl rfl ?_))))
      rintro _ _ ⟨rfl, rfl⟩
      rcases hb19 : (withinB e.seq 1 1000000) with _ | _
      ·skip
       refine zT (.bool false) rfl (za (.bool false) rfl (RL.nil (thn.n (CW.ret (finQ.r (v := (.bool false)) (res1 rfl rfl) ?_)))))
       exact ⟨ret_bool (by unfold mayE zOp; simp only [op_eq]; simp [hb8, hb11, h13, hb17, hb19]), (g5)⟩
      ·have hw18 := withinB_t hb19
       refine zT (.bool true) rfl (za (.bool true) rfl (RL.nil (thn.n (CW.ret (finQ.r (v := (.bool true)) (res1 rfl rfl) ?_)))))
       exact ⟨ret_bool (by unfold mayE zOp; simp only [op_eq]; simp [hb8, hb11, h13, hb17, hb19]), (g5)⟩
set_option maxHeartbeats 400000 in
set_option maxRecDepth 20000 in
theorem follows_ (w : World) (s : Sl) (es : List Entry) (fr : Int) (B : Nat) (hn : s.n = es.length) (hm : s.n ≤ 1099511627776) (hr : Rd w B 11 s.a (ents es)) : Ret Tryz.prog 123 [(.slice s.a s.n s.c), (.int .i64 fr)] w (fun v w' => v = .bool (follB es fr) ∧ w.grownBy w' none) := by
  refine Ret.body Tryz.func123 rfl rfl rfl ?_
  refine CW.seq (CW.region (za (.bool false) rfl (RL.nil (thn.n (CW.seq (CW.seq (CW.region (zm (.slice s.a s.n s.c) rfl (zg rfl (Ex.len Tryz.underlying22 rfl) (zm (.int .i64 0) rfl (RL.nil (thn.n (CW.block ?_)))))))))))))
  refine CW.loop (fun t => (Nat.ble 4 t && Nat.ble t 6) || (Nat.ble 9 t && Nat.ble t 21)) (fun n ρ wl => ∃ k : Nat, ρ 9 = (.int .i64 (k : Int)) ∧ n = s.n - k ∧ World.grownBy w wl none ∧ k ≤ s.n ∧ follB (es.take k) fr = true) (s.n) ?aa0 ?bb0
  case aa0 => exact ⟨0, rfl, rfl, grow_self _ _, Nat.zero_le _, rfl⟩
  case bb0 =>
   rintro n3 ρ0 w1 ho4 ⟨k, hs0_9, hn0, g2, hk, hf⟩
   obtain ⟨j0, rfl⟩ := ho4.shape1 hs0_9
   clear ho4 hs0_9
   subst hn0
   have z5 := g2.size
   refine CW.seq (CW.region ?_)
   refine RL.br (p := ((k : Int) : Int) < ((s.n : Nat) : Int)) rfl rfl rfl (fun r hr => Ex.lt rfl rfl hr) (fun h6 => ?_) (fun h6 => ?_)
   ·skip
    refine RL.nil (thn.n (CW.seq (CW.condT rfl (CW.skip (thn.n (CW.seq (CW.block (CW.seq (CW.region (zm (.int .i64 (k : Int)) rfl ?_))))))))))
    have r7 := (hr.st0 g2)
    obtain ⟨e8, he9⟩ : ∃ e, (es)[k]? = some e := ⟨_, List.getElem?_eq_getElem (by omega)⟩
    obtain ⟨ad10, hA11, hB12, c13⟩ := r7.at_ (ents_get he9)
    have hl14 := Eng.lt_len (ents_get he9)
    refine zg rfl (Ex.ix (b := ad10.add (k * 11)) (i := k) Tryz.underlying22 Tryz.sizeOf31 (by rw [← hA11]; rfl) rfl (by omega) (by omega) rfl) (zg rfl (Ex.ldv rfl (loadCN (cs := e8.cells) wh31 c13)) (RL.al (cs := [(.int .i64 0), (.int .i64 0), (.int .i64 0), (.int .i64 0), (.int .i64 0), (.int .i64 0), (.int .i64 0), (.int .i64 0), (.int .i64 0), (.int .i64 0), (.int .i64 0)]) Tryz.zeroValue31 rfl rfl rfl ?_))
    intro w15 b16 hb17 hz18 g19 o20
    refine za (.int .i64 (k : Int)) rfl (RL.st (vs := e8.cells) (cs' := e8.cells) Tryz.sizeOf31 o20 rfl rfl rfl rfl rfl rfl ?_)
    intro w21 hz22 g23 o24
    refine RL.nil (thn.n (CW.seq (CW.region (zg rfl (fa31_0 (b := ⟨b16, 0, none⟩) rfl rfl) (zl (.int .i64 e8.num) lo3 o24 rfl (zg rfl (Ex.sub_ (r := IntKind.i64.wrap (e8.num - 1)) rfl rfl rfl) (zm (.int .i64 (k : Int)) rfl (zg rfl (Ex.sub_ (r := IntKind.i64.wrap ((IntKind.i64.wrap (e8.num - 1)) - (k : Int))) rfl rfl rfl) (zm (.int .i64 fr) rfl ?_)))))))))
    refine RL.br (p := (IntKind.i64.wrap ((IntKind.i64.wrap (e8.num - 1)) - (k : Int)) : Int) ≠ (fr : Int)) rfl rfl rfl (fun r hr => Ex.neD rfl rfl hr) (fun h25 => ?_) (fun h25 => ?_)
    ·skip
     refine RL.nil (thn.n (CW.condT rfl (CW.seq (CW.region (za (.bool false) rfl (RL.nil (thn.n (CW.ret (inB.r (thn.r (thn.r (inB.r (thn.r (finQ.r (v := (.bool false)) (res1 rfl rfl) ?_))))))))))))))
     exact ⟨ret_bool (by unfold follB; rw [allI_stop he9 0]; simpa using h25), (grow_new (grow_trans (g2) g19) g23 (by omega))⟩
    ·skip
     refine RL.nil (thn.n (CW.condF rfl (CW.skip (inB.n (thn.n (CW.region (zg rfl (Ex.add (r := (k : Int) + 1) rfl rfl (w64 (by omega) (by omega))) (zm (.int .i64 ((k : Int) + 1)) rfl (RL.nil (thn.n ?_))))))))))
     refine ⟨(by repeat (first | exact Out.mix _ _ | exact Out.refl _ _ | refine Out.up ?_ rfl _)), _, ?_, ⟨k + 1, rfl, rfl, (grow_new (grow_trans (g2) g19) g23 (by omega)), by omega, by unfold follB at *; rw [allI_take he9 0, hf]; simp only [Nat.zero_add, Bool.true_and, decide_eq_true_eq]; exact Decidable.not_not.1 h25⟩⟩
     omega
   ·skip
    refine RL.nil (thn.n (CW.seq (CW.condF rfl (CW.exit (thn.x (thn.x (inB.hit (thn.n (CW.seq (CW.region (za (.bool true) rfl (RL.nil (thn.n (CW.ret (finQ.r (v := (.bool true)) (res1 rfl rfl) ?_)))))))))))))))
    exact ⟨ret_bool (by rw [← hf, List.take_of_length_le (by omega)]), (g2)⟩
set_option maxHeartbeats 2000000 in
set_option maxRecDepth 20000 in
theorem opCheck_ (w : World) (B : Nat) (rk : RKept) (k : Kept) (H : KeptR w B rk k) (hB : B ≤ w.heap.size) : Ret Tryz.prog 57 [(.agg (rk.cells).toArray)] w (fun v w' => v = .int .i64 (if keptB k then 0 else 1) ∧ w.grownBy w' none) := by
  have hkv := H.view
  have hkn := H.normal
  have hkb := H.base
  have him := H.image
  have hil := H.im
  have hen := H.en
  have hem := H.em
  have hec := H.ec
  refine Ret.body Tryz.func57 rfl rfl rfl ?_
  refine CW.seq (CW.region (RL.bx (cs := rk.cells) rfl rfl rfl ?_))
  intro w1 b2 hb3 hz4 g5 o6
  refine za (.int .i64 0) rfl (RL.nil (thn.n (CW.scope (l := 0) rfl (fun _ _ _ h => h) (CW.seq (CW.region (za (.int .i64 0) rfl (RL.nil (thn.n (CW.seq (CW.seq (CW.region (zg rfl (fa24_0 (b := ⟨b2, 0, none⟩) rfl rfl) (zl (.int .i64 rk.view) lo3 o6 rfl (RL.call Tryz.call122 (within_oplog _ rk.view 0 900000000) rfl rfl rfl ?_))))))))))))))
  rintro _ _ ⟨rfl, rfl⟩
  rcases hb8 : (withinB rk.view 0 900000000) with _ | _
  ·skip
   refine zg rfl (Ex.not (b := false) rfl) (zm (.bool true) rfl (zo rfl (zo rfl (zo rfl (zo rfl (zo rfl (zo rfl (zT (.bool true) rfl (zm (.bool true) rfl (zo rfl ?_))))))))))
   refine zo rfl (zo rfl (zo rfl (zT (.bool true) rfl (zm (.bool true) rfl (zo rfl (zo rfl (zo rfl (zo rfl (zT (.bool true) rfl (zm (.bool true) rfl ?_))))))))))
   refine zo rfl (zo rfl (zo rfl (zo rfl (zo rfl (zo rfl (zT (.bool true) rfl (RL.nil (thn.n (CW.condT rfl (CW.goto (thn.g (jm.g (CW.seq (CW.skip (thn.n (CW.seq ?_))))))))))))))))
   refine CW.region (za (.int .i64 1) rfl (RL.nil (thn.n (CW.ret (finQ.r (v := (.int .i64 1)) (res1 rfl rfl) ?_)))))
   have hkk : keptB k = false := by
     unfold keptB
     rw [← hkv, ← hkn, ← hkb]
     first | (simp [hb8]; done) | (rw [decide_eq_false (by omega : ¬ k.ents.length ≤ 4000)]; simp)
   exact ⟨ret_int (by rw [hkk]; rfl), (g5)⟩
  ·have hw7 := withinB_t hb8
   refine zg rfl (Ex.not (b := true) rfl) (zm (.bool false) rfl (zg rfl (fa24_1 (b := ⟨b2, 1, none⟩) rfl rfl) (zl (.int .i64 rk.normal) lo3 o6 rfl (zg rfl (fa24_0 (b := ⟨b2, 0, none⟩) rfl rfl) (zl (.int .i64 rk.view) lo3 o6 rfl (RL.call Tryz.call122 (within_oplog _ rk.normal 0 rk.view) rfl rfl rfl ?_))))))
   rintro _ _ ⟨rfl, rfl⟩
   rcases hb10 : (withinB rk.normal 0 rk.view) with _ | _
   ·skip
    refine zg rfl (Ex.not (b := false) rfl) (zF (.bool true) rfl (zm (.bool true) rfl (zo rfl (zo rfl (zo rfl (zo rfl (zT (.bool true) rfl (zm (.bool true) rfl (zo rfl (zo rfl ?_))))))))))
    refine zo rfl (zo rfl (zT (.bool true) rfl (zm (.bool true) rfl (zo rfl (zo rfl (zo rfl (zo rfl (zo rfl (zo rfl (zT (.bool true) rfl ?_))))))))))
    refine RL.nil (thn.n (CW.condT rfl (CW.goto (thn.g (jm.g (CW.seq (CW.skip (thn.n (CW.seq (CW.region (za (.int .i64 1) rfl (RL.nil (thn.n (CW.ret (finQ.r (v := (.int .i64 1)) (res1 rfl rfl) ?_)))))))))))))))
    have hkk : keptB k = false := by
      unfold keptB
      rw [← hkv, ← hkn, ← hkb]
      first | (simp [hb8, hb10]; done) | (rw [decide_eq_false (by omega : ¬ k.ents.length ≤ 4000)]; simp)
    exact ⟨ret_int (by rw [hkk]; rfl), (g5)⟩
   ·have hw9 := withinB_t hb10
    refine zg rfl (Ex.not (b := true) rfl) (zF (.bool false) rfl (zm (.bool false) rfl (zg rfl (fa24_2 (b := ⟨b2, 2, none⟩) rfl rfl) (zl (.int .i64 rk.base) lo3 o6 rfl (RL.call Tryz.call122 (within_oplog _ rk.base 0 900000000) rfl rfl rfl ?_)))))
    rintro _ _ ⟨rfl, rfl⟩
    rcases hb12 : (withinB rk.base 0 900000000) with _ | _
    ·skip
     refine zg rfl (Ex.not (b := false) rfl) (zF (.bool true) rfl (zm (.bool true) rfl (zo rfl (zo rfl (zo rfl (zo rfl (zT (.bool true) rfl (zm (.bool true) rfl (zo rfl (zo rfl ?_))))))))))
     refine zo rfl (zo rfl (zo rfl (zo rfl (zT (.bool true) rfl (RL.nil (thn.n (CW.condT rfl (CW.goto (thn.g (jm.g (CW.seq (CW.skip (thn.n (CW.seq (CW.region (za (.int .i64 1) rfl ?_))))))))))))))))
     refine RL.nil (thn.n (CW.ret (finQ.r (v := (.int .i64 1)) (res1 rfl rfl) ?_)))
     have hkk : keptB k = false := by
       unfold keptB
       rw [← hkv, ← hkn, ← hkb]
       first | (simp [hb8, hb10, hb12]; done) | (rw [decide_eq_false (by omega : ¬ k.ents.length ≤ 4000)]; simp)
     exact ⟨ret_int (by rw [hkk]; rfl), (g5)⟩
    ·have hw11 := withinB_t hb12
     refine zg rfl (Ex.not (b := true) rfl) (zF (.bool false) rfl (zm (.bool false) rfl (zg rfl (fa24_4 (b := ⟨b2, 4, none⟩) rfl rfl) (zl (.slice rk.ents.a rk.ents.n rk.ents.c) lo22 o6 rfl (zg rfl (Ex.len Tryz.underlying22 rfl) ?_)))))
     refine RL.br (p := (4000 : Int) < ((rk.ents.n : Nat) : Int)) rfl rfl rfl (fun r hr => Ex.gt rfl rfl hr) (fun h13 => ?_) (fun h13 => ?_)
     ·skip
      refine zF (.bool true) rfl (zm (.bool true) rfl (zo rfl (zo rfl (zo rfl (zo rfl (zo rfl (zo rfl (zT (.bool true) rfl (RL.nil (thn.n (CW.condT rfl (CW.goto (thn.g (jm.g ?_))))))))))))))
      refine CW.seq (CW.skip (thn.n (CW.seq (CW.region (za (.int .i64 1) rfl (RL.nil (thn.n (CW.ret (finQ.r (v := (.int .i64 1)) (res1 rfl rfl) ?_)))))))))
      have hkk : keptB k = false := by
        unfold keptB
        rw [← hkv, ← hkn, ← hkb]
        first | (simp [hb8, hb10, hb12]; done) | (rw [decide_eq_false (by omega : ¬ k.ents.length ≤ 4000)]; simp)
      exact ⟨ret_int (by rw [hkk]; rfl), (g5)⟩
     ·skip
      refine zF (.bool false) rfl (zm (.bool false) rfl (zg rfl (fa24_4 (b := ⟨b2, 4, none⟩) rfl rfl) (zl (.slice rk.ents.a rk.ents.n rk.ents.c) lo22 o6 rfl (zg rfl (fa24_2 (b := ⟨b2, 2, none⟩) rfl rfl) (zl (.int .i64 rk.base) lo3 o6 rfl ?_)))))
      have h14 := (H.st0 g5)
      refine RL.call Tryz.call123 (follows_ _ ⟨rk.ents.a, rk.ents.n, rk.ents.c⟩ k.ents rk.base _ (by first | assumption | omega) (by first | assumption | omega) h14.er) rfl rfl rfl ?_
      rintro _ w15 ⟨rfl, g16⟩
      have z17 := g16.size
      rcases hb18 : (follB k.ents rk.base) with _ | _
      ·skip
       refine zg rfl (Ex.not (b := false) rfl) (zF (.bool true) rfl (RL.nil (thn.n (CW.condT rfl (CW.goto (thn.g (jm.g (CW.seq (CW.skip (thn.n (CW.seq (CW.region (za (.int .i64 1) rfl (RL.nil (thn.n (CW.ret (finQ.r (v := (.int .i64 1)) (res1 rfl rfl) ?_)))))))))))))))))
       have hkk : keptB k = false := by
         unfold keptB
         rw [← hkv, ← hkn, ← hkb]
         first | (simp [hb8, hb10, hb12, hb18]; done) | (rw [decide_eq_false (by omega : ¬ k.ents.length ≤ 4000)]; simp)
       exact ⟨ret_int (by rw [hkk]; rfl), (grow_trans (g5) g16)⟩
      ·skip
       refine zg rfl (Ex.not (b := true) rfl) (zF (.bool false) rfl (RL.nil (thn.n (CW.condF rfl (CW.skip (thn.n (CW.seq (CW.seq (CW.region (zg rfl (fa24_4 (b := ⟨b2, 4, none⟩) rfl rfl) ?_))))))))))
       have o19 := (o6.st0 g16)
       refine zl (.slice rk.ents.a rk.ents.n rk.ents.c) lo22 o19 rfl (zg rfl (Ex.len Tryz.underlying22 rfl) (zm (.int .i64 0) rfl (RL.nil (thn.n (CW.block ?_)))))
       refine CW.loop (fun t => Nat.beq t 3 || Nat.beq t 5 || (Nat.ble 43 t && Nat.ble t 61)) (fun n ρ wl => ∃ (j : Nat) (v : Int), ρ 43 = (.int .i64 (j : Int)) ∧ ρ 3 = (.int .i64 v) ∧ n = rk.ents.n - j ∧ World.grownBy w15 wl none ∧ j ≤ rk.ents.n ∧ entsB rk.normal v (k.ents.drop j) = entsB rk.normal 0 k.ents) (rk.ents.n) ?aa0 ?bb0
       case aa0 => exact ⟨0, 0, rfl, rfl, rfl, grow_self _ _, Nat.zero_le _, rfl⟩
       case bb0 =>
        rintro n22 ρ0 w20 ho23 ⟨j, v, hs0_43, hs0_3, hn0, g21, hj, hE⟩
        obtain ⟨j0, rfl⟩ := ho23.shape2 hs0_43 hs0_3
        clear ho23 hs0_43 hs0_3
        subst hn0
        have z24 := g21.size
        refine CW.seq (CW.region ?_)
        refine RL.br (p := ((j : Int) : Int) < ((rk.ents.n : Nat) : Int)) rfl rfl rfl (fun r hr => Ex.lt rfl rfl hr) (fun h25 => ?_) (fun h25 => ?_)
        ·skip
         refine RL.nil (thn.n (CW.seq (CW.condT rfl (CW.skip (thn.n (CW.seq (CW.block (CW.seq (CW.region ?_)))))))))
         have h26 := ((h14.st0 g16).st0 g21)
         obtain ⟨e27, he28⟩ : ∃ e, (k.ents)[j]? = some e := ⟨_, List.getElem?_eq_getElem (by omega)⟩
         obtain ⟨ad29, hA30, hB31, c32⟩ := h26.er.at_ (ents_get he28)
         have hl33 := Eng.lt_len (ents_get he28)
         refine zg rfl (Ex.ix (b := ad29.add (j * 11)) (i := j) Tryz.underlying22 Tryz.sizeOf31 (by rw [← hA30]; rfl) rfl (by omega) (by omega) rfl) (zg rfl (Ex.ldv rfl (loadCN (cs := e27.cells) wh31 c32)) (RL.al (cs := [(.int .i64 0), (.int .i64 0), (.int .i64 0), (.int .i64 0), (.int .i64 0), (.int .i64 0), (.int .i64 0), (.int .i64 0), (.int .i64 0), (.int .i64 0), (.int .i64 0)]) Tryz.zeroValue31 rfl rfl rfl ?_))
         intro w34 b35 hb36 hz37 g38 o39
         refine RL.st (vs := e27.cells) (cs' := e27.cells) Tryz.sizeOf31 o39 rfl rfl rfl rfl rfl rfl ?_
         intro w40 hz41 g42 o43
         refine RL.nil (thn.n (CW.seq (CW.seq (CW.region (zg rfl (Ex.ldv rfl (loadCN (cs := e27.cells) wh31 o43.cl)) (RL.call Tryz.call97 (may_e _ e27) rfl rfl rfl ?_))))))
         rintro _ w44 ⟨rfl, g45⟩
         have z46 := g45.size
         rcases hb47 : (mayE e27) with _ | _
         ·skip
          refine zg rfl (Ex.not (b := false) rfl) (zm (.bool true) rfl (zo rfl (zo rfl (zo rfl (zo rfl (zo rfl (zo rfl (zo rfl (zT (.bool true) rfl (RL.nil (thn.n (CW.condT rfl (CW.goto ?_)))))))))))))
          refine thn.g (inB.g (thn.g (thn.g (inB.g (thn.g (jm.g (CW.seq (CW.skip (thn.n (CW.seq (CW.region (za (.int .i64 1) rfl (RL.nil (thn.n (CW.ret (finQ.r (v := (.int .i64 1)) (res1 rfl rfl) ?_))))))))))))))))
          have hkk : keptB k = false := by
            have hE2 := entsB_no hE he28 (by first | exact .inl (by assumption) | exact .inr (by assumption))
            unfold keptB
            rw [← hkv, ← hkn, ← hkb, hE2]
            simp
          exact ⟨ret_int (by rw [hkk]; rfl), (grow_trans (grow_new (grow_trans (grow_trans (grow_trans (g5) g16) g21) g38) g42 (by omega)) g45)⟩
         ·skip
          refine zg rfl (Ex.not (b := true) rfl) (zm (.bool false) rfl (zg rfl (fa31_1 (b := ⟨b35, 1, none⟩) rfl rfl) ?_))
          have o48 := (o43.st0 g45)
          refine zl (.int .i64 e27.view) lo3 o48 rfl (zm (.int .i64 v) rfl (zg rfl (fa24_1 (b := ⟨b2, 1, none⟩) rfl rfl) ?_))
          have o49 := ((((o19.st0 g21).st0 g38).st1 g42 (by omega)).st0 g45)
          refine zl (.int .i64 rk.normal) lo3 o49 rfl (RL.call Tryz.call122 (within_oplog _ e27.view v rk.normal) rfl rfl rfl ?_)
          rintro _ _ ⟨rfl, rfl⟩
          rcases hb51 : (withinB e27.view v rk.normal) with _ | _
          ·skip
           refine zg rfl (Ex.not (b := false) rfl) (zF (.bool true) rfl (RL.nil (thn.n (CW.condT rfl (CW.goto (thn.g (inB.g (thn.g (thn.g (inB.g (thn.g (jm.g (CW.seq (CW.skip (thn.n (CW.seq (CW.region (za (.int .i64 1) rfl (RL.nil (thn.n (CW.ret (finQ.r (v := (.int .i64 1)) (res1 rfl rfl) ?_))))))))))))))))))))))
           have hkk : keptB k = false := by
             have hE2 := entsB_no hE he28 (by first | exact .inl (by assumption) | exact .inr (by assumption))
             unfold keptB
             rw [← hkv, ← hkn, ← hkb, hE2]
             simp
           exact ⟨ret_int (by rw [hkk]; rfl), (grow_trans (grow_new (grow_trans (grow_trans (grow_trans (g5) g16) g21) g38) g42 (by omega)) g45)⟩
          ·have hw50 := withinB_t hb51
           refine zg rfl (Ex.not (b := true) rfl) (zF (.bool false) rfl (RL.nil (thn.n (CW.condF rfl (CW.skip (thn.n (CW.region (zg rfl (fa31_1 (b := ⟨b35, 1, none⟩) rfl rfl) (zl (.int .i64 e27.view) lo3 o48 rfl (za (.int .i64 e27.view) rfl (RL.nil (inB.n (thn.n (CW.region (zg rfl (Ex.add (r := (j : Int) + 1) rfl rfl (w64 (by omega) (by omega))) (zm (.int .i64 ((j : Int) + 1)) rfl (RL.nil (thn.n ?_))))))))))))))))))
           refine ⟨(by repeat (first | exact Out.mix _ _ | exact Out.refl _ _ | refine Out.up ?_ rfl _)), _, ?_, ⟨j + 1, _, rfl, rfl, rfl, (grow_trans (grow_new (grow_trans (g21) g38) g42 (by omega)) g45), by omega, entsB_go hE he28 (by assumption) (by assumption)⟩⟩
           omega
        ·skip
         refine RL.nil (thn.n (CW.seq (CW.condF rfl (CW.exit (thn.x (thn.x (inB.hit (thn.n (CW.seq (CW.seq (CW.region (zg rfl (fa24_3 (b := ⟨b2, 3, none⟩) rfl rfl) ?_))))))))))))
         have o52 := (o19.st0 g21)
         refine zl (.string rk.image) lo9 o52 rfl (RL.s2bT (l := k.image) Tryz.underlying9 Tryz.underlying97 Tryz.underlying5 (by show Value.string rk.image = _; rw [him]) rfl rfl ?_)
         intro w53 b54 c55 hb56 hz57 g58 rd59 hc60
         refine RL.call Tryz.call124 (getState_ _ _ _ _ _ _ rd59 rfl (by omega) (by omega) (by omega)) rfl rfl rfl ?_
         rintro _ w69 (⟨s61, rs62, ros63, rfl, g70, hget65, hst66, S67⟩ | ⟨rfl, g72, hget68⟩)
         ·have z71 := g70.size
          refine zm (.tuple #[(.agg (rs62.cells).toArray), (.int .i64 0)]) rfl (zx (.agg (rs62.cells).toArray) rfl (zx (.int .i64 0) rfl (RL.al (cs := [(.int .i64 0), (.slice none 0 0), (.int .i64 0), (.int .i64 0), (.int .i64 0), (.int .i64 0), (.int .i64 0), (.slice none 0 0), (.slice none 0 0)]) Tryz.zeroValue50 rfl rfl rfl ?_)))
          intro w74 b75 hb76 hz77 g78 o79
          refine RL.st (vs := rs62.cells) (cs' := rs62.cells) Tryz.sizeOf50 o79 rfl rfl rfl rfl rfl rfl ?_
          intro w80 hz81 g82 o83
          refine za (.int .i64 0) rfl (RL.nil (thn.n (CW.seq (CW.region (zm (.int .i64 0) rfl (zg rfl (Ex.eqD (r := true) rfl rfl (by decide)) (RL.nil (thn.n (CW.condT rfl (CW.seq (CW.region (za (.int .i64 0) rfl (RL.nil (thn.n (CW.ret (thn.r (jm.r (finQ.r (v := (.int .i64 0)) (res1 rfl rfl) ?_))))))))))))))))))
          have hkk : keptB k = true := by
            have hE2 := entsB_end hE (by omega)
            unfold keptB
            rw [← hkv, ← hkn, ← hkb, hE2, hget65]
            simp [hb8, hb10, hb12, hb18]; omega
          exact ⟨ret_int (by rw [hkk]; rfl), (grow_new (grow_trans (grow_trans (grow_trans (grow_trans (grow_trans (g5) g16) g21) g58) g70) g78) g82 (by omega))⟩
         ·have z73 := g72.size
          refine zm (.tuple #[(.agg (zState).toArray), (.int .i64 60)]) rfl (zx (.agg (zState).toArray) rfl (zx (.int .i64 60) rfl (RL.al (cs := [(.int .i64 0), (.slice none 0 0), (.int .i64 0), (.int .i64 0), (.int .i64 0), (.int .i64 0), (.int .i64 0), (.slice none 0 0), (.slice none 0 0)]) Tryz.zeroValue50 rfl rfl rfl ?_)))
          intro w84 b85 hb86 hz87 g88 o89
          refine RL.st (vs := zState) (cs' := zState) Tryz.sizeOf50 o89 rfl rfl rfl rfl rfl rfl ?_
          intro w90 hz91 g92 o93
          refine za (.int .i64 60) rfl (RL.nil (thn.n (CW.seq (CW.region (zm (.int .i64 60) rfl (zg rfl (Ex.eqD (r := false) rfl rfl (by decide)) (RL.nil (thn.n (CW.condF rfl (CW.skip (thn.n (CW.seq (CW.label (thn.n (CW.seq (CW.region (za (.int .i64 1) rfl (RL.nil (thn.n (CW.ret (jm.r (finQ.r (v := (.int .i64 1)) (res1 rfl rfl) ?_))))))))))))))))))))))
          have hkk : keptB k = false := by
            unfold keptB
            rw [hget68]
            simp
          exact ⟨ret_int (by rw [hkk]; rfl), (grow_new (grow_trans (grow_trans (grow_trans (grow_trans (grow_trans (g5) g16) g21) g58) g72) g88) g92 (by omega))⟩
end Go.Proofs.YtfokljnhllflbaaGreat
namespace Go.Proofs.YtfokljnhllflbaaGreat
open Go Go.Eng Go.RowKit
set_option maxHeartbeats 400000 in
set_option maxRecDepth 20000 in
theorem last_ (w : World) (B : Nat) (rk : RKept) (k : Kept) (H : KeptR w B rk k) (hB : B ≤ w.heap.size) (hk : keptB k = true) : Ret Tryz.prog 125 [(.agg (rk.cells).toArray)] w (fun v w' => v = .int .i64 (lastK k) ∧ w.grownBy w' none) := by
  have hkv := H.view
  have hkn := H.normal
  have hkb := H.base
  have him := H.image
  have hil := H.im
  have hen := H.en
  have hem := H.em
  have hec := H.ec
  have hkt := keptB_t hk
  refine Ret.body Tryz.func125 rfl rfl rfl ?_
  refine CW.seq (CW.region (RL.bx (cs := rk.cells) rfl rfl rfl ?_))
  intro w1 b2 hb3 hz4 g5 o6
  refine za (.int .i64 0) rfl (RL.nil (thn.n (CW.seq (CW.region (zg rfl (fa24_2 (b := ⟨b2, 2, none⟩) rfl rfl) (zl (.int .i64 rk.base) lo3 o6 rfl (zg rfl (fa24_4 (b := ⟨b2, 4, none⟩) rfl rfl) (zl (.slice rk.ents.a rk.ents.n rk.ents.c) lo22 o6 rfl (zg rfl (Ex.len Tryz.underlying22 rfl) (zg rfl (Ex.add (r := rk.base + (rk.ents.n : Nat)) rfl rfl (w64 (by omega) (by omega))) (za (.int .i64 (rk.base + (rk.ents.n : Nat))) rfl (RL.nil (thn.n (CW.ret (finQ.r (v := (.int .i64 (rk.base + (rk.ents.n : Nat)))) (res1 rfl rfl) ?_)))))))))))))))
  exact ⟨ret_int (by unfold lastK; omega), (g5)⟩
set_option maxHeartbeats 400000 in
set_option maxRecDepth 20000 in
theorem Last_ (w : World) (B : Nat) (rk : RKept) (k : Kept) (H : KeptR w B rk k) (hB : B ≤ w.heap.size) : Ret Tryz.prog 62 [(.agg (rk.cells).toArray)] w (fun v w' => v = .int .i64 (lastOf k) ∧ w.grownBy w' none) := by
  have hkv := H.view
  have hkn := H.normal
  have hkb := H.base
  have him := H.image
  have hil := H.im
  have hen := H.en
  have hem := H.em
  have hec := H.ec
  refine Ret.body Tryz.func62 rfl rfl rfl ?_
  refine CW.seq (CW.region (RL.bx (cs := rk.cells) rfl rfl rfl ?_))
  intro w1 b2 hb3 hz4 g5 o6
  refine za (.int .i64 0) rfl (RL.nil (thn.n (CW.seq (CW.seq (CW.region (zg rfl (Ex.ldv rfl (loadCN (cs := rk.cells) wh24 o6.cl)) ?_))))))
  have h7 := (H.st0 g5)
  refine RL.call Tryz.call57 (opCheck_ _ _ rk k h7 (by have := Nat.le_refl 0; omega)) rfl rfl rfl ?_
  rintro _ w8 ⟨rfl, g9⟩
  have z10 := g9.size
  refine RL.br (p := ((if keptB k then 0 else 1) : Int) ≠ (0 : Int)) rfl rfl rfl (fun r hr => Ex.neD rfl rfl hr) (fun h11 => ?_) (fun h11 => ?_)
  ·skip
   refine RL.nil (thn.n (CW.condT rfl (CW.seq (CW.region (za (.int .i64 0) rfl (RL.nil (thn.n (CW.ret (thn.r (finQ.r (v := (.int .i64 0)) (res1 rfl rfl) ?_))))))))))
   exact ⟨ret_int (by unfold lastOf; rw [ite_ne0 h11]; rfl), (grow_trans (g5) g9)⟩
  ·skip
   refine RL.nil (thn.n (CW.condF rfl (CW.skip (thn.n (CW.seq (CW.region ?_))))))
   have o12 := (o6.st0 g9)
   refine zg rfl (Ex.ldv rfl (loadCN (cs := rk.cells) wh24 o12.cl)) ?_
   have h13 := (h7.st0 g9)
   refine RL.call Tryz.call125 (last_ _ _ rk k h13 (by have := Nat.le_refl 0; omega) (ite_eq0 h11)) rfl rfl rfl ?_
   rintro _ w14 ⟨rfl, g15⟩
   have z16 := g15.size
   refine za (.int .i64 (lastK k)) rfl (RL.nil (thn.n (CW.ret (finQ.r (v := (.int .i64 (lastK k))) (res1 rfl rfl) ?_))))
   exact ⟨ret_int (by unfold lastOf; rw [ite_eq0 h11]; rfl), (grow_trans (grow_trans (g5) g9) g15)⟩
set_option maxHeartbeats 400000 in
set_option maxRecDepth 20000 in
theorem cloneEntN (w : World) (c : Nat) : Ret Tryz.prog 89 [(.slice none 0 c)] w (fun v w' => ∃ (A' : Option Addr) (c' : Nat), v = .slice A' 0 c' ∧ w.grownBy w' none ∧ Ow w' w.heap.size 31 11 A' c' []) := by
  refine Ret.body Tryz.func89 rfl rfl rfl ?_
  refine CW.seq (CW.region (za (.slice none 0 0) rfl (RL.nil (thn.n (CW.seq (CW.seq (CW.region (zm (.slice none 0 c) rfl (zg rfl (Ex.eqSl0 (r := true) Tryz.underlying22 rfl rfl rfl) (RL.nil (thn.n (CW.condT rfl (CW.seq (CW.region (za (.slice none 0 0) rfl (RL.nil (thn.n (CW.ret (thn.r (finQ.r (v := (.slice none 0 0)) (res1 rfl rfl) ?_))))))))))))))))))))
  exact ⟨none, 0, rfl, (grow_self _ _), Ow.nil_ _ _ _ _⟩
set_option maxHeartbeats 400000 in
set_option maxRecDepth 20000 in
theorem cloneEntS (w : World) (l : List Entry) (ad : Addr) (n c B : Nat) (hr : Rd w B 11 (some ad) (ents l)) (hn : n = l.length) (hby : n * 88 ≤ 140737488355328) : Ret Tryz.prog 89 [(.slice (some ad) n c)] w (fun v w' => ∃ (A' : Option Addr) (c' : Nat), v = .slice A' n c' ∧ w.grownBy w' none ∧ Ow w' w.heap.size 31 11 A' c' (ents l)) := by
  refine Ret.body Tryz.func89 rfl rfl rfl ?_
  refine CW.seq (CW.region (za (.slice none 0 0) rfl (RL.nil (thn.n (CW.seq (CW.seq (CW.region (zm (.slice (some ad) n c) rfl (zg rfl (Ex.eqSl0 (r := false) Tryz.underlying22 rfl rfl rfl) (RL.nil (thn.n (CW.condF rfl (CW.skip (thn.n (CW.seq (CW.region (RL.bs0 Tryz.underlying22 Tryz.sizeOf31 rfl rfl ?_)))))))))))))))))
  intro w1 b2 hb3 hz4 g5 ow6
  refine zm (.slice (some ad) n c) rfl ?_
  have r7 := (hr.st0 g5)
  refine RL.app (base := w.heap.size) (xss := []) (yss := ents (l)) el22 rfl ow6 rfl (by simp [bcs_length, ics_length, rows_length, blks_length, robjs_length, ents_length]; try omega) r7 rfl (by simp [bcs_length, ics_length, rows_length, blks_length, robjs_length, ents_length]; try omega) (ents_one _) (by omega) (by omega) (by omega) rfl rfl ?_
  intro w8 A9 c10 g11 ow12
  have z13 := g11.size
  refine za (.slice A9 (0 + n) c10) rfl (RL.nil (thn.n (CW.ret (finQ.r (v := (.slice A9 (0 + n) c10)) (res1 rfl rfl) ?_))))
  exact ⟨_, _, by rw [Nat.zero_add], (grow_own (g5) g11 ow6 (by omega)), ow12.weak (by omega)⟩
theorem cloneEnt (w : World) (l : List Entry) (A : Option Addr) (n c B : Nat) (hr : Rd w B 11 A (ents l)) (hn : n = l.length) (hby : n * 88 ≤ 140737488355328) : Ret Tryz.prog 89 [.slice A n c] w (fun v w' => ∃ (A' : Option Addr) (c' : Nat), v = .slice A' n c' ∧ w.grownBy w' none ∧ Ow w' w.heap.size 31 11 A' c' (ents l)) := by
  cases A with
  | some ad => exact cloneEntS w l ad n c B hr hn hby
  | none =>
    have hl : l = [] := by
      rcases l with _ | ⟨x, l⟩
      · rfl
      · obtain ⟨ad, h, _⟩ := hr.2 (by simp [bcs, ics, rows, robjs, blks, ents]); cases h
    subst hl; subst hn
    exact cloneEntN w c
set_option maxHeartbeats 400000 in
set_option maxRecDepth 20000 in
theorem heapNew_ (w : World) (o : Int) : Ret Tryz.prog 147 [(.int .i64 o)] w (fun v w' => (∃ rh : RHeap, v = .tuple #[.agg rh.cells.toArray, .int .i64 0] ∧ w.grownBy w' none ∧ withinB o 3 8 = true ∧ HeapO w' w.heap.size rh [] (newHeap o)) ∨ (v = .tuple #[.agg (zHeap).toArray, .int .i64 1] ∧ w.grownBy w' none ∧ withinB o 3 8 = false)) := by
  refine Ret.body Tryz.func147 rfl rfl rfl ?_
  refine CW.seq (CW.region (RL.al (cs := [(.int .i64 0), (.slice none 0 0), (.int .i64 0), (.int .i64 0), (.int .i64 0), (.int .i64 0), (.int .i64 0), (.slice none 0 0)]) Tryz.zeroValue47 rfl rfl rfl ?_))
  intro w1 b2 hb3 hz4 g5 o6
  refine za (.int .i64 0) rfl (RL.nil (thn.n (CW.seq (CW.region (zm (.int .i64 o) rfl (RL.call Tryz.call217 (all_ _ o) rfl rfl rfl ?_))))))
  rintro _ w12 (⟨b7, rfl, g13, hb8, ob9, hw10⟩ | ⟨rfl, g15, hw11⟩)
  ·have z14 := g13.size
   refine zm (.tuple #[(.slice (some ⟨b7, 0, none⟩) 1 1), (.int .i64 0)]) rfl (zx (.slice (some ⟨b7, 0, none⟩) 1 1) rfl (zx (.int .i64 0) rfl (za (.slice (some ⟨b7, 0, none⟩) 1 1) rfl (za (.int .i64 0) rfl (RL.nil (thn.n (CW.seq (CW.seq (CW.region (zm (.int .i64 0) rfl (zg rfl (Ex.neD (r := false) rfl rfl (by decide)) (RL.nil (thn.n (CW.condF rfl (CW.skip (thn.n (CW.seq (CW.region (zm (.int .i64 o) rfl (zm (.slice (some ⟨b7, 0, none⟩) 1 1) rfl ?_))))))))))))))))))))
   refine zg rfl (Ex.bd (cs := [(.int .i64 o), (.slice none 0 0), (.int .i64 1), (.int .i64 0), (.int .i64 0), (.int .i64 0), (.int .i64 0), (.slice (some ⟨b7, 0, none⟩) 1 1)]) bd47 rfl) ?_
   have o17 := (o6.st0 g13)
   refine RL.st (vs := [(.int .i64 o), (.slice none 0 0), (.int .i64 1), (.int .i64 0), (.int .i64 0), (.int .i64 0), (.int .i64 0), (.slice (some ⟨b7, 0, none⟩) 1 1)]) (cs' := [(.int .i64 o), (.slice none 0 0), (.int .i64 1), (.int .i64 0), (.int .i64 0), (.int .i64 0), (.int .i64 0), (.slice (some ⟨b7, 0, none⟩) 1 1)]) Tryz.sizeOf47 o17 rfl rfl rfl rfl rfl rfl ?_
   intro w18 hz19 g20 o21
   refine za (.int .i64 0) rfl (RL.nil (thn.n (CW.ret (finQ.r (v := (.tuple #[(.agg ([(.int .i64 o), (.slice none 0 0), (.int .i64 1), (.int .i64 0), (.int .i64 0), (.int .i64 0), (.int .i64 0), (.slice (some ⟨b7, 0, none⟩) 1 1)]).toArray), (.int .i64 0)])) (resv2 rfl (Rv.cell rfl (loadCN (cs := [(.int .i64 o), (.slice none 0 0), (.int .i64 1), (.int .i64 0), (.int .i64 0), (.int .i64 0), (.int .i64 0), (.slice (some ⟨b7, 0, none⟩) 1 1)]) wh47 o21.cl)) (Rv.tmp rfl)) ?_))))
   have o22 := (ob9.st1 g20 (by omega))
   exact .inl ⟨_, rfl, (grow_new (grow_trans (g5) g13) g20 (by omega)), hw10, HeapO.new o22 (by omega)⟩
  ·have z16 := g15.size
   refine zm (.tuple #[(.slice none 0 0), (.int .i64 1)]) rfl (zx (.slice none 0 0) rfl (zx (.int .i64 1) rfl (za (.slice none 0 0) rfl (za (.int .i64 1) rfl (RL.nil (thn.n (CW.seq (CW.seq (CW.region (zm (.int .i64 1) rfl (zg rfl (Ex.neD (r := true) rfl rfl (by decide)) (RL.nil (thn.n (CW.condT rfl (CW.seq (CW.region (zg rfl (Ex.bd (cs := [(.int .i64 0), (.slice none 0 0), (.int .i64 0), (.int .i64 0), (.int .i64 0), (.int .i64 0), (.int .i64 0), (.slice none 0 0)]) bd47 rfl) (zm (.int .i64 1) rfl ?_))))))))))))))))))
   have o23 := (o6.st0 g15)
   refine RL.st (vs := [(.int .i64 0), (.slice none 0 0), (.int .i64 0), (.int .i64 0), (.int .i64 0), (.int .i64 0), (.int .i64 0), (.slice none 0 0)]) (cs' := [(.int .i64 0), (.slice none 0 0), (.int .i64 0), (.int .i64 0), (.int .i64 0), (.int .i64 0), (.int .i64 0), (.slice none 0 0)]) Tryz.sizeOf47 o23 rfl rfl rfl rfl rfl rfl ?_
   intro w24 hz25 g26 o27
   refine za (.int .i64 1) rfl (RL.nil (thn.n (CW.ret (thn.r (finQ.r (v := (.tuple #[(.agg ([(.int .i64 0), (.slice none 0 0), (.int .i64 0), (.int .i64 0), (.int .i64 0), (.int .i64 0), (.int .i64 0), (.slice none 0 0)]).toArray), (.int .i64 1)])) (resv2 rfl (Rv.cell rfl (loadCN (cs := [(.int .i64 0), (.slice none 0 0), (.int .i64 0), (.int .i64 0), (.int .i64 0), (.int .i64 0), (.int .i64 0), (.slice none 0 0)]) wh47 o27.cl)) (Rv.tmp rfl)) ?_)))))
   exact .inr ⟨rfl, (grow_new (grow_trans (g5) g15) g26 (by omega)), hw11⟩
set_option maxHeartbeats 400000 in
set_option maxRecDepth 20000 in
theorem tableNew_ (w : World) (o : Int) : Ret Tryz.prog 107 [(.int .i64 o)] w (fun v w' => (∃ rs : RState, v = .tuple #[.agg rs.cells.toArray, .int .i64 0] ∧ w.grownBy w' none ∧ withinB o 3 8 = true ∧ StateO w' w.heap.size rs [] ⟨newHeap o, []⟩) ∨ (v = .tuple #[.agg (zState).toArray, .int .i64 1] ∧ w.grownBy w' none ∧ withinB o 3 8 = false)) := by
  refine Ret.body Tryz.func107 rfl rfl rfl ?_
  refine CW.seq (CW.region (RL.al (cs := [(.int .i64 0), (.slice none 0 0), (.int .i64 0), (.int .i64 0), (.int .i64 0), (.int .i64 0), (.int .i64 0), (.slice none 0 0), (.slice none 0 0)]) Tryz.zeroValue50 rfl rfl rfl ?_))
  intro w1 b2 hb3 hz4 g5 o6
  refine za (.int .i64 0) rfl (RL.nil (thn.n (CW.seq (CW.region (zm (.int .i64 o) rfl (RL.call Tryz.call147 (heapNew_ _ o) rfl rfl rfl ?_))))))
  rintro _ w11 (⟨rh7, rfl, g12, hw8, H9⟩ | ⟨rfl, g14, hw10⟩)
  ·have z13 := g12.size
   refine zm (.tuple #[(.agg (rh7.cells).toArray), (.int .i64 0)]) rfl (zx (.agg (rh7.cells).toArray) rfl (zx (.int .i64 0) rfl (RL.al (cs := [(.int .i64 0), (.slice none 0 0), (.int .i64 0), (.int .i64 0), (.int .i64 0), (.int .i64 0), (.int .i64 0), (.slice none 0 0)]) Tryz.zeroValue47 rfl rfl rfl ?_)))
   intro w16 b17 hb18 hz19 g20 o21
   refine RL.st (vs := rh7.cells) (cs' := rh7.cells) Tryz.sizeOf47 o21 rfl rfl rfl rfl rfl rfl ?_
   intro w22 hz23 g24 o25
   refine za (.int .i64 0) rfl (RL.nil (thn.n (CW.seq (CW.seq (CW.region (zm (.int .i64 0) rfl (zg rfl (Ex.neD (r := false) rfl rfl (by decide)) (RL.nil (thn.n (CW.condF rfl (CW.skip (thn.n (CW.seq (CW.region (zg rfl (Ex.ldv rfl (loadCN (cs := rh7.cells) wh47 o25.cl)) (zg rfl (Ex.bd (cs := [(.int .i64 rh7.order), (.slice rh7.objs.a rh7.objs.n rh7.objs.c), (.int .i64 rh7.next), (.int .i64 rh7.t0), (.int .i64 rh7.t1), (.int .i64 rh7.t2), (.int .i64 rh7.t3), (.slice rh7.free.a rh7.free.n rh7.free.c), (.slice none 0 0)]) bd50 rfl) ?_))))))))))))))))
   have o26 := (((o6.st0 g12).st0 g20).st1 g24 (by omega))
   refine RL.st (vs := [(.int .i64 rh7.order), (.slice rh7.objs.a rh7.objs.n rh7.objs.c), (.int .i64 rh7.next), (.int .i64 rh7.t0), (.int .i64 rh7.t1), (.int .i64 rh7.t2), (.int .i64 rh7.t3), (.slice rh7.free.a rh7.free.n rh7.free.c), (.slice none 0 0)]) (cs' := [(.int .i64 rh7.order), (.slice rh7.objs.a rh7.objs.n rh7.objs.c), (.int .i64 rh7.next), (.int .i64 rh7.t0), (.int .i64 rh7.t1), (.int .i64 rh7.t2), (.int .i64 rh7.t3), (.slice rh7.free.a rh7.free.n rh7.free.c), (.slice none 0 0)]) Tryz.sizeOf50 o26 rfl rfl rfl rfl rfl rfl ?_
   intro w27 hz28 g29 o30
   refine za (.int .i64 0) rfl (RL.nil (thn.n (CW.ret (finQ.r (v := (.tuple #[(.agg ([(.int .i64 rh7.order), (.slice rh7.objs.a rh7.objs.n rh7.objs.c), (.int .i64 rh7.next), (.int .i64 rh7.t0), (.int .i64 rh7.t1), (.int .i64 rh7.t2), (.int .i64 rh7.t3), (.slice rh7.free.a rh7.free.n rh7.free.c), (.slice none 0 0)]).toArray), (.int .i64 0)])) (resv2 rfl (Rv.cell rfl (loadCN (cs := [(.int .i64 rh7.order), (.slice rh7.objs.a rh7.objs.n rh7.objs.c), (.int .i64 rh7.next), (.int .i64 rh7.t0), (.int .i64 rh7.t1), (.int .i64 rh7.t2), (.int .i64 rh7.t3), (.slice rh7.free.a rh7.free.n rh7.free.c), (.slice none 0 0)]) wh50 o30.cl)) (Rv.tmp rfl)) ?_))))
   have h31 := (((H9.st0 g20).stX H9 g24 (by omega)).stX H9 g29 (by omega))
   exact .inl ⟨⟨rh7, ⟨none, 0, 0⟩⟩, rfl, (grow_new (grow_new (grow_trans (grow_trans (g5) g12) g20) g24 (by omega)) g29 (by omega)), hw8, StateO.new (h31.weak (by omega))⟩
  ·have z15 := g14.size
   refine zm (.tuple #[(.agg (zHeap).toArray), (.int .i64 1)]) rfl (zx (.agg (zHeap).toArray) rfl (zx (.int .i64 1) rfl (RL.al (cs := [(.int .i64 0), (.slice none 0 0), (.int .i64 0), (.int .i64 0), (.int .i64 0), (.int .i64 0), (.int .i64 0), (.slice none 0 0)]) Tryz.zeroValue47 rfl rfl rfl ?_)))
   intro w32 b33 hb34 hz35 g36 o37
   refine RL.st (vs := zHeap) (cs' := zHeap) Tryz.sizeOf47 o37 rfl rfl rfl rfl rfl rfl ?_
   intro w38 hz39 g40 o41
   refine za (.int .i64 1) rfl (RL.nil (thn.n (CW.seq (CW.seq (CW.region (zm (.int .i64 1) rfl (zg rfl (Ex.neD (r := true) rfl rfl (by decide)) (RL.nil (thn.n (CW.condT rfl (CW.seq (CW.region (zg rfl (Ex.bd (cs := [(.int .i64 0), (.slice none 0 0), (.int .i64 0), (.int .i64 0), (.int .i64 0), (.int .i64 0), (.int .i64 0), (.slice none 0 0), (.slice none 0 0)]) bd50 rfl) (zm (.int .i64 1) rfl ?_))))))))))))))
   have o42 := (((o6.st0 g14).st0 g36).st1 g40 (by omega))
   refine RL.st (vs := [(.int .i64 0), (.slice none 0 0), (.int .i64 0), (.int .i64 0), (.int .i64 0), (.int .i64 0), (.int .i64 0), (.slice none 0 0), (.slice none 0 0)]) (cs' := [(.int .i64 0), (.slice none 0 0), (.int .i64 0), (.int .i64 0), (.int .i64 0), (.int .i64 0), (.int .i64 0), (.slice none 0 0), (.slice none 0 0)]) Tryz.sizeOf50 o42 rfl rfl rfl rfl rfl rfl ?_
   intro w43 hz44 g45 o46
   refine za (.int .i64 1) rfl (RL.nil (thn.n (CW.ret (thn.r (finQ.r (v := (.tuple #[(.agg ([(.int .i64 0), (.slice none 0 0), (.int .i64 0), (.int .i64 0), (.int .i64 0), (.int .i64 0), (.int .i64 0), (.slice none 0 0), (.slice none 0 0)]).toArray), (.int .i64 1)])) (resv2 rfl (Rv.cell rfl (loadCN (cs := [(.int .i64 0), (.slice none 0 0), (.int .i64 0), (.int .i64 0), (.int .i64 0), (.int .i64 0), (.int .i64 0), (.slice none 0 0), (.slice none 0 0)]) wh50 o46.cl)) (Rv.tmp rfl)) ?_)))))
   exact .inr ⟨rfl, (grow_new (grow_new (grow_trans (grow_trans (g5) g14) g36) g40 (by omega)) g45 (by omega)), hw10⟩
end Go.Proofs.YtfokljnhllflbaaGreat
namespace Go.Proofs.YtfokljnhllflbaaGreat
open Go Go.Eng Go.RowKit
set_option maxHeartbeats 1000000 in
set_option maxRecDepth 20000 in
theorem put4_ (w : World) (B n c : Nat) (A : Option Addr) (l : List UInt8) (u : Nat) (hr : Rd w B 1 A (bcs l)) (hn : n = l.length) (hm : n ≤ 1099511627776) : Ret Tryz.prog 214 [(.slice A n c), (.int .u64 ((u : Nat) : Int)), (.int .i64 4)] w (fun v w' => ∃ (A' : Option Addr) (m c' : Nat), v = .slice A' m c' ∧ w.grownBy w' none ∧ m = n + 4 ∧ Ow w' w.heap.size 5 1 A' c' (bcs (l ++ enc4 u))) := by
  refine Ret.body Tryz.func214 rfl rfl rfl ?_
  refine CW.seq (CW.region (za (.slice none 0 0) rfl (RL.nil (thn.n (CW.seq (CW.region (zm (.slice A n c) rfl (zg rfl (Ex.len Tryz.underlying97 rfl) (zm (.int .i64 4) rfl (zg rfl (Ex.add (r := (n : Nat) + 4) rfl rfl (w64 (by omega) (by omega))) (RL.mk0 (c := (n + 4)) el97 rfl rfl (by omega) (by omega) (by omega) rfl rfl ?_)))))))))))
  intro w1 b2 hb3 g4 ow5
  have z6 := g4.size
  refine zm (.slice A n c) rfl ?_
  have r7 := (hr.st0 g4)
  refine RL.app (base := w.heap.size) (xss := []) (yss := bcs (l)) el97 rfl ow5 rfl (by simp [bcs_length, ics_length, rows_length, blks_length, robjs_length]; try omega) r7 rfl (by simp [bcs_length, ics_length, rows_length, blks_length, robjs_length]; try omega) (bcs_one _) (by omega) (by omega) (by omega) rfl rfl ?_
  intro w8 A9 c10 g11 ow12
  have z13 := g11.size
  refine za (.slice A9 (0 + n) c10) rfl (RL.nil (thn.n (CW.seq (CW.seq (CW.region (zm (.int .i64 4) rfl (zg rfl (Ex.sub_ (r := 3) rfl rfl rfl) (za (.int .i64 3) rfl (RL.nil (thn.n (CW.block (CW.unroll (CL.step (CW.seq (CW.seq (CW.region (zm (.int .i64 3) rfl ?_)))))))))))))))))
  refine zg rfl (Ex.ge (r := true) rfl rfl (by decide)) (RL.nil (thn.n (CW.condT rfl (CW.skip (thn.n (CW.seq (CW.block (CW.region (zm (.slice A9 (0 + n) c10) rfl (zm (.int .u64 ((u : Nat) : Int)) rfl (zm (.int .i64 3) rfl (zg rfl (Ex.mul (r := 24) rfl rfl rfl) (zg rfl (Ex.shr (r := ((u / 16777216 : Nat) : Int)) rfl rfl (by decide) (shrN (n := 24) (k := 24) (by decide) (by decide) rfl)) (zg rfl (Ex.conv (r := ((UInt8.ofNat (u / 16777216)).toNat : Int)) Tryz.underlying234 Tryz.underlying5 rfl (wrapB (u / 16777216))) (RL.bs (cs := [(.int .u8 ((UInt8.ofNat (u / 16777216)).toNat : Int))]) Tryz.underlying97 Tryz.sizeOf5 ze97 rfl rfl rfl (by decide) rfl rfl rfl ?_)))))))))))))))
  intro w14 b15 hb16 hz17 g18 o19
  have o20 := (ow12.st0 g18)
  refine RL.app (base := w.heap.size) (xss := [] ++ (bcs (l))) (yss := [[(.int .u8 ((UInt8.ofNat (u / 16777216)).toNat : Int))]]) el97 rfl o20 rfl (by simp [bcs_length, ics_length, rows_length, blks_length, robjs_length]; try omega) (Ob.rd1 o19 rfl) rfl rfl (by simp [Value.oneCell']) (by omega) (by omega) (by omega) rfl rfl ?_
  intro w21 A22 c23 g24 ow25
  have z26 := g24.size
  refine za (.slice A22 ((0 + n) + 1) c23) rfl (RL.nil (inB.n (thn.n (CW.region (zm (.int .i64 3) rfl (zg rfl (Ex.sub_ (r := 2) rfl rfl rfl) (za (.int .i64 2) rfl (RL.nil (thn.n (CL.step (CW.seq (CW.seq (CW.region (zm (.int .i64 2) rfl (zg rfl (Ex.ge (r := true) rfl rfl (by decide)) ?_)))))))))))))))
  refine RL.nil (thn.n (CW.condT rfl (CW.skip (thn.n (CW.seq (CW.block (CW.region (zm (.slice A22 ((0 + n) + 1) c23) rfl (zm (.int .u64 ((u : Nat) : Int)) rfl (zm (.int .i64 2) rfl (zg rfl (Ex.mul (r := 16) rfl rfl rfl) (zg rfl (Ex.shr (r := ((u / 65536 : Nat) : Int)) rfl rfl (by decide) (shrN (n := 16) (k := 16) (by decide) (by decide) rfl)) (zg rfl (Ex.conv (r := ((UInt8.ofNat (u / 65536)).toNat : Int)) Tryz.underlying234 Tryz.underlying5 rfl (wrapB (u / 65536))) (RL.bs (cs := [(.int .u8 ((UInt8.ofNat (u / 65536)).toNat : Int))]) Tryz.underlying97 Tryz.sizeOf5 ze97 rfl rfl rfl (by decide) rfl rfl rfl ?_))))))))))))))
  intro w27 b28 hb29 hz30 g31 o32
  have o33 := (ow25.st0 g31)
  refine RL.app (base := w.heap.size) (xss := ([] ++ (bcs (l))) ++ ([[(.int .u8 ((UInt8.ofNat (u / 16777216)).toNat : Int))]])) (yss := [[(.int .u8 ((UInt8.ofNat (u / 65536)).toNat : Int))]]) el97 rfl o33 rfl (by simp [bcs_length, ics_length, rows_length, blks_length, robjs_length]; try omega) (Ob.rd1 o32 rfl) rfl rfl (by simp [Value.oneCell']) (by omega) (by omega) (by omega) rfl rfl ?_
  intro w34 A35 c36 g37 ow38
  have z39 := g37.size
  refine za (.slice A35 (((0 + n) + 1) + 1) c36) rfl (RL.nil (inB.n (thn.n (CW.region (zm (.int .i64 2) rfl (zg rfl (Ex.sub_ (r := 1) rfl rfl rfl) (za (.int .i64 1) rfl (RL.nil (thn.n (CL.step (CW.seq (CW.seq (CW.region (zm (.int .i64 1) rfl (zg rfl (Ex.ge (r := true) rfl rfl (by decide)) ?_)))))))))))))))
  refine RL.nil (thn.n (CW.condT rfl (CW.skip (thn.n (CW.seq (CW.block (CW.region (zm (.slice A35 (((0 + n) + 1) + 1) c36) rfl (zm (.int .u64 ((u : Nat) : Int)) rfl (zm (.int .i64 1) rfl (zg rfl (Ex.mul (r := 8) rfl rfl rfl) (zg rfl (Ex.shr (r := ((u / 256 : Nat) : Int)) rfl rfl (by decide) (shrN (n := 8) (k := 8) (by decide) (by decide) rfl)) (zg rfl (Ex.conv (r := ((UInt8.ofNat (u / 256)).toNat : Int)) Tryz.underlying234 Tryz.underlying5 rfl (wrapB (u / 256))) (RL.bs (cs := [(.int .u8 ((UInt8.ofNat (u / 256)).toNat : Int))]) Tryz.underlying97 Tryz.sizeOf5 ze97 rfl rfl rfl (by decide) rfl rfl rfl ?_))))))))))))))
  intro w40 b41 hb42 hz43 g44 o45
  have o46 := (ow38.st0 g44)
  refine RL.app (base := w.heap.size) (xss := (([] ++ (bcs (l))) ++ ([[(.int .u8 ((UInt8.ofNat (u / 16777216)).toNat : Int))]])) ++ ([[(.int .u8 ((UInt8.ofNat (u / 65536)).toNat : Int))]])) (yss := [[(.int .u8 ((UInt8.ofNat (u / 256)).toNat : Int))]]) el97 rfl o46 rfl (by simp [bcs_length, ics_length, rows_length, blks_length, robjs_length]; try omega) (Ob.rd1 o45 rfl) rfl rfl (by simp [Value.oneCell']) (by omega) (by omega) (by omega) rfl rfl ?_
  intro w47 A48 c49 g50 ow51
  have z52 := g50.size
  refine za (.slice A48 ((((0 + n) + 1) + 1) + 1) c49) rfl (RL.nil (inB.n (thn.n (CW.region (zm (.int .i64 1) rfl (zg rfl (Ex.sub_ (r := 0) rfl rfl rfl) (za (.int .i64 0) rfl (RL.nil (thn.n (CL.step (CW.seq (CW.seq (CW.region (zm (.int .i64 0) rfl (zg rfl (Ex.ge (r := true) rfl rfl (by decide)) ?_)))))))))))))))
  refine RL.nil (thn.n (CW.condT rfl (CW.skip (thn.n (CW.seq (CW.block (CW.region (zm (.slice A48 ((((0 + n) + 1) + 1) + 1) c49) rfl (zm (.int .u64 ((u : Nat) : Int)) rfl (zm (.int .i64 0) rfl (zg rfl (Ex.mul (r := 0) rfl rfl rfl) (zg rfl (Ex.shr (r := ((u / 1 : Nat) : Int)) rfl rfl (by decide) (shrN (n := 0) (k := 0) (by decide) (by decide) rfl)) (zg rfl (Ex.conv (r := ((UInt8.ofNat (u / 1)).toNat : Int)) Tryz.underlying234 Tryz.underlying5 rfl (wrapB (u / 1))) (RL.bs (cs := [(.int .u8 ((UInt8.ofNat (u / 1)).toNat : Int))]) Tryz.underlying97 Tryz.sizeOf5 ze97 rfl rfl rfl (by decide) rfl rfl rfl ?_))))))))))))))
  intro w53 b54 hb55 hz56 g57 o58
  have o59 := (ow51.st0 g57)
  refine RL.app (base := w.heap.size) (xss := ((([] ++ (bcs (l))) ++ ([[(.int .u8 ((UInt8.ofNat (u / 16777216)).toNat : Int))]])) ++ ([[(.int .u8 ((UInt8.ofNat (u / 65536)).toNat : Int))]])) ++ ([[(.int .u8 ((UInt8.ofNat (u / 256)).toNat : Int))]])) (yss := [[(.int .u8 ((UInt8.ofNat (u / 1)).toNat : Int))]]) el97 rfl o59 rfl (by simp [bcs_length, ics_length, rows_length, blks_length, robjs_length]; try omega) (Ob.rd1 o58 rfl) rfl rfl (by simp [Value.oneCell']) (by omega) (by omega) (by omega) rfl rfl ?_
  intro w60 A61 c62 g63 ow65
  have z66 := g63.size
  refine za (.slice A61 (((((0 + n) + 1) + 1) + 1) + 1) c62) rfl (RL.nil (inB.n (thn.n (CW.region (zm (.int .i64 0) rfl (zg rfl (Ex.sub_ (r := -1) rfl rfl rfl) (za (.int .i64 (-1)) rfl (RL.nil (thn.n (CL.step (CW.seq (CW.seq (CW.region (zm (.int .i64 (-1)) rfl (zg rfl (Ex.ge (r := false) rfl rfl (by decide)) ?_)))))))))))))))
  refine RL.nil (thn.n (CW.condF rfl (CW.exit (thn.x (thn.x (inB.hit (thn.n (CW.seq (CW.region (zm (.slice A61 (((((0 + n) + 1) + 1) + 1) + 1) c62) rfl (za (.slice A61 (((((0 + n) + 1) + 1) + 1) + 1) c62) rfl (RL.nil (thn.n (CW.ret (finQ.r (v := (.slice A61 (((((0 + n) + 1) + 1) + 1) + 1) c62)) (res1 rfl rfl) ?_)))))))))))))))
  have hx : (((([] ++ (bcs (l))) ++ ([[(.int .u8 ((UInt8.ofNat (u / 16777216)).toNat : Int))]])) ++ ([[(.int .u8 ((UInt8.ofNat (u / 65536)).toNat : Int))]])) ++ ([[(.int .u8 ((UInt8.ofNat (u / 256)).toNat : Int))]])) ++ ([[(.int .u8 ((UInt8.ofNat (u / 1)).toNat : Int))]]) = bcs (l ++ enc4 u) := by simp [bcs, bc, enc4]
  exact ⟨_, _, _, rfl, (grow_own (grow_trans (grow_own (grow_trans (grow_own (grow_trans (grow_own (grow_trans (grow_own (g4) g11 ow5 (by omega)) g18) g24 o20 (by omega)) g31) g37 o33 (by omega)) g44) g50 o46 (by omega)) g57) g63 o59 (by omega)), by omega, (hx ▸ ow65).weak (by omega)⟩
set_option maxHeartbeats 1000000 in
set_option maxRecDepth 20000 in
theorem put8_ (w : World) (B n c : Nat) (A : Option Addr) (l : List UInt8) (u : Nat) (hr : Rd w B 1 A (bcs l)) (hn : n = l.length) (hm : n ≤ 1099511627776) : Ret Tryz.prog 214 [(.slice A n c), (.int .u64 ((u : Nat) : Int)), (.int .i64 8)] w (fun v w' => ∃ (A' : Option Addr) (m c' : Nat), v = .slice A' m c' ∧ w.grownBy w' none ∧ m = n + 8 ∧ Ow w' w.heap.size 5 1 A' c' (bcs (l ++ enc8 u))) := by
  refine Ret.body Tryz.func214 rfl rfl rfl ?_
  refine CW.seq (CW.region (za (.slice none 0 0) rfl (RL.nil (thn.n (CW.seq (CW.region (zm (.slice A n c) rfl (zg rfl (Ex.len Tryz.underlying97 rfl) (zm (.int .i64 8) rfl (zg rfl (Ex.add (r := (n : Nat) + 8) rfl rfl (w64 (by omega) (by omega))) (RL.mk0 (c := (n + 8)) el97 rfl rfl (by omega) (by omega) (by omega) rfl rfl ?_)))))))))))
  intro w1 b2 hb3 g4 ow5
  have z6 := g4.size
  refine zm (.slice A n c) rfl ?_
  have r7 := (hr.st0 g4)
  refine RL.app (base := w.heap.size) (xss := []) (yss := bcs (l)) el97 rfl ow5 rfl (by simp [bcs_length, ics_length, rows_length, blks_length, robjs_length]; try omega) r7 rfl (by simp [bcs_length, ics_length, rows_length, blks_length, robjs_length]; try omega) (bcs_one _) (by omega) (by omega) (by omega) rfl rfl ?_
  intro w8 A9 c10 g11 ow12
  have z13 := g11.size
  refine za (.slice A9 (0 + n) c10) rfl (RL.nil (thn.n (CW.seq (CW.seq (CW.region (zm (.int .i64 8) rfl (zg rfl (Ex.sub_ (r := 7) rfl rfl rfl) (za (.int .i64 7) rfl (RL.nil (thn.n (CW.block (CW.unroll (CL.step (CW.seq (CW.seq (CW.region (zm (.int .i64 7) rfl ?_)))))))))))))))))
  refine zg rfl (Ex.ge (r := true) rfl rfl (by decide)) (RL.nil (thn.n (CW.condT rfl (CW.skip (thn.n (CW.seq (CW.block (CW.region (zm (.slice A9 (0 + n) c10) rfl (zm (.int .u64 ((u : Nat) : Int)) rfl (zm (.int .i64 7) rfl (zg rfl (Ex.mul (r := 56) rfl rfl rfl) (zg rfl (Ex.shr (r := ((u / 72057594037927936 : Nat) : Int)) rfl rfl (by decide) (shrN (n := 56) (k := 56) (by decide) (by decide) rfl)) (zg rfl (Ex.conv (r := ((UInt8.ofNat (u / 72057594037927936)).toNat : Int)) Tryz.underlying234 Tryz.underlying5 rfl (wrapB (u / 72057594037927936))) (RL.bs (cs := [(.int .u8 ((UInt8.ofNat (u / 72057594037927936)).toNat : Int))]) Tryz.underlying97 Tryz.sizeOf5 ze97 rfl rfl rfl (by decide) rfl rfl rfl ?_)))))))))))))))
  intro w14 b15 hb16 hz17 g18 o19
  have o20 := (ow12.st0 g18)
  refine RL.app (base := w.heap.size) (xss := [] ++ (bcs (l))) (yss := [[(.int .u8 ((UInt8.ofNat (u / 72057594037927936)).toNat : Int))]]) el97 rfl o20 rfl (by simp [bcs_length, ics_length, rows_length, blks_length, robjs_length]; try omega) (Ob.rd1 o19 rfl) rfl rfl (by simp [Value.oneCell']) (by omega) (by omega) (by omega) rfl rfl ?_
  intro w21 A22 c23 g24 ow25
  have z26 := g24.size
  refine za (.slice A22 ((0 + n) + 1) c23) rfl (RL.nil (inB.n (thn.n (CW.region (zm (.int .i64 7) rfl (zg rfl (Ex.sub_ (r := 6) rfl rfl rfl) (za (.int .i64 6) rfl (RL.nil (thn.n (CL.step (CW.seq (CW.seq (CW.region (zm (.int .i64 6) rfl (zg rfl (Ex.ge (r := true) rfl rfl (by decide)) ?_)))))))))))))))
  refine RL.nil (thn.n (CW.condT rfl (CW.skip (thn.n (CW.seq (CW.block (CW.region (zm (.slice A22 ((0 + n) + 1) c23) rfl (zm (.int .u64 ((u : Nat) : Int)) rfl (zm (.int .i64 6) rfl (zg rfl (Ex.mul (r := 48) rfl rfl rfl) (zg rfl (Ex.shr (r := ((u / 281474976710656 : Nat) : Int)) rfl rfl (by decide) (shrN (n := 48) (k := 48) (by decide) (by decide) rfl)) (zg rfl (Ex.conv (r := ((UInt8.ofNat (u / 281474976710656)).toNat : Int)) Tryz.underlying234 Tryz.underlying5 rfl (wrapB (u / 281474976710656))) (RL.bs (cs := [(.int .u8 ((UInt8.ofNat (u / 281474976710656)).toNat : Int))]) Tryz.underlying97 Tryz.sizeOf5 ze97 rfl rfl rfl (by decide) rfl rfl rfl ?_))))))))))))))
  intro w27 b28 hb29 hz30 g31 o32
  have o33 := (ow25.st0 g31)
  refine RL.app (base := w.heap.size) (xss := ([] ++ (bcs (l))) ++ ([[(.int .u8 ((UInt8.ofNat (u / 72057594037927936)).toNat : Int))]])) (yss := [[(.int .u8 ((UInt8.ofNat (u / 281474976710656)).toNat : Int))]]) el97 rfl o33 rfl (by simp [bcs_length, ics_length, rows_length, blks_length, robjs_length]; try omega) (Ob.rd1 o32 rfl) rfl rfl (by simp [Value.oneCell']) (by omega) (by omega) (by omega) rfl rfl ?_
  intro w34 A35 c36 g37 ow38
  have z39 := g37.size
  refine za (.slice A35 (((0 + n) + 1) + 1) c36) rfl (RL.nil (inB.n (thn.n (CW.region (zm (.int .i64 6) rfl (zg rfl (Ex.sub_ (r := 5) rfl rfl rfl) (za (.int .i64 5) rfl (RL.nil (thn.n (CL.step (CW.seq (CW.seq (CW.region (zm (.int .i64 5) rfl (zg rfl (Ex.ge (r := true) rfl rfl (by decide)) ?_)))))))))))))))
  refine RL.nil (thn.n (CW.condT rfl (CW.skip (thn.n (CW.seq (CW.block (CW.region (zm (.slice A35 (((0 + n) + 1) + 1) c36) rfl (zm (.int .u64 ((u : Nat) : Int)) rfl (zm (.int .i64 5) rfl (zg rfl (Ex.mul (r := 40) rfl rfl rfl) (zg rfl (Ex.shr (r := ((u / 1099511627776 : Nat) : Int)) rfl rfl (by decide) (shrN (n := 40) (k := 40) (by decide) (by decide) rfl)) (zg rfl (Ex.conv (r := ((UInt8.ofNat (u / 1099511627776)).toNat : Int)) Tryz.underlying234 Tryz.underlying5 rfl (wrapB (u / 1099511627776))) (RL.bs (cs := [(.int .u8 ((UInt8.ofNat (u / 1099511627776)).toNat : Int))]) Tryz.underlying97 Tryz.sizeOf5 ze97 rfl rfl rfl (by decide) rfl rfl rfl ?_))))))))))))))
  intro w40 b41 hb42 hz43 g44 o45
  have o46 := (ow38.st0 g44)
  refine RL.app (base := w.heap.size) (xss := (([] ++ (bcs (l))) ++ ([[(.int .u8 ((UInt8.ofNat (u / 72057594037927936)).toNat : Int))]])) ++ ([[(.int .u8 ((UInt8.ofNat (u / 281474976710656)).toNat : Int))]])) (yss := [[(.int .u8 ((UInt8.ofNat (u / 1099511627776)).toNat : Int))]]) el97 rfl o46 rfl (by simp [bcs_length, ics_length, rows_length, blks_length, robjs_length]; try omega) (Ob.rd1 o45 rfl) rfl rfl (by simp [Value.oneCell']) (by omega) (by omega) (by omega) rfl rfl ?_
  intro w47 A48 c49 g50 ow51
  have z52 := g50.size
  refine za (.slice A48 ((((0 + n) + 1) + 1) + 1) c49) rfl (RL.nil (inB.n (thn.n (CW.region (zm (.int .i64 5) rfl (zg rfl (Ex.sub_ (r := 4) rfl rfl rfl) (za (.int .i64 4) rfl (RL.nil (thn.n (CL.step (CW.seq (CW.seq (CW.region (zm (.int .i64 4) rfl (zg rfl (Ex.ge (r := true) rfl rfl (by decide)) ?_)))))))))))))))
  refine RL.nil (thn.n (CW.condT rfl (CW.skip (thn.n (CW.seq (CW.block (CW.region (zm (.slice A48 ((((0 + n) + 1) + 1) + 1) c49) rfl (zm (.int .u64 ((u : Nat) : Int)) rfl (zm (.int .i64 4) rfl (zg rfl (Ex.mul (r := 32) rfl rfl rfl) (zg rfl (Ex.shr (r := ((u / 4294967296 : Nat) : Int)) rfl rfl (by decide) (shrN (n := 32) (k := 32) (by decide) (by decide) rfl)) (zg rfl (Ex.conv (r := ((UInt8.ofNat (u / 4294967296)).toNat : Int)) Tryz.underlying234 Tryz.underlying5 rfl (wrapB (u / 4294967296))) (RL.bs (cs := [(.int .u8 ((UInt8.ofNat (u / 4294967296)).toNat : Int))]) Tryz.underlying97 Tryz.sizeOf5 ze97 rfl rfl rfl (by decide) rfl rfl rfl ?_))))))))))))))
  intro w53 b54 hb55 hz56 g57 o58
  have o59 := (ow51.st0 g57)
  refine RL.app (base := w.heap.size) (xss := ((([] ++ (bcs (l))) ++ ([[(.int .u8 ((UInt8.ofNat (u / 72057594037927936)).toNat : Int))]])) ++ ([[(.int .u8 ((UInt8.ofNat (u / 281474976710656)).toNat : Int))]])) ++ ([[(.int .u8 ((UInt8.ofNat (u / 1099511627776)).toNat : Int))]])) (yss := [[(.int .u8 ((UInt8.ofNat (u / 4294967296)).toNat : Int))]]) el97 rfl o59 rfl (by simp [bcs_length, ics_length, rows_length, blks_length, robjs_length]; try omega) (Ob.rd1 o58 rfl) rfl rfl (by simp [Value.oneCell']) (by omega) (by omega) (by omega) rfl rfl ?_
  intro w60 A61 c62 g63 ow65
  have z66 := g63.size
  refine za (.slice A61 (((((0 + n) + 1) + 1) + 1) + 1) c62) rfl (RL.nil (inB.n (thn.n (CW.region (zm (.int .i64 4) rfl (zg rfl (Ex.sub_ (r := 3) rfl rfl rfl) (za (.int .i64 3) rfl (RL.nil (thn.n (CL.step (CW.seq (CW.seq (CW.region (zm (.int .i64 3) rfl (zg rfl (Ex.ge (r := true) rfl rfl (by decide)) ?_)))))))))))))))
  refine RL.nil (thn.n (CW.condT rfl (CW.skip (thn.n (CW.seq (CW.block (CW.region (zm (.slice A61 (((((0 + n) + 1) + 1) + 1) + 1) c62) rfl (zm (.int .u64 ((u : Nat) : Int)) rfl (zm (.int .i64 3) rfl (zg rfl (Ex.mul (r := 24) rfl rfl rfl) (zg rfl (Ex.shr (r := ((u / 16777216 : Nat) : Int)) rfl rfl (by decide) (shrN (n := 24) (k := 24) (by decide) (by decide) rfl)) (zg rfl (Ex.conv (r := ((UInt8.ofNat (u / 16777216)).toNat : Int)) Tryz.underlying234 Tryz.underlying5 rfl (wrapB (u / 16777216))) (RL.bs (cs := [(.int .u8 ((UInt8.ofNat (u / 16777216)).toNat : Int))]) Tryz.underlying97 Tryz.sizeOf5 ze97 rfl rfl rfl (by decide) rfl rfl rfl ?_))))))))))))))
  intro w67 b68 hb69 hz70 g71 o72
  have o73 := (ow65.st0 g71)
  refine RL.app (base := w.heap.size) (xss := (((([] ++ (bcs (l))) ++ ([[(.int .u8 ((UInt8.ofNat (u / 72057594037927936)).toNat : Int))]])) ++ ([[(.int .u8 ((UInt8.ofNat (u / 281474976710656)).toNat : Int))]])) ++ ([[(.int .u8 ((UInt8.ofNat (u / 1099511627776)).toNat : Int))]])) ++ ([[(.int .u8 ((UInt8.ofNat (u / 4294967296)).toNat : Int))]])) (yss := [[(.int .u8 ((UInt8.ofNat (u / 16777216)).toNat : Int))]]) el97 rfl o73 rfl (by simp [bcs_length, ics_length, rows_length, blks_length, robjs_length]; try omega) (Ob.rd1 o72 rfl) rfl rfl (by simp [Value.oneCell']) (by omega) (by omega) (by omega) rfl rfl ?_
  intro w74 A75 c76 g77 ow78
  have z79 := g77.size
  refine za (.slice A75 ((((((0 + n) + 1) + 1) + 1) + 1) + 1) c76) rfl (RL.nil (inB.n (thn.n (CW.region (zm (.int .i64 3) rfl (zg rfl (Ex.sub_ (r := 2) rfl rfl rfl) (za (.int .i64 2) rfl (RL.nil (thn.n (CL.step (CW.seq (CW.seq (CW.region (zm (.int .i64 2) rfl (zg rfl (Ex.ge (r := true) rfl rfl (by decide)) ?_)))))))))))))))
  refine RL.nil (thn.n (CW.condT rfl (CW.skip (thn.n (CW.seq (CW.block (CW.region (zm (.slice A75 ((((((0 + n) + 1) + 1) + 1) + 1) + 1) c76) rfl (zm (.int .u64 ((u : Nat) : Int)) rfl (zm (.int .i64 2) rfl (zg rfl (Ex.mul (r := 16) rfl rfl rfl) (zg rfl (Ex.shr (r := ((u / 65536 : Nat) : Int)) rfl rfl (by decide) (shrN (n := 16) (k := 16) (by decide) (by decide) rfl)) (zg rfl (Ex.conv (r := ((UInt8.ofNat (u / 65536)).toNat : Int)) Tryz.underlying234 Tryz.underlying5 rfl (wrapB (u / 65536))) (RL.bs (cs := [(.int .u8 ((UInt8.ofNat (u / 65536)).toNat : Int))]) Tryz.underlying97 Tryz.sizeOf5 ze97 rfl rfl rfl (by decide) rfl rfl rfl ?_))))))))))))))
  intro w80 b81 hb82 hz83 g84 o85
  have o86 := (ow78.st0 g84)
  refine RL.app (base := w.heap.size) (xss := ((((([] ++ (bcs (l))) ++ ([[(.int .u8 ((UInt8.ofNat (u / 72057594037927936)).toNat : Int))]])) ++ ([[(.int .u8 ((UInt8.ofNat (u / 281474976710656)).toNat : Int))]])) ++ ([[(.int .u8 ((UInt8.ofNat (u / 1099511627776)).toNat : Int))]])) ++ ([[(.int .u8 ((UInt8.ofNat (u / 4294967296)).toNat : Int))]])) ++ ([[(.int .u8 ((UInt8.ofNat (u / 16777216)).toNat : Int))]])) (yss := [[(.int .u8 ((UInt8.ofNat (u / 65536)).toNat : Int))]]) el97 rfl o86 rfl (by simp [bcs_length, ics_length, rows_length, blks_length, robjs_length]; try omega) (Ob.rd1 o85 rfl) rfl rfl (by simp [Value.oneCell']) (by omega) (by omega) (by omega) rfl rfl ?_
  intro w87 A88 c89 g90 ow91
  have z92 := g90.size
  refine za (.slice A88 (((((((0 + n) + 1) + 1) + 1) + 1) + 1) + 1) c89) rfl (RL.nil (inB.n (thn.n (CW.region (zm (.int .i64 2) rfl (zg rfl (Ex.sub_ (r := 1) rfl rfl rfl) (za (.int .i64 1) rfl (RL.nil (thn.n (CL.step (CW.seq (CW.seq (CW.region (zm (.int .i64 1) rfl (zg rfl (Ex.ge (r := true) rfl rfl (by decide)) ?_)))))))))))))))
  refine RL.nil (thn.n (CW.condT rfl (CW.skip (thn.n (CW.seq (CW.block (CW.region (zm (.slice A88 (((((((0 + n) + 1) + 1) + 1) + 1) + 1) + 1) c89) rfl (zm (.int .u64 ((u : Nat) : Int)) rfl (zm (.int .i64 1) rfl (zg rfl (Ex.mul (r := 8) rfl rfl rfl) (zg rfl (Ex.shr (r := ((u / 256 : Nat) : Int)) rfl rfl (by decide) (shrN (n := 8) (k := 8) (by decide) (by decide) rfl)) (zg rfl (Ex.conv (r := ((UInt8.ofNat (u / 256)).toNat : Int)) Tryz.underlying234 Tryz.underlying5 rfl (wrapB (u / 256))) (RL.bs (cs := [(.int .u8 ((UInt8.ofNat (u / 256)).toNat : Int))]) Tryz.underlying97 Tryz.sizeOf5 ze97 rfl rfl rfl (by decide) rfl rfl rfl ?_))))))))))))))
  intro w93 b94 hb95 hz96 g97 o98
  have o99 := (ow91.st0 g97)
  refine RL.app (base := w.heap.size) (xss := (((((([] ++ (bcs (l))) ++ ([[(.int .u8 ((UInt8.ofNat (u / 72057594037927936)).toNat : Int))]])) ++ ([[(.int .u8 ((UInt8.ofNat (u / 281474976710656)).toNat : Int))]])) ++ ([[(.int .u8 ((UInt8.ofNat (u / 1099511627776)).toNat : Int))]])) ++ ([[(.int .u8 ((UInt8.ofNat (u / 4294967296)).toNat : Int))]])) ++ ([[(.int .u8 ((UInt8.ofNat (u / 16777216)).toNat : Int))]])) ++ ([[(.int .u8 ((UInt8.ofNat (u / 65536)).toNat : Int))]])) (yss := [[(.int .u8 ((UInt8.ofNat (u / 256)).toNat : Int))]]) el97 rfl o99 rfl (by simp [bcs_length, ics_length, rows_length, blks_length, robjs_length]; try omega) (Ob.rd1 o98 rfl) rfl rfl (by simp [Value.oneCell']) (by omega) (by omega) (by omega) rfl rfl ?_
  intro w100 A101 c102 g103 ow104
  have z105 := g103.size
  refine za (.slice A101 ((((((((0 + n) + 1) + 1) + 1) + 1) + 1) + 1) + 1) c102) rfl (RL.nil (inB.n (thn.n (CW.region (zm (.int .i64 1) rfl (zg rfl (Ex.sub_ (r := 0) rfl rfl rfl) (za (.int .i64 0) rfl (RL.nil (thn.n (CL.step (CW.seq (CW.seq (CW.region (zm (.int .i64 0) rfl (zg rfl (Ex.ge (r := true) rfl rfl (by decide)) ?_)))))))))))))))
  refine RL.nil (thn.n (CW.condT rfl (CW.skip (thn.n (CW.seq (CW.block (CW.region (zm (.slice A101 ((((((((0 + n) + 1) + 1) + 1) + 1) + 1) + 1) + 1) c102) rfl (zm (.int .u64 ((u : Nat) : Int)) rfl (zm (.int .i64 0) rfl (zg rfl (Ex.mul (r := 0) rfl rfl rfl) (zg rfl (Ex.shr (r := ((u / 1 : Nat) : Int)) rfl rfl (by decide) (shrN (n := 0) (k := 0) (by decide) (by decide) rfl)) (zg rfl (Ex.conv (r := ((UInt8.ofNat (u / 1)).toNat : Int)) Tryz.underlying234 Tryz.underlying5 rfl (wrapB (u / 1))) (RL.bs (cs := [(.int .u8 ((UInt8.ofNat (u / 1)).toNat : Int))]) Tryz.underlying97 Tryz.sizeOf5 ze97 rfl rfl rfl (by decide) rfl rfl rfl ?_))))))))))))))
  intro w106 b107 hb108 hz109 g110 o111
  have o112 := (ow104.st0 g110)
  refine RL.app (base := w.heap.size) (xss := ((((((([] ++ (bcs (l))) ++ ([[(.int .u8 ((UInt8.ofNat (u / 72057594037927936)).toNat : Int))]])) ++ ([[(.int .u8 ((UInt8.ofNat (u / 281474976710656)).toNat : Int))]])) ++ ([[(.int .u8 ((UInt8.ofNat (u / 1099511627776)).toNat : Int))]])) ++ ([[(.int .u8 ((UInt8.ofNat (u / 4294967296)).toNat : Int))]])) ++ ([[(.int .u8 ((UInt8.ofNat (u / 16777216)).toNat : Int))]])) ++ ([[(.int .u8 ((UInt8.ofNat (u / 65536)).toNat : Int))]])) ++ ([[(.int .u8 ((UInt8.ofNat (u / 256)).toNat : Int))]])) (yss := [[(.int .u8 ((UInt8.ofNat (u / 1)).toNat : Int))]]) el97 rfl o112 rfl (by simp [bcs_length, ics_length, rows_length, blks_length, robjs_length]; try omega) (Ob.rd1 o111 rfl) rfl rfl (by simp [Value.oneCell']) (by omega) (by omega) (by omega) rfl rfl ?_
  intro w113 A114 c115 g116 ow117
  have z118 := g116.size
  refine za (.slice A114 (((((((((0 + n) + 1) + 1) + 1) + 1) + 1) + 1) + 1) + 1) c115) rfl (RL.nil (inB.n (thn.n (CW.region (zm (.int .i64 0) rfl (zg rfl (Ex.sub_ (r := -1) rfl rfl rfl) (za (.int .i64 (-1)) rfl (RL.nil (thn.n (CL.step (CW.seq (CW.seq (CW.region (zm (.int .i64 (-1)) rfl (zg rfl (Ex.ge (r := false) rfl rfl (by decide)) ?_)))))))))))))))
  refine RL.nil (thn.n (CW.condF rfl (CW.exit (thn.x (thn.x (inB.hit (thn.n (CW.seq (CW.region (zm (.slice A114 (((((((((0 + n) + 1) + 1) + 1) + 1) + 1) + 1) + 1) + 1) c115) rfl (za (.slice A114 (((((((((0 + n) + 1) + 1) + 1) + 1) + 1) + 1) + 1) + 1) c115) rfl (RL.nil (thn.n (CW.ret (finQ.r (v := (.slice A114 (((((((((0 + n) + 1) + 1) + 1) + 1) + 1) + 1) + 1) + 1) c115)) (res1 rfl rfl) ?_)))))))))))))))
  have hx : (((((((([] ++ (bcs (l))) ++ ([[(.int .u8 ((UInt8.ofNat (u / 72057594037927936)).toNat : Int))]])) ++ ([[(.int .u8 ((UInt8.ofNat (u / 281474976710656)).toNat : Int))]])) ++ ([[(.int .u8 ((UInt8.ofNat (u / 1099511627776)).toNat : Int))]])) ++ ([[(.int .u8 ((UInt8.ofNat (u / 4294967296)).toNat : Int))]])) ++ ([[(.int .u8 ((UInt8.ofNat (u / 16777216)).toNat : Int))]])) ++ ([[(.int .u8 ((UInt8.ofNat (u / 65536)).toNat : Int))]])) ++ ([[(.int .u8 ((UInt8.ofNat (u / 256)).toNat : Int))]])) ++ ([[(.int .u8 ((UInt8.ofNat (u / 1)).toNat : Int))]]) = bcs (l ++ enc8 u) := by simp [bcs, bc, enc8]
  exact ⟨_, _, _, rfl, (grow_own (grow_trans (grow_own (grow_trans (grow_own (grow_trans (grow_own (grow_trans (grow_own (grow_trans (grow_own (grow_trans (grow_own (grow_trans (grow_own (grow_trans (grow_own (g4) g11 ow5 (by omega)) g18) g24 o20 (by omega)) g31) g37 o33 (by omega)) g44) g50 o46 (by omega)) g57) g63 o59 (by omega)) g71) g77 o73 (by omega)) g84) g90 o86 (by omega)) g97) g103 o99 (by omega)) g110) g116 o112 (by omega)), by omega, (hx ▸ ow117).weak (by omega)⟩
set_option maxHeartbeats 400000 in
set_option maxRecDepth 20000 in
theorem putNumber_ (w : World) (B n c : Nat) (A : Option Addr) (l : List UInt8) (hr : Rd w B 1 A (bcs l)) (hn : n = l.length) (hm : n ≤ 1099511627776) (u : Nat) (hu : u ≤ 2147483647) : Ret Tryz.prog 215 [(.slice A n c), (.int .i64 ((u : Nat) : Int))] w (fun v w' => ∃ (A' : Option Addr) (m c' : Nat), v = .tuple #[.slice A' m c', .int .i64 0] ∧ w.grownBy w' none ∧ m = n + 4 ∧ Ow w' w.heap.size 5 1 A' c' (bcs (l ++ enc4 u))) := by
  refine Ret.body Tryz.func215 rfl rfl rfl ?_
  refine CW.seq (CW.region (za (.slice none 0 0) rfl (za (.int .i64 0) rfl (RL.nil (thn.n (CW.seq (CW.seq (CW.region (zm (.int .i64 ((u : Nat) : Int)) rfl (zg rfl (Ex.lt (r := false) rfl rfl (decide_eq_false (by omega))) (zm (.bool false) rfl (zm (.int .i64 ((u : Nat) : Int)) rfl (zg rfl (Ex.gt (r := false) rfl rfl (decide_eq_false (by omega))) (zF (.bool false) rfl (RL.nil (thn.n (CW.condF rfl (CW.skip (thn.n (CW.seq (CW.region ?_)))))))))))))))))))))
  refine zm (.slice A n c) rfl (zm (.int .i64 ((u : Nat) : Int)) rfl (zg rfl (Ex.conv (r := ((u : Nat) : Int)) Tryz.underlying3 Tryz.underlying234 rfl (IntWalk.u64_in _ (by omega))) (RL.call Tryz.call214 (put4_ _ _ n c _ l u hr (by omega) (by omega)) rfl rfl rfl ?_)))
  rintro _ w6 ⟨A1, m2, c3, rfl, g7, hm4, ow5⟩
  have z8 := g7.size
  refine za (.slice A1 m2 c3) rfl (za (.int .i64 0) rfl (RL.nil (thn.n (CW.ret (finQ.r (v := (.tuple #[(.slice A1 m2 c3), (.int .i64 0)])) (res2 rfl rfl rfl) ?_)))))
  exact ⟨_, _, _, rfl, (g7), by omega, ow5.weak (by omega)⟩
set_option maxHeartbeats 400000 in
set_option maxRecDepth 20000 in
theorem putInt_ (w : World) (B n c : Nat) (A : Option Addr) (l : List UInt8) (hr : Rd w B 1 A (bcs l)) (hn : n = l.length) (hm : n ≤ 1099511627776) (x : Int) : Ret Tryz.prog 216 [(.slice A n c), (.int .i64 x)] w (fun v w' => ∃ (A' : Option Addr) (m c' : Nat), v = .slice A' m c' ∧ w.grownBy w' none ∧ m = n + 8 ∧ Ow w' w.heap.size 5 1 A' c' (bcs (l ++ enc8 (u64of x)))) := by
  refine Ret.body Tryz.func216 rfl rfl rfl ?_
  refine CW.seq (CW.region (za (.slice none 0 0) rfl (RL.nil (thn.n (CW.seq (CW.region (zm (.slice A n c) rfl (zm (.int .i64 x) rfl (zg rfl (Ex.conv (r := ((u64of x : Nat) : Int)) Tryz.underlying3 Tryz.underlying234 rfl (u64of_eq x)) (RL.call Tryz.call214 (put8_ _ _ n c _ l (u64of x) hr (by omega) (by omega)) rfl rfl rfl ?_))))))))))
  rintro _ w6 ⟨A1, m2, c3, rfl, g7, hm4, ow5⟩
  have z8 := g7.size
  refine za (.slice A1 m2 c3) rfl (RL.nil (thn.n (CW.ret (finQ.r (v := (.slice A1 m2 c3)) (res1 rfl rfl) ?_))))
  exact ⟨_, _, _, rfl, (g7), by omega, ow5.weak (by omega)⟩
end Go.Proofs.YtfokljnhllflbaaGreat
namespace Go.Proofs.YtfokljnhllflbaaGreat
open Go Go.Eng Go.RowKit
theorem putNumberI (w : World) (B n c : Nat) (A : Option Addr) (l : List UInt8) (hr : Rd w B 1 A (bcs l)) (hn : n = l.length) (hm : n ≤ 1099511627776) (x : Int) (hx : 0 ≤ x ∧ x ≤ 2147483647) : Ret Tryz.prog 215 [.slice A n c, .int .i64 x] w (fun v w' => ∃ (A' : Option Addr) (m c' : Nat), v = .tuple #[.slice A' m c', .int .i64 0] ∧ w.grownBy w' none ∧ m = n + 4 ∧ Ow w' w.heap.size 5 1 A' c' (bcs (l ++ enc4 x.toNat))) := by
  have h := putNumber_ w B n c A l hr hn hm x.toNat (by omega)
  rw [Int.toNat_of_nonneg hx.1] at h
  exact h
set_option maxHeartbeats 400000 in
set_option maxRecDepth 20000 in
theorem putText_ (w : World) (B n c : Nat) (A : Option Addr) (l : List UInt8) (hr : Rd w B 1 A (bcs l)) (hn : n = l.length) (hm : n ≤ 1099511627776) (t : List UInt8) (ht : t.length ≤ 65536) : Ret Tryz.prog 144 [(.slice A n c), (.string (tx t))] w (fun v w' => ∃ (A' : Option Addr) (m c' : Nat), v = .tuple #[.slice A' m c', .int .i64 0] ∧ w.grownBy w' none ∧ m = n + 4 + t.length ∧ Wr w' w.heap.size 5 1 A' m c' (bcs (l ++ enc4 t.length ++ t))) := by
  refine Ret.body Tryz.func144 rfl rfl rfl ?_
  refine CW.seq (CW.region (za (.slice none 0 0) rfl (za (.int .i64 0) rfl (RL.nil (thn.n (CW.seq (CW.seq (CW.region (zm (.string (tx t)) rfl (zg rfl (Ex.lenS Tryz.underlying9 rfl) (zg rfl (Ex.gt (r := false) rfl rfl (decide_eq_false (by rw [tx_size]; omega))) (RL.nil (thn.n (CW.condF rfl (CW.skip (thn.n (CW.seq (CW.region (zm (.slice A n c) rfl (zm (.string (tx t)) rfl (zg rfl (Ex.lenS Tryz.underlying9 rfl) ?_)))))))))))))))))))))
  refine zg rfl (Ex.conv (r := ((t.length : Nat) : Int)) Tryz.underlying3 Tryz.underlying234 rfl (IntWalk.u64_in _ (by have := tx_size t; omega))) (RL.call Tryz.call214 (put4_ _ _ n c _ l t.length hr (by omega) (by omega)) rfl rfl rfl ?_)
  rintro _ w6 ⟨A1, m2, c3, rfl, g7, hm4, ow5⟩
  have z8 := g7.size
  refine zm (.string (tx t)) rfl ?_
  have owr15 : Wr w6 (w.heap.size) 5 1 A1 m2 c3 (bcs (l ++ enc4 t.length)) := (ow5.wr (by simp only [bcs_length, List.length_append, enc4, enc8, List.length_cons, List.length_nil]; omega))
  refine RL.appT (base := w.heap.size) (xs := (l ++ enc4 t.length)) (l := t) el97 Tryz.underlying9 owr15 rfl rfl (ow5.ne_none (by simp only [bcs_length, List.length_append, enc4, enc8, List.length_cons, List.length_nil]; omega)) (by omega) (by omega) (by omega) rfl rfl ?_
  intro w9 A10 c11 g12 ow13 nx14
  have z16 := g12.size
  refine za (.slice A10 (m2 + t.length) c11) rfl (za (.int .i64 0) rfl (RL.nil (thn.n (CW.ret (finQ.r (v := (.tuple #[(.slice A10 (m2 + t.length) c11), (.int .i64 0)])) (res2 rfl rfl rfl) ?_)))))
  exact ⟨_, _, _, rfl, (grow_wr (g7) g12 owr15 (by omega)), by omega, ow13.weak (by omega)⟩
end Go.Proofs.YtfokljnhllflbaaGreat
namespace Go.Proofs.YtfokljnhllflbaaGreat
open Go Go.Eng Go.RowKit
set_option maxHeartbeats 1000000 in
set_option maxRecDepth 20000 in
theorem outN2 (w : World) (S : Nat → Prop) (p n0 c : Nat) (A : Option Addr) (l : List UInt8) (hS : (AllA [BlkA p 166 [.slice A n0 c], RowA 5 1 A n0 c (bcs l)]).ok S w) (xs : List Int) (A2 : Option Addr) (m c2 : Nat) (hr : RdN w S 1 A2 (ics xs)) (hm : m = xs.length) (hx : ∀ x ∈ xs, 0 ≤ x ∧ x ≤ 2147483647) (hlen : l.length + 4 * xs.length ≤ 1099511627000) : Ret Tryz.prog 145 [(.pointer (some ⟨p, 0, none⟩)), (.slice A2 m c2)] w (fun v w' => ∃ (A' : Option Addr) (n' c' : Nat), v = .tuple #[] ∧ Sp ([BlkA p 166 [.slice A' n' c'], RowA 5 1 A' n' c' (bcs (l ++ encN xs))] ++ [Fix w S]) w' ∧ n' = (l ++ encN xs).length) := by
  have H0 := Sp.startL hS
  have hnl := H0.len (i := 1) rfl
  simp only [bcs_length] at hnl
  have H0 : Sp [BlkA p 166 [.slice A n0 c], RowA 5 1 A n0 c (bcs l), Fix w S] w := H0
  refine Ret.body Tryz.func145 rfl rfl rfl ?_
  refine CW.seq (CW.region (zm (.slice A2 m c2) rfl (zg rfl (Ex.len Tryz.underlying134 rfl) (zm (.int .i64 0) rfl (RL.nil (thn.n (CW.block ?_)))))))
  refine CW.loop (fun t => Nat.beq t 5 || (Nat.ble 8 t && Nat.ble t 24)) (fun nL ρ wl => ∃ (k n1 c1 : Nat) (A1 : Option Addr), ρ 8 = (.int .i64 (k : Int)) ∧ nL = xs.length - k ∧ Sp [BlkA p 166 [.slice A1 n1 c1], RowA 5 1 A1 n1 c1 (bcs (l ++ encN (xs.take k))), Fix w S] wl ∧ k ≤ xs.length ∧ n1 = l.length + 4 * k) (xs.length) ?aa0 ?bb0
  case aa0 =>
   have H0 : Sp [BlkA p 166 [.slice A n0 c], RowA 5 1 A n0 c (bcs (l ++ encN (xs.take 0))), Fix w S] w := (by simpa [encN] using H0)
   exact ⟨0, n0, c, A, rfl, rfl, H0, Nat.zero_le _, by omega⟩
  case bb0 =>
   rintro n2 ρ0 w1 ho3 ⟨k, n1, c1, A1, hs0_8, hn0, H4, hk, hn1⟩
   obtain ⟨j0, rfl⟩ := ho3.shape1 hs0_8
   clear ho3 hs0_8
   subst hn0
   have z5 := (H4.chg (i := 2) rfl).size
   have hel : (l ++ encN (xs.take k)).length = l.length + 4 * k := by rw [List.length_append, encN_len, List.length_take]; omega
   refine CW.seq (CW.region ?_)
   refine RL.br (p := ((k : Int) : Int) < ((m : Nat) : Int)) rfl rfl rfl (fun r hr => Ex.lt rfl rfl hr) (fun h6 => ?_) (fun h6 => ?_)
   ·skip
    refine RL.nil (thn.n (CW.seq (CW.condT rfl (CW.skip (thn.n (CW.seq (CW.block (CW.seq (CW.region ?_)))))))))
    obtain ⟨e7, he8⟩ : ∃ e, (xs)[k]? = some e := ⟨_, List.getElem?_eq_getElem (by omega)⟩
    obtain ⟨ad9, hA10⟩ := Rd.sm ((hr.st (H4.chg (i := 2) rfl)).rd) (ics_get he8)
    have hl11 := Eng.lt_len (ics_get he8)
    refine zg rfl (Ex.ix (b := (ad9.add (k * 1))) (i := k) Tryz.underlying134 Tryz.sizeOf3 (by rw [← hA10]; rfl) rfl (by omega) (by omega) rfl) (zg rfl (Ex.ldv rfl (loadC1 lo3 (Cl.at_ (v := (.int .i64 e7)) (Rd.cl ((hr.st (H4.chg (i := 2) rfl)).rd) hA10 (ics_get he8)) (i := 0) rfl))) (za (.int .i64 e7) rfl (RL.nil (thn.n (CW.region (zm (.pointer (some ⟨p, 0, none⟩)) rfl (zm (.pointer (some ⟨p, 0, none⟩)) rfl (zg rfl (Ex.nck rfl) (zg rfl (fa166_0 (b := ⟨p, 0, none⟩) rfl rfl) (zl (.slice A1 n1 c1) lo97 (H4.ob (i := 0) rfl) rfl (zm (.int .i64 e7) rfl ?_)))))))))))
    refine RL.call Tryz.call215 (putNumberI _ _ n1 c1 _ (l ++ encN (xs.take k)) (H4.rowrd (i := 1) rfl) (by first | assumption | omega) (by omega) e7 (by have := hx e7 (List.mem_of_getElem? he8); omega)) rfl rfl rfl ?_
    rintro _ w17 ⟨A12, m13, c14, rfl, g18, hm15, ow16⟩
    have H19 : Sp [RowA 5 1 A12 m13 c14 (bcs ((l ++ encN (xs.take k)) ++ enc4 e7.toNat)), BlkA p 166 [.slice A1 n1 c1], RowA 5 1 A1 n1 c1 (bcs (l ++ encN (xs.take k))), Fix w S] w17 := H4.newO g18 ow16 (by simp only [bcs_length, ics_length, rows_length, blks_length, robjs_length, ents_length, List.length_append, List.length_cons, List.length_nil, List.length_take, List.length_drop, List.length_map, enc4, enc8, encN_len, encW_len]; omega) (Nat.le_refl _)
    have z20 := g18.size
    refine zm (.tuple #[(.slice A12 m13 c14), (.int .i64 0)]) rfl (zx (.slice A12 m13 c14) rfl (zx (.int .i64 0) rfl (zg rfl (Ex.nck rfl) (zg rfl (fa166_0 (b := ⟨p, 0, none⟩) rfl rfl) (RL.st (vs := [(.slice A12 m13 c14)]) (cs' := [(.slice A12 m13 c14)]) Tryz.sizeOf97 (H19.ob (i := 1) rfl) rfl rfl rfl rfl rfl rfl ?_)))))
    intro w21 hz22 g23 o24
    have H25 : Sp [RowA 5 1 A12 m13 c14 (bcs ((l ++ encN (xs.take k)) ++ enc4 e7.toNat)), BlkA p 166 [(.slice A12 m13 c14)], RowA 5 1 A1 n1 c1 (bcs (l ++ encN (xs.take k))), Fix w S] w21 := H19.setB (i := 1) rfl g23 o24 rfl
    have z26 := g23.size
    refine RL.nil (inB.n (thn.n (CW.region (zg rfl (Ex.add (r := (k : Int) + 1) rfl rfl (w64 (by omega) (by omega))) (zm (.int .i64 ((k : Int) + 1)) rfl (RL.nil (thn.n ?_)))))))
    have H27 : Sp [RowA 5 1 A12 m13 c14 (bcs (l ++ encN (xs.take (k + 1)))), BlkA p 166 [(.slice A12 m13 c14)], RowA 5 1 A1 n1 c1 (bcs (l ++ encN (xs.take k))), Fix w S] w21 := H25.eqR (i := 0) rfl rfl (by rw [take_snoc he8, encN_snoc, ← List.append_assoc]) rfl
    refine ⟨(by repeat (first | exact Out.mix _ _ | exact Out.refl _ _ | refine Out.up ?_ rfl _)), _, ?_, k + 1, m13, c14, A12, rfl, rfl, (H27.sel [1, 0, 3] (by decide) rfl), by omega, by omega⟩
    omega
   ·skip
    refine RL.nil (thn.n (CW.seq (CW.condF rfl (CW.exit (thn.x (thn.x (inB.hit (finQ.n (v := (.tuple #[])) (res0 rfl) ?_))))))))
    have hkk : xs.take k = xs := List.take_of_length_le (by omega)
    rw [hkk] at hel H4
    exact ⟨_, _, _, rfl, (H4.sel [0, 1, 2] (by decide) rfl), by omega⟩
set_option maxHeartbeats 1000000 in
set_option maxRecDepth 20000 in
theorem outI2 (w : World) (S : Nat → Prop) (p n0 c : Nat) (A : Option Addr) (l : List UInt8) (hS : (AllA [BlkA p 166 [.slice A n0 c], RowA 5 1 A n0 c (bcs l)]).ok S w) (xs : List Int) (A2 : Option Addr) (m c2 : Nat) (hr : RdN w S 1 A2 (ics xs)) (hm : m = xs.length) (hlen : l.length + 8 * xs.length ≤ 1099511627000) : Ret Tryz.prog 146 [(.pointer (some ⟨p, 0, none⟩)), (.slice A2 m c2)] w (fun v w' => ∃ (A' : Option Addr) (n' c' : Nat), v = .tuple #[] ∧ Sp ([BlkA p 166 [.slice A' n' c'], RowA 5 1 A' n' c' (bcs (l ++ encW xs))] ++ [Fix w S]) w' ∧ n' = (l ++ encW xs).length) := by
  have H0 := Sp.startL hS
  have hnl := H0.len (i := 1) rfl
  simp only [bcs_length] at hnl
  have H0 : Sp [BlkA p 166 [.slice A n0 c], RowA 5 1 A n0 c (bcs l), Fix w S] w := H0
  refine Ret.body Tryz.func146 rfl rfl rfl ?_
  refine CW.seq (CW.region (zm (.slice A2 m c2) rfl (zg rfl (Ex.len Tryz.underlying134 rfl) (zm (.int .i64 0) rfl (RL.nil (thn.n (CW.block ?_)))))))
  refine CW.loop (fun t => Nat.beq t 5 || (Nat.ble 8 t && Nat.ble t 21)) (fun nL ρ wl => ∃ (k n1 c1 : Nat) (A1 : Option Addr), ρ 8 = (.int .i64 (k : Int)) ∧ nL = xs.length - k ∧ Sp [BlkA p 166 [.slice A1 n1 c1], RowA 5 1 A1 n1 c1 (bcs (l ++ encW (xs.take k))), Fix w S] wl ∧ k ≤ xs.length ∧ n1 = l.length + 8 * k) (xs.length) ?aa0 ?bb0
  case aa0 =>
   have H0 : Sp [BlkA p 166 [.slice A n0 c], RowA 5 1 A n0 c (bcs (l ++ encW (xs.take 0))), Fix w S] w := (by simpa [encW] using H0)
   exact ⟨0, n0, c, A, rfl, rfl, H0, Nat.zero_le _, by omega⟩
  case bb0 =>
   rintro n2 ρ0 w1 ho3 ⟨k, n1, c1, A1, hs0_8, hn0, H4, hk, hn1⟩
   obtain ⟨j0, rfl⟩ := ho3.shape1 hs0_8
   clear ho3 hs0_8
   subst hn0
   have z5 := (H4.chg (i := 2) rfl).size
   have hel : (l ++ encW (xs.take k)).length = l.length + 8 * k := by rw [List.length_append, encW_len, List.length_take]; omega
   refine CW.seq (CW.region ?_)
   refine RL.br (p := ((k : Int) : Int) < ((m : Nat) : Int)) rfl rfl rfl (fun r hr => Ex.lt rfl rfl hr) (fun h6 => ?_) (fun h6 => ?_)
   ·skip
    refine RL.nil (thn.n (CW.seq (CW.condT rfl (CW.skip (thn.n (CW.seq (CW.block (CW.seq (CW.region ?_)))))))))
    obtain ⟨e7, he8⟩ : ∃ e, (xs)[k]? = some e := ⟨_, List.getElem?_eq_getElem (by omega)⟩
    obtain ⟨ad9, hA10⟩ := Rd.sm ((hr.st (H4.chg (i := 2) rfl)).rd) (ics_get he8)
    have hl11 := Eng.lt_len (ics_get he8)
    refine zg rfl (Ex.ix (b := (ad9.add (k * 1))) (i := k) Tryz.underlying134 Tryz.sizeOf3 (by rw [← hA10]; rfl) rfl (by omega) (by omega) rfl) (zg rfl (Ex.ldv rfl (loadC1 lo3 (Cl.at_ (v := (.int .i64 e7)) (Rd.cl ((hr.st (H4.chg (i := 2) rfl)).rd) hA10 (ics_get he8)) (i := 0) rfl))) (za (.int .i64 e7) rfl (RL.nil (thn.n (CW.region (zm (.pointer (some ⟨p, 0, none⟩)) rfl (zm (.pointer (some ⟨p, 0, none⟩)) rfl (zg rfl (Ex.nck rfl) (zg rfl (fa166_0 (b := ⟨p, 0, none⟩) rfl rfl) (zl (.slice A1 n1 c1) lo97 (H4.ob (i := 0) rfl) rfl (zm (.int .i64 e7) rfl (RL.call Tryz.call216 (putInt_ _ _ n1 c1 _ (l ++ encW (xs.take k)) (H4.rowrd (i := 1) rfl) (by first | assumption | omega) (by omega) e7) rfl rfl rfl ?_))))))))))))
    rintro _ w17 ⟨A12, m13, c14, rfl, g18, hm15, ow16⟩
    have H19 : Sp [RowA 5 1 A12 m13 c14 (bcs (((l ++ encW (xs.take k)) ++ enc8 (u64of e7)))), BlkA p 166 [.slice A1 n1 c1], RowA 5 1 A1 n1 c1 (bcs (l ++ encW (xs.take k))), Fix w S] w17 := H4.newO g18 ow16 (by simp only [bcs_length, ics_length, rows_length, blks_length, robjs_length, ents_length, List.length_append, List.length_cons, List.length_nil, List.length_take, List.length_drop, List.length_map, enc4, enc8, encN_len, encW_len]; omega) (Nat.le_refl _)
    have z20 := g18.size
    refine zg rfl (Ex.nck rfl) (zg rfl (fa166_0 (b := ⟨p, 0, none⟩) rfl rfl) (RL.st (vs := [(.slice A12 m13 c14)]) (cs' := [(.slice A12 m13 c14)]) Tryz.sizeOf97 (H19.ob (i := 1) rfl) rfl rfl rfl rfl rfl rfl ?_))
    intro w21 hz22 g23 o24
    have H25 : Sp [RowA 5 1 A12 m13 c14 (bcs (((l ++ encW (xs.take k)) ++ enc8 (u64of e7)))), BlkA p 166 [(.slice A12 m13 c14)], RowA 5 1 A1 n1 c1 (bcs (l ++ encW (xs.take k))), Fix w S] w21 := H19.setB (i := 1) rfl g23 o24 rfl
    have z26 := g23.size
    refine RL.nil (inB.n (thn.n (CW.region (zg rfl (Ex.add (r := (k : Int) + 1) rfl rfl (w64 (by omega) (by omega))) (zm (.int .i64 ((k : Int) + 1)) rfl (RL.nil (thn.n ?_)))))))
    have H27 : Sp [RowA 5 1 A12 m13 c14 (bcs (l ++ encW (xs.take (k + 1)))), BlkA p 166 [(.slice A12 m13 c14)], RowA 5 1 A1 n1 c1 (bcs (l ++ encW (xs.take k))), Fix w S] w21 := H25.eqR (i := 0) rfl rfl (by rw [take_snoc he8, encW_snoc, ← List.append_assoc]) rfl
    refine ⟨(by repeat (first | exact Out.mix _ _ | exact Out.refl _ _ | refine Out.up ?_ rfl _)), _, ?_, k + 1, m13, c14, A12, rfl, rfl, (H27.sel [1, 0, 3] (by decide) rfl), by omega, by omega⟩
    omega
   ·skip
    refine RL.nil (thn.n (CW.seq (CW.condF rfl (CW.exit (thn.x (thn.x (inB.hit (finQ.n (v := (.tuple #[])) (res0 rfl) ?_))))))))
    have hkk : xs.take k = xs := List.take_of_length_le (by omega)
    rw [hkk] at hel H4
    exact ⟨_, _, _, rfl, (H4.sel [0, 1, 2] (by decide) rfl), by omega⟩
set_option maxHeartbeats 1000000 in
set_option maxRecDepth 20000 in
theorem putHeap_ (w : World) (B : Nat) (rh : RHeap) (ros : List RObj) (h : Heap) (H : HeapR w B rh ros h) (hB : B ≤ w.heap.size) : Ret Tryz.prog 77 [(.agg (rh.cells).toArray)] w (fun v w' => ∃ (A' : Option Addr) (n' c' : Nat), v = .tuple #[.slice A' n' c', .int .i64 (putHeapX h).2] ∧ Sp ([RowA 5 1 A' n' c' (bcs (putHeapX h).1)] ++ [Fix w NoB]) w') := by
  have hord := H.order
  have hnx := H.next
  have hfn := H.fn
  have hfm := H.fm
  have hon := H.objs.n
  have hom := H.objs.m
  have hol := H.objs.len
  have H0 : Sp [Fix w NoB] w := Sp.start w
  refine Ret.body Tryz.func77 rfl rfl rfl ?_
  refine CW.seq (CW.region (RL.bx (cs := rh.cells) rfl rfl rfl ?_))
  intro w1 b2 hb3 hz4 g5 o6
  have H7 := H0.newB g5 o6 (by omega)
  have z8 := g5.size
  refine za (.slice none 0 0) rfl (za (.int .i64 0) rfl (RL.nil (thn.n (CW.seq (CW.seq (CW.region (zg rfl (Ex.ldv rfl (loadCN (cs := rh.cells) wh47 (H7.ob (i := 0) rfl).cl)) (RL.call Tryz.call140 (heapCheck_ _ _ rh _ _ (H.st0 (H7.fix (i := 1) rfl)) (by omega)) rfl rfl rfl ?_))))))))
  rintro _ w9 ⟨rfl, g10⟩
  have H11 := H7.grow g10
  have z12 := g10.size
  refine RL.br (p := ((if heapB h then 0 else 1) : Int) ≠ (0 : Int)) rfl rfl rfl (fun r hr => Ex.neD rfl rfl hr) (fun h13 => ?_) (fun h13 => ?_)
  ·skip
   refine RL.nil (thn.n (CW.condT rfl (CW.seq (CW.region (za (.slice none 0 0) rfl (za (.int .i64 60) rfl (RL.nil (thn.n (CW.ret (thn.r (finQ.r (v := (.tuple #[(.slice none 0 0), (.int .i64 60)])) (res2 rfl rfl rfl) ?_)))))))))))
   have H14 := H11.nil_ 5 1
   have hbb : heapB h = false := by
     cases hkb : heapB h with
     | false => rfl
     | true => rw [hkb] at h13; exact absurd rfl h13
   exact ⟨none, 0, 0, by unfold putHeapX; rw [hbb]; rfl, by unfold putHeapX; rw [hbb]; exact (H14.sel [0, 2] (by decide) rfl)⟩
  ·skip
   refine RL.nil (thn.n (CW.condF rfl (CW.skip (thn.n (CW.seq (CW.region ?_))))))
   have hbb : heapB h = true := by
      cases hkb : heapB h with
      | true => rfl
      | false => rw [hkb] at h13; exact absurd h13 (by decide)
   have hrg := heapB_rng hbb
   obtain ⟨hr1, hr2, hr3, hr4, hr5⟩ := hrg
   have htp := H.tops
   rw [← htp] at hr4
   have hq1 : (encN [rh.order, rh.next]).length = 8 := rfl
   refine zg rfl (Ex.bd (cs := [(.slice none 0 0)]) bd166 rfl) (RL.bx (cs := [(.slice none 0 0)]) rfl rfl rfl ?_)
   intro w15 b16 hb17 hz18 g19 o20
   have H21 := H11.newB g19 o20 (by omega)
   have z22 := g19.size
   refine za (.pointer (some ⟨b16, 0, none⟩)) rfl (RL.nil (thn.n (CW.seq (CW.region (zm (.pointer (some ⟨b16, 0, none⟩)) rfl (zg rfl (fa47_0 (b := ⟨b2, 0, none⟩) rfl rfl) (zl (.int .i64 rh.order) lo3 (H21.ob (i := 1) rfl) rfl (zg rfl (fa47_2 (b := ⟨b2, 2, none⟩) rfl rfl) (zl (.int .i64 rh.next) lo3 (H21.ob (i := 1) rfl) rfl (RL.bs (cs := [(.int .i64 rh.order), (.int .i64 rh.next)]) Tryz.underlying134 Tryz.sizeOf3 ze134 rfl rfl rfl (by decide) rfl rfl rfl ?_))))))))))
   intro w23 b24 hb25 hz26 g27 o28
   have H29 := H21.newB g27 o28 (by omega)
   have z30 := g27.size
   have H31 := H29.nil_ 5 1
   obtain ⟨S36, hS37, hO38, K39⟩ := Sp.takeL (l1 := [BlkA b16 166 [(.slice none 0 0)], RowA 5 1 none 0 0 (bcs ([]))]) (l2 := [BlkA b24 3 [(.int .i64 rh.order), (.int .i64 rh.next)], BlkA b2 47 rh.cells, Fix w NoB]) (w := w23) (H31.sel [2, 0, 1, 3, 4] (by decide) rfl)
   refine RL.call Tryz.call145 (outN2 _ S36 b16 0 0 none ([]) hS37 ([rh.order, rh.next]) _ 2 2 (RdN.of_blk hO38 (j := 0) rfl (Ob.rdI (l := [rh.order, rh.next]) (H31.ob (i := 1) rfl) rfl)) (by first | rfl | assumption | omega) (by intro x hx; simp only [List.mem_cons, List.not_mem_nil, or_false] at hx; omega) (by simp only [bcs_length, ics_length, rows_length, blks_length, robjs_length, ents_length, List.length_append, List.length_cons, List.length_nil, List.length_take, List.length_drop, List.length_map, enc4, enc8, encN_len, encW_len] at *; omega)) rfl rfl rfl ?_
   rintro _ w40 ⟨A32, n33, c34, rfl, g41, hn35⟩
   have H42 : Sp [BlkA b16 166 [.slice A32 n33 c34], RowA 5 1 A32 n33 c34 (bcs ([] ++ encN ([rh.order, rh.next]))), BlkA b24 3 [(.int .i64 rh.order), (.int .i64 rh.next)], BlkA b2 47 rh.cells, Fix w NoB] w40 := K39 _ _ g41
   have z43 := (H42.fix (i := 4) rfl).size
   refine RL.nil (thn.n (CW.seq (CW.region (zm (.pointer (some ⟨b16, 0, none⟩)) rfl (zg rfl (fa47_3 (b := ⟨b2, 3, none⟩) rfl rfl) (zg rfl (Ex.slA Tryz.underlying44 Tryz.sizeOf3 rfl rfl) ?_))))))
   obtain ⟨S48, hS49, hO50, K51⟩ := H42.takeN 2
   refine RL.call Tryz.call145 (outN2 _ S48 b16 n33 c34 A32 ([] ++ encN ([rh.order, rh.next])) hS49 ([rh.t0, rh.t1, rh.t2, rh.t3]) _ 4 4 (RdN.of_blk hO50 (j := 1) rfl (Ob.rdI (l := [rh.t0, rh.t1, rh.t2, rh.t3]) (H42.ob (i := 3) rfl) rfl)) (by first | rfl | assumption | omega) (hr4) (by simp only [bcs_length, ics_length, rows_length, blks_length, robjs_length, ents_length, List.length_append, List.length_cons, List.length_nil, List.length_take, List.length_drop, List.length_map, enc4, enc8, encN_len, encW_len] at *; omega)) rfl rfl rfl ?_
   rintro _ w52 ⟨A44, n45, c46, rfl, g53, hn47⟩
   have H54 : Sp [BlkA b16 166 [.slice A44 n45 c46], RowA 5 1 A44 n45 c46 (bcs ((([] ++ encN ([rh.order, rh.next])) ++ encN ([rh.t0, rh.t1, rh.t2, rh.t3])))), BlkA b24 3 [(.int .i64 rh.order), (.int .i64 rh.next)], BlkA b2 47 rh.cells, Fix w NoB] w52 := K51 _ _ g53
   have z55 := (H54.fix (i := 4) rfl).size
   refine RL.nil (thn.n (CW.seq (CW.region (zm (.pointer (some ⟨b16, 0, none⟩)) rfl (zg rfl (fa47_1 (b := ⟨b2, 1, none⟩) rfl rfl) (zl (.slice rh.objs.a rh.objs.n rh.objs.c) lo43 (H54.ob (i := 3) rfl) rfl (zg rfl (Ex.len Tryz.underlying43 rfl) (RL.bs (cs := [(.int .i64 (rh.objs.n : Nat))]) Tryz.underlying134 Tryz.sizeOf3 ze134 rfl rfl rfl (by decide) rfl rfl rfl ?_))))))))
   intro w56 b57 hb58 hz59 g60 o61
   have H62 := H54.newB g60 o61 (by omega)
   have z63 := g60.size
   obtain ⟨S69, hS70, hO71, K72⟩ := Sp.takeL (l1 := [BlkA b16 166 [.slice A44 n45 c46], RowA 5 1 A44 n45 c46 (bcs ((([] ++ encN ([rh.order, rh.next])) ++ encN ([rh.t0, rh.t1, rh.t2, rh.t3]))))]) (l2 := [BlkA b57 3 [(.int .i64 (rh.objs.n : Nat))], BlkA b24 3 [(.int .i64 rh.order), (.int .i64 rh.next)], BlkA b2 47 rh.cells, Fix w NoB]) (w := w56) (H62.sel [1, 2, 0, 3, 4, 5] (by decide) rfl)
   refine RL.call Tryz.call145 (outN2 _ S69 b16 n45 c46 A44 ((([] ++ encN ([rh.order, rh.next])) ++ encN ([rh.t0, rh.t1, rh.t2, rh.t3]))) hS70 ([(rh.objs.n : Nat)]) _ 1 1 (RdN.of_blk hO71 (j := 0) rfl (Ob.rdI (l := [(rh.objs.n : Nat)]) (H62.ob (i := 0) rfl) rfl)) (by first | rfl | assumption | omega) (by intro x hx; simp only [List.mem_cons, List.not_mem_nil, or_false] at hx; omega) (by simp only [bcs_length, ics_length, rows_length, blks_length, robjs_length, ents_length, List.length_append, List.length_cons, List.length_nil, List.length_take, List.length_drop, List.length_map, enc4, enc8, encN_len, encW_len] at *; omega)) rfl rfl rfl ?_
   rintro _ w73 ⟨A65, n66, c67, rfl, g74, hn68⟩
   have H75 : Sp [BlkA b16 166 [.slice A65 n66 c67], RowA 5 1 A65 n66 c67 (bcs (((([] ++ encN ([rh.order, rh.next])) ++ encN ([rh.t0, rh.t1, rh.t2, rh.t3])) ++ encN ([(rh.objs.n : Nat)])))), BlkA b57 3 [(.int .i64 (rh.objs.n : Nat))], BlkA b24 3 [(.int .i64 rh.order), (.int .i64 rh.next)], BlkA b2 47 rh.cells, Fix w NoB] w73 := K72 _ _ g74
   have z76 := (H75.fix (i := 5) rfl).size
   refine RL.nil (thn.n (CW.seq (CW.seq (CW.region (zg rfl (fa47_1 (b := ⟨b2, 1, none⟩) rfl rfl) (zl (.slice rh.objs.a rh.objs.n rh.objs.c) lo43 (H75.ob (i := 4) rfl) rfl (zg rfl (Ex.len Tryz.underlying43 rfl) (zm (.int .i64 0) rfl (RL.nil (thn.n (CW.block ?_)))))))))))
   have hz0 : ((([] ++ encN ([rh.order, rh.next])) ++ encN ([rh.t0, rh.t1, rh.t2, rh.t3])) ++ encN ([(rh.objs.n : Nat)])) = (((encN [rh.order, rh.next] ++ encN [rh.t0, rh.t1, rh.t2, rh.t3]) ++ encN [((rh.objs.n : Nat) : Int)]) ++ putObjs (h.objs.take 0)) := by simp [putObjs]
   refine CW.loop (fun t => Nat.beq t 6 || (Nat.ble 32 t && Nat.ble t 58)) (fun nL ρ wl => ∃ (k n1 c1 : Nat) (A1 : Option Addr), ρ 32 = (.int .i64 (k : Int)) ∧ nL = rh.objs.n - k ∧ Sp [BlkA b16 166 [.slice A1 n1 c1], RowA 5 1 A1 n1 c1 (bcs ((((encN [rh.order, rh.next] ++ encN [rh.t0, rh.t1, rh.t2, rh.t3]) ++ encN [((rh.objs.n : Nat) : Int)]) ++ putObjs (h.objs.take k)))), BlkA b2 47 rh.cells, Fix w NoB] wl ∧ k ≤ rh.objs.n ∧ n1 ≤ 28 + 336 * k) (rh.objs.n) ?aa0 ?bb0
   case aa0 =>
    have H77 : Sp [BlkA b16 166 [.slice A65 n66 c67], RowA 5 1 A65 n66 c67 (bcs ((((encN [rh.order, rh.next] ++ encN [rh.t0, rh.t1, rh.t2, rh.t3]) ++ encN [((rh.objs.n : Nat) : Int)]) ++ putObjs (h.objs.take 0)))), BlkA b57 3 [(.int .i64 (rh.objs.n : Nat))], BlkA b24 3 [(.int .i64 rh.order), (.int .i64 rh.next)], BlkA b2 47 rh.cells, Fix w NoB] w73 := H75.eqR (i := 1) rfl rfl (congrArg bcs hz0) rfl
    exact ⟨0, n66, c67, A65, rfl, rfl, (H77.sel [0, 1, 4, 5] (by decide) rfl), Nat.zero_le _, by simp only [bcs_length, ics_length, rows_length, blks_length, robjs_length, ents_length, List.length_append, List.length_cons, List.length_nil, List.length_take, List.length_drop, List.length_map, enc4, enc8, encN_len, encW_len] at *; omega⟩
   case bb0 =>
    rintro n79 ρ0 w78 ho80 ⟨k, n1, c1, A1, hs0_32, hn0, H81, hk, hn1⟩
    obtain ⟨j0, rfl⟩ := ho80.shape1 hs0_32
    clear ho80 hs0_32
    subst hn0
    have z82 := (H81.fix (i := 3) rfl).size
    have hlen := (H81.len (i := 1) rfl)
    rw [bcs_length] at hlen
    refine CW.seq (CW.region ?_)
    refine RL.br (p := ((k : Int) : Int) < ((rh.objs.n : Nat) : Int)) rfl rfl rfl (fun r hr => Ex.lt rfl rfl hr) (fun h83 => ?_) (fun h83 => ?_)
    ·skip
     refine RL.nil (thn.n (CW.seq (CW.condT rfl (CW.skip (thn.n (CW.seq (CW.block (CW.seq (CW.region ?_)))))))))
     obtain ⟨e84, he85⟩ : ∃ e, ros[k]? = some e := ⟨_, List.getElem?_eq_getElem (by omega)⟩
     obtain ⟨o86, ho87⟩ : ∃ e, h.objs[k]? = some e := ⟨_, List.getElem?_eq_getElem (by omega)⟩
     have oR88 := H.objs.all k e84 o86 he85 ho87
     have e89 := oR88.wl
     have e90 := oR88.ll
     have e91 := oR88.b
     have e92 := oR88.wm
     have e93 := oR88.lm
     have e94 := oR88.h
     obtain ⟨ad95, hA96⟩ := Rd.sm (H.objs.rd.st0 (H81.fix (i := 3) rfl)) (robjs_get he85)
     have hl97 := Eng.lt_len (robjs_get he85)
     refine zg rfl (Ex.ix (b := (ad95.add (k * 5))) (i := k) Tryz.underlying43 Tryz.sizeOf136 (by rw [← hA96]; rfl) rfl (by omega) (by omega) rfl) (zg rfl (Ex.ldv rfl (loadCN (cs := e84.cells) wh136 (Rd.cl (H.objs.rd.st0 (H81.fix (i := 3) rfl)) hA96 (robjs_get he85)))) (RL.al (cs := [(.int .i64 0), (.int .i64 0), (.int .i64 0), (.slice none 0 0), (.slice none 0 0)]) Tryz.zeroValue136 rfl rfl rfl ?_))
     intro w98 b99 hb100 hz101 g102 o103
     have H104 := H81.newB g102 o103 (by omega)
     have z105 := g102.size
     refine RL.st (vs := e84.cells) (cs' := e84.cells) Tryz.sizeOf136 (H104.ob (i := 0) rfl) rfl rfl rfl rfl rfl rfl ?_
     intro w106 hz107 g108 o109
     have H110 : Sp [BlkA b99 136 e84.cells, BlkA b16 166 [.slice A1 n1 c1], RowA 5 1 A1 n1 c1 (bcs ((((encN [rh.order, rh.next] ++ encN [rh.t0, rh.t1, rh.t2, rh.t3]) ++ encN [((rh.objs.n : Nat) : Int)]) ++ putObjs (h.objs.take k)))), BlkA b2 47 rh.cells, Fix w NoB] w106 := H104.setB (i := 0) rfl g108 o109 rfl
     have z111 := g108.size
     refine RL.nil (thn.n (CW.seq (CW.region ?_)))
     have hob := hr5 o86 (List.mem_of_getElem? ho87)
     obtain ⟨ho1, ho2, ho3, ho4, ho5⟩ := hob
     rw [← oR88.h] at ho1
     rw [← oR88.b] at ho2
     refine zm (.pointer (some ⟨b16, 0, none⟩)) rfl (zg rfl (fa136_0 (b := ⟨b99, 0, none⟩) rfl rfl) (zl (.int .i64 e84.handle) lo3 (H110.ob (i := 0) rfl) rfl (zg rfl (fa136_1 (b := ⟨b99, 1, none⟩) rfl rfl) (zg rfl (fa133_0 (b := ⟨b99, 1, none⟩) rfl rfl) (zl (.int .i64 e84.blk.at_) lo3 (H110.ob (i := 0) rfl) rfl (zg rfl (fa136_2 (b := ⟨b99, 3, none⟩) rfl rfl) (zl (.slice e84.words.a e84.words.n e84.words.c) lo134 (H110.ob (i := 0) rfl) rfl (zg rfl (Ex.len Tryz.underlying134 rfl) (zg rfl (fa136_3 (b := ⟨b99, 4, none⟩) rfl rfl) (zl (.slice e84.links.a e84.links.n e84.links.c) lo134 (H110.ob (i := 0) rfl) rfl ?_))))))))))
     refine zg rfl (Ex.len Tryz.underlying134 rfl) (RL.bs (cs := [(.int .i64 e84.handle), (.int .i64 e84.blk.at_), (.int .i64 (e84.words.n : Nat)), (.int .i64 (e84.links.n : Nat))]) Tryz.underlying134 Tryz.sizeOf3 ze134 rfl rfl rfl (by decide) rfl rfl rfl ?_)
     intro w112 b113 hb114 hz115 g116 o117
     have H118 := H110.newB g116 o117 (by omega)
     have z119 := g116.size
     obtain ⟨S124, hS125, hO126, K127⟩ := Sp.takeL (l1 := [BlkA b16 166 [.slice A1 n1 c1], RowA 5 1 A1 n1 c1 (bcs ((((encN [rh.order, rh.next] ++ encN [rh.t0, rh.t1, rh.t2, rh.t3]) ++ encN [((rh.objs.n : Nat) : Int)]) ++ putObjs (h.objs.take k))))]) (l2 := [BlkA b113 3 [(.int .i64 e84.handle), (.int .i64 e84.blk.at_), (.int .i64 (e84.words.n : Nat)), (.int .i64 (e84.links.n : Nat))], BlkA b99 136 e84.cells, BlkA b2 47 rh.cells, Fix w NoB]) (w := w112) (H118.sel [2, 3, 0, 1, 4, 5] (by decide) rfl)
     refine RL.call Tryz.call145 (outN2 _ S124 b16 n1 c1 A1 ((((encN [rh.order, rh.next] ++ encN [rh.t0, rh.t1, rh.t2, rh.t3]) ++ encN [((rh.objs.n : Nat) : Int)]) ++ putObjs (h.objs.take k))) hS125 ([e84.handle, e84.blk.at_, (e84.words.n : Nat), (e84.links.n : Nat)]) _ 4 4 (RdN.of_blk hO126 (j := 0) rfl (Ob.rdI (l := [e84.handle, e84.blk.at_, (e84.words.n : Nat), (e84.links.n : Nat)]) (H118.ob (i := 0) rfl) rfl)) (by first | rfl | assumption | omega) (by intro x hx; simp only [List.mem_cons, List.not_mem_nil, or_false] at hx; omega) (by simp only [bcs_length, ics_length, rows_length, blks_length, robjs_length, ents_length, List.length_append, List.length_cons, List.length_nil, List.length_take, List.length_drop, List.length_map, enc4, enc8, encN_len, encW_len] at *; omega)) rfl rfl rfl ?_
     rintro _ w128 ⟨A120, n121, c122, rfl, g129, hn123⟩
     have H130 : Sp [BlkA b16 166 [.slice A120 n121 c122], RowA 5 1 A120 n121 c122 (bcs (((((encN [rh.order, rh.next] ++ encN [rh.t0, rh.t1, rh.t2, rh.t3]) ++ encN [((rh.objs.n : Nat) : Int)]) ++ putObjs (h.objs.take k)) ++ encN ([e84.handle, e84.blk.at_, (e84.words.n : Nat), (e84.links.n : Nat)])))), BlkA b113 3 [(.int .i64 e84.handle), (.int .i64 e84.blk.at_), (.int .i64 (e84.words.n : Nat)), (.int .i64 (e84.links.n : Nat))], BlkA b99 136 e84.cells, BlkA b2 47 rh.cells, Fix w NoB] w128 := K127 _ _ g129
     have z131 := (H130.fix (i := 5) rfl).size
     refine RL.nil (thn.n (CW.seq (CW.region (zm (.pointer (some ⟨b16, 0, none⟩)) rfl (zg rfl (fa136_2 (b := ⟨b99, 3, none⟩) rfl rfl) (zl (.slice e84.words.a e84.words.n e84.words.c) lo134 (H130.ob (i := 3) rfl) rfl ?_))))))
     obtain ⟨S136, hS137, hO138, K139⟩ := H130.takeN 2
     refine RL.call Tryz.call146 (outI2 _ S136 b16 n121 c122 A120 (((((encN [rh.order, rh.next] ++ encN [rh.t0, rh.t1, rh.t2, rh.t3]) ++ encN [((rh.objs.n : Nat) : Int)]) ++ putObjs (h.objs.take k)) ++ encN ([e84.handle, e84.blk.at_, (e84.words.n : Nat), (e84.links.n : Nat)]))) hS137 o86.words _ e84.words.n e84.words.c (RdN.of_fix hO138 (j := 3) rfl oR88.rw_ (by omega)) (by first | rfl | assumption | omega) (by simp only [bcs_length, ics_length, rows_length, blks_length, robjs_length, ents_length, List.length_append, List.length_cons, List.length_nil, List.length_take, List.length_drop, List.length_map, enc4, enc8, encN_len, encW_len] at *; omega)) rfl rfl rfl ?_
     rintro _ w140 ⟨A132, n133, c134, rfl, g141, hn135⟩
     have H142 : Sp [BlkA b16 166 [.slice A132 n133 c134], RowA 5 1 A132 n133 c134 (bcs ((((((encN [rh.order, rh.next] ++ encN [rh.t0, rh.t1, rh.t2, rh.t3]) ++ encN [((rh.objs.n : Nat) : Int)]) ++ putObjs (h.objs.take k)) ++ encN ([e84.handle, e84.blk.at_, (e84.words.n : Nat), (e84.links.n : Nat)])) ++ encW o86.words))), BlkA b113 3 [(.int .i64 e84.handle), (.int .i64 e84.blk.at_), (.int .i64 (e84.words.n : Nat)), (.int .i64 (e84.links.n : Nat))], BlkA b99 136 e84.cells, BlkA b2 47 rh.cells, Fix w NoB] w140 := K139 _ _ g141
     have z143 := (H142.fix (i := 5) rfl).size
     refine RL.nil (thn.n (CW.region (zm (.pointer (some ⟨b16, 0, none⟩)) rfl (zg rfl (fa136_3 (b := ⟨b99, 4, none⟩) rfl rfl) (zl (.slice e84.links.a e84.links.n e84.links.c) lo134 (H142.ob (i := 3) rfl) rfl ?_)))))
     obtain ⟨S148, hS149, hO150, K151⟩ := H142.takeN 2
     refine RL.call Tryz.call145 (outN2 _ S148 b16 n133 c134 A132 ((((((encN [rh.order, rh.next] ++ encN [rh.t0, rh.t1, rh.t2, rh.t3]) ++ encN [((rh.objs.n : Nat) : Int)]) ++ putObjs (h.objs.take k)) ++ encN ([e84.handle, e84.blk.at_, (e84.words.n : Nat), (e84.links.n : Nat)])) ++ encW o86.words)) hS149 o86.links _ e84.links.n e84.links.c (RdN.of_fix hO150 (j := 3) rfl oR88.rl (by omega)) (by first | rfl | assumption | omega) (ho5) (by simp only [bcs_length, ics_length, rows_length, blks_length, robjs_length, ents_length, List.length_append, List.length_cons, List.length_nil, List.length_take, List.length_drop, List.length_map, enc4, enc8, encN_len, encW_len] at *; omega)) rfl rfl rfl ?_
     rintro _ w152 ⟨A144, n145, c146, rfl, g153, hn147⟩
     have H154 : Sp [BlkA b16 166 [.slice A144 n145 c146], RowA 5 1 A144 n145 c146 (bcs (((((((encN [rh.order, rh.next] ++ encN [rh.t0, rh.t1, rh.t2, rh.t3]) ++ encN [((rh.objs.n : Nat) : Int)]) ++ putObjs (h.objs.take k)) ++ encN ([e84.handle, e84.blk.at_, (e84.words.n : Nat), (e84.links.n : Nat)])) ++ encW o86.words) ++ encN o86.links))), BlkA b113 3 [(.int .i64 e84.handle), (.int .i64 e84.blk.at_), (.int .i64 (e84.words.n : Nat)), (.int .i64 (e84.links.n : Nat))], BlkA b99 136 e84.cells, BlkA b2 47 rh.cells, Fix w NoB] w152 := K151 _ _ g153
     have z155 := (H154.fix (i := 5) rfl).size
     refine RL.nil (inB.n (thn.n (CW.region (zg rfl (Ex.add (r := (k : Int) + 1) rfl rfl (w64 (by omega) (by omega))) (zm (.int .i64 ((k : Int) + 1)) rfl (RL.nil (thn.n ?_)))))))
     have H156 : Sp [BlkA b16 166 [.slice A144 n145 c146], RowA 5 1 A144 n145 c146 (bcs ((((encN [rh.order, rh.next] ++ encN [rh.t0, rh.t1, rh.t2, rh.t3]) ++ encN [((rh.objs.n : Nat) : Int)]) ++ putObjs (h.objs.take (k + 1))))), BlkA b113 3 [(.int .i64 e84.handle), (.int .i64 e84.blk.at_), (.int .i64 (e84.words.n : Nat)), (.int .i64 (e84.links.n : Nat))], BlkA b99 136 e84.cells, BlkA b2 47 rh.cells, Fix w NoB] w152 := H154.eqR (i := 1) rfl rfl (by rw [take_snoc ho87, putObjs_snoc, putObj, ← oR88.wl, ← oR88.ll, ← oR88.h, ← oR88.b]; simp only [List.append_assoc]) rfl
     refine ⟨(by repeat (first | exact Out.mix _ _ | exact Out.refl _ _ | refine Out.up ?_ rfl _)), _, ?_, k + 1, n145, c146, A144, rfl, rfl, (H156.sel [0, 1, 4, 5] (by decide) rfl), by omega, by simp only [bcs_length, ics_length, rows_length, blks_length, robjs_length, ents_length, List.length_append, List.length_cons, List.length_nil, List.length_take, List.length_drop, List.length_map, enc4, enc8, encN_len, encW_len] at *; omega⟩
     omega
    ·skip
     refine RL.nil (thn.n (CW.seq (CW.condF rfl (CW.exit (thn.x (thn.x (inB.hit (thn.n (CW.seq (CW.region (zm (.pointer (some ⟨b16, 0, none⟩)) rfl (zg rfl (Ex.nck rfl) (zg rfl (fa166_0 (b := ⟨b16, 0, none⟩) rfl rfl) (zl (.slice A1 n1 c1) lo97 (H81.ob (i := 0) rfl) rfl (za (.slice A1 n1 c1) rfl (za (.int .i64 0) rfl (RL.nil (thn.n (CW.ret (finQ.r (v := (.tuple #[(.slice A1 n1 c1), (.int .i64 0)])) (res2 rfl rfl rfl) ?_))))))))))))))))))))
     have hkk : h.objs.take k = h.objs := List.take_of_length_le (by omega)
     have hx : (((encN [rh.order, rh.next] ++ encN [rh.t0, rh.t1, rh.t2, rh.t3]) ++ encN [((rh.objs.n : Nat) : Int)]) ++ putObjs (h.objs.take k)) = putHeapL h := by rw [hkk]; unfold putHeapL; rw [← H.order, ← H.next, ← H.tops, ← hol, ← hon]
     rw [hx] at H81
     exact ⟨_, _, _, by unfold putHeapX; rw [hbb]; rfl, by unfold putHeapX; rw [hbb]; exact (H81.sel [1, 3] (by decide) rfl)⟩
set_option maxHeartbeats 1000000 in
set_option maxRecDepth 20000 in
theorem putState_ (w : World) (B : Nat) (rs : RState) (ros : List RObj) (s : State) (H : StateR w B rs ros s) (hB : B ≤ w.heap.size) : Ret Tryz.prog 74 [(.agg (rs.cells).toArray)] w (fun v w' => ∃ (A' : Option Addr) (n' c' : Nat), v = .tuple #[.slice A' n' c', .int .i64 (putStateX s).2] ∧ Sp ([RowA 5 1 A' n' c' (bcs (putStateX s).1)] ++ [Fix w NoB]) w') := by
  have hrn := H.rn
  have hrm := H.rm
  have H0 : Sp [Fix w NoB] w := Sp.start w
  refine Ret.body Tryz.func74 rfl rfl rfl ?_
  refine CW.seq (CW.region (RL.bx (cs := rs.cells) rfl rfl rfl ?_))
  intro w1 b2 hb3 hz4 g5 o6
  have H7 := H0.newB g5 o6 (by omega)
  have z8 := g5.size
  refine za (.slice none 0 0) rfl (za (.int .i64 0) rfl (RL.nil (thn.n (CW.seq (CW.seq (CW.region (zg rfl (Ex.ldv rfl (loadCN (cs := rs.cells) wh50 (H7.ob (i := 0) rfl).cl)) (RL.call Tryz.call96 (imgCheck_ _ _ rs _ _ (H.st0 (H7.fix (i := 1) rfl)) (by omega)) rfl rfl rfl ?_))))))))
  rintro _ w9 ⟨rfl, g10⟩
  have H11 := H7.grow g10
  have z12 := g10.size
  refine za (.int .i64 (if stateB s then 0 else 60)) rfl (RL.nil (thn.n (CW.seq (CW.region (zm (.int .i64 (if stateB s then 0 else 60)) rfl ?_)))))
  refine RL.br (p := ((if stateB s then 0 else 60) : Int) ≠ (0 : Int)) rfl rfl rfl (fun r hr => Ex.neD rfl rfl hr) (fun h13 => ?_) (fun h13 => ?_)
  ·skip
   refine RL.nil (thn.n (CW.condT rfl (CW.seq (CW.region (zm (.int .i64 (if stateB s then 0 else 60)) rfl (za (.slice none 0 0) rfl (za (.int .i64 (if stateB s then 0 else 60)) rfl (RL.nil (thn.n (CW.ret (thn.r (finQ.r (v := (.tuple #[(.slice none 0 0), (.int .i64 (if stateB s then 0 else 60))])) (res2 rfl rfl rfl) ?_))))))))))))
   have H14 := H11.nil_ 5 1
   have hbb : stateB s = false := by
     cases hkb : stateB s with
     | false => rfl
     | true => rw [hkb] at h13; exact absurd rfl h13
   exact ⟨none, 0, 0, by unfold putStateX; rw [hbb]; rfl, by unfold putStateX; rw [hbb]; exact (H14.sel [0, 2] (by decide) rfl)⟩
  ·skip
   refine RL.nil (thn.n (CW.condF rfl (CW.skip (thn.n (CW.seq (CW.region (zg rfl (fa50_0 (b := ⟨b2, 0, none⟩) rfl rfl) (zg rfl (Ex.ldv rfl (loadCN (cs := [(.int .i64 rs.heap.order), (.slice rs.heap.objs.a rs.heap.objs.n rs.heap.objs.c), (.int .i64 rs.heap.next), (.int .i64 rs.heap.t0), (.int .i64 rs.heap.t1), (.int .i64 rs.heap.t2), (.int .i64 rs.heap.t3), (.slice rs.heap.free.a rs.heap.free.n rs.heap.free.c)]) wh47 ((H11.ob (i := 0) rfl).sub 0 8))) (RL.call Tryz.call77 (putHeap_ _ _ rs.heap _ _ (H.heap.st0 (H11.fix (i := 1) rfl)) (by omega)) rfl rfl rfl ?_)))))))))
   rintro _ w18 ⟨A15, n16, c17, rfl, g19⟩
   have g20 := g19.fix (i := 1) rfl
   have H21 : Sp [RowA 5 1 A15 n16 c17 (bcs ((putHeapX s.heap).1)), BlkA b2 50 rs.cells, Fix w NoB] w18 := H11.join (m := [RowA 5 1 A15 n16 c17 (bcs ((putHeapX s.heap).1))]) g19
   have z22 := g20.size
   refine zm (.tuple #[(.slice A15 n16 c17), (.int .i64 ((putHeapX s.heap).2))]) rfl (zx (.slice A15 n16 c17) rfl (zx (.int .i64 ((putHeapX s.heap).2)) rfl (za (.slice A15 n16 c17) rfl (za (.int .i64 ((putHeapX s.heap).2)) rfl (RL.nil (thn.n (CW.seq (CW.region (zg rfl (Ex.bd (cs := [(.slice none 0 0)]) bd166 rfl) (RL.bx (cs := [(.slice none 0 0)]) rfl rfl rfl ?_))))))))))
   intro w23 b24 hb25 hz26 g27 o28
   have H29 := H21.newB g27 o28 (by omega)
   have z30 := g27.size
   refine za (.pointer (some ⟨b24, 0, none⟩)) rfl (RL.nil (thn.n (CW.seq (CW.region (zm (.pointer (some ⟨b24, 0, none⟩)) rfl (zm (.slice A15 n16 c17) rfl ?_))))))
   have hln := H29.len (i := 1) rfl
   rw [bcs_length] at hln
   have hsb : stateB s = true := by
      cases hkb : stateB s with
      | true => rfl
      | false => rw [hkb] at h13; exact absurd h13 (by decide)
   have hsb2 := stateB_t hsb
   have hph : (putHeapX s.heap).1 = putHeapL s.heap := by unfold putHeapX; rw [if_pos hsb2.1]
   have hpl := putHeapL_len hsb2.1
   have hrl := rowsB_len (by omega) hsb2.2
   have hrr := rowsB_rng (Int.le_refl 0) hsb2.2
   rw [hph] at hln H29
   refine zg rfl (Ex.b2s (bs := putHeapL s.heap) Tryz.underlying97 Tryz.underlying5 Tryz.underlying9 rfl (H29.rowrd (i := 1) rfl) (by omega)) ?_
   have htk : (putHeapL s.heap).take n16 = putHeapL s.heap := List.take_of_length_le (by omega)
   rw [htk]
   refine RL.call Tryz.call144 (putText_ _ 0 0 0 _ ([]) (Rd.nil_ _ 0 1 none) (by first | rfl | omega) (by omega) (putHeapL s.heap) (by omega)) rfl rfl rfl ?_
   rintro _ w36 ⟨A31, m32, c33, rfl, g37, hm34, ow35⟩
   have H38 := H29.newR g37 ow35 (Nat.le_refl _)
   have z39 := g37.size
   refine zm (.tuple #[(.slice A31 m32 c33), (.int .i64 0)]) rfl (zx (.slice A31 m32 c33) rfl (zx (.int .i64 0) rfl (zg rfl (Ex.nck rfl) (zg rfl (fa166_0 (b := ⟨b24, 0, none⟩) rfl rfl) (RL.st (vs := [(.slice A31 m32 c33)]) (cs' := [(.slice A31 m32 c33)]) Tryz.sizeOf97 (H38.ob (i := 1) rfl) rfl rfl rfl rfl rfl rfl ?_)))))
   intro w40 hz41 g42 o43
   have H44 : Sp [RowA 5 1 A31 m32 c33 (bcs (([] ++ enc4 (putHeapL s.heap).length ++ (putHeapL s.heap)))), BlkA b24 166 [(.slice A31 m32 c33)], RowA 5 1 A15 n16 c17 (bcs (putHeapL s.heap)), BlkA b2 50 rs.cells, Fix w NoB] w40 := H38.setB (i := 1) rfl g42 o43 rfl
   have z45 := g42.size
   refine RL.nil (thn.n (CW.seq (CW.region (zm (.pointer (some ⟨b24, 0, none⟩)) rfl (zg rfl (fa50_1 (b := ⟨b2, 8, none⟩) rfl rfl) (zl (.slice rs.rows.a rs.rows.n rs.rows.c) lo48 (H44.ob (i := 3) rfl) rfl (zg rfl (Ex.len Tryz.underlying48 rfl) (RL.bs (cs := [(.int .i64 (rs.rows.n : Nat))]) Tryz.underlying134 Tryz.sizeOf3 ze134 rfl rfl rfl (by decide) rfl rfl rfl ?_))))))))
   intro w46 b47 hb48 hz49 g50 o51
   have H52 := H44.newB g50 o51 (by omega)
   have z53 := g50.size
   obtain ⟨S58, hS59, hO60, K61⟩ := Sp.takeL (l1 := [BlkA b24 166 [(.slice A31 m32 c33)], RowA 5 1 A31 m32 c33 (bcs (([] ++ enc4 (putHeapL s.heap).length ++ (putHeapL s.heap))))]) (l2 := [BlkA b47 3 [(.int .i64 (rs.rows.n : Nat))], RowA 5 1 A15 n16 c17 (bcs (putHeapL s.heap)), BlkA b2 50 rs.cells, Fix w NoB]) (w := w46) (H52.sel [2, 1, 0, 3, 4, 5] (by decide) rfl)
   refine RL.call Tryz.call145 (outN2 _ S58 b24 m32 c33 A31 (([] ++ enc4 (putHeapL s.heap).length ++ (putHeapL s.heap))) hS59 ([(rs.rows.n : Nat)]) _ 1 1 (RdN.of_blk hO60 (j := 0) rfl (Ob.rdI (l := [(rs.rows.n : Nat)]) (H52.ob (i := 0) rfl) rfl)) (by first | rfl | assumption | omega) (by intro x hx; simp only [List.mem_cons, List.not_mem_nil, or_false] at hx; omega) (by simp only [bcs_length, ics_length, rows_length, blks_length, robjs_length, ents_length, List.length_append, List.length_cons, List.length_nil, List.length_take, List.length_drop, List.length_map, enc4, enc8, encN_len, encW_len] at *; omega)) rfl rfl rfl ?_
   rintro _ w62 ⟨A54, n55, c56, rfl, g63, hn57⟩
   have H65 : Sp [BlkA b24 166 [.slice A54 n55 c56], RowA 5 1 A54 n55 c56 (bcs ((([] ++ enc4 (putHeapL s.heap).length ++ (putHeapL s.heap)) ++ encN ([(rs.rows.n : Nat)])))), BlkA b47 3 [(.int .i64 (rs.rows.n : Nat))], RowA 5 1 A15 n16 c17 (bcs (putHeapL s.heap)), BlkA b2 50 rs.cells, Fix w NoB] w62 := K61 _ _ g63
   have z66 := (H65.fix (i := 5) rfl).size
   refine RL.nil (thn.n (CW.seq (CW.seq (CW.region (zg rfl (fa50_1 (b := ⟨b2, 8, none⟩) rfl rfl) (zl (.slice rs.rows.a rs.rows.n rs.rows.c) lo48 (H65.ob (i := 4) rfl) rfl (zg rfl (Ex.len Tryz.underlying48 rfl) (zm (.int .i64 0) rfl (RL.nil (thn.n (CW.block ?_)))))))))))
   have hz0 : (([] ++ enc4 (putHeapL s.heap).length ++ (putHeapL s.heap)) ++ encN ([(rs.rows.n : Nat)])) = ((([] ++ enc4 (putHeapL s.heap).length ++ putHeapL s.heap) ++ encN [((rs.rows.n : Nat) : Int)]) ++ putRows (s.rows.take 0)) := by simp [putRows]
   refine CW.loop (fun t => Nat.beq t 9 || (Nat.ble 41 t && Nat.ble t 61)) (fun nL ρ wl => ∃ (k n1 c1 : Nat) (A1 : Option Addr), ρ 41 = (.int .i64 (k : Int)) ∧ nL = rs.rows.n - k ∧ Sp [BlkA b24 166 [.slice A1 n1 c1], RowA 5 1 A1 n1 c1 (bcs (((([] ++ enc4 (putHeapL s.heap).length ++ putHeapL s.heap) ++ encN [((rs.rows.n : Nat) : Int)]) ++ putRows (s.rows.take k)))), BlkA b2 50 rs.cells, Fix w NoB] wl ∧ k ≤ rs.rows.n ∧ n1 ≤ 4132 + 20 * k) (rs.rows.n) ?aa0 ?bb0
   case aa0 =>
    have H67 : Sp [BlkA b24 166 [.slice A54 n55 c56], RowA 5 1 A54 n55 c56 (bcs (((([] ++ enc4 (putHeapL s.heap).length ++ putHeapL s.heap) ++ encN [((rs.rows.n : Nat) : Int)]) ++ putRows (s.rows.take 0)))), BlkA b47 3 [(.int .i64 (rs.rows.n : Nat))], RowA 5 1 A15 n16 c17 (bcs (putHeapL s.heap)), BlkA b2 50 rs.cells, Fix w NoB] w62 := H65.eqR (i := 1) rfl rfl (congrArg bcs hz0) rfl
    exact ⟨0, n55, c56, A54, rfl, rfl, (H67.sel [0, 1, 4, 5] (by decide) rfl), Nat.zero_le _, by simp only [bcs_length, ics_length, rows_length, blks_length, robjs_length, ents_length, List.length_append, List.length_cons, List.length_nil, List.length_take, List.length_drop, List.length_map, enc4, enc8, encN_len, encW_len] at *; omega⟩
   case bb0 =>
    rintro n69 ρ0 w68 ho70 ⟨k, n1, c1, A1, hs0_41, hn0, H71, hk, hn1⟩
    obtain ⟨j0, rfl⟩ := ho70.shape1 hs0_41
    clear ho70 hs0_41
    subst hn0
    have z72 := (H71.fix (i := 3) rfl).size
    have hlen := (H71.len (i := 1) rfl)
    rw [bcs_length] at hlen
    refine CW.seq (CW.region ?_)
    refine RL.br (p := ((k : Int) : Int) < ((rs.rows.n : Nat) : Int)) rfl rfl rfl (fun r hr => Ex.lt rfl rfl hr) (fun h73 => ?_) (fun h73 => ?_)
    ·skip
     refine RL.nil (thn.n (CW.seq (CW.condT rfl (CW.skip (thn.n (CW.seq (CW.block (CW.seq (CW.region ?_)))))))))
     obtain ⟨e74, he75⟩ : ∃ e, (s.rows)[k]? = some e := ⟨_, List.getElem?_eq_getElem (by omega)⟩
     obtain ⟨ad76, hA77⟩ := Rd.sm (H.rr.st0 (H71.fix (i := 3) rfl)) (rows_get he75)
     have hl78 := Eng.lt_len (rows_get he75)
     refine zg rfl (Ex.ix (b := (ad76.add (k * 4))) (i := k) Tryz.underlying48 Tryz.sizeOf123 (by rw [← hA77]; rfl) rfl (by omega) (by omega) rfl) (zg rfl (Ex.ldv rfl (loadCN (cs := e74.cells) wh123 (Rd.cl (H.rr.st0 (H71.fix (i := 3) rfl)) hA77 (rows_get he75)))) (RL.al (cs := [(.int .i64 0), (.int .i64 0), (.int .i64 0), (.int .i64 0)]) Tryz.zeroValue123 rfl rfl rfl ?_))
     intro w79 b80 hb81 hz82 g83 o84
     have H85 := H71.newB g83 o84 (by omega)
     have z86 := g83.size
     refine RL.st (vs := e74.cells) (cs' := e74.cells) Tryz.sizeOf123 (H85.ob (i := 0) rfl) rfl rfl rfl rfl rfl rfl ?_
     intro w87 hz88 g89 o90
     have H91 : Sp [BlkA b80 123 e74.cells, BlkA b24 166 [.slice A1 n1 c1], RowA 5 1 A1 n1 c1 (bcs (((([] ++ enc4 (putHeapL s.heap).length ++ putHeapL s.heap) ++ encN [((rs.rows.n : Nat) : Int)]) ++ putRows (s.rows.take k)))), BlkA b2 50 rs.cells, Fix w NoB] w87 := H85.setB (i := 0) rfl g89 o90 rfl
     have z92 := g89.size
     refine RL.nil (thn.n (CW.seq (CW.region ?_)))
     have hob := hrr e74 (List.mem_of_getElem? he75)
     refine zm (.pointer (some ⟨b24, 0, none⟩)) rfl (zg rfl (fa123_0 (b := ⟨b80, 0, none⟩) rfl rfl) (zl (.int .i64 e74.client) lo3 (H91.ob (i := 0) rfl) rfl (zg rfl (fa123_1 (b := ⟨b80, 1, none⟩) rfl rfl) (zl (.int .i64 e74.seq) lo3 (H91.ob (i := 0) rfl) rfl (zg rfl (fa123_2 (b := ⟨b80, 2, none⟩) rfl rfl) (zg rfl (fa55_0 (b := ⟨b80, 2, none⟩) rfl rfl) (zl (.int .i64 e74.code) lo53 (H91.ob (i := 0) rfl) rfl (RL.bs (cs := [(.int .i64 e74.client), (.int .i64 e74.seq), (.int .i64 e74.code)]) Tryz.underlying134 Tryz.sizeOf3 ze134 rfl rfl rfl (by decide) rfl rfl rfl ?_))))))))
     intro w93 b94 hb95 hz96 g97 o98
     have H99 := H91.newB g97 o98 (by omega)
     have z100 := g97.size
     obtain ⟨S105, hS106, hO107, K108⟩ := Sp.takeL (l1 := [BlkA b24 166 [.slice A1 n1 c1], RowA 5 1 A1 n1 c1 (bcs (((([] ++ enc4 (putHeapL s.heap).length ++ putHeapL s.heap) ++ encN [((rs.rows.n : Nat) : Int)]) ++ putRows (s.rows.take k))))]) (l2 := [BlkA b94 3 [(.int .i64 e74.client), (.int .i64 e74.seq), (.int .i64 e74.code)], BlkA b80 123 e74.cells, BlkA b2 50 rs.cells, Fix w NoB]) (w := w93) (H99.sel [2, 3, 0, 1, 4, 5] (by decide) rfl)
     refine RL.call Tryz.call145 (outN2 _ S105 b24 n1 c1 A1 (((([] ++ enc4 (putHeapL s.heap).length ++ putHeapL s.heap) ++ encN [((rs.rows.n : Nat) : Int)]) ++ putRows (s.rows.take k))) hS106 ([e74.client, e74.seq, e74.code]) _ 3 3 (RdN.of_blk hO107 (j := 0) rfl (Ob.rdI (l := [e74.client, e74.seq, e74.code]) (H99.ob (i := 0) rfl) rfl)) (by first | rfl | assumption | omega) (by intro x hx; simp only [List.mem_cons, List.not_mem_nil, or_false] at hx; omega) (by simp only [bcs_length, ics_length, rows_length, blks_length, robjs_length, ents_length, List.length_append, List.length_cons, List.length_nil, List.length_take, List.length_drop, List.length_map, enc4, enc8, encN_len, encW_len] at *; omega)) rfl rfl rfl ?_
     rintro _ w109 ⟨A101, n102, c103, rfl, g110, hn104⟩
     have H111 : Sp [BlkA b24 166 [.slice A101 n102 c103], RowA 5 1 A101 n102 c103 (bcs ((((([] ++ enc4 (putHeapL s.heap).length ++ putHeapL s.heap) ++ encN [((rs.rows.n : Nat) : Int)]) ++ putRows (s.rows.take k)) ++ encN ([e74.client, e74.seq, e74.code])))), BlkA b94 3 [(.int .i64 e74.client), (.int .i64 e74.seq), (.int .i64 e74.code)], BlkA b80 123 e74.cells, BlkA b2 50 rs.cells, Fix w NoB] w109 := K108 _ _ g110
     have z112 := (H111.fix (i := 5) rfl).size
     refine RL.nil (thn.n (CW.region (zm (.pointer (some ⟨b24, 0, none⟩)) rfl (zg rfl (fa123_2 (b := ⟨b80, 2, none⟩) rfl rfl) (zg rfl (fa55_1 (b := ⟨b80, 3, none⟩) rfl rfl) (zl (.int .i64 e74.value) lo3 (H111.ob (i := 3) rfl) rfl (RL.bs (cs := [(.int .i64 e74.value)]) Tryz.underlying134 Tryz.sizeOf3 ze134 rfl rfl rfl (by decide) rfl rfl rfl ?_)))))))
     intro w113 b114 hb115 hz116 g117 o118
     have H119 := H111.newB g117 o118 (by omega)
     have z120 := g117.size
     obtain ⟨S125, hS126, hO127, K128⟩ := Sp.takeL (l1 := [BlkA b24 166 [.slice A101 n102 c103], RowA 5 1 A101 n102 c103 (bcs ((((([] ++ enc4 (putHeapL s.heap).length ++ putHeapL s.heap) ++ encN [((rs.rows.n : Nat) : Int)]) ++ putRows (s.rows.take k)) ++ encN ([e74.client, e74.seq, e74.code]))))]) (l2 := [BlkA b114 3 [(.int .i64 e74.value)], BlkA b94 3 [(.int .i64 e74.client), (.int .i64 e74.seq), (.int .i64 e74.code)], BlkA b80 123 e74.cells, BlkA b2 50 rs.cells, Fix w NoB]) (w := w113) (H119.sel [1, 2, 0, 3, 4, 5, 6] (by decide) rfl)
     refine RL.call Tryz.call146 (outI2 _ S125 b24 n102 c103 A101 ((((([] ++ enc4 (putHeapL s.heap).length ++ putHeapL s.heap) ++ encN [((rs.rows.n : Nat) : Int)]) ++ putRows (s.rows.take k)) ++ encN ([e74.client, e74.seq, e74.code]))) hS126 ([e74.value]) _ 1 1 (RdN.of_blk hO127 (j := 0) rfl (Ob.rdI (l := [e74.value]) (H119.ob (i := 0) rfl) rfl)) (by first | rfl | assumption | omega) (by simp only [bcs_length, ics_length, rows_length, blks_length, robjs_length, ents_length, List.length_append, List.length_cons, List.length_nil, List.length_take, List.length_drop, List.length_map, enc4, enc8, encN_len, encW_len] at *; omega)) rfl rfl rfl ?_
     rintro _ w129 ⟨A121, n122, c123, rfl, g130, hn124⟩
     have H131 : Sp [BlkA b24 166 [.slice A121 n122 c123], RowA 5 1 A121 n122 c123 (bcs (((((([] ++ enc4 (putHeapL s.heap).length ++ putHeapL s.heap) ++ encN [((rs.rows.n : Nat) : Int)]) ++ putRows (s.rows.take k)) ++ encN ([e74.client, e74.seq, e74.code])) ++ encW ([e74.value])))), BlkA b114 3 [(.int .i64 e74.value)], BlkA b94 3 [(.int .i64 e74.client), (.int .i64 e74.seq), (.int .i64 e74.code)], BlkA b80 123 e74.cells, BlkA b2 50 rs.cells, Fix w NoB] w129 := K128 _ _ g130
     have z132 := (H131.fix (i := 6) rfl).size
     refine RL.nil (inB.n (thn.n (CW.region (zg rfl (Ex.add (r := (k : Int) + 1) rfl rfl (w64 (by omega) (by omega))) (zm (.int .i64 ((k : Int) + 1)) rfl (RL.nil (thn.n ?_)))))))
     have H133 : Sp [BlkA b24 166 [.slice A121 n122 c123], RowA 5 1 A121 n122 c123 (bcs (((([] ++ enc4 (putHeapL s.heap).length ++ putHeapL s.heap) ++ encN [((rs.rows.n : Nat) : Int)]) ++ putRows (s.rows.take (k + 1))))), BlkA b114 3 [(.int .i64 e74.value)], BlkA b94 3 [(.int .i64 e74.client), (.int .i64 e74.seq), (.int .i64 e74.code)], BlkA b80 123 e74.cells, BlkA b2 50 rs.cells, Fix w NoB] w129 := H131.eqR (i := 1) rfl rfl (by rw [take_snoc he75, putRows_snoc, putRow]; simp only [List.append_assoc]) rfl
     refine ⟨(by repeat (first | exact Out.mix _ _ | exact Out.refl _ _ | refine Out.up ?_ rfl _)), _, ?_, k + 1, n122, c123, A121, rfl, rfl, (H133.sel [0, 1, 5, 6] (by decide) rfl), by omega, by simp only [bcs_length, ics_length, rows_length, blks_length, robjs_length, ents_length, List.length_append, List.length_cons, List.length_nil, List.length_take, List.length_drop, List.length_map, enc4, enc8, encN_len, encW_len] at *; omega⟩
     omega
    ·skip
     refine RL.nil (thn.n (CW.seq (CW.condF rfl (CW.exit (thn.x (thn.x (inB.hit (thn.n (CW.seq (CW.region (zm (.pointer (some ⟨b24, 0, none⟩)) rfl (zg rfl (Ex.nck rfl) (zg rfl (fa166_0 (b := ⟨b24, 0, none⟩) rfl rfl) (zl (.slice A1 n1 c1) lo97 (H71.ob (i := 0) rfl) rfl (za (.slice A1 n1 c1) rfl (za (.int .i64 0) rfl (RL.nil (thn.n (CW.ret (finQ.r (v := (.tuple #[(.slice A1 n1 c1), (.int .i64 0)])) (res2 rfl rfl rfl) ?_))))))))))))))))))))
     have hkk : s.rows.take k = s.rows := List.take_of_length_le (by omega)
     have hx : ((([] ++ enc4 (putHeapL s.heap).length ++ putHeapL s.heap) ++ encN [((rs.rows.n : Nat) : Int)]) ++ putRows (s.rows.take k)) = putStateL s := by rw [hkk]; unfold putStateL; rw [H.rn]; rfl
     rw [hx] at H71
     exact ⟨_, _, _, by unfold putStateX; rw [hsb]; rfl, by unfold putStateX; rw [hsb]; exact (H71.sel [1, 3] (by decide) rfl)⟩
set_option maxHeartbeats 400000 in
set_option maxRecDepth 20000 in
theorem oplogNew_ (w : World) (o : Int) : Ret Tryz.prog 55 [(.int .i64 o)] w (fun v w' => v = .tuple #[.agg [.int .i64 (newK o).2.view, .int .i64 (newK o).2.normal, .int .i64 (newK o).2.base, .string (tx (newK o).2.image), .slice none 0 0].toArray, .int .i64 (newK o).1] ∧ w.grownBy w' none) := by
  have H0 : Sp [Fix w NoB] w := Sp.start w
  refine Ret.body Tryz.func55 rfl rfl rfl ?_
  refine CW.seq (CW.region (RL.al (cs := [(.int .i64 0), (.int .i64 0), (.int .i64 0), (.string (⟨#[]⟩)), (.slice none 0 0)]) Tryz.zeroValue24 rfl rfl rfl ?_))
  intro w1 b2 hb3 hz4 g5 o6
  have H7 := H0.newB g5 o6 (by omega)
  have z8 := g5.size
  refine za (.int .i64 0) rfl (RL.nil (thn.n (CW.seq (CW.region (zm (.int .i64 o) rfl (RL.call Tryz.call107 (tableNew_ _ o) rfl rfl rfl ?_))))))
  rintro _ w13 (⟨rs9, rfl, g14, hw10, S11⟩ | ⟨rfl, g15, hw12⟩)
  ·skip
   have H16 := H7.newS g14 S11 (Nat.le_refl _)
   have z17 := g14.size
   refine zm (.tuple #[(.agg (rs9.cells).toArray), (.int .i64 0)]) rfl (zx (.agg (rs9.cells).toArray) rfl (zx (.int .i64 0) rfl (RL.al (cs := zState) Tryz.zeroValue50 rfl rfl rfl ?_)))
   intro w18 b19 hb20 hz21 g22 o23
   have H24 := H16.newB g22 o23 (by omega)
   have z25 := g22.size
   refine RL.st (vs := rs9.cells) (cs' := rs9.cells) Tryz.sizeOf50 (H24.ob (i := 0) rfl) rfl rfl rfl rfl rfl rfl ?_
   intro w26 hz27 g28 o29
   have H30 : Sp [BlkA b19 50 rs9.cells, StA rs9 [] (⟨newHeap o, []⟩), BlkA b2 24 [(.int .i64 0), (.int .i64 0), (.int .i64 0), (.string (⟨#[]⟩)), (.slice none 0 0)], Fix w NoB] w26 := H24.setB (i := 0) rfl g28 o29 rfl
   have z31 := g28.size
   refine za (.int .i64 0) rfl (RL.nil (thn.n (CW.seq (CW.seq (CW.region (zm (.int .i64 0) rfl (zg rfl (Ex.neD (r := false) rfl rfl (by decide)) (RL.nil (thn.n (CW.condF rfl (CW.skip (thn.n (CW.seq (CW.region (zg rfl (Ex.ldv rfl (loadCN (cs := rs9.cells) wh50 (H30.ob (i := 0) rfl).cl)) (RL.call Tryz.call74 (putState_ _ _ rs9 _ _ (H30.stR (i := 1) rfl) (Nat.le_refl _)) rfl rfl rfl ?_))))))))))))))))
   rintro _ w35 ⟨A32, n33, c34, rfl, g36⟩
   have g37 := g36.fix (i := 1) rfl
   have H38 : Sp [RowA 5 1 A32 n33 c34 (bcs ((putStateX (⟨newHeap o, []⟩)).1)), BlkA b19 50 rs9.cells, StA rs9 [] (⟨newHeap o, []⟩), BlkA b2 24 [(.int .i64 0), (.int .i64 0), (.int .i64 0), (.string (⟨#[]⟩)), (.slice none 0 0)], Fix w NoB] w35 := H30.join (m := [RowA 5 1 A32 n33 c34 (bcs ((putStateX (⟨newHeap o, []⟩)).1))]) g36
   have z39 := g37.size
   refine zm (.tuple #[(.slice A32 n33 c34), (.int .i64 ((putStateX (⟨newHeap o, []⟩)).2))]) rfl (zx (.slice A32 n33 c34) rfl (zx (.int .i64 ((putStateX (⟨newHeap o, []⟩)).2)) rfl (za (.slice A32 n33 c34) rfl (za (.int .i64 ((putStateX (⟨newHeap o, []⟩)).2)) rfl (RL.nil (thn.n (CW.seq (CW.region (zm (.slice A32 n33 c34) rfl ?_)))))))))
   have hln := H38.len (i := 0) rfl
   rw [bcs_length] at hln
   have hsm := newBytes_len o
   refine zg rfl (Ex.b2s (bs := (putStateX (⟨newHeap o, []⟩)).1) Tryz.underlying97 Tryz.underlying5 Tryz.underlying9 rfl (H38.rowrd (i := 0) rfl) (by omega)) ?_
   have htk : ((putStateX (⟨newHeap o, []⟩)).1).take n33 = newBytes o := List.take_of_length_le (by unfold newBytes at *; omega)
   rw [htk]
   refine zg rfl (Ex.bd (cs := [(.int .i64 0), (.int .i64 0), (.int .i64 0), (.string (tx (newBytes o))), (.slice none 0 0)]) bd24 rfl) (RL.st (vs := [(.int .i64 0), (.int .i64 0), (.int .i64 0), (.string (tx (newBytes o))), (.slice none 0 0)]) (cs' := [(.int .i64 0), (.int .i64 0), (.int .i64 0), (.string (tx (newBytes o))), (.slice none 0 0)]) Tryz.sizeOf24 (H38.ob (i := 3) rfl) rfl rfl rfl rfl rfl rfl ?_)
   intro w40 hz41 g42 o43
   have H44 : Sp [RowA 5 1 A32 n33 c34 (bcs ((putStateX (⟨newHeap o, []⟩)).1)), BlkA b19 50 rs9.cells, StA rs9 [] (⟨newHeap o, []⟩), BlkA b2 24 [(.int .i64 0), (.int .i64 0), (.int .i64 0), (.string (tx (newBytes o))), (.slice none 0 0)], Fix w NoB] w40 := H38.setB (i := 3) rfl g42 o43 rfl
   have z45 := g42.size
   refine za (.int .i64 0) rfl (RL.nil (thn.n (CW.ret (finQ.r (v := (.tuple #[(.agg ([(.int .i64 0), (.int .i64 0), (.int .i64 0), (.string (tx (newBytes o))), (.slice none 0 0)]).toArray), (.int .i64 0)])) (resv2 rfl (Rv.cell rfl (loadCN (cs := [(.int .i64 0), (.int .i64 0), (.int .i64 0), (.string (tx (newBytes o))), (.slice none 0 0)]) wh24 (H44.ob (i := 3) rfl).cl)) (Rv.tmp rfl)) ?_))))
   exact ⟨by unfold newK newBytes putStateX; rw [if_pos hw10, if_pos (newState_ok hw10)], (H44.fix (i := 4) rfl)⟩
  ·skip
   have H46 := H7.grow g15
   have z47 := g15.size
   refine zm (.tuple #[(.agg (zState).toArray), (.int .i64 1)]) rfl (zx (.agg (zState).toArray) rfl (zx (.int .i64 1) rfl (RL.al (cs := zState) Tryz.zeroValue50 rfl rfl rfl ?_)))
   intro w48 b49 hb50 hz51 g52 o53
   have H54 := H46.newB g52 o53 (by omega)
   have z55 := g52.size
   refine RL.st (vs := zState) (cs' := zState) Tryz.sizeOf50 (H54.ob (i := 0) rfl) rfl rfl rfl rfl rfl rfl ?_
   intro w56 hz57 g58 o59
   have H60 : Sp [BlkA b49 50 zState, BlkA b2 24 [(.int .i64 0), (.int .i64 0), (.int .i64 0), (.string (⟨#[]⟩)), (.slice none 0 0)], Fix w NoB] w56 := H54.setB (i := 0) rfl g58 o59 rfl
   have z61 := g58.size
   refine za (.int .i64 1) rfl (RL.nil (thn.n (CW.seq (CW.seq (CW.region (zm (.int .i64 1) rfl (zg rfl (Ex.neD (r := true) rfl rfl (by decide)) (RL.nil (thn.n (CW.condT rfl (CW.seq (CW.region (zg rfl (Ex.bd (cs := [(.int .i64 0), (.int .i64 0), (.int .i64 0), (.string (⟨#[]⟩)), (.slice none 0 0)]) bd24 rfl) (zm (.int .i64 1) rfl (RL.st (vs := [(.int .i64 0), (.int .i64 0), (.int .i64 0), (.string (⟨#[]⟩)), (.slice none 0 0)]) (cs' := [(.int .i64 0), (.int .i64 0), (.int .i64 0), (.string (⟨#[]⟩)), (.slice none 0 0)]) Tryz.sizeOf24 (H60.ob (i := 1) rfl) rfl rfl rfl rfl rfl rfl ?_)))))))))))))))
   intro w62 hz63 g65 o66
   have H67 : Sp [BlkA b49 50 zState, BlkA b2 24 [(.int .i64 0), (.int .i64 0), (.int .i64 0), (.string (⟨#[]⟩)), (.slice none 0 0)], Fix w NoB] w62 := H60.setB (i := 1) rfl g65 o66 rfl
   have z68 := g65.size
   refine za (.int .i64 1) rfl (RL.nil (thn.n (CW.ret (thn.r (finQ.r (v := (.tuple #[(.agg ([(.int .i64 0), (.int .i64 0), (.int .i64 0), (.string (⟨#[]⟩)), (.slice none 0 0)]).toArray), (.int .i64 1)])) (resv2 rfl (Rv.cell rfl (loadCN (cs := [(.int .i64 0), (.int .i64 0), (.int .i64 0), (.string (⟨#[]⟩)), (.slice none 0 0)]) wh24 (H67.ob (i := 1) rfl).cl)) (Rv.tmp rfl)) ?_)))))
   exact ⟨by unfold newK; rw [hw12]; rfl, (H67.fix (i := 2) rfl)⟩
end Go.Proofs.YtfokljnhllflbaaGreat
namespace Go.Proofs.YtfokljnhllflbaaGreat
open Go Go.Eng Go.RowKit
theorem oplogNew3 {w : World} : Ret Tryz.prog 55 [.int .i64 3] w (fun v w' => v = .tuple #[.agg [.int .i64 fk0.view, .int .i64 fk0.normal, .int .i64 fk0.base, .string (tx fk0.image), .slice none 0 0].toArray, .int .i64 0] ∧ w.grownBy w' none) := by
  have h := oplogNew_ w 3
  rw [newK3] at h
  exact h
set_option maxHeartbeats 400000 in
set_option maxRecDepth 20000 in
theorem big15 (w : World) (k : Kept) (A : Option Addr) (n c : Nat) (hn : n = k.ents.length) (r : Rec) (A2 : Option Addr) (n2 c2 : Nat) (hn2 : n2 = r.ents.length) : Ret Tryz.prog 23 [(.agg ([(.int .i64 k.view), (.int .i64 k.normal), (.int .i64 k.base), (.string (tx k.image)), (.slice A n c)]).toArray), (.agg ([(.int .i64 r.kind), (.int .i64 r.view), (.int .i64 r.from_), (.int .i64 r.number), (.string (tx r.image)), (.int .i64 r.entry.num), (.int .i64 r.entry.view), (.int .i64 r.entry.client), (.int .i64 r.entry.seq), (.int .i64 r.entry.op.kind), (.int .i64 r.entry.op.h), (.int .i64 r.entry.op.i), (.int .i64 r.entry.op.n), (.int .i64 r.entry.op.k), (.int .i64 r.entry.op.v), (.int .i64 r.entry.op.t), (.slice A2 n2 c2)]).toArray)] w (fun v w' => v = .bool (bigK k r) ∧ w.grownBy w' none) := by
  have hti : (tx k.image).size = k.image.length := tx_size _
  have hti2 : (tx r.image).size = r.image.length := tx_size _
  have H0 : Sp [Fix w NoB] w := Sp.start w
  refine Ret.body Tryz.func23 rfl rfl rfl ?_
  refine CW.seq (CW.region (RL.bx (cs := [(.int .i64 k.view), (.int .i64 k.normal), (.int .i64 k.base), (.string (tx k.image)), (.slice A n c)]) rfl rfl rfl ?_))
  intro w1 b2 hb3 hz4 g5 o6
  have H7 := H0.newB g5 o6 (by omega)
  have z8 := g5.size
  refine RL.bx (cs := [(.int .i64 r.kind), (.int .i64 r.view), (.int .i64 r.from_), (.int .i64 r.number), (.string (tx r.image)), (.int .i64 r.entry.num), (.int .i64 r.entry.view), (.int .i64 r.entry.client), (.int .i64 r.entry.seq), (.int .i64 r.entry.op.kind), (.int .i64 r.entry.op.h), (.int .i64 r.entry.op.i), (.int .i64 r.entry.op.n), (.int .i64 r.entry.op.k), (.int .i64 r.entry.op.v), (.int .i64 r.entry.op.t), (.slice A2 n2 c2)]) rfl rfl rfl ?_
  intro w9 b10 hb11 hz12 g13 o14
  have H15 := H7.newB g13 o14 (by omega)
  have z16 := g13.size
  refine za (.bool false) rfl (RL.nil (thn.n (CW.seq (CW.region (zg rfl (fa24_4 (b := ⟨b2, 4, none⟩) rfl rfl) (zl (.slice A n c) lo22 (H15.ob (i := 1) rfl) rfl (zg rfl (Ex.len Tryz.underlying22 rfl) ?_)))))))
  refine RL.br (p := (300 : Int) < ((n : Nat) : Int)) rfl rfl rfl (fun r hr => Ex.gt rfl rfl hr) (fun h17 => ?_) (fun h17 => ?_)
  ·skip
   refine zm (.bool true) rfl (zo rfl (zo rfl (zo rfl (zo rfl (zT (.bool true) rfl (zm (.bool true) rfl (zo rfl (zo rfl (zo rfl (zo rfl ?_))))))))))
   refine zT (.bool true) rfl (zm (.bool true) rfl (zo rfl (zo rfl (zo rfl (zo rfl (zT (.bool true) rfl (za (.bool true) rfl (RL.nil (thn.n (CW.ret (finQ.r (v := (.bool true)) (res1 rfl rfl) ?_)))))))))))
   exact ⟨ret_bool (by unfold bigK; first | (simp; omega) | (simp only [Bool.true_eq, Bool.or_eq_true, decide_eq_true_eq]; omega) | (simp only [Bool.false_eq, Bool.or_eq_false_iff, decide_eq_false_iff_not]; omega)), (H15.fix (i := 2) rfl)⟩
  ·skip
   refine zm (.bool false) rfl (zg rfl (fa33_6 (b := ⟨b10, 16, none⟩) rfl rfl) (zl (.slice A2 n2 c2) lo22 (H15.ob (i := 0) rfl) rfl (zg rfl (Ex.len Tryz.underlying22 rfl) ?_)))
   refine RL.br (p := (300 : Int) < ((n2 : Nat) : Int)) rfl rfl rfl (fun r hr => Ex.gt rfl rfl hr) (fun h18 => ?_) (fun h18 => ?_)
   ·skip
    refine zF (.bool true) rfl (zm (.bool true) rfl (zo rfl (zo rfl (zo rfl (zo rfl (zT (.bool true) rfl (zm (.bool true) rfl (zo rfl (zo rfl (zo rfl ?_))))))))))
    refine zo rfl (zT (.bool true) rfl (za (.bool true) rfl (RL.nil (thn.n (CW.ret (finQ.r (v := (.bool true)) (res1 rfl rfl) ?_))))))
    exact ⟨ret_bool (by unfold bigK; first | (simp; omega) | (simp only [Bool.true_eq, Bool.or_eq_true, decide_eq_true_eq]; omega) | (simp only [Bool.false_eq, Bool.or_eq_false_iff, decide_eq_false_iff_not]; omega)), (H15.fix (i := 2) rfl)⟩
   ·skip
    refine zF (.bool false) rfl (zm (.bool false) rfl (zg rfl (fa24_3 (b := ⟨b2, 3, none⟩) rfl rfl) (zl (.string (tx k.image)) lo9 (H15.ob (i := 1) rfl) rfl (zg rfl (Ex.lenS Tryz.underlying9 rfl) ?_))))
    refine RL.br (p := (100000 : Int) < (((tx k.image).size : Nat) : Int)) rfl rfl rfl (fun r hr => Ex.gt rfl rfl hr) (fun h19 => ?_) (fun h19 => ?_)
    ·skip
     refine zF (.bool true) rfl (zm (.bool true) rfl (zo rfl (zo rfl (zo rfl (zo rfl (zT (.bool true) rfl (za (.bool true) rfl (RL.nil (thn.n (CW.ret (finQ.r (v := (.bool true)) (res1 rfl rfl) ?_)))))))))))
     exact ⟨ret_bool (by unfold bigK; first | (simp; omega) | (simp only [Bool.true_eq, Bool.or_eq_true, decide_eq_true_eq]; omega) | (simp only [Bool.false_eq, Bool.or_eq_false_iff, decide_eq_false_iff_not]; omega)), (H15.fix (i := 2) rfl)⟩
    ·skip
     refine zF (.bool false) rfl (zm (.bool false) rfl (zg rfl (fa33_4 (b := ⟨b10, 4, none⟩) rfl rfl) (zl (.string (tx r.image)) lo9 (H15.ob (i := 0) rfl) rfl (zg rfl (Ex.lenS Tryz.underlying9 rfl) ?_))))
     refine RL.br (p := (100000 : Int) < (((tx r.image).size : Nat) : Int)) rfl rfl rfl (fun r hr => Ex.gt rfl rfl hr) (fun h20 => ?_) (fun h20 => ?_)
     ·skip
      refine zF (.bool true) rfl (za (.bool true) rfl (RL.nil (thn.n (CW.ret (finQ.r (v := (.bool true)) (res1 rfl rfl) ?_)))))
      exact ⟨ret_bool (by unfold bigK; first | (simp; omega) | (simp only [Bool.true_eq, Bool.or_eq_true, decide_eq_true_eq]; omega) | (simp only [Bool.false_eq, Bool.or_eq_false_iff, decide_eq_false_iff_not]; omega)), (H15.fix (i := 2) rfl)⟩
     ·skip
      refine zF (.bool false) rfl (za (.bool false) rfl (RL.nil (thn.n (CW.ret (finQ.r (v := (.bool false)) (res1 rfl rfl) ?_)))))
      exact ⟨ret_bool (by unfold bigK; first | (simp; omega) | (simp only [Bool.true_eq, Bool.or_eq_true, decide_eq_true_eq]; omega) | (simp only [Bool.false_eq, Bool.or_eq_false_iff, decide_eq_false_iff_not]; omega)), (H15.fix (i := 2) rfl)⟩
end Go.Proofs.YtfokljnhllflbaaGreat
namespace Go.Eng
open Go Go.RowKit
def laidC (e : Entry) : List Value := [.int .i64 2, .int .i64 0, .int .i64 0, .int .i64 0, .string ⟨#[]⟩, .int .i64 e.num, .int .i64 e.view, .int .i64 e.client, .int .i64 e.seq, .int .i64 e.op.kind, .int .i64 e.op.h, .int .i64 e.op.i, .int .i64 e.op.n, .int .i64 e.op.k, .int .i64 e.op.v, .int .i64 e.op.t, .slice none 0 0]
def recsE (l : List Entry) : List (List Value) := l.map laidC
theorem recsE_length (l : List Entry) : (recsE l).length = l.length := by simp [recsE]
theorem filter_snoc {α : Type} {p : α → Bool} {l : List α} {k : Nat} {x : α} (h : l[k]? = some x) : (l.take (k + 1)).filter p = (l.take k).filter p ++ (if p x then [x] else []) := by
  rw [take_snoc h, List.filter_append]
  congr 1
  cases hp : p x <;> simp [List.filter, hp]
end Go.Eng
namespace Go.Eng
end Go.Eng
namespace Go.Proofs.YtfokljnhllflbaaGreat
open Go Go.Eng Go.RowKit
set_option maxHeartbeats 400000 in
set_option maxRecDepth 20000 in
theorem crow (w : World) (B : Nat) (l : List Entry) (A : Option Addr) (n c : Nat) (fr : Int) (hr : Rd w B 11 A (ents l)) (hB : B ≤ w.heap.size) (hn : n = l.length) (hm : n ≤ 1099511627776) : Ret Tryz.prog 88 [(.slice A n c), (.int .i64 fr)] w (fun v w' => v = .bool (follB l fr) ∧ w.grownBy w' none) := by
  have H0 : Sp [Fix w NoB] w := Sp.start w
  refine Ret.body Tryz.func88 rfl rfl rfl ?_
  refine CW.seq (CW.region (za (.bool false) rfl (RL.nil (thn.n (CW.seq (CW.seq (CW.region (zm (.slice A n c) rfl (zg rfl (Ex.len Tryz.underlying22 rfl) (zm (.int .i64 0) rfl (RL.nil (thn.n (CW.block ?_)))))))))))))
  refine CW.loop (fun t => (Nat.ble 4 t && Nat.ble t 6) || (Nat.ble 9 t && Nat.ble t 21)) (fun nL ρ wl => ∃ (k : Nat), ρ 9 = (.int .i64 (k : Int)) ∧ nL = n - k ∧ Sp [Fix w NoB] wl ∧ k ≤ n ∧ follB (l.take k) fr = true) (n) ?aa0 ?bb0
  case aa0 =>
   exact ⟨0, rfl, rfl, H0, Nat.zero_le _, rfl⟩
  case bb0 =>
   rintro n2 ρ0 w1 ho3 ⟨k, hs0_9, hn0, H4, hk, hf⟩
   obtain ⟨j0, rfl⟩ := ho3.shape1 hs0_9
   clear ho3 hs0_9
   subst hn0
   have z5 := (H4.fix (i := 0) rfl).size
   refine CW.seq (CW.region ?_)
   refine RL.br (p := ((k : Int) : Int) < ((n : Nat) : Int)) rfl rfl rfl (fun r hr => Ex.lt rfl rfl hr) (fun h6 => ?_) (fun h6 => ?_)
   ·skip
    refine RL.nil (thn.n (CW.seq (CW.condT rfl (CW.skip (thn.n (CW.seq (CW.block (CW.seq (CW.region (zm (.int .i64 (k : Int)) rfl ?_))))))))))
    obtain ⟨e7, he8⟩ : ∃ e, (l)[k]? = some e := ⟨_, List.getElem?_eq_getElem (by omega)⟩
    obtain ⟨ad9, hA10⟩ := Rd.sm (hr.st0 (H4.fix (i := 0) rfl)) (ents_get he8)
    have hl11 := Eng.lt_len (ents_get he8)
    refine zg rfl (Ex.ix (b := (ad9.add (k * 11))) (i := k) Tryz.underlying22 Tryz.sizeOf31 (by rw [← hA10]; rfl) rfl (by omega) (by omega) rfl) (zg rfl (Ex.ldv rfl (loadCN (cs := e7.cells) wh31 (Rd.cl (hr.st0 (H4.fix (i := 0) rfl)) hA10 (ents_get he8)))) (RL.al (cs := [(.int .i64 0), (.int .i64 0), (.int .i64 0), (.int .i64 0), (.int .i64 0), (.int .i64 0), (.int .i64 0), (.int .i64 0), (.int .i64 0), (.int .i64 0), (.int .i64 0)]) Tryz.zeroValue31 rfl rfl rfl ?_))
    intro w12 b13 hb14 hz15 g16 o17
    have H18 := H4.newB g16 o17 (by omega)
    have z19 := g16.size
    refine za (.int .i64 (k : Int)) rfl (RL.st (vs := e7.cells) (cs' := e7.cells) Tryz.sizeOf31 (H18.ob (i := 0) rfl) rfl rfl rfl rfl rfl rfl ?_)
    intro w20 hz21 g22 o23
    have H24 : Sp [BlkA b13 31 e7.cells, Fix w NoB] w20 := H18.setB (i := 0) rfl g22 o23 rfl
    have z25 := g22.size
    refine RL.nil (thn.n (CW.seq (CW.region (zg rfl (fa31_0 (b := ⟨b13, 0, none⟩) rfl rfl) (zl (.int .i64 e7.num) lo3 (H24.ob (i := 0) rfl) rfl (zg rfl (Ex.sub_ (r := IntKind.i64.wrap (e7.num - 1)) rfl rfl rfl) (zm (.int .i64 (k : Int)) rfl (zg rfl (Ex.sub_ (r := IntKind.i64.wrap ((IntKind.i64.wrap (e7.num - 1)) - (k : Int))) rfl rfl rfl) (zm (.int .i64 fr) rfl ?_)))))))))
    refine RL.br (p := (IntKind.i64.wrap ((IntKind.i64.wrap (e7.num - 1)) - (k : Int)) : Int) ≠ (fr : Int)) rfl rfl rfl (fun r hr => Ex.neD rfl rfl hr) (fun h26 => ?_) (fun h26 => ?_)
    ·skip
     refine RL.nil (thn.n (CW.condT rfl (CW.seq (CW.region (za (.bool false) rfl (RL.nil (thn.n (CW.ret (inB.r (thn.r (thn.r (inB.r (thn.r (finQ.r (v := (.bool false)) (res1 rfl rfl) ?_))))))))))))))
     exact ⟨ret_bool (by unfold follB; rw [allI_stop he8 0]; simpa using h26), (H24.fix (i := 1) rfl)⟩
    ·skip
     refine RL.nil (thn.n (CW.condF rfl (CW.skip (inB.n (thn.n (CW.region (zg rfl (Ex.add (r := (k : Int) + 1) rfl rfl (w64 (by omega) (by omega))) (zm (.int .i64 ((k : Int) + 1)) rfl (RL.nil (thn.n ?_))))))))))
     refine ⟨(by repeat (first | exact Out.mix _ _ | exact Out.refl _ _ | refine Out.up ?_ rfl _)), _, ?_, k + 1, rfl, rfl, (H24.sel [1] (by decide) rfl), by omega, by unfold follB at *; rw [allI_take he8 0, hf]; simp only [Nat.zero_add, Bool.true_and, decide_eq_true_eq]; exact Decidable.not_not.1 h26⟩
     omega
   ·skip
    refine RL.nil (thn.n (CW.seq (CW.condF rfl (CW.exit (thn.x (thn.x (inB.hit (thn.n (CW.seq (CW.region (za (.bool true) rfl (RL.nil (thn.n (CW.ret (finQ.r (v := (.bool true)) (res1 rfl rfl) ?_)))))))))))))))
    exact ⟨ret_bool (by rw [← hf, List.take_of_length_le (by omega)]), (H4.fix (i := 0) rfl)⟩
end Go.Proofs.YtfokljnhllflbaaGreat
namespace Go.Eng
open Go Go.RowKit
theorem wrapEq {a : Int} (h : rng a) {j f : Int} (hj : 0 ≤ j ∧ j ≤ 1000000) (hf : 0 ≤ f ∧ f ≤ 2000000000) (e : IntKind.i64.wrap (IntKind.i64.wrap (a - 1) - j) = f) : a = f + 1 + j := by
  unfold rng at h
  rw [IntKind.wrap_i64, IntKind.wrap_i64] at e
  omega
theorem foll_nums {l : List Entry} {f : Int} (h : follB l f = true) (hf : 0 ≤ f ∧ f ≤ 2000000000) (hl : l.length ≤ 1000000) (hr : ∀ e ∈ l, rng e.num) {j : Nat} {e : Entry} (he : l[j]? = some e) : e.num = f + 1 + j := by
  unfold follB at h
  have h2 := allI_get h he
  simp only [Nat.zero_add, decide_eq_true_eq] at h2
  have := lt_len he
  exact wrapEq (hr e (List.mem_of_getElem? he)) (by omega) hf h2
theorem filter_nums : ∀ {l : List Entry} {f L : Int}, f ≤ L → (∀ (j : Nat) (e : Entry), l[j]? = some e → e.num = f + 1 + j) → l.filter (fun e => decide (L < e.num)) = l.drop (L - f).toNat
  | [], f, L, _, _ => by simp
  | x :: l, f, L, hL, h => by
    have hx := h 0 x rfl
    have ht : ∀ (j : Nat) (e : Entry), l[j]? = some e → e.num = (f + 1) + 1 + j := fun j e he => by
      have := h (j + 1) e (by simpa using he)
      omega
    by_cases hc : f = L
    · subst hc
      rw [Int.sub_self, Int.toNat_zero, List.drop_zero]
      refine List.filter_eq_self.2 fun e he => ?_
      obtain ⟨j, hj⟩ := List.mem_iff_getElem?.1 he
      have := h j e hj
      simp only [decide_eq_true_eq]
      omega
    · have ih := filter_nums (l := l) (f := f + 1) (L := L) (by omega) ht
      rw [List.filter_cons, if_neg (by simp only [decide_eq_true_eq]; omega), ih]
      rw [show (L - f).toNat = (L - (f + 1)).toNat + 1 by omega, List.drop_succ_cons]
end Go.Eng
namespace Go.Eng
open Go
def adoptB (k : Kept) (commit view base : Int) (l : List Entry) : Bool :=
  keptB k && withinB commit k.base (lastOf k) && withinB view k.view 900000000 && withinB base 0 commit && follB l base && decide (commit - base ≤ l.length)
def adoptR (k : Kept) (commit view base : Int) (l : List Entry) : Rec :=
  if adoptB k commit view base l = true then ⟨3, view, commit, 0, [], ⟨0, 0, 0, 0, ⟨0, 0, 0, 0, 0, 0, 0⟩⟩, l.drop (commit - base).toNat⟩ else ⟨0, 0, 0, 0, [], ⟨0, 0, 0, 0, ⟨0, 0, 0, 0, 0, 0, 0⟩⟩, []⟩
def tl1 : List Entry := [entR 1]
def tl3 : List Entry := [entR 1, entR 2, entR 3]
def tl4 : List Entry := [entR 1, entR 2, entR 3, entR 4]
def tk3 : Kept := ⟨0, 0, 0, newBytes 3, tl3⟩
theorem ad_y : adoptB tk3 2 4 0 tl4 = true := by decide +kernel
theorem ad_n1 : adoptB tk3 2 4 3 [] = false := by decide +kernel
theorem ad_n2 : adoptB tk3 2 4 0 tl1 = false := by decide +kernel
def ad3 : Rec := ⟨3, 4, 2, 0, [], ⟨0, 0, 0, 0, ⟨0, 0, 0, 0, 0, 0, 0⟩⟩, [entR 3, entR 4]⟩
theorem ad_r : adoptR tk3 2 4 0 tl4 = ad3 := by unfold adoptR; rw [if_pos ad_y]; rfl
theorem adoptB_t {k : Kept} {c v b : Int} {l : List Entry} (h : adoptB k c v b l = true) (hl : l.length ≤ 1000000) (hr : ∀ e ∈ l, rng e.num) :
    keptB k = true ∧ (k.base ≤ c ∧ c ≤ lastK k) ∧ (k.view ≤ v ∧ v ≤ 900000000) ∧ (0 ≤ b ∧ b ≤ c) ∧ c - b ≤ l.length ∧ (∀ (j : Nat) (e : Entry), l[j]? = some e → e.num = b + 1 + j) := by
  unfold adoptB at h
  simp only [Bool.and_eq_true, decide_eq_true_eq] at h
  obtain ⟨⟨⟨⟨⟨h1, h2⟩, h3⟩, h4⟩, h5⟩, h6⟩ := h
  have a2 := withinB_t h2
  unfold lastOf at a2
  rw [if_pos h1] at a2
  have a4 := withinB_t h4
  have hkt := keptB_t h1
  have hlk : lastK k = k.base + k.ents.length := rfl
  exact ⟨h1, a2, withinB_t h3, a4, h6, fun j e he => foll_nums h5 (by omega) hl hr he⟩
theorem adoptR_t {k : Kept} {c v b : Int} {l : List Entry} (h : adoptB k c v b l = true) : adoptR k c v b l = ⟨3, v, c, 0, [], ⟨0, 0, 0, 0, ⟨0, 0, 0, 0, 0, 0, 0⟩⟩, l.drop (c - b).toNat⟩ := by unfold adoptR; rw [if_pos h]
end Go.Eng
namespace Go.Proofs.YtfokljnhllflbaaGreat
open Go Go.Eng Go.RowKit
set_option maxHeartbeats 1000000 in
set_option maxRecDepth 20000 in
theorem adopt_ (w : World) (B : Nat) (k : Kept) (A : Option Addr) (n c : Nat) (hr : Rd w B 11 A (ents k.ents)) (hB : B ≤ w.heap.size) (hn : n = k.ents.length) (hm : n ≤ 1099511627776) (hc : n ≤ c) (hi : k.image.length ≤ 140737488351232) (commit view base : Int) (hcr : rng commit) (l : List Entry) (A2 : Option Addr) (n2 c2 : Nat) (hr2 : Rd w B 11 A2 (ents l)) (hn2 : n2 = l.length) (hm2 : n2 ≤ 1000000) (hc2 : n2 ≤ c2) : Ret Tryz.prog 25 [(.agg ([(.int .i64 k.view), (.int .i64 k.normal), (.int .i64 k.base), (.string (tx k.image)), (.slice A n c)]).toArray), (.int .i64 commit), (.int .i64 view), (.int .i64 base), (.slice A2 n2 c2)] w (fun v w' => ∃ (A' : Option Addr) (n' c' : Nat), v = .tuple #[.agg #[(.int .i64 ((adoptR k commit view base l).kind)), (.int .i64 ((adoptR k commit view base l).view)), (.int .i64 ((adoptR k commit view base l).from_)), (.int .i64 ((adoptR k commit view base l).number)), (.string (tx (adoptR k commit view base l).image)), (.int .i64 ((adoptR k commit view base l).entry.num)), (.int .i64 ((adoptR k commit view base l).entry.view)), (.int .i64 ((adoptR k commit view base l).entry.client)), (.int .i64 ((adoptR k commit view base l).entry.seq)), (.int .i64 ((adoptR k commit view base l).entry.op.kind)), (.int .i64 ((adoptR k commit view base l).entry.op.h)), (.int .i64 ((adoptR k commit view base l).entry.op.i)), (.int .i64 ((adoptR k commit view base l).entry.op.n)), (.int .i64 ((adoptR k commit view base l).entry.op.k)), (.int .i64 ((adoptR k commit view base l).entry.op.v)), (.int .i64 ((adoptR k commit view base l).entry.op.t)), (.slice A' n' c')], .bool (adoptB k commit view base l)] ∧ Sp ([RowA 31 11 A' n' c' (ents (adoptR k commit view base l).ents)] ++ [Fix w NoB]) w') := by
  unfold rng at hcr
  have H0 : Sp [Fix w NoB] w := Sp.start w
  refine Ret.body Tryz.func25 rfl rfl rfl ?_
  refine CW.seq (CW.region (RL.bx (cs := [(.int .i64 k.view), (.int .i64 k.normal), (.int .i64 k.base), (.string (tx k.image)), (.slice A n c)]) rfl rfl rfl ?_))
  intro w1 b2 hb3 hz4 g5 o6
  have H7 := H0.newB g5 o6 (by omega)
  have z8 := g5.size
  refine RL.al (cs := [(.int .i64 0), (.int .i64 0), (.int .i64 0), (.int .i64 0), (.string (⟨#[]⟩)), (.int .i64 0), (.int .i64 0), (.int .i64 0), (.int .i64 0), (.int .i64 0), (.int .i64 0), (.int .i64 0), (.int .i64 0), (.int .i64 0), (.int .i64 0), (.int .i64 0), (.slice none 0 0)]) Tryz.zeroValue33 rfl rfl rfl ?_
  intro w9 b10 hb11 hz12 g13 o14
  have H15 := H7.newB g13 o14 (by omega)
  have z16 := g13.size
  refine za (.bool false) rfl (RL.nil (thn.n (CW.seq (CW.block (CW.seq (CW.held (fun wq => Sp [BlkA b10 33 [(.int .i64 0), (.int .i64 0), (.int .i64 0), (.int .i64 0), (.string (⟨#[]⟩)), (.int .i64 0), (.int .i64 0), (.int .i64 0), (.int .i64 0), (.int .i64 0), (.int .i64 0), (.int .i64 0), (.int .i64 0), (.int .i64 0), (.int .i64 0), (.int .i64 0), (.slice none 0 0)], BlkA b2 24 [(.int .i64 k.view), (.int .i64 k.normal), (.int .i64 k.base), (.string (tx k.image)), (.slice A n c)], Fix w NoB] wq) Tryz.mixed rfl ?_))))))
  intro w17 g18
  have H19 := H15.grow g18
  have z20 := g18.size
  refine RA.tk 0 0 1 rfl rfl rfl (by kernel_rfl) (fun wq hq => Ex.ldv rfl (loadCN (cs := [(.int .i64 k.view), (.int .i64 k.normal), (.int .i64 k.base), (.string (tx k.image)), (.slice A n c)]) wh24 (hq.ob (i := 1) rfl).cl)) H19 (RA.one (i := 1) (by kernel_rfl) ?_)
  refine ⟨_, 3, rfl, by kernel_rfl, ?_⟩
  refine RL.call Tryz.call57 (opCheck_ _ _ _ k (KeptR.of (k := k) (n := n) (c := c) (hr.st0 (H19.fix (i := 2) rfl)) (by show n = (k.ents).length; (try simp only [List.length_append, List.length_cons, List.length_nil, List.length_take, List.length_drop]); all_goals omega) (by omega) (by omega) (by first | assumption | (show List.length _ ≤ _; first | assumption | decide | omega))) (by omega)) rfl rfl rfl ?_
  rintro _ w21 ⟨rfl, g22⟩
  have H23 := H19.grow g22
  have z24 := g22.size
  refine RL.nil ?_
  refine ⟨H23, ?_⟩
  refine RA.br (i := 2) (m := 3) (m' := 7) (p := ((if keptB k then 0 else 1) : Int) ≠ (0 : Int)) rfl rfl rfl (by kernel_rfl) (fun _ _ _ _ h => h) rfl (fun r hr wq hq => Ex.neD rfl rfl hr) H23 (fun h25 => ?_) (fun h25 => ?_)
  ·skip
   refine RA.tk 3 7 15 rfl rfl rfl (by kernel_rfl) (fun wq hq => Ex.mv (v := (.bool true)) rfl) H23 (RA.out (i := 4) (m := 15) (m' := 31) rfl rfl rfl (by kernel_rfl) (fun _ _ _ _ h => h) rfl H23 (RA.out (i := 5) (m := 31) (m' := 63) rfl rfl rfl (by kernel_rfl) (fun _ _ _ _ h => h) rfl H23 (RA.out (i := 6) (m := 63) (m' := 127) rfl rfl rfl (by kernel_rfl) (fun _ _ _ _ h => h) rfl H23 (RA.out (i := 7) (m := 127) (m' := 255) rfl rfl rfl (by kernel_rfl) (fun _ _ _ _ h => h) rfl H23 (RA.out (i := 8) (m := 255) (m' := 511) rfl rfl rfl (by kernel_rfl) (fun _ _ _ _ h => h) rfl H23 (RA.out (i := 9) (m := 511) (m' := 1023) rfl rfl rfl (by kernel_rfl) (fun _ _ _ _ h => h) rfl H23 (RA.out (i := 10) (m := 1023) (m' := 2047) rfl rfl rfl (by kernel_rfl) (fun _ _ _ _ h => h) rfl H23 (RA.tk 11 2047 4095 rfl rfl rfl (by kernel_rfl) (fun wq hq => Ex.pkT (v := (.bool true)) rfl rfl) H23 (RA.tk 12 4095 8191 rfl rfl rfl (by kernel_rfl) (fun wq hq => Ex.mv (v := (.bool true)) rfl) H23 ?_)))))))))
   refine RA.out (i := 13) (m := 8191) (m' := 16383) rfl rfl rfl (by kernel_rfl) (fun _ _ _ _ h => h) rfl H23 (RA.out (i := 14) (m := 16383) (m' := 32767) rfl rfl rfl (by kernel_rfl) (fun _ _ _ _ h => h) rfl H23 (RA.out (i := 15) (m := 32767) (m' := 65535) rfl rfl rfl (by kernel_rfl) (fun _ _ _ _ h => h) rfl H23 (RA.out (i := 16) (m := 65535) (m' := 131071) rfl rfl rfl (by kernel_rfl) (fun _ _ _ _ h => h) rfl H23 (RA.out (i := 17) (m := 131071) (m' := 262143) rfl rfl rfl (by kernel_rfl) (fun _ _ _ _ h => h) rfl H23 (RA.tk 18 262143 524287 rfl rfl rfl (by kernel_rfl) (fun wq hq => Ex.pkT (v := (.bool true)) rfl rfl) H23 (RA.tk 19 524287 1048575 rfl rfl rfl (by kernel_rfl) (fun wq hq => Ex.as (v := (.bool true)) rfl) H23 (RA.done (by kernel_rfl) (thn.n (CW.condT rfl (CW.seq (CW.region (zg rfl (Ex.ldv rfl (loadCN (cs := [(.int .i64 0), (.int .i64 0), (.int .i64 0), (.int .i64 0), (.string (⟨#[]⟩)), (.int .i64 0), (.int .i64 0), (.int .i64 0), (.int .i64 0), (.int .i64 0), (.int .i64 0), (.int .i64 0), (.int .i64 0), (.int .i64 0), (.int .i64 0), (.int .i64 0), (.slice none 0 0)]) wh33 (H23.ob (i := 0) rfl).cl)) ?_))))))))))))
   refine RL.st (vs := [(.int .i64 0), (.int .i64 0), (.int .i64 0), (.int .i64 0), (.string (⟨#[]⟩)), (.int .i64 0), (.int .i64 0), (.int .i64 0), (.int .i64 0), (.int .i64 0), (.int .i64 0), (.int .i64 0), (.int .i64 0), (.int .i64 0), (.int .i64 0), (.int .i64 0), (.slice none 0 0)]) (cs' := [(.int .i64 0), (.int .i64 0), (.int .i64 0), (.int .i64 0), (.string (⟨#[]⟩)), (.int .i64 0), (.int .i64 0), (.int .i64 0), (.int .i64 0), (.int .i64 0), (.int .i64 0), (.int .i64 0), (.int .i64 0), (.int .i64 0), (.int .i64 0), (.int .i64 0), (.slice none 0 0)]) Tryz.sizeOf33 (H23.ob (i := 0) rfl) rfl rfl rfl rfl rfl rfl ?_
   intro w26 hz27 g28 o29
   have H30 : Sp [BlkA b10 33 [(.int .i64 0), (.int .i64 0), (.int .i64 0), (.int .i64 0), (.string (⟨#[]⟩)), (.int .i64 0), (.int .i64 0), (.int .i64 0), (.int .i64 0), (.int .i64 0), (.int .i64 0), (.int .i64 0), (.int .i64 0), (.int .i64 0), (.int .i64 0), (.int .i64 0), (.slice none 0 0)], BlkA b2 24 [(.int .i64 k.view), (.int .i64 k.normal), (.int .i64 k.base), (.string (tx k.image)), (.slice A n c)], Fix w NoB] w26 := H23.setB (i := 0) rfl g28 o29 rfl
   have z31 := g28.size
   refine za (.bool false) rfl (RL.nil (thn.n (CW.ret (inB.r (thn.r (finQ.r (v := (.tuple #[(.agg ([(.int .i64 0), (.int .i64 0), (.int .i64 0), (.int .i64 0), (.string (⟨#[]⟩)), (.int .i64 0), (.int .i64 0), (.int .i64 0), (.int .i64 0), (.int .i64 0), (.int .i64 0), (.int .i64 0), (.int .i64 0), (.int .i64 0), (.int .i64 0), (.int .i64 0), (.slice none 0 0)]).toArray), (.bool false)])) (resv2 rfl (Rv.cell rfl (loadCN (cs := [(.int .i64 0), (.int .i64 0), (.int .i64 0), (.int .i64 0), (.string (⟨#[]⟩)), (.int .i64 0), (.int .i64 0), (.int .i64 0), (.int .i64 0), (.int .i64 0), (.int .i64 0), (.int .i64 0), (.int .i64 0), (.int .i64 0), (.int .i64 0), (.int .i64 0), (.slice none 0 0)]) wh33 (H30.ob (i := 0) rfl).cl)) (Rv.tmp rfl)) ?_))))))
   have H32 := H30.nil_ 31 11
   have hx : adoptB k commit view base l = false := by
     unfold adoptB withinB at *
     simp_all
     try omega
   have hy : adoptR k commit view base l = ⟨0, 0, 0, 0, [], ⟨0, 0, 0, 0, ⟨0, 0, 0, 0, 0, 0, 0⟩⟩, []⟩ := by unfold adoptR; rw [hx]; rfl
   exact ⟨none, 0, 0, by rw [hx, hy]; rfl, by rw [hy]; exact (H32.sel [0, 3] (by decide) rfl)⟩
  ·skip
   refine RA.tk 3 7 15 rfl rfl rfl (by kernel_rfl) (fun wq hq => Ex.mv (v := (.bool false)) rfl) H23 (RA.tk 4 15 31 rfl rfl rfl (by kernel_rfl) (fun wq hq => Ex.mv (v := (.int .i64 commit)) rfl) H23 (RA.tk 5 31 63 rfl rfl rfl (by kernel_rfl) (fun wq hq => fa24_2 (b := ⟨b2, 2, none⟩) rfl rfl) H23 (RA.tk 6 63 127 rfl rfl rfl (by kernel_rfl) (fun wq hq => Ex.ldv rfl (loadC1 lo3 (Ob.cell (v := (.int .i64 k.base)) (hq.ob (i := 1) rfl) rfl))) H23 (RA.tk 7 127 255 rfl rfl rfl (by kernel_rfl) (fun wq hq => Ex.ldv rfl (loadCN (cs := [(.int .i64 k.view), (.int .i64 k.normal), (.int .i64 k.base), (.string (tx k.image)), (.slice A n c)]) wh24 (hq.ob (i := 1) rfl).cl)) H23 (RA.one (i := 8) (by kernel_rfl) ?_)))))
   refine ⟨_, 511, rfl, by kernel_rfl, ?_⟩
   refine RL.call Tryz.call62 (Last_ _ _ _ k (KeptR.of (k := k) (n := n) (c := c) (hr.st0 (H23.fix (i := 2) rfl)) (by show n = (k.ents).length; (try simp only [List.length_append, List.length_cons, List.length_nil, List.length_take, List.length_drop]); all_goals omega) (by omega) (by omega) (by first | assumption | (show List.length _ ≤ _; first | assumption | decide | omega))) (by omega)) rfl rfl rfl ?_
   rintro _ w33 ⟨rfl, g34⟩
   have H35 := H23.grow g34
   have z36 := g34.size
   refine RL.nil ?_
   refine ⟨H35, ?_⟩
   refine RA.one (i := 9) (by kernel_rfl) ?_
   refine ⟨_, 1023, rfl, by kernel_rfl, ?_⟩
   refine RL.call Tryz.call87 (within_change _ commit k.base (lastOf k)) rfl rfl rfl ?_
   rintro _ _ ⟨rfl, rfl⟩
   rcases hb40 : (withinB commit k.base (lastOf k)) with _ | _
   ·skip
    refine RL.nil ?_
    refine ⟨H35, ?_⟩
    refine RA.tk 10 1023 2047 rfl rfl rfl (by kernel_rfl) (fun wq hq => Ex.not (b := false) rfl) H35 (RA.tk 11 2047 4095 rfl rfl rfl (by kernel_rfl) (fun wq hq => Ex.pkF (v := (.bool true)) rfl rfl) H35 (RA.tk 12 4095 8191 rfl rfl rfl (by kernel_rfl) (fun wq hq => Ex.mv (v := (.bool true)) rfl) H35 (RA.out (i := 13) (m := 8191) (m' := 16383) rfl rfl rfl (by kernel_rfl) (fun _ _ _ _ h => h) rfl H35 (RA.out (i := 14) (m := 16383) (m' := 32767) rfl rfl rfl (by kernel_rfl) (fun _ _ _ _ h => h) rfl H35 (RA.out (i := 15) (m := 32767) (m' := 65535) rfl rfl rfl (by kernel_rfl) (fun _ _ _ _ h => h) rfl H35 (RA.out (i := 16) (m := 65535) (m' := 131071) rfl rfl rfl (by kernel_rfl) (fun _ _ _ _ h => h) rfl H35 (RA.out (i := 17) (m := 131071) (m' := 262143) rfl rfl rfl (by kernel_rfl) (fun _ _ _ _ h => h) rfl H35 (RA.tk 18 262143 524287 rfl rfl rfl (by kernel_rfl) (fun wq hq => Ex.pkT (v := (.bool true)) rfl rfl) H35 ?_))))))))
    refine RA.tk 19 524287 1048575 rfl rfl rfl (by kernel_rfl) (fun wq hq => Ex.as (v := (.bool true)) rfl) H35 (RA.done (by kernel_rfl) (thn.n (CW.condT rfl (CW.seq (CW.region (zg rfl (Ex.ldv rfl (loadCN (cs := [(.int .i64 0), (.int .i64 0), (.int .i64 0), (.int .i64 0), (.string (⟨#[]⟩)), (.int .i64 0), (.int .i64 0), (.int .i64 0), (.int .i64 0), (.int .i64 0), (.int .i64 0), (.int .i64 0), (.int .i64 0), (.int .i64 0), (.int .i64 0), (.int .i64 0), (.slice none 0 0)]) wh33 (H35.ob (i := 0) rfl).cl)) (RL.st (vs := [(.int .i64 0), (.int .i64 0), (.int .i64 0), (.int .i64 0), (.string (⟨#[]⟩)), (.int .i64 0), (.int .i64 0), (.int .i64 0), (.int .i64 0), (.int .i64 0), (.int .i64 0), (.int .i64 0), (.int .i64 0), (.int .i64 0), (.int .i64 0), (.int .i64 0), (.slice none 0 0)]) (cs' := [(.int .i64 0), (.int .i64 0), (.int .i64 0), (.int .i64 0), (.string (⟨#[]⟩)), (.int .i64 0), (.int .i64 0), (.int .i64 0), (.int .i64 0), (.int .i64 0), (.int .i64 0), (.int .i64 0), (.int .i64 0), (.int .i64 0), (.int .i64 0), (.int .i64 0), (.slice none 0 0)]) Tryz.sizeOf33 (H35.ob (i := 0) rfl) rfl rfl rfl rfl rfl rfl ?_)))))))
    intro w41 hz42 g43 o44
    have H45 : Sp [BlkA b10 33 [(.int .i64 0), (.int .i64 0), (.int .i64 0), (.int .i64 0), (.string (⟨#[]⟩)), (.int .i64 0), (.int .i64 0), (.int .i64 0), (.int .i64 0), (.int .i64 0), (.int .i64 0), (.int .i64 0), (.int .i64 0), (.int .i64 0), (.int .i64 0), (.int .i64 0), (.slice none 0 0)], BlkA b2 24 [(.int .i64 k.view), (.int .i64 k.normal), (.int .i64 k.base), (.string (tx k.image)), (.slice A n c)], Fix w NoB] w41 := H35.setB (i := 0) rfl g43 o44 rfl
    have z46 := g43.size
    refine za (.bool false) rfl (RL.nil (thn.n (CW.ret (inB.r (thn.r (finQ.r (v := (.tuple #[(.agg ([(.int .i64 0), (.int .i64 0), (.int .i64 0), (.int .i64 0), (.string (⟨#[]⟩)), (.int .i64 0), (.int .i64 0), (.int .i64 0), (.int .i64 0), (.int .i64 0), (.int .i64 0), (.int .i64 0), (.int .i64 0), (.int .i64 0), (.int .i64 0), (.int .i64 0), (.slice none 0 0)]).toArray), (.bool false)])) (resv2 rfl (Rv.cell rfl (loadCN (cs := [(.int .i64 0), (.int .i64 0), (.int .i64 0), (.int .i64 0), (.string (⟨#[]⟩)), (.int .i64 0), (.int .i64 0), (.int .i64 0), (.int .i64 0), (.int .i64 0), (.int .i64 0), (.int .i64 0), (.int .i64 0), (.int .i64 0), (.int .i64 0), (.int .i64 0), (.slice none 0 0)]) wh33 (H45.ob (i := 0) rfl).cl)) (Rv.tmp rfl)) ?_))))))
    have H47 := H45.nil_ 31 11
    have hx : adoptB k commit view base l = false := by
      unfold adoptB withinB at *
      simp_all
      try omega
    have hy : adoptR k commit view base l = ⟨0, 0, 0, 0, [], ⟨0, 0, 0, 0, ⟨0, 0, 0, 0, 0, 0, 0⟩⟩, []⟩ := by unfold adoptR; rw [hx]; rfl
    exact ⟨none, 0, 0, by rw [hx, hy]; rfl, by rw [hy]; exact (H47.sel [0, 3] (by decide) rfl)⟩
   ·have hw37 := withinB_t hb40
    refine RL.nil ?_
    refine ⟨H35, ?_⟩
    refine RA.tk 10 1023 2047 rfl rfl rfl (by kernel_rfl) (fun wq hq => Ex.not (b := true) rfl) H35 (RA.tk 11 2047 4095 rfl rfl rfl (by kernel_rfl) (fun wq hq => Ex.pkF (v := (.bool false)) rfl rfl) H35 (RA.tk 12 4095 8191 rfl rfl rfl (by kernel_rfl) (fun wq hq => Ex.mv (v := (.bool false)) rfl) H35 (RA.tk 13 8191 16383 rfl rfl rfl (by kernel_rfl) (fun wq hq => Ex.mv (v := (.int .i64 view)) rfl) H35 (RA.tk 14 16383 32767 rfl rfl rfl (by kernel_rfl) (fun wq hq => fa24_0 (b := ⟨b2, 0, none⟩) rfl rfl) H35 (RA.tk 15 32767 65535 rfl rfl rfl (by kernel_rfl) (fun wq hq => Ex.ldv rfl (loadC1 lo3 (Ob.cell (v := (.int .i64 k.view)) (hq.ob (i := 1) rfl) rfl))) H35 (RA.one (i := 16) (by kernel_rfl) ?_))))))
    refine ⟨_, 131071, rfl, by kernel_rfl, ?_⟩
    refine RL.call Tryz.call87 (within_change _ view k.view 900000000) rfl rfl rfl ?_
    rintro _ _ ⟨rfl, rfl⟩
    rcases hb51 : (withinB view k.view 900000000) with _ | _
    ·skip
     refine RL.nil ?_
     refine ⟨H35, ?_⟩
     refine RA.tk 17 131071 262143 rfl rfl rfl (by kernel_rfl) (fun wq hq => Ex.not (b := false) rfl) H35 (RA.tk 18 262143 524287 rfl rfl rfl (by kernel_rfl) (fun wq hq => Ex.pkF (v := (.bool true)) rfl rfl) H35 (RA.tk 19 524287 1048575 rfl rfl rfl (by kernel_rfl) (fun wq hq => Ex.as (v := (.bool true)) rfl) H35 (RA.done (by kernel_rfl) (thn.n (CW.condT rfl (CW.seq (CW.region (zg rfl (Ex.ldv rfl (loadCN (cs := [(.int .i64 0), (.int .i64 0), (.int .i64 0), (.int .i64 0), (.string (⟨#[]⟩)), (.int .i64 0), (.int .i64 0), (.int .i64 0), (.int .i64 0), (.int .i64 0), (.int .i64 0), (.int .i64 0), (.int .i64 0), (.int .i64 0), (.int .i64 0), (.int .i64 0), (.slice none 0 0)]) wh33 (H35.ob (i := 0) rfl).cl)) (RL.st (vs := [(.int .i64 0), (.int .i64 0), (.int .i64 0), (.int .i64 0), (.string (⟨#[]⟩)), (.int .i64 0), (.int .i64 0), (.int .i64 0), (.int .i64 0), (.int .i64 0), (.int .i64 0), (.int .i64 0), (.int .i64 0), (.int .i64 0), (.int .i64 0), (.int .i64 0), (.slice none 0 0)]) (cs' := [(.int .i64 0), (.int .i64 0), (.int .i64 0), (.int .i64 0), (.string (⟨#[]⟩)), (.int .i64 0), (.int .i64 0), (.int .i64 0), (.int .i64 0), (.int .i64 0), (.int .i64 0), (.int .i64 0), (.int .i64 0), (.int .i64 0), (.int .i64 0), (.int .i64 0), (.slice none 0 0)]) Tryz.sizeOf33 (H35.ob (i := 0) rfl) rfl rfl rfl rfl rfl rfl ?_)))))))))
     intro w52 hz53 g54 o55
     have H56 : Sp [BlkA b10 33 [(.int .i64 0), (.int .i64 0), (.int .i64 0), (.int .i64 0), (.string (⟨#[]⟩)), (.int .i64 0), (.int .i64 0), (.int .i64 0), (.int .i64 0), (.int .i64 0), (.int .i64 0), (.int .i64 0), (.int .i64 0), (.int .i64 0), (.int .i64 0), (.int .i64 0), (.slice none 0 0)], BlkA b2 24 [(.int .i64 k.view), (.int .i64 k.normal), (.int .i64 k.base), (.string (tx k.image)), (.slice A n c)], Fix w NoB] w52 := H35.setB (i := 0) rfl g54 o55 rfl
     have z57 := g54.size
     refine za (.bool false) rfl (RL.nil (thn.n (CW.ret (inB.r (thn.r (finQ.r (v := (.tuple #[(.agg ([(.int .i64 0), (.int .i64 0), (.int .i64 0), (.int .i64 0), (.string (⟨#[]⟩)), (.int .i64 0), (.int .i64 0), (.int .i64 0), (.int .i64 0), (.int .i64 0), (.int .i64 0), (.int .i64 0), (.int .i64 0), (.int .i64 0), (.int .i64 0), (.int .i64 0), (.slice none 0 0)]).toArray), (.bool false)])) (resv2 rfl (Rv.cell rfl (loadCN (cs := [(.int .i64 0), (.int .i64 0), (.int .i64 0), (.int .i64 0), (.string (⟨#[]⟩)), (.int .i64 0), (.int .i64 0), (.int .i64 0), (.int .i64 0), (.int .i64 0), (.int .i64 0), (.int .i64 0), (.int .i64 0), (.int .i64 0), (.int .i64 0), (.int .i64 0), (.slice none 0 0)]) wh33 (H56.ob (i := 0) rfl).cl)) (Rv.tmp rfl)) ?_))))))
     have H58 := H56.nil_ 31 11
     have hx : adoptB k commit view base l = false := by
       unfold adoptB withinB at *
       simp_all
       try omega
     have hy : adoptR k commit view base l = ⟨0, 0, 0, 0, [], ⟨0, 0, 0, 0, ⟨0, 0, 0, 0, 0, 0, 0⟩⟩, []⟩ := by unfold adoptR; rw [hx]; rfl
     exact ⟨none, 0, 0, by rw [hx, hy]; rfl, by rw [hy]; exact (H58.sel [0, 3] (by decide) rfl)⟩
    ·have hw48 := withinB_t hb51
     refine RL.nil ?_
     refine ⟨H35, ?_⟩
     refine RA.tk 17 131071 262143 rfl rfl rfl (by kernel_rfl) (fun wq hq => Ex.not (b := true) rfl) H35 (RA.tk 18 262143 524287 rfl rfl rfl (by kernel_rfl) (fun wq hq => Ex.pkF (v := (.bool false)) rfl rfl) H35 (RA.tk 19 524287 1048575 rfl rfl rfl (by kernel_rfl) (fun wq hq => Ex.as (v := (.bool false)) rfl) H35 (RA.done (by kernel_rfl) (thn.n (CW.condF rfl (CW.seq (CW.region (zm (.int .i64 base) rfl (zm (.int .i64 commit) rfl (RL.call Tryz.call87 (within_change _ base 0 commit) rfl rfl rfl ?_))))))))))
     rintro _ _ ⟨rfl, rfl⟩
     rcases hb62 : (withinB base 0 commit) with _ | _
     ·skip
      refine zg rfl (Ex.not (b := false) rfl) (zm (.bool true) rfl (zo rfl (zo rfl (zo rfl (zo rfl (zT (.bool true) rfl (zm (.bool true) rfl (zo rfl (zo rfl (zo rfl ?_))))))))))
      refine zo rfl (zo rfl (zo rfl (zT (.bool true) rfl (za (.bool true) rfl (RL.nil (thn.n (CW.condT rfl (CW.seq (CW.region (zg rfl (Ex.ldv rfl (loadCN (cs := [(.int .i64 0), (.int .i64 0), (.int .i64 0), (.int .i64 0), (.string (⟨#[]⟩)), (.int .i64 0), (.int .i64 0), (.int .i64 0), (.int .i64 0), (.int .i64 0), (.int .i64 0), (.int .i64 0), (.int .i64 0), (.int .i64 0), (.int .i64 0), (.int .i64 0), (.slice none 0 0)]) wh33 (H35.ob (i := 0) rfl).cl)) (RL.st (vs := [(.int .i64 0), (.int .i64 0), (.int .i64 0), (.int .i64 0), (.string (⟨#[]⟩)), (.int .i64 0), (.int .i64 0), (.int .i64 0), (.int .i64 0), (.int .i64 0), (.int .i64 0), (.int .i64 0), (.int .i64 0), (.int .i64 0), (.int .i64 0), (.int .i64 0), (.slice none 0 0)]) (cs' := [(.int .i64 0), (.int .i64 0), (.int .i64 0), (.int .i64 0), (.string (⟨#[]⟩)), (.int .i64 0), (.int .i64 0), (.int .i64 0), (.int .i64 0), (.int .i64 0), (.int .i64 0), (.int .i64 0), (.int .i64 0), (.int .i64 0), (.int .i64 0), (.int .i64 0), (.slice none 0 0)]) Tryz.sizeOf33 (H35.ob (i := 0) rfl) rfl rfl rfl rfl rfl rfl ?_)))))))))))
      intro w63 hz65 g66 o67
      have H68 : Sp [BlkA b10 33 [(.int .i64 0), (.int .i64 0), (.int .i64 0), (.int .i64 0), (.string (⟨#[]⟩)), (.int .i64 0), (.int .i64 0), (.int .i64 0), (.int .i64 0), (.int .i64 0), (.int .i64 0), (.int .i64 0), (.int .i64 0), (.int .i64 0), (.int .i64 0), (.int .i64 0), (.slice none 0 0)], BlkA b2 24 [(.int .i64 k.view), (.int .i64 k.normal), (.int .i64 k.base), (.string (tx k.image)), (.slice A n c)], Fix w NoB] w63 := H35.setB (i := 0) rfl g66 o67 rfl
      have z69 := g66.size
      refine za (.bool false) rfl (RL.nil (thn.n (CW.ret (inB.r (thn.r (finQ.r (v := (.tuple #[(.agg ([(.int .i64 0), (.int .i64 0), (.int .i64 0), (.int .i64 0), (.string (⟨#[]⟩)), (.int .i64 0), (.int .i64 0), (.int .i64 0), (.int .i64 0), (.int .i64 0), (.int .i64 0), (.int .i64 0), (.int .i64 0), (.int .i64 0), (.int .i64 0), (.int .i64 0), (.slice none 0 0)]).toArray), (.bool false)])) (resv2 rfl (Rv.cell rfl (loadCN (cs := [(.int .i64 0), (.int .i64 0), (.int .i64 0), (.int .i64 0), (.string (⟨#[]⟩)), (.int .i64 0), (.int .i64 0), (.int .i64 0), (.int .i64 0), (.int .i64 0), (.int .i64 0), (.int .i64 0), (.int .i64 0), (.int .i64 0), (.int .i64 0), (.int .i64 0), (.slice none 0 0)]) wh33 (H68.ob (i := 0) rfl).cl)) (Rv.tmp rfl)) ?_))))))
      have H70 := H68.nil_ 31 11
      have hx : adoptB k commit view base l = false := by
        unfold adoptB withinB at *
        simp_all
        try omega
      have hy : adoptR k commit view base l = ⟨0, 0, 0, 0, [], ⟨0, 0, 0, 0, ⟨0, 0, 0, 0, 0, 0, 0⟩⟩, []⟩ := by unfold adoptR; rw [hx]; rfl
      exact ⟨none, 0, 0, by rw [hx, hy]; rfl, by rw [hy]; exact (H70.sel [0, 3] (by decide) rfl)⟩
     ·have hw59 := withinB_t hb62
      refine zg rfl (Ex.not (b := true) rfl) (zm (.bool false) rfl (zm (.slice A2 n2 c2) rfl (zm (.int .i64 base) rfl (RL.call Tryz.call88 (crow _ _ l A2 n2 c2 base (hr2.st0 (H35.fix (i := 2) rfl)) (by omega) (by first | rfl | assumption | omega) (by omega)) rfl rfl rfl ?_))))
      rintro _ w71 ⟨rfl, g72⟩
      have H73 := H35.grow g72
      have z74 := g72.size
      rcases hb75 : (follB l base) with _ | _
      ·skip
       refine zg rfl (Ex.not (b := false) rfl) (zF (.bool true) rfl (zm (.bool true) rfl (zo rfl (zo rfl (zo rfl (zo rfl (zo rfl (zo rfl (zT (.bool true) rfl (za (.bool true) rfl ?_))))))))))
       refine RL.nil (thn.n (CW.condT rfl (CW.seq (CW.region (zg rfl (Ex.ldv rfl (loadCN (cs := [(.int .i64 0), (.int .i64 0), (.int .i64 0), (.int .i64 0), (.string (⟨#[]⟩)), (.int .i64 0), (.int .i64 0), (.int .i64 0), (.int .i64 0), (.int .i64 0), (.int .i64 0), (.int .i64 0), (.int .i64 0), (.int .i64 0), (.int .i64 0), (.int .i64 0), (.slice none 0 0)]) wh33 (H73.ob (i := 0) rfl).cl)) (RL.st (vs := [(.int .i64 0), (.int .i64 0), (.int .i64 0), (.int .i64 0), (.string (⟨#[]⟩)), (.int .i64 0), (.int .i64 0), (.int .i64 0), (.int .i64 0), (.int .i64 0), (.int .i64 0), (.int .i64 0), (.int .i64 0), (.int .i64 0), (.int .i64 0), (.int .i64 0), (.slice none 0 0)]) (cs' := [(.int .i64 0), (.int .i64 0), (.int .i64 0), (.int .i64 0), (.string (⟨#[]⟩)), (.int .i64 0), (.int .i64 0), (.int .i64 0), (.int .i64 0), (.int .i64 0), (.int .i64 0), (.int .i64 0), (.int .i64 0), (.int .i64 0), (.int .i64 0), (.int .i64 0), (.slice none 0 0)]) Tryz.sizeOf33 (H73.ob (i := 0) rfl) rfl rfl rfl rfl rfl rfl ?_))))))
       intro w76 hz77 g78 o79
       have H80 : Sp [BlkA b10 33 [(.int .i64 0), (.int .i64 0), (.int .i64 0), (.int .i64 0), (.string (⟨#[]⟩)), (.int .i64 0), (.int .i64 0), (.int .i64 0), (.int .i64 0), (.int .i64 0), (.int .i64 0), (.int .i64 0), (.int .i64 0), (.int .i64 0), (.int .i64 0), (.int .i64 0), (.slice none 0 0)], BlkA b2 24 [(.int .i64 k.view), (.int .i64 k.normal), (.int .i64 k.base), (.string (tx k.image)), (.slice A n c)], Fix w NoB] w76 := H73.setB (i := 0) rfl g78 o79 rfl
       have z81 := g78.size
       refine za (.bool false) rfl (RL.nil (thn.n (CW.ret (inB.r (thn.r (finQ.r (v := (.tuple #[(.agg ([(.int .i64 0), (.int .i64 0), (.int .i64 0), (.int .i64 0), (.string (⟨#[]⟩)), (.int .i64 0), (.int .i64 0), (.int .i64 0), (.int .i64 0), (.int .i64 0), (.int .i64 0), (.int .i64 0), (.int .i64 0), (.int .i64 0), (.int .i64 0), (.int .i64 0), (.slice none 0 0)]).toArray), (.bool false)])) (resv2 rfl (Rv.cell rfl (loadCN (cs := [(.int .i64 0), (.int .i64 0), (.int .i64 0), (.int .i64 0), (.string (⟨#[]⟩)), (.int .i64 0), (.int .i64 0), (.int .i64 0), (.int .i64 0), (.int .i64 0), (.int .i64 0), (.int .i64 0), (.int .i64 0), (.int .i64 0), (.int .i64 0), (.int .i64 0), (.slice none 0 0)]) wh33 (H80.ob (i := 0) rfl).cl)) (Rv.tmp rfl)) ?_))))))
       have H82 := H80.nil_ 31 11
       have hx : adoptB k commit view base l = false := by
         unfold adoptB withinB at *
         simp_all
         try omega
       have hy : adoptR k commit view base l = ⟨0, 0, 0, 0, [], ⟨0, 0, 0, 0, ⟨0, 0, 0, 0, 0, 0, 0⟩⟩, []⟩ := by unfold adoptR; rw [hx]; rfl
       exact ⟨none, 0, 0, by rw [hx, hy]; rfl, by rw [hy]; exact (H82.sel [0, 3] (by decide) rfl)⟩
      ·skip
       refine zg rfl (Ex.not (b := true) rfl) (zF (.bool false) rfl (zm (.bool false) rfl (zm (.slice A2 n2 c2) rfl (zg rfl (Ex.len Tryz.underlying22 rfl) (zm (.int .i64 commit) rfl (zm (.int .i64 base) rfl ?_))))))
       have hwb83 : 0 ≤ base ∧ base ≤ commit := withinB_t (by assumption)
       refine zg rfl (Ex.sub_ (r := commit - base) rfl rfl (w64 (by omega) (by omega))) ?_
       refine RL.br (p := ((n2 : Nat) : Int) < (commit - base : Int)) rfl rfl rfl (fun r hr => Ex.lt rfl rfl hr) (fun h84 => ?_) (fun h84 => ?_)
       ·skip
        refine zF (.bool true) rfl (za (.bool true) rfl (RL.nil (thn.n (CW.condT rfl (CW.seq (CW.region (zg rfl (Ex.ldv rfl (loadCN (cs := [(.int .i64 0), (.int .i64 0), (.int .i64 0), (.int .i64 0), (.string (⟨#[]⟩)), (.int .i64 0), (.int .i64 0), (.int .i64 0), (.int .i64 0), (.int .i64 0), (.int .i64 0), (.int .i64 0), (.int .i64 0), (.int .i64 0), (.int .i64 0), (.int .i64 0), (.slice none 0 0)]) wh33 (H73.ob (i := 0) rfl).cl)) (RL.st (vs := [(.int .i64 0), (.int .i64 0), (.int .i64 0), (.int .i64 0), (.string (⟨#[]⟩)), (.int .i64 0), (.int .i64 0), (.int .i64 0), (.int .i64 0), (.int .i64 0), (.int .i64 0), (.int .i64 0), (.int .i64 0), (.int .i64 0), (.int .i64 0), (.int .i64 0), (.slice none 0 0)]) (cs' := [(.int .i64 0), (.int .i64 0), (.int .i64 0), (.int .i64 0), (.string (⟨#[]⟩)), (.int .i64 0), (.int .i64 0), (.int .i64 0), (.int .i64 0), (.int .i64 0), (.int .i64 0), (.int .i64 0), (.int .i64 0), (.int .i64 0), (.int .i64 0), (.int .i64 0), (.slice none 0 0)]) Tryz.sizeOf33 (H73.ob (i := 0) rfl) rfl rfl rfl rfl rfl rfl ?_))))))))
        intro w85 hz86 g87 o88
        have H89 : Sp [BlkA b10 33 [(.int .i64 0), (.int .i64 0), (.int .i64 0), (.int .i64 0), (.string (⟨#[]⟩)), (.int .i64 0), (.int .i64 0), (.int .i64 0), (.int .i64 0), (.int .i64 0), (.int .i64 0), (.int .i64 0), (.int .i64 0), (.int .i64 0), (.int .i64 0), (.int .i64 0), (.slice none 0 0)], BlkA b2 24 [(.int .i64 k.view), (.int .i64 k.normal), (.int .i64 k.base), (.string (tx k.image)), (.slice A n c)], Fix w NoB] w85 := H73.setB (i := 0) rfl g87 o88 rfl
        have z90 := g87.size
        refine za (.bool false) rfl (RL.nil (thn.n (CW.ret (inB.r (thn.r (finQ.r (v := (.tuple #[(.agg ([(.int .i64 0), (.int .i64 0), (.int .i64 0), (.int .i64 0), (.string (⟨#[]⟩)), (.int .i64 0), (.int .i64 0), (.int .i64 0), (.int .i64 0), (.int .i64 0), (.int .i64 0), (.int .i64 0), (.int .i64 0), (.int .i64 0), (.int .i64 0), (.int .i64 0), (.slice none 0 0)]).toArray), (.bool false)])) (resv2 rfl (Rv.cell rfl (loadCN (cs := [(.int .i64 0), (.int .i64 0), (.int .i64 0), (.int .i64 0), (.string (⟨#[]⟩)), (.int .i64 0), (.int .i64 0), (.int .i64 0), (.int .i64 0), (.int .i64 0), (.int .i64 0), (.int .i64 0), (.int .i64 0), (.int .i64 0), (.int .i64 0), (.int .i64 0), (.slice none 0 0)]) wh33 (H89.ob (i := 0) rfl).cl)) (Rv.tmp rfl)) ?_))))))
        have H91 := H89.nil_ 31 11
        have hx : adoptB k commit view base l = false := by
          unfold adoptB withinB at *
          simp_all
          try omega
        have hy : adoptR k commit view base l = ⟨0, 0, 0, 0, [], ⟨0, 0, 0, 0, ⟨0, 0, 0, 0, 0, 0, 0⟩⟩, []⟩ := by unfold adoptR; rw [hx]; rfl
        exact ⟨none, 0, 0, by rw [hx, hy]; rfl, by rw [hy]; exact (H91.sel [0, 3] (by decide) rfl)⟩
       ·skip
        refine zF (.bool false) rfl (za (.bool false) rfl (RL.nil (thn.n (CW.condF rfl (CW.skip (inB.n (thn.n (CW.seq (CW.region ?_)))))))))
        have hwb92 : 0 ≤ base ∧ base ≤ commit := withinB_t (by assumption)
        refine zm (.int .i64 view) rfl (zm (.int .i64 commit) rfl (zm (.slice A2 n2 c2) rfl (zm (.int .i64 commit) rfl (zm (.int .i64 base) rfl (zg rfl (Ex.sub_ (r := commit - base) rfl rfl (w64 (by omega) (by omega))) (RL.slR (i := (commit - base).toNat) Tryz.underlying22 Tryz.sizeOf31 (hr2.st0 (H73.fix (i := 2) rfl)) rfl rfl (by omega) (by omega) (by simp only [bcs_length, ics_length, rows_length, blks_length, robjs_length, ents_length, List.length_append, List.length_cons, List.length_nil, List.length_take, List.length_drop, List.length_map, enc4, enc8, encN_len, encW_len, recsE_length]; omega) rfl rfl ?_))))))
        intro A93 r94
        refine RL.call Tryz.call89 (cloneEnt _ ((l).drop ((commit - base).toNat)) _ _ _ _ (ents_drop _ _ ▸ r94) (by (try simp only [List.length_append, List.length_cons, List.length_nil, List.length_take, List.length_drop]); all_goals omega) (by omega)) rfl rfl rfl ?_
        rintro _ w98 ⟨A95, c96, rfl, g99, ow97⟩
        have H100 : Sp [RowA 31 11 A95 (n2 - ((commit - base).toNat)) c96 (ents ((l).drop ((commit - base).toNat))), BlkA b10 33 [(.int .i64 0), (.int .i64 0), (.int .i64 0), (.int .i64 0), (.string (⟨#[]⟩)), (.int .i64 0), (.int .i64 0), (.int .i64 0), (.int .i64 0), (.int .i64 0), (.int .i64 0), (.int .i64 0), (.int .i64 0), (.int .i64 0), (.int .i64 0), (.int .i64 0), (.slice none 0 0)], BlkA b2 24 [(.int .i64 k.view), (.int .i64 k.normal), (.int .i64 k.base), (.string (tx k.image)), (.slice A n c)], Fix w NoB] w98 := H73.newO g99 ow97 (by simp only [bcs_length, ics_length, rows_length, blks_length, robjs_length, ents_length, List.length_append, List.length_cons, List.length_nil, List.length_take, List.length_drop, List.length_map, enc4, enc8, encN_len, encW_len, recsE_length]; omega) (Nat.le_refl _)
        have z101 := g99.size
        refine zg rfl (Ex.bd (cs := [(.int .i64 3), (.int .i64 view), (.int .i64 commit), (.int .i64 0), (.string (⟨#[]⟩)), (.int .i64 0), (.int .i64 0), (.int .i64 0), (.int .i64 0), (.int .i64 0), (.int .i64 0), (.int .i64 0), (.int .i64 0), (.int .i64 0), (.int .i64 0), (.int .i64 0), (.slice A95 (n2 - ((commit - base).toNat)) c96)]) bd33 rfl) (RL.st (vs := [(.int .i64 3), (.int .i64 view), (.int .i64 commit), (.int .i64 0), (.string (⟨#[]⟩)), (.int .i64 0), (.int .i64 0), (.int .i64 0), (.int .i64 0), (.int .i64 0), (.int .i64 0), (.int .i64 0), (.int .i64 0), (.int .i64 0), (.int .i64 0), (.int .i64 0), (.slice A95 (n2 - ((commit - base).toNat)) c96)]) (cs' := [(.int .i64 3), (.int .i64 view), (.int .i64 commit), (.int .i64 0), (.string (⟨#[]⟩)), (.int .i64 0), (.int .i64 0), (.int .i64 0), (.int .i64 0), (.int .i64 0), (.int .i64 0), (.int .i64 0), (.int .i64 0), (.int .i64 0), (.int .i64 0), (.int .i64 0), (.slice A95 (n2 - ((commit - base).toNat)) c96)]) Tryz.sizeOf33 (H100.ob (i := 1) rfl) rfl rfl rfl rfl rfl rfl ?_)
        intro w102 hz103 g104 o105
        have H106 : Sp [RowA 31 11 A95 (n2 - ((commit - base).toNat)) c96 (ents ((l).drop ((commit - base).toNat))), BlkA b10 33 [(.int .i64 3), (.int .i64 view), (.int .i64 commit), (.int .i64 0), (.string (⟨#[]⟩)), (.int .i64 0), (.int .i64 0), (.int .i64 0), (.int .i64 0), (.int .i64 0), (.int .i64 0), (.int .i64 0), (.int .i64 0), (.int .i64 0), (.int .i64 0), (.int .i64 0), (.slice A95 (n2 - ((commit - base).toNat)) c96)], BlkA b2 24 [(.int .i64 k.view), (.int .i64 k.normal), (.int .i64 k.base), (.string (tx k.image)), (.slice A n c)], Fix w NoB] w102 := H100.setB (i := 1) rfl g104 o105 rfl
        have z107 := g104.size
        refine za (.bool true) rfl (RL.nil (thn.n (CW.ret (finQ.r (v := (.tuple #[(.agg ([(.int .i64 3), (.int .i64 view), (.int .i64 commit), (.int .i64 0), (.string (⟨#[]⟩)), (.int .i64 0), (.int .i64 0), (.int .i64 0), (.int .i64 0), (.int .i64 0), (.int .i64 0), (.int .i64 0), (.int .i64 0), (.int .i64 0), (.int .i64 0), (.int .i64 0), (.slice A95 (n2 - ((commit - base).toNat)) c96)]).toArray), (.bool true)])) (resv2 rfl (Rv.cell rfl (loadCN (cs := [(.int .i64 3), (.int .i64 view), (.int .i64 commit), (.int .i64 0), (.string (⟨#[]⟩)), (.int .i64 0), (.int .i64 0), (.int .i64 0), (.int .i64 0), (.int .i64 0), (.int .i64 0), (.int .i64 0), (.int .i64 0), (.int .i64 0), (.int .i64 0), (.int .i64 0), (.slice A95 (n2 - ((commit - base).toNat)) c96)]) wh33 (H106.ob (i := 1) rfl).cl)) (Rv.tmp rfl)) ?_))))
        have hx : adoptB k commit view base l = true := by
          unfold adoptB withinB at *
          simp_all
          try omega
        have hy : adoptR k commit view base l = ⟨3, view, commit, 0, [], ⟨0, 0, 0, 0, ⟨0, 0, 0, 0, 0, 0, 0⟩⟩, l.drop (commit - base).toNat⟩ := by unfold adoptR; rw [if_pos hx]
        exact ⟨_, _, _, by rw [hx, hy]; rfl, by rw [hy]; exact (H106.sel [0, 3] (by decide) rfl)⟩
set_option maxHeartbeats 1000000 in
set_option maxRecDepth 20000 in
theorem row17_1 (w : World)  : Ret Tryz.prog 93 [(.int .i64 1)] w (fun v w' => ∃ (A' : Option Addr) (c' : Nat), v = .slice A' 1 c' ∧ Sp ([RowA 31 11 A' 1 c' (ents tl1)] ++ [Fix w NoB]) w') := by
  have H0 : Sp [Fix w NoB] w := Sp.start w
  refine Ret.body Tryz.func93 rfl rfl rfl ?_
  refine CW.seq (CW.region (za (.slice none 0 0) rfl (RL.nil (thn.n (CW.seq (CW.region (za (.slice none 0 0) rfl (RL.nil (thn.n (CW.seq (CW.seq (CW.region (za (.int .i64 1) rfl (RL.nil (thn.n (CW.block (CW.unroll (CL.step (CW.seq (CW.seq (CW.region ?_)))))))))))))))))))))
  refine zm (.int .i64 1) rfl (zm (.int .i64 1) rfl (zg rfl (Ex.le (r := true) rfl rfl (by decide)) (RL.nil (thn.n (CW.condT rfl (CW.skip (thn.n (CW.seq (CW.block (CW.region (zm (.slice none 0 0) rfl (zm (.int .i64 1) rfl (zg rfl (Ex.bd (cs := [(.int .i64 1), (.int .i64 0), (.int .i64 0), (.int .i64 0), (.int .i64 0), (.int .i64 0), (.int .i64 0), (.int .i64 0), (.int .i64 0), (.int .i64 0), (.int .i64 0)]) bd31 rfl) (RL.bs (cs := [(.int .i64 1), (.int .i64 0), (.int .i64 0), (.int .i64 0), (.int .i64 0), (.int .i64 0), (.int .i64 0), (.int .i64 0), (.int .i64 0), (.int .i64 0), (.int .i64 0)]) Tryz.underlying22 Tryz.sizeOf31 ze22 rfl rfl rfl (by decide) rfl rfl rfl ?_))))))))))))))
  intro w1 b2 hb3 hz4 g5 o6
  have H7 := H0.newB g5 o6 (by omega)
  have z8 := g5.size
  have H9 := H7.nil_ 31 11
  refine RL.apW (base := 0) (xss := (ents [])) (yss := (ents ([(⟨1, 0, 0, 0, ⟨0, 0, 0, 0, 0, 0, 0⟩⟩ : Entry)]))) el22 (H9.wr (i := 0) rfl) rfl (Ob.rd1 (H9.ob (i := 1) rfl) rfl) rfl (by simp only [bcs_length, ics_length, rows_length, blks_length, robjs_length, ents_length, List.length_append, List.length_cons, List.length_nil, List.length_take, List.length_drop, List.length_map, enc4, enc8, encN_len, encW_len, recsE_length]; try omega) (ents_one _) (by omega) (by omega) (by omega) rfl rfl ?_
  intro w10 A11 c12 g13 ow14 nx15
  have H16 : Sp [RowA 31 11 A11 (0 + 1) c12 (ents ([(⟨1, 0, 0, 0, ⟨0, 0, 0, 0, 0, 0, 0⟩⟩ : Entry)])), BlkA b2 31 [(.int .i64 1), (.int .i64 0), (.int .i64 0), (.int .i64 0), (.int .i64 0), (.int .i64 0), (.int .i64 0), (.int .i64 0), (.int .i64 0), (.int .i64 0), (.int .i64 0)], Fix w NoB] w10 := H9.setR (i := 0) rfl g13 ((List.nil_append _) ▸ ow14) nx15 rfl
  have z17 := g13.size
  refine za (.slice A11 (0 + 1) c12) rfl (RL.nil (inB.n (thn.n (CW.region (zm (.int .i64 1) rfl (zg rfl (Ex.add (r := 2) rfl rfl rfl) (za (.int .i64 2) rfl (RL.nil (thn.n (CL.step (CW.seq (CW.seq (CW.region (zm (.int .i64 2) rfl (zm (.int .i64 1) rfl ?_)))))))))))))))
  refine zg rfl (Ex.le (r := false) rfl rfl (by decide)) (RL.nil (thn.n (CW.condF rfl (CW.exit (thn.x (thn.x (inB.hit (thn.n (CW.seq (CW.region (zm (.slice A11 (0 + 1) c12) rfl (za (.slice A11 (0 + 1) c12) rfl (RL.nil (thn.n (CW.ret (finQ.r (v := (.slice A11 (0 + 1) c12)) (res1 rfl rfl) ?_))))))))))))))))
  exact ⟨_, _, rfl, (H16.sel [0, 2] (by decide) rfl)⟩
set_option maxHeartbeats 1000000 in
set_option maxRecDepth 20000 in
theorem row17_3 (w : World)  : Ret Tryz.prog 93 [(.int .i64 3)] w (fun v w' => ∃ (A' : Option Addr) (c' : Nat), v = .slice A' 3 c' ∧ Sp ([RowA 31 11 A' 3 c' (ents tl3)] ++ [Fix w NoB]) w') := by
  have H0 : Sp [Fix w NoB] w := Sp.start w
  refine Ret.body Tryz.func93 rfl rfl rfl ?_
  refine CW.seq (CW.region (za (.slice none 0 0) rfl (RL.nil (thn.n (CW.seq (CW.region (za (.slice none 0 0) rfl (RL.nil (thn.n (CW.seq (CW.seq (CW.region (za (.int .i64 1) rfl (RL.nil (thn.n (CW.block (CW.unroll (CL.step (CW.seq (CW.seq (CW.region ?_)))))))))))))))))))))
  refine zm (.int .i64 1) rfl (zm (.int .i64 3) rfl (zg rfl (Ex.le (r := true) rfl rfl (by decide)) (RL.nil (thn.n (CW.condT rfl (CW.skip (thn.n (CW.seq (CW.block (CW.region (zm (.slice none 0 0) rfl (zm (.int .i64 1) rfl (zg rfl (Ex.bd (cs := [(.int .i64 1), (.int .i64 0), (.int .i64 0), (.int .i64 0), (.int .i64 0), (.int .i64 0), (.int .i64 0), (.int .i64 0), (.int .i64 0), (.int .i64 0), (.int .i64 0)]) bd31 rfl) (RL.bs (cs := [(.int .i64 1), (.int .i64 0), (.int .i64 0), (.int .i64 0), (.int .i64 0), (.int .i64 0), (.int .i64 0), (.int .i64 0), (.int .i64 0), (.int .i64 0), (.int .i64 0)]) Tryz.underlying22 Tryz.sizeOf31 ze22 rfl rfl rfl (by decide) rfl rfl rfl ?_))))))))))))))
  intro w1 b2 hb3 hz4 g5 o6
  have H7 := H0.newB g5 o6 (by omega)
  have z8 := g5.size
  have H9 := H7.nil_ 31 11
  refine RL.apW (base := 0) (xss := (ents [])) (yss := (ents ([(⟨1, 0, 0, 0, ⟨0, 0, 0, 0, 0, 0, 0⟩⟩ : Entry)]))) el22 (H9.wr (i := 0) rfl) rfl (Ob.rd1 (H9.ob (i := 1) rfl) rfl) rfl (by simp only [bcs_length, ics_length, rows_length, blks_length, robjs_length, ents_length, List.length_append, List.length_cons, List.length_nil, List.length_take, List.length_drop, List.length_map, enc4, enc8, encN_len, encW_len, recsE_length]; try omega) (ents_one _) (by omega) (by omega) (by omega) rfl rfl ?_
  intro w10 A11 c12 g13 ow14 nx15
  have H16 : Sp [RowA 31 11 A11 (0 + 1) c12 (ents ([(⟨1, 0, 0, 0, ⟨0, 0, 0, 0, 0, 0, 0⟩⟩ : Entry)])), BlkA b2 31 [(.int .i64 1), (.int .i64 0), (.int .i64 0), (.int .i64 0), (.int .i64 0), (.int .i64 0), (.int .i64 0), (.int .i64 0), (.int .i64 0), (.int .i64 0), (.int .i64 0)], Fix w NoB] w10 := H9.setR (i := 0) rfl g13 ((List.nil_append _) ▸ ow14) nx15 rfl
  have z17 := g13.size
  refine za (.slice A11 (0 + 1) c12) rfl (RL.nil (inB.n (thn.n (CW.region (zm (.int .i64 1) rfl (zg rfl (Ex.add (r := 2) rfl rfl rfl) (za (.int .i64 2) rfl (RL.nil (thn.n (CL.step (CW.seq (CW.seq (CW.region (zm (.int .i64 2) rfl (zm (.int .i64 3) rfl ?_)))))))))))))))
  refine zg rfl (Ex.le (r := true) rfl rfl (by decide)) (RL.nil (thn.n (CW.condT rfl (CW.skip (thn.n (CW.seq (CW.block (CW.region (zm (.slice A11 (0 + 1) c12) rfl (zm (.int .i64 2) rfl (zg rfl (Ex.bd (cs := [(.int .i64 2), (.int .i64 0), (.int .i64 0), (.int .i64 0), (.int .i64 0), (.int .i64 0), (.int .i64 0), (.int .i64 0), (.int .i64 0), (.int .i64 0), (.int .i64 0)]) bd31 rfl) (RL.bs (cs := [(.int .i64 2), (.int .i64 0), (.int .i64 0), (.int .i64 0), (.int .i64 0), (.int .i64 0), (.int .i64 0), (.int .i64 0), (.int .i64 0), (.int .i64 0), (.int .i64 0)]) Tryz.underlying22 Tryz.sizeOf31 ze22 rfl rfl rfl (by decide) rfl rfl rfl ?_))))))))))))
  intro w18 b19 hb20 hz21 g22 o23
  have H24 := H16.newB g22 o23 (by omega)
  have z25 := g22.size
  refine RL.apW (base := 0) (xss := (ents ([(⟨1, 0, 0, 0, ⟨0, 0, 0, 0, 0, 0, 0⟩⟩ : Entry)]))) (yss := (ents ([(⟨2, 0, 0, 0, ⟨0, 0, 0, 0, 0, 0, 0⟩⟩ : Entry)]))) el22 (H24.wr (i := 1) rfl) rfl (Ob.rd1 (H24.ob (i := 0) rfl) rfl) rfl (by simp only [bcs_length, ics_length, rows_length, blks_length, robjs_length, ents_length, List.length_append, List.length_cons, List.length_nil, List.length_take, List.length_drop, List.length_map, enc4, enc8, encN_len, encW_len, recsE_length]; try omega) (ents_one _) (by omega) (by omega) (by omega) rfl rfl ?_
  intro w26 A27 c28 g29 ow30 nx31
  have H32 : Sp [BlkA b19 31 [(.int .i64 2), (.int .i64 0), (.int .i64 0), (.int .i64 0), (.int .i64 0), (.int .i64 0), (.int .i64 0), (.int .i64 0), (.int .i64 0), (.int .i64 0), (.int .i64 0)], RowA 31 11 A27 ((0 + 1) + 1) c28 (ents ([(⟨1, 0, 0, 0, ⟨0, 0, 0, 0, 0, 0, 0⟩⟩ : Entry)] ++ [(⟨2, 0, 0, 0, ⟨0, 0, 0, 0, 0, 0, 0⟩⟩ : Entry)])), BlkA b2 31 [(.int .i64 1), (.int .i64 0), (.int .i64 0), (.int .i64 0), (.int .i64 0), (.int .i64 0), (.int .i64 0), (.int .i64 0), (.int .i64 0), (.int .i64 0), (.int .i64 0)], Fix w NoB] w26 := H24.setR (i := 1) rfl g29 ((ents_app _ _).symm ▸ ow30) nx31 rfl
  have z33 := g29.size
  refine za (.slice A27 ((0 + 1) + 1) c28) rfl (RL.nil (inB.n (thn.n (CW.region (zm (.int .i64 2) rfl (zg rfl (Ex.add (r := 3) rfl rfl rfl) (za (.int .i64 3) rfl (RL.nil (thn.n (CL.step (CW.seq (CW.seq (CW.region (zm (.int .i64 3) rfl (zm (.int .i64 3) rfl ?_)))))))))))))))
  refine zg rfl (Ex.le (r := true) rfl rfl (by decide)) (RL.nil (thn.n (CW.condT rfl (CW.skip (thn.n (CW.seq (CW.block (CW.region (zm (.slice A27 ((0 + 1) + 1) c28) rfl (zm (.int .i64 3) rfl (zg rfl (Ex.bd (cs := [(.int .i64 3), (.int .i64 0), (.int .i64 0), (.int .i64 0), (.int .i64 0), (.int .i64 0), (.int .i64 0), (.int .i64 0), (.int .i64 0), (.int .i64 0), (.int .i64 0)]) bd31 rfl) (RL.bs (cs := [(.int .i64 3), (.int .i64 0), (.int .i64 0), (.int .i64 0), (.int .i64 0), (.int .i64 0), (.int .i64 0), (.int .i64 0), (.int .i64 0), (.int .i64 0), (.int .i64 0)]) Tryz.underlying22 Tryz.sizeOf31 ze22 rfl rfl rfl (by decide) rfl rfl rfl ?_))))))))))))
  intro w34 b35 hb36 hz37 g38 o39
  have H40 := H32.newB g38 o39 (by omega)
  have z41 := g38.size
  refine RL.apW (base := 0) (xss := (ents ([(⟨1, 0, 0, 0, ⟨0, 0, 0, 0, 0, 0, 0⟩⟩ : Entry)] ++ [(⟨2, 0, 0, 0, ⟨0, 0, 0, 0, 0, 0, 0⟩⟩ : Entry)]))) (yss := (ents ([(⟨3, 0, 0, 0, ⟨0, 0, 0, 0, 0, 0, 0⟩⟩ : Entry)]))) el22 (H40.wr (i := 2) rfl) rfl (Ob.rd1 (H40.ob (i := 0) rfl) rfl) rfl (by simp only [bcs_length, ics_length, rows_length, blks_length, robjs_length, ents_length, List.length_append, List.length_cons, List.length_nil, List.length_take, List.length_drop, List.length_map, enc4, enc8, encN_len, encW_len, recsE_length]; try omega) (ents_one _) (by omega) (by omega) (by omega) rfl rfl ?_
  intro w42 A43 c44 g45 ow46 nx47
  have H48 : Sp [BlkA b35 31 [(.int .i64 3), (.int .i64 0), (.int .i64 0), (.int .i64 0), (.int .i64 0), (.int .i64 0), (.int .i64 0), (.int .i64 0), (.int .i64 0), (.int .i64 0), (.int .i64 0)], BlkA b19 31 [(.int .i64 2), (.int .i64 0), (.int .i64 0), (.int .i64 0), (.int .i64 0), (.int .i64 0), (.int .i64 0), (.int .i64 0), (.int .i64 0), (.int .i64 0), (.int .i64 0)], RowA 31 11 A43 (((0 + 1) + 1) + 1) c44 (ents ([(⟨1, 0, 0, 0, ⟨0, 0, 0, 0, 0, 0, 0⟩⟩ : Entry)] ++ [(⟨2, 0, 0, 0, ⟨0, 0, 0, 0, 0, 0, 0⟩⟩ : Entry)] ++ [(⟨3, 0, 0, 0, ⟨0, 0, 0, 0, 0, 0, 0⟩⟩ : Entry)])), BlkA b2 31 [(.int .i64 1), (.int .i64 0), (.int .i64 0), (.int .i64 0), (.int .i64 0), (.int .i64 0), (.int .i64 0), (.int .i64 0), (.int .i64 0), (.int .i64 0), (.int .i64 0)], Fix w NoB] w42 := H40.setR (i := 2) rfl g45 ((ents_app _ _).symm ▸ ow46) nx47 rfl
  have z49 := g45.size
  refine za (.slice A43 (((0 + 1) + 1) + 1) c44) rfl (RL.nil (inB.n (thn.n (CW.region (zm (.int .i64 3) rfl (zg rfl (Ex.add (r := 4) rfl rfl rfl) (za (.int .i64 4) rfl (RL.nil (thn.n (CL.step (CW.seq (CW.seq (CW.region (zm (.int .i64 4) rfl (zm (.int .i64 3) rfl ?_)))))))))))))))
  refine zg rfl (Ex.le (r := false) rfl rfl (by decide)) (RL.nil (thn.n (CW.condF rfl (CW.exit (thn.x (thn.x (inB.hit (thn.n (CW.seq (CW.region (zm (.slice A43 (((0 + 1) + 1) + 1) c44) rfl (za (.slice A43 (((0 + 1) + 1) + 1) c44) rfl (RL.nil (thn.n (CW.ret (finQ.r (v := (.slice A43 (((0 + 1) + 1) + 1) c44)) (res1 rfl rfl) ?_))))))))))))))))
  exact ⟨_, _, rfl, (H48.sel [2, 4] (by decide) rfl)⟩
set_option maxHeartbeats 1000000 in
set_option maxRecDepth 20000 in
theorem row17_4 (w : World)  : Ret Tryz.prog 93 [(.int .i64 4)] w (fun v w' => ∃ (A' : Option Addr) (c' : Nat), v = .slice A' 4 c' ∧ Sp ([RowA 31 11 A' 4 c' (ents tl4)] ++ [Fix w NoB]) w') := by
  have H0 : Sp [Fix w NoB] w := Sp.start w
  refine Ret.body Tryz.func93 rfl rfl rfl ?_
  refine CW.seq (CW.region (za (.slice none 0 0) rfl (RL.nil (thn.n (CW.seq (CW.region (za (.slice none 0 0) rfl (RL.nil (thn.n (CW.seq (CW.seq (CW.region (za (.int .i64 1) rfl (RL.nil (thn.n (CW.block (CW.unroll (CL.step (CW.seq (CW.seq (CW.region ?_)))))))))))))))))))))
  refine zm (.int .i64 1) rfl (zm (.int .i64 4) rfl (zg rfl (Ex.le (r := true) rfl rfl (by decide)) (RL.nil (thn.n (CW.condT rfl (CW.skip (thn.n (CW.seq (CW.block (CW.region (zm (.slice none 0 0) rfl (zm (.int .i64 1) rfl (zg rfl (Ex.bd (cs := [(.int .i64 1), (.int .i64 0), (.int .i64 0), (.int .i64 0), (.int .i64 0), (.int .i64 0), (.int .i64 0), (.int .i64 0), (.int .i64 0), (.int .i64 0), (.int .i64 0)]) bd31 rfl) (RL.bs (cs := [(.int .i64 1), (.int .i64 0), (.int .i64 0), (.int .i64 0), (.int .i64 0), (.int .i64 0), (.int .i64 0), (.int .i64 0), (.int .i64 0), (.int .i64 0), (.int .i64 0)]) Tryz.underlying22 Tryz.sizeOf31 ze22 rfl rfl rfl (by decide) rfl rfl rfl ?_))))))))))))))
  intro w1 b2 hb3 hz4 g5 o6
  have H7 := H0.newB g5 o6 (by omega)
  have z8 := g5.size
  have H9 := H7.nil_ 31 11
  refine RL.apW (base := 0) (xss := (ents [])) (yss := (ents ([(⟨1, 0, 0, 0, ⟨0, 0, 0, 0, 0, 0, 0⟩⟩ : Entry)]))) el22 (H9.wr (i := 0) rfl) rfl (Ob.rd1 (H9.ob (i := 1) rfl) rfl) rfl (by simp only [bcs_length, ics_length, rows_length, blks_length, robjs_length, ents_length, List.length_append, List.length_cons, List.length_nil, List.length_take, List.length_drop, List.length_map, enc4, enc8, encN_len, encW_len, recsE_length]; try omega) (ents_one _) (by omega) (by omega) (by omega) rfl rfl ?_
  intro w10 A11 c12 g13 ow14 nx15
  have H16 : Sp [RowA 31 11 A11 (0 + 1) c12 (ents ([(⟨1, 0, 0, 0, ⟨0, 0, 0, 0, 0, 0, 0⟩⟩ : Entry)])), BlkA b2 31 [(.int .i64 1), (.int .i64 0), (.int .i64 0), (.int .i64 0), (.int .i64 0), (.int .i64 0), (.int .i64 0), (.int .i64 0), (.int .i64 0), (.int .i64 0), (.int .i64 0)], Fix w NoB] w10 := H9.setR (i := 0) rfl g13 ((List.nil_append _) ▸ ow14) nx15 rfl
  have z17 := g13.size
  refine za (.slice A11 (0 + 1) c12) rfl (RL.nil (inB.n (thn.n (CW.region (zm (.int .i64 1) rfl (zg rfl (Ex.add (r := 2) rfl rfl rfl) (za (.int .i64 2) rfl (RL.nil (thn.n (CL.step (CW.seq (CW.seq (CW.region (zm (.int .i64 2) rfl (zm (.int .i64 4) rfl ?_)))))))))))))))
  refine zg rfl (Ex.le (r := true) rfl rfl (by decide)) (RL.nil (thn.n (CW.condT rfl (CW.skip (thn.n (CW.seq (CW.block (CW.region (zm (.slice A11 (0 + 1) c12) rfl (zm (.int .i64 2) rfl (zg rfl (Ex.bd (cs := [(.int .i64 2), (.int .i64 0), (.int .i64 0), (.int .i64 0), (.int .i64 0), (.int .i64 0), (.int .i64 0), (.int .i64 0), (.int .i64 0), (.int .i64 0), (.int .i64 0)]) bd31 rfl) (RL.bs (cs := [(.int .i64 2), (.int .i64 0), (.int .i64 0), (.int .i64 0), (.int .i64 0), (.int .i64 0), (.int .i64 0), (.int .i64 0), (.int .i64 0), (.int .i64 0), (.int .i64 0)]) Tryz.underlying22 Tryz.sizeOf31 ze22 rfl rfl rfl (by decide) rfl rfl rfl ?_))))))))))))
  intro w18 b19 hb20 hz21 g22 o23
  have H24 := H16.newB g22 o23 (by omega)
  have z25 := g22.size
  refine RL.apW (base := 0) (xss := (ents ([(⟨1, 0, 0, 0, ⟨0, 0, 0, 0, 0, 0, 0⟩⟩ : Entry)]))) (yss := (ents ([(⟨2, 0, 0, 0, ⟨0, 0, 0, 0, 0, 0, 0⟩⟩ : Entry)]))) el22 (H24.wr (i := 1) rfl) rfl (Ob.rd1 (H24.ob (i := 0) rfl) rfl) rfl (by simp only [bcs_length, ics_length, rows_length, blks_length, robjs_length, ents_length, List.length_append, List.length_cons, List.length_nil, List.length_take, List.length_drop, List.length_map, enc4, enc8, encN_len, encW_len, recsE_length]; try omega) (ents_one _) (by omega) (by omega) (by omega) rfl rfl ?_
  intro w26 A27 c28 g29 ow30 nx31
  have H32 : Sp [BlkA b19 31 [(.int .i64 2), (.int .i64 0), (.int .i64 0), (.int .i64 0), (.int .i64 0), (.int .i64 0), (.int .i64 0), (.int .i64 0), (.int .i64 0), (.int .i64 0), (.int .i64 0)], RowA 31 11 A27 ((0 + 1) + 1) c28 (ents ([(⟨1, 0, 0, 0, ⟨0, 0, 0, 0, 0, 0, 0⟩⟩ : Entry)] ++ [(⟨2, 0, 0, 0, ⟨0, 0, 0, 0, 0, 0, 0⟩⟩ : Entry)])), BlkA b2 31 [(.int .i64 1), (.int .i64 0), (.int .i64 0), (.int .i64 0), (.int .i64 0), (.int .i64 0), (.int .i64 0), (.int .i64 0), (.int .i64 0), (.int .i64 0), (.int .i64 0)], Fix w NoB] w26 := H24.setR (i := 1) rfl g29 ((ents_app _ _).symm ▸ ow30) nx31 rfl
  have z33 := g29.size
  refine za (.slice A27 ((0 + 1) + 1) c28) rfl (RL.nil (inB.n (thn.n (CW.region (zm (.int .i64 2) rfl (zg rfl (Ex.add (r := 3) rfl rfl rfl) (za (.int .i64 3) rfl (RL.nil (thn.n (CL.step (CW.seq (CW.seq (CW.region (zm (.int .i64 3) rfl (zm (.int .i64 4) rfl ?_)))))))))))))))
  refine zg rfl (Ex.le (r := true) rfl rfl (by decide)) (RL.nil (thn.n (CW.condT rfl (CW.skip (thn.n (CW.seq (CW.block (CW.region (zm (.slice A27 ((0 + 1) + 1) c28) rfl (zm (.int .i64 3) rfl (zg rfl (Ex.bd (cs := [(.int .i64 3), (.int .i64 0), (.int .i64 0), (.int .i64 0), (.int .i64 0), (.int .i64 0), (.int .i64 0), (.int .i64 0), (.int .i64 0), (.int .i64 0), (.int .i64 0)]) bd31 rfl) (RL.bs (cs := [(.int .i64 3), (.int .i64 0), (.int .i64 0), (.int .i64 0), (.int .i64 0), (.int .i64 0), (.int .i64 0), (.int .i64 0), (.int .i64 0), (.int .i64 0), (.int .i64 0)]) Tryz.underlying22 Tryz.sizeOf31 ze22 rfl rfl rfl (by decide) rfl rfl rfl ?_))))))))))))
  intro w34 b35 hb36 hz37 g38 o39
  have H40 := H32.newB g38 o39 (by omega)
  have z41 := g38.size
  refine RL.apW (base := 0) (xss := (ents ([(⟨1, 0, 0, 0, ⟨0, 0, 0, 0, 0, 0, 0⟩⟩ : Entry)] ++ [(⟨2, 0, 0, 0, ⟨0, 0, 0, 0, 0, 0, 0⟩⟩ : Entry)]))) (yss := (ents ([(⟨3, 0, 0, 0, ⟨0, 0, 0, 0, 0, 0, 0⟩⟩ : Entry)]))) el22 (H40.wr (i := 2) rfl) rfl (Ob.rd1 (H40.ob (i := 0) rfl) rfl) rfl (by simp only [bcs_length, ics_length, rows_length, blks_length, robjs_length, ents_length, List.length_append, List.length_cons, List.length_nil, List.length_take, List.length_drop, List.length_map, enc4, enc8, encN_len, encW_len, recsE_length]; try omega) (ents_one _) (by omega) (by omega) (by omega) rfl rfl ?_
  intro w42 A43 c44 g45 ow46 nx47
  have H48 : Sp [BlkA b35 31 [(.int .i64 3), (.int .i64 0), (.int .i64 0), (.int .i64 0), (.int .i64 0), (.int .i64 0), (.int .i64 0), (.int .i64 0), (.int .i64 0), (.int .i64 0), (.int .i64 0)], BlkA b19 31 [(.int .i64 2), (.int .i64 0), (.int .i64 0), (.int .i64 0), (.int .i64 0), (.int .i64 0), (.int .i64 0), (.int .i64 0), (.int .i64 0), (.int .i64 0), (.int .i64 0)], RowA 31 11 A43 (((0 + 1) + 1) + 1) c44 (ents ([(⟨1, 0, 0, 0, ⟨0, 0, 0, 0, 0, 0, 0⟩⟩ : Entry)] ++ [(⟨2, 0, 0, 0, ⟨0, 0, 0, 0, 0, 0, 0⟩⟩ : Entry)] ++ [(⟨3, 0, 0, 0, ⟨0, 0, 0, 0, 0, 0, 0⟩⟩ : Entry)])), BlkA b2 31 [(.int .i64 1), (.int .i64 0), (.int .i64 0), (.int .i64 0), (.int .i64 0), (.int .i64 0), (.int .i64 0), (.int .i64 0), (.int .i64 0), (.int .i64 0), (.int .i64 0)], Fix w NoB] w42 := H40.setR (i := 2) rfl g45 ((ents_app _ _).symm ▸ ow46) nx47 rfl
  have z49 := g45.size
  refine za (.slice A43 (((0 + 1) + 1) + 1) c44) rfl (RL.nil (inB.n (thn.n (CW.region (zm (.int .i64 3) rfl (zg rfl (Ex.add (r := 4) rfl rfl rfl) (za (.int .i64 4) rfl (RL.nil (thn.n (CL.step (CW.seq (CW.seq (CW.region (zm (.int .i64 4) rfl (zm (.int .i64 4) rfl ?_)))))))))))))))
  refine zg rfl (Ex.le (r := true) rfl rfl (by decide)) (RL.nil (thn.n (CW.condT rfl (CW.skip (thn.n (CW.seq (CW.block (CW.region (zm (.slice A43 (((0 + 1) + 1) + 1) c44) rfl (zm (.int .i64 4) rfl (zg rfl (Ex.bd (cs := [(.int .i64 4), (.int .i64 0), (.int .i64 0), (.int .i64 0), (.int .i64 0), (.int .i64 0), (.int .i64 0), (.int .i64 0), (.int .i64 0), (.int .i64 0), (.int .i64 0)]) bd31 rfl) (RL.bs (cs := [(.int .i64 4), (.int .i64 0), (.int .i64 0), (.int .i64 0), (.int .i64 0), (.int .i64 0), (.int .i64 0), (.int .i64 0), (.int .i64 0), (.int .i64 0), (.int .i64 0)]) Tryz.underlying22 Tryz.sizeOf31 ze22 rfl rfl rfl (by decide) rfl rfl rfl ?_))))))))))))
  intro w50 b51 hb52 hz53 g54 o55
  have H56 := H48.newB g54 o55 (by omega)
  have z57 := g54.size
  refine RL.apW (base := 0) (xss := (ents ([(⟨1, 0, 0, 0, ⟨0, 0, 0, 0, 0, 0, 0⟩⟩ : Entry)] ++ [(⟨2, 0, 0, 0, ⟨0, 0, 0, 0, 0, 0, 0⟩⟩ : Entry)] ++ [(⟨3, 0, 0, 0, ⟨0, 0, 0, 0, 0, 0, 0⟩⟩ : Entry)]))) (yss := (ents ([(⟨4, 0, 0, 0, ⟨0, 0, 0, 0, 0, 0, 0⟩⟩ : Entry)]))) el22 (H56.wr (i := 3) rfl) rfl (Ob.rd1 (H56.ob (i := 0) rfl) rfl) rfl (by simp only [bcs_length, ics_length, rows_length, blks_length, robjs_length, ents_length, List.length_append, List.length_cons, List.length_nil, List.length_take, List.length_drop, List.length_map, enc4, enc8, encN_len, encW_len, recsE_length]; try omega) (ents_one _) (by omega) (by omega) (by omega) rfl rfl ?_
  intro w58 A59 c60 g61 ow62 nx63
  have H65 : Sp [BlkA b51 31 [(.int .i64 4), (.int .i64 0), (.int .i64 0), (.int .i64 0), (.int .i64 0), (.int .i64 0), (.int .i64 0), (.int .i64 0), (.int .i64 0), (.int .i64 0), (.int .i64 0)], BlkA b35 31 [(.int .i64 3), (.int .i64 0), (.int .i64 0), (.int .i64 0), (.int .i64 0), (.int .i64 0), (.int .i64 0), (.int .i64 0), (.int .i64 0), (.int .i64 0), (.int .i64 0)], BlkA b19 31 [(.int .i64 2), (.int .i64 0), (.int .i64 0), (.int .i64 0), (.int .i64 0), (.int .i64 0), (.int .i64 0), (.int .i64 0), (.int .i64 0), (.int .i64 0), (.int .i64 0)], RowA 31 11 A59 ((((0 + 1) + 1) + 1) + 1) c60 (ents ([(⟨1, 0, 0, 0, ⟨0, 0, 0, 0, 0, 0, 0⟩⟩ : Entry)] ++ [(⟨2, 0, 0, 0, ⟨0, 0, 0, 0, 0, 0, 0⟩⟩ : Entry)] ++ [(⟨3, 0, 0, 0, ⟨0, 0, 0, 0, 0, 0, 0⟩⟩ : Entry)] ++ [(⟨4, 0, 0, 0, ⟨0, 0, 0, 0, 0, 0, 0⟩⟩ : Entry)])), BlkA b2 31 [(.int .i64 1), (.int .i64 0), (.int .i64 0), (.int .i64 0), (.int .i64 0), (.int .i64 0), (.int .i64 0), (.int .i64 0), (.int .i64 0), (.int .i64 0), (.int .i64 0)], Fix w NoB] w58 := H56.setR (i := 3) rfl g61 ((ents_app _ _).symm ▸ ow62) nx63 rfl
  have z66 := g61.size
  refine za (.slice A59 ((((0 + 1) + 1) + 1) + 1) c60) rfl (RL.nil (inB.n (thn.n (CW.region (zm (.int .i64 4) rfl (zg rfl (Ex.add (r := 5) rfl rfl rfl) (za (.int .i64 5) rfl (RL.nil (thn.n (CL.step (CW.seq (CW.seq (CW.region (zm (.int .i64 5) rfl (zm (.int .i64 4) rfl ?_)))))))))))))))
  refine zg rfl (Ex.le (r := false) rfl rfl (by decide)) (RL.nil (thn.n (CW.condF rfl (CW.exit (thn.x (thn.x (inB.hit (thn.n (CW.seq (CW.region (zm (.slice A59 ((((0 + 1) + 1) + 1) + 1) c60) rfl (za (.slice A59 ((((0 + 1) + 1) + 1) + 1) c60) rfl (RL.nil (thn.n (CW.ret (finQ.r (v := (.slice A59 ((((0 + 1) + 1) + 1) + 1) c60)) (res1 rfl rfl) ?_))))))))))))))))
  exact ⟨_, _, rfl, (H65.sel [3, 5] (by decide) rfl)⟩
set_option maxHeartbeats 1000000 in
set_option maxRecDepth 20000 in
theorem three17 (w : World)  : Ret Tryz.prog 92 [] w (fun v w' => ∃ (A' : Option Addr) (c' : Nat), v = .agg [.int .i64 tk3.view, .int .i64 tk3.normal, .int .i64 tk3.base, .string (tx tk3.image), .slice A' 3 c'].toArray ∧ Sp ([RowA 31 11 A' 3 c' (ents tk3.ents)] ++ [Fix w NoB]) w') := by
  have H0 : Sp [Fix w NoB] w := Sp.start w
  refine Ret.body Tryz.func92 rfl rfl rfl ?_
  refine CW.seq (CW.region (RL.al (cs := [(.int .i64 0), (.int .i64 0), (.int .i64 0), (.string (⟨#[]⟩)), (.slice none 0 0)]) Tryz.zeroValue24 rfl rfl rfl ?_))
  intro w1 b2 hb3 hz4 g5 o6
  have H7 := H0.newB g5 o6 (by omega)
  have z8 := g5.size
  refine RL.nil (thn.n (CW.seq (CW.region (RL.call Tryz.call55 (oplogNew3) rfl rfl rfl ?_))))
  rintro _ w9 ⟨rfl, g10⟩
  have H11 := H7.grow g10
  have z12 := g10.size
  refine zm (.tuple #[(.agg ([(.int .i64 fk0.view), (.int .i64 fk0.normal), (.int .i64 fk0.base), (.string (tx fk0.image)), (.slice none 0 0)]).toArray), (.int .i64 0)]) rfl (zx (.agg ([(.int .i64 fk0.view), (.int .i64 fk0.normal), (.int .i64 fk0.base), (.string (tx fk0.image)), (.slice none 0 0)]).toArray) rfl (zx (.int .i64 0) rfl (RL.al (cs := [(.int .i64 0), (.int .i64 0), (.int .i64 0), (.string (⟨#[]⟩)), (.slice none 0 0)]) Tryz.zeroValue24 rfl rfl rfl ?_)))
  intro w13 b14 hb15 hz16 g17 o18
  have H19 := H11.newB g17 o18 (by omega)
  have z20 := g17.size
  refine RL.st (vs := [(.int .i64 fk0.view), (.int .i64 fk0.normal), (.int .i64 fk0.base), (.string (tx fk0.image)), (.slice none 0 0)]) (cs' := [(.int .i64 fk0.view), (.int .i64 fk0.normal), (.int .i64 fk0.base), (.string (tx fk0.image)), (.slice none 0 0)]) Tryz.sizeOf24 (H19.ob (i := 0) rfl) rfl rfl rfl rfl rfl rfl ?_
  intro w21 hz22 g23 o24
  have H25 : Sp [BlkA b14 24 [(.int .i64 fk0.view), (.int .i64 fk0.normal), (.int .i64 fk0.base), (.string (tx fk0.image)), (.slice none 0 0)], BlkA b2 24 [(.int .i64 0), (.int .i64 0), (.int .i64 0), (.string (⟨#[]⟩)), (.slice none 0 0)], Fix w NoB] w21 := H19.setB (i := 0) rfl g23 o24 rfl
  have z26 := g23.size
  refine za (.int .i64 0) rfl (RL.nil (thn.n (CW.seq (CW.region (RL.call Tryz.call93 (row17_3 _) rfl rfl rfl ?_)))))
  rintro _ w29 ⟨A27, c28, rfl, g30⟩
  have g31 := g30.fix (i := 1) rfl
  have H32 : Sp [RowA 31 11 A27 3 c28 (ents tl3), BlkA b14 24 [(.int .i64 fk0.view), (.int .i64 fk0.normal), (.int .i64 fk0.base), (.string (tx fk0.image)), (.slice none 0 0)], BlkA b2 24 [(.int .i64 0), (.int .i64 0), (.int .i64 0), (.string (⟨#[]⟩)), (.slice none 0 0)], Fix w NoB] w29 := H25.join (m := [RowA 31 11 A27 3 c28 (ents tl3)]) g30
  have z33 := g31.size
  refine zg rfl (fa24_4 (b := ⟨b14, 4, none⟩) rfl rfl) (RL.st (vs := [(.slice A27 3 c28)]) (cs' := [(.int .i64 fk0.view), (.int .i64 fk0.normal), (.int .i64 fk0.base), (.string (tx fk0.image)), (.slice A27 3 c28)]) Tryz.sizeOf22 (H32.ob (i := 1) rfl) rfl rfl rfl rfl rfl rfl ?_)
  intro w34 hz35 g36 o37
  have H38 : Sp [RowA 31 11 A27 3 c28 (ents tl3), BlkA b14 24 [(.int .i64 fk0.view), (.int .i64 fk0.normal), (.int .i64 fk0.base), (.string (tx fk0.image)), (.slice A27 3 c28)], BlkA b2 24 [(.int .i64 0), (.int .i64 0), (.int .i64 0), (.string (⟨#[]⟩)), (.slice none 0 0)], Fix w NoB] w34 := H32.setB (i := 1) rfl g36 o37 rfl
  have z39 := g36.size
  refine RL.nil (thn.n (CW.seq (CW.region (zg rfl (Ex.ldv rfl (loadCN (cs := [(.int .i64 fk0.view), (.int .i64 fk0.normal), (.int .i64 fk0.base), (.string (tx fk0.image)), (.slice A27 3 c28)]) wh24 (H38.ob (i := 1) rfl).cl)) (RL.st (vs := [(.int .i64 fk0.view), (.int .i64 fk0.normal), (.int .i64 fk0.base), (.string (tx fk0.image)), (.slice A27 3 c28)]) (cs' := [(.int .i64 fk0.view), (.int .i64 fk0.normal), (.int .i64 fk0.base), (.string (tx fk0.image)), (.slice A27 3 c28)]) Tryz.sizeOf24 (H38.ob (i := 2) rfl) rfl rfl rfl rfl rfl rfl ?_)))))
  intro w40 hz41 g42 o43
  have H44 : Sp [RowA 31 11 A27 3 c28 (ents tl3), BlkA b14 24 [(.int .i64 fk0.view), (.int .i64 fk0.normal), (.int .i64 fk0.base), (.string (tx fk0.image)), (.slice A27 3 c28)], BlkA b2 24 [(.int .i64 fk0.view), (.int .i64 fk0.normal), (.int .i64 fk0.base), (.string (tx fk0.image)), (.slice A27 3 c28)], Fix w NoB] w40 := H38.setB (i := 2) rfl g42 o43 rfl
  have z45 := g42.size
  refine RL.nil (thn.n (CW.ret (finQ.r (v := (.agg ([(.int .i64 fk0.view), (.int .i64 fk0.normal), (.int .i64 fk0.base), (.string (tx fk0.image)), (.slice A27 3 c28)]).toArray)) (resv1 rfl (Rv.cell rfl (loadCN (cs := [(.int .i64 fk0.view), (.int .i64 fk0.normal), (.int .i64 fk0.base), (.string (tx fk0.image)), (.slice A27 3 c28)]) wh24 (H44.ob (i := 2) rfl).cl))) ?_)))
  exact ⟨_, _, rfl, (H44.sel [0, 3] (by decide) rfl)⟩
set_option maxHeartbeats 1000000 in
set_option maxRecDepth 20000 in
theorem adopts17 (w : World)  : Ret Tryz.prog 29 [] w (fun v w' => v = .bool true ∧ w.grownBy w' none) := by
  have H0 : Sp [Fix w NoB] w := Sp.start w
  refine Ret.body Tryz.func29 rfl rfl rfl ?_
  refine CW.seq (CW.region (za (.bool false) rfl (RL.nil (thn.n (CW.seq (CW.region (RL.call Tryz.call92 (three17 _) rfl rfl rfl ?_)))))))
  rintro _ w3 ⟨A1, c2, rfl, g4⟩
  have g5 := g4.fix (i := 1) rfl
  have H6 : Sp [RowA 31 11 A1 3 c2 (ents tk3.ents), Fix w NoB] w3 := H0.join (m := [RowA 31 11 A1 3 c2 (ents tk3.ents)]) g4
  have z7 := g5.size
  refine RL.call Tryz.call93 (row17_4 _) rfl rfl rfl ?_
  rintro _ w10 ⟨A8, c9, rfl, g11⟩
  have g12 := g11.fix (i := 1) rfl
  have H13 : Sp [RowA 31 11 A8 4 c9 (ents tl4), RowA 31 11 A1 3 c2 (ents tk3.ents), Fix w NoB] w10 := H6.join (m := [RowA 31 11 A8 4 c9 (ents tl4)]) g11
  have z14 := g12.size
  have hfl15 : tk3.ents.length ≤ 4000 := (by decide)
  have hfi16 : tk3.image.length ≤ 4136 := (by decide +kernel)
  have hl17 := H13.len (i := 1) rfl
  rw [ents_length] at hl17
  have hc18 := H13.cap (i := 1) rfl
  have hl19 := H13.len (i := 0) rfl
  rw [ents_length] at hl19
  have hc20 := H13.cap (i := 0) rfl
  refine RL.call Tryz.call25 (adopt_ _ w10.heap.size tk3 A1 3 c2 (H13.rowrd (i := 1) rfl) (Nat.le_refl _) (by first | assumption | rfl | omega | decide +kernel) (by first | assumption | rfl | omega | decide +kernel) (by first | assumption | rfl | omega | decide +kernel) (by first | assumption | rfl | omega | decide +kernel) 2 4 0 (by first | assumption | decide | (unfold rng; omega)) tl4 A8 4 c9 ((H13.rowrd (i := 0) rfl).more (Nat.le_refl _)) (by first | assumption | rfl | omega | decide +kernel) (by first | assumption | rfl | omega | decide +kernel) (by first | assumption | rfl | omega | decide +kernel)) rfl rfl rfl ?_
  rintro _ w24 ⟨A21, n22, c23, rfl, g25⟩
  have g26 := g25.fix (i := 1) rfl
  have H27 : Sp [RowA 31 11 A21 n22 c23 (ents ((adoptR tk3 2 4 0 tl4).ents)), RowA 31 11 A8 4 c9 (ents tl4), RowA 31 11 A1 3 c2 (ents tk3.ents), Fix w NoB] w24 := H13.join (m := [RowA 31 11 A21 n22 c23 (ents ((adoptR tk3 2 4 0 tl4).ents))]) g25
  have z28 := g26.size
  refine zm (.tuple #[(.agg ([(.int .i64 ((adoptR tk3 2 4 0 tl4).kind)), (.int .i64 ((adoptR tk3 2 4 0 tl4).view)), (.int .i64 ((adoptR tk3 2 4 0 tl4).from_)), (.int .i64 ((adoptR tk3 2 4 0 tl4).number)), (.string (tx (adoptR tk3 2 4 0 tl4).image)), (.int .i64 ((adoptR tk3 2 4 0 tl4).entry.num)), (.int .i64 ((adoptR tk3 2 4 0 tl4).entry.view)), (.int .i64 ((adoptR tk3 2 4 0 tl4).entry.client)), (.int .i64 ((adoptR tk3 2 4 0 tl4).entry.seq)), (.int .i64 ((adoptR tk3 2 4 0 tl4).entry.op.kind)), (.int .i64 ((adoptR tk3 2 4 0 tl4).entry.op.h)), (.int .i64 ((adoptR tk3 2 4 0 tl4).entry.op.i)), (.int .i64 ((adoptR tk3 2 4 0 tl4).entry.op.n)), (.int .i64 ((adoptR tk3 2 4 0 tl4).entry.op.k)), (.int .i64 ((adoptR tk3 2 4 0 tl4).entry.op.v)), (.int .i64 ((adoptR tk3 2 4 0 tl4).entry.op.t)), (.slice A21 n22 c23)]).toArray), (.bool (adoptB tk3 2 4 0 tl4))]) rfl (zx (.agg ([(.int .i64 ((adoptR tk3 2 4 0 tl4).kind)), (.int .i64 ((adoptR tk3 2 4 0 tl4).view)), (.int .i64 ((adoptR tk3 2 4 0 tl4).from_)), (.int .i64 ((adoptR tk3 2 4 0 tl4).number)), (.string (tx (adoptR tk3 2 4 0 tl4).image)), (.int .i64 ((adoptR tk3 2 4 0 tl4).entry.num)), (.int .i64 ((adoptR tk3 2 4 0 tl4).entry.view)), (.int .i64 ((adoptR tk3 2 4 0 tl4).entry.client)), (.int .i64 ((adoptR tk3 2 4 0 tl4).entry.seq)), (.int .i64 ((adoptR tk3 2 4 0 tl4).entry.op.kind)), (.int .i64 ((adoptR tk3 2 4 0 tl4).entry.op.h)), (.int .i64 ((adoptR tk3 2 4 0 tl4).entry.op.i)), (.int .i64 ((adoptR tk3 2 4 0 tl4).entry.op.n)), (.int .i64 ((adoptR tk3 2 4 0 tl4).entry.op.k)), (.int .i64 ((adoptR tk3 2 4 0 tl4).entry.op.v)), (.int .i64 ((adoptR tk3 2 4 0 tl4).entry.op.t)), (.slice A21 n22 c23)]).toArray) rfl ?_)
  refine zx (.bool (adoptB tk3 2 4 0 tl4)) rfl (RL.al (cs := [(.int .i64 0), (.int .i64 0), (.int .i64 0), (.int .i64 0), (.string (⟨#[]⟩)), (.int .i64 0), (.int .i64 0), (.int .i64 0), (.int .i64 0), (.int .i64 0), (.int .i64 0), (.int .i64 0), (.int .i64 0), (.int .i64 0), (.int .i64 0), (.int .i64 0), (.slice none 0 0)]) Tryz.zeroValue33 rfl rfl rfl ?_)
  intro w29 b30 hb31 hz32 g33 o34
  have H35 := H27.newB g33 o34 (by omega)
  have z36 := g33.size
  refine RL.st (vs := [(.int .i64 ((adoptR tk3 2 4 0 tl4).kind)), (.int .i64 ((adoptR tk3 2 4 0 tl4).view)), (.int .i64 ((adoptR tk3 2 4 0 tl4).from_)), (.int .i64 ((adoptR tk3 2 4 0 tl4).number)), (.string (tx (adoptR tk3 2 4 0 tl4).image)), (.int .i64 ((adoptR tk3 2 4 0 tl4).entry.num)), (.int .i64 ((adoptR tk3 2 4 0 tl4).entry.view)), (.int .i64 ((adoptR tk3 2 4 0 tl4).entry.client)), (.int .i64 ((adoptR tk3 2 4 0 tl4).entry.seq)), (.int .i64 ((adoptR tk3 2 4 0 tl4).entry.op.kind)), (.int .i64 ((adoptR tk3 2 4 0 tl4).entry.op.h)), (.int .i64 ((adoptR tk3 2 4 0 tl4).entry.op.i)), (.int .i64 ((adoptR tk3 2 4 0 tl4).entry.op.n)), (.int .i64 ((adoptR tk3 2 4 0 tl4).entry.op.k)), (.int .i64 ((adoptR tk3 2 4 0 tl4).entry.op.v)), (.int .i64 ((adoptR tk3 2 4 0 tl4).entry.op.t)), (.slice A21 n22 c23)]) (cs' := [(.int .i64 ((adoptR tk3 2 4 0 tl4).kind)), (.int .i64 ((adoptR tk3 2 4 0 tl4).view)), (.int .i64 ((adoptR tk3 2 4 0 tl4).from_)), (.int .i64 ((adoptR tk3 2 4 0 tl4).number)), (.string (tx (adoptR tk3 2 4 0 tl4).image)), (.int .i64 ((adoptR tk3 2 4 0 tl4).entry.num)), (.int .i64 ((adoptR tk3 2 4 0 tl4).entry.view)), (.int .i64 ((adoptR tk3 2 4 0 tl4).entry.client)), (.int .i64 ((adoptR tk3 2 4 0 tl4).entry.seq)), (.int .i64 ((adoptR tk3 2 4 0 tl4).entry.op.kind)), (.int .i64 ((adoptR tk3 2 4 0 tl4).entry.op.h)), (.int .i64 ((adoptR tk3 2 4 0 tl4).entry.op.i)), (.int .i64 ((adoptR tk3 2 4 0 tl4).entry.op.n)), (.int .i64 ((adoptR tk3 2 4 0 tl4).entry.op.k)), (.int .i64 ((adoptR tk3 2 4 0 tl4).entry.op.v)), (.int .i64 ((adoptR tk3 2 4 0 tl4).entry.op.t)), (.slice A21 n22 c23)]) Tryz.sizeOf33 (H35.ob (i := 0) rfl) rfl rfl rfl rfl rfl rfl ?_
  intro w37 hz38 g39 o40
  have H41 : Sp [BlkA b30 33 [(.int .i64 ((adoptR tk3 2 4 0 tl4).kind)), (.int .i64 ((adoptR tk3 2 4 0 tl4).view)), (.int .i64 ((adoptR tk3 2 4 0 tl4).from_)), (.int .i64 ((adoptR tk3 2 4 0 tl4).number)), (.string (tx (adoptR tk3 2 4 0 tl4).image)), (.int .i64 ((adoptR tk3 2 4 0 tl4).entry.num)), (.int .i64 ((adoptR tk3 2 4 0 tl4).entry.view)), (.int .i64 ((adoptR tk3 2 4 0 tl4).entry.client)), (.int .i64 ((adoptR tk3 2 4 0 tl4).entry.seq)), (.int .i64 ((adoptR tk3 2 4 0 tl4).entry.op.kind)), (.int .i64 ((adoptR tk3 2 4 0 tl4).entry.op.h)), (.int .i64 ((adoptR tk3 2 4 0 tl4).entry.op.i)), (.int .i64 ((adoptR tk3 2 4 0 tl4).entry.op.n)), (.int .i64 ((adoptR tk3 2 4 0 tl4).entry.op.k)), (.int .i64 ((adoptR tk3 2 4 0 tl4).entry.op.v)), (.int .i64 ((adoptR tk3 2 4 0 tl4).entry.op.t)), (.slice A21 n22 c23)], RowA 31 11 A21 n22 c23 (ents ((adoptR tk3 2 4 0 tl4).ents)), RowA 31 11 A8 4 c9 (ents tl4), RowA 31 11 A1 3 c2 (ents tk3.ents), Fix w NoB] w37 := H35.setB (i := 0) rfl g39 o40 rfl
  have z42 := g39.size
  refine za (.bool (adoptB tk3 2 4 0 tl4)) rfl (RL.nil (thn.n (CW.seq (CW.region (RL.call Tryz.call92 (three17 _) rfl rfl rfl ?_)))))
  rintro _ w45 ⟨A43, c44, rfl, g46⟩
  have g47 := g46.fix (i := 1) rfl
  have H48 : Sp [RowA 31 11 A43 3 c44 (ents tk3.ents), BlkA b30 33 [(.int .i64 ((adoptR tk3 2 4 0 tl4).kind)), (.int .i64 ((adoptR tk3 2 4 0 tl4).view)), (.int .i64 ((adoptR tk3 2 4 0 tl4).from_)), (.int .i64 ((adoptR tk3 2 4 0 tl4).number)), (.string (tx (adoptR tk3 2 4 0 tl4).image)), (.int .i64 ((adoptR tk3 2 4 0 tl4).entry.num)), (.int .i64 ((adoptR tk3 2 4 0 tl4).entry.view)), (.int .i64 ((adoptR tk3 2 4 0 tl4).entry.client)), (.int .i64 ((adoptR tk3 2 4 0 tl4).entry.seq)), (.int .i64 ((adoptR tk3 2 4 0 tl4).entry.op.kind)), (.int .i64 ((adoptR tk3 2 4 0 tl4).entry.op.h)), (.int .i64 ((adoptR tk3 2 4 0 tl4).entry.op.i)), (.int .i64 ((adoptR tk3 2 4 0 tl4).entry.op.n)), (.int .i64 ((adoptR tk3 2 4 0 tl4).entry.op.k)), (.int .i64 ((adoptR tk3 2 4 0 tl4).entry.op.v)), (.int .i64 ((adoptR tk3 2 4 0 tl4).entry.op.t)), (.slice A21 n22 c23)], RowA 31 11 A21 n22 c23 (ents ((adoptR tk3 2 4 0 tl4).ents)), RowA 31 11 A8 4 c9 (ents tl4), RowA 31 11 A1 3 c2 (ents tk3.ents), Fix w NoB] w45 := H41.join (m := [RowA 31 11 A43 3 c44 (ents tk3.ents)]) g46
  have z49 := g47.size
  have hfl50 : tk3.ents.length ≤ 4000 := (by decide)
  have hfi51 : tk3.image.length ≤ 4136 := (by decide +kernel)
  have hl52 := H48.len (i := 0) rfl
  rw [ents_length] at hl52
  have hc53 := H48.cap (i := 0) rfl
  refine RL.call Tryz.call25 (adopt_ _ w45.heap.size tk3 A43 3 c44 (H48.rowrd (i := 0) rfl) (Nat.le_refl _) (by first | assumption | rfl | omega | decide +kernel) (by first | assumption | rfl | omega | decide +kernel) (by first | assumption | rfl | omega | decide +kernel) (by first | assumption | rfl | omega | decide +kernel) 2 4 3 (by first | assumption | decide | (unfold rng; omega)) ([]) none 0 0 (Rd.nil_ _ _ 11 none) (by first | assumption | rfl | omega | decide +kernel) (by first | assumption | rfl | omega | decide +kernel) (by first | assumption | rfl | omega | decide +kernel)) rfl rfl rfl ?_
  rintro _ w57 ⟨A54, n55, c56, rfl, g58⟩
  have g59 := g58.fix (i := 1) rfl
  have H60 : Sp [RowA 31 11 A54 n55 c56 (ents ((adoptR tk3 2 4 3 ([])).ents)), RowA 31 11 A43 3 c44 (ents tk3.ents), BlkA b30 33 [(.int .i64 ((adoptR tk3 2 4 0 tl4).kind)), (.int .i64 ((adoptR tk3 2 4 0 tl4).view)), (.int .i64 ((adoptR tk3 2 4 0 tl4).from_)), (.int .i64 ((adoptR tk3 2 4 0 tl4).number)), (.string (tx (adoptR tk3 2 4 0 tl4).image)), (.int .i64 ((adoptR tk3 2 4 0 tl4).entry.num)), (.int .i64 ((adoptR tk3 2 4 0 tl4).entry.view)), (.int .i64 ((adoptR tk3 2 4 0 tl4).entry.client)), (.int .i64 ((adoptR tk3 2 4 0 tl4).entry.seq)), (.int .i64 ((adoptR tk3 2 4 0 tl4).entry.op.kind)), (.int .i64 ((adoptR tk3 2 4 0 tl4).entry.op.h)), (.int .i64 ((adoptR tk3 2 4 0 tl4).entry.op.i)), (.int .i64 ((adoptR tk3 2 4 0 tl4).entry.op.n)), (.int .i64 ((adoptR tk3 2 4 0 tl4).entry.op.k)), (.int .i64 ((adoptR tk3 2 4 0 tl4).entry.op.v)), (.int .i64 ((adoptR tk3 2 4 0 tl4).entry.op.t)), (.slice A21 n22 c23)], RowA 31 11 A21 n22 c23 (ents ((adoptR tk3 2 4 0 tl4).ents)), RowA 31 11 A8 4 c9 (ents tl4), RowA 31 11 A1 3 c2 (ents tk3.ents), Fix w NoB] w57 := H48.join (m := [RowA 31 11 A54 n55 c56 (ents ((adoptR tk3 2 4 3 ([])).ents))]) g58
  have z61 := g59.size
  refine zm (.tuple #[(.agg ([(.int .i64 ((adoptR tk3 2 4 3 ([])).kind)), (.int .i64 ((adoptR tk3 2 4 3 ([])).view)), (.int .i64 ((adoptR tk3 2 4 3 ([])).from_)), (.int .i64 ((adoptR tk3 2 4 3 ([])).number)), (.string (tx (adoptR tk3 2 4 3 ([])).image)), (.int .i64 ((adoptR tk3 2 4 3 ([])).entry.num)), (.int .i64 ((adoptR tk3 2 4 3 ([])).entry.view)), (.int .i64 ((adoptR tk3 2 4 3 ([])).entry.client)), (.int .i64 ((adoptR tk3 2 4 3 ([])).entry.seq)), (.int .i64 ((adoptR tk3 2 4 3 ([])).entry.op.kind)), (.int .i64 ((adoptR tk3 2 4 3 ([])).entry.op.h)), (.int .i64 ((adoptR tk3 2 4 3 ([])).entry.op.i)), (.int .i64 ((adoptR tk3 2 4 3 ([])).entry.op.n)), (.int .i64 ((adoptR tk3 2 4 3 ([])).entry.op.k)), (.int .i64 ((adoptR tk3 2 4 3 ([])).entry.op.v)), (.int .i64 ((adoptR tk3 2 4 3 ([])).entry.op.t)), (.slice A54 n55 c56)]).toArray), (.bool (adoptB tk3 2 4 3 ([])))]) rfl (zx (.agg ([(.int .i64 ((adoptR tk3 2 4 3 ([])).kind)), (.int .i64 ((adoptR tk3 2 4 3 ([])).view)), (.int .i64 ((adoptR tk3 2 4 3 ([])).from_)), (.int .i64 ((adoptR tk3 2 4 3 ([])).number)), (.string (tx (adoptR tk3 2 4 3 ([])).image)), (.int .i64 ((adoptR tk3 2 4 3 ([])).entry.num)), (.int .i64 ((adoptR tk3 2 4 3 ([])).entry.view)), (.int .i64 ((adoptR tk3 2 4 3 ([])).entry.client)), (.int .i64 ((adoptR tk3 2 4 3 ([])).entry.seq)), (.int .i64 ((adoptR tk3 2 4 3 ([])).entry.op.kind)), (.int .i64 ((adoptR tk3 2 4 3 ([])).entry.op.h)), (.int .i64 ((adoptR tk3 2 4 3 ([])).entry.op.i)), (.int .i64 ((adoptR tk3 2 4 3 ([])).entry.op.n)), (.int .i64 ((adoptR tk3 2 4 3 ([])).entry.op.k)), (.int .i64 ((adoptR tk3 2 4 3 ([])).entry.op.v)), (.int .i64 ((adoptR tk3 2 4 3 ([])).entry.op.t)), (.slice A54 n55 c56)]).toArray) rfl ?_)
  refine zx (.bool (adoptB tk3 2 4 3 ([]))) rfl (RL.al (cs := [(.int .i64 0), (.int .i64 0), (.int .i64 0), (.int .i64 0), (.string (⟨#[]⟩)), (.int .i64 0), (.int .i64 0), (.int .i64 0), (.int .i64 0), (.int .i64 0), (.int .i64 0), (.int .i64 0), (.int .i64 0), (.int .i64 0), (.int .i64 0), (.int .i64 0), (.slice none 0 0)]) Tryz.zeroValue33 rfl rfl rfl ?_)
  intro w62 b63 hb65 hz66 g67 o68
  have H69 := H60.newB g67 o68 (by omega)
  have z70 := g67.size
  refine RL.st (vs := [(.int .i64 ((adoptR tk3 2 4 3 ([])).kind)), (.int .i64 ((adoptR tk3 2 4 3 ([])).view)), (.int .i64 ((adoptR tk3 2 4 3 ([])).from_)), (.int .i64 ((adoptR tk3 2 4 3 ([])).number)), (.string (tx (adoptR tk3 2 4 3 ([])).image)), (.int .i64 ((adoptR tk3 2 4 3 ([])).entry.num)), (.int .i64 ((adoptR tk3 2 4 3 ([])).entry.view)), (.int .i64 ((adoptR tk3 2 4 3 ([])).entry.client)), (.int .i64 ((adoptR tk3 2 4 3 ([])).entry.seq)), (.int .i64 ((adoptR tk3 2 4 3 ([])).entry.op.kind)), (.int .i64 ((adoptR tk3 2 4 3 ([])).entry.op.h)), (.int .i64 ((adoptR tk3 2 4 3 ([])).entry.op.i)), (.int .i64 ((adoptR tk3 2 4 3 ([])).entry.op.n)), (.int .i64 ((adoptR tk3 2 4 3 ([])).entry.op.k)), (.int .i64 ((adoptR tk3 2 4 3 ([])).entry.op.v)), (.int .i64 ((adoptR tk3 2 4 3 ([])).entry.op.t)), (.slice A54 n55 c56)]) (cs' := [(.int .i64 ((adoptR tk3 2 4 3 ([])).kind)), (.int .i64 ((adoptR tk3 2 4 3 ([])).view)), (.int .i64 ((adoptR tk3 2 4 3 ([])).from_)), (.int .i64 ((adoptR tk3 2 4 3 ([])).number)), (.string (tx (adoptR tk3 2 4 3 ([])).image)), (.int .i64 ((adoptR tk3 2 4 3 ([])).entry.num)), (.int .i64 ((adoptR tk3 2 4 3 ([])).entry.view)), (.int .i64 ((adoptR tk3 2 4 3 ([])).entry.client)), (.int .i64 ((adoptR tk3 2 4 3 ([])).entry.seq)), (.int .i64 ((adoptR tk3 2 4 3 ([])).entry.op.kind)), (.int .i64 ((adoptR tk3 2 4 3 ([])).entry.op.h)), (.int .i64 ((adoptR tk3 2 4 3 ([])).entry.op.i)), (.int .i64 ((adoptR tk3 2 4 3 ([])).entry.op.n)), (.int .i64 ((adoptR tk3 2 4 3 ([])).entry.op.k)), (.int .i64 ((adoptR tk3 2 4 3 ([])).entry.op.v)), (.int .i64 ((adoptR tk3 2 4 3 ([])).entry.op.t)), (.slice A54 n55 c56)]) Tryz.sizeOf33 (H69.ob (i := 0) rfl) rfl rfl rfl rfl rfl rfl ?_
  intro w71 hz72 g73 o74
  have H75 : Sp [BlkA b63 33 [(.int .i64 ((adoptR tk3 2 4 3 ([])).kind)), (.int .i64 ((adoptR tk3 2 4 3 ([])).view)), (.int .i64 ((adoptR tk3 2 4 3 ([])).from_)), (.int .i64 ((adoptR tk3 2 4 3 ([])).number)), (.string (tx (adoptR tk3 2 4 3 ([])).image)), (.int .i64 ((adoptR tk3 2 4 3 ([])).entry.num)), (.int .i64 ((adoptR tk3 2 4 3 ([])).entry.view)), (.int .i64 ((adoptR tk3 2 4 3 ([])).entry.client)), (.int .i64 ((adoptR tk3 2 4 3 ([])).entry.seq)), (.int .i64 ((adoptR tk3 2 4 3 ([])).entry.op.kind)), (.int .i64 ((adoptR tk3 2 4 3 ([])).entry.op.h)), (.int .i64 ((adoptR tk3 2 4 3 ([])).entry.op.i)), (.int .i64 ((adoptR tk3 2 4 3 ([])).entry.op.n)), (.int .i64 ((adoptR tk3 2 4 3 ([])).entry.op.k)), (.int .i64 ((adoptR tk3 2 4 3 ([])).entry.op.v)), (.int .i64 ((adoptR tk3 2 4 3 ([])).entry.op.t)), (.slice A54 n55 c56)], RowA 31 11 A54 n55 c56 (ents ((adoptR tk3 2 4 3 ([])).ents)), RowA 31 11 A43 3 c44 (ents tk3.ents), BlkA b30 33 [(.int .i64 ((adoptR tk3 2 4 0 tl4).kind)), (.int .i64 ((adoptR tk3 2 4 0 tl4).view)), (.int .i64 ((adoptR tk3 2 4 0 tl4).from_)), (.int .i64 ((adoptR tk3 2 4 0 tl4).number)), (.string (tx (adoptR tk3 2 4 0 tl4).image)), (.int .i64 ((adoptR tk3 2 4 0 tl4).entry.num)), (.int .i64 ((adoptR tk3 2 4 0 tl4).entry.view)), (.int .i64 ((adoptR tk3 2 4 0 tl4).entry.client)), (.int .i64 ((adoptR tk3 2 4 0 tl4).entry.seq)), (.int .i64 ((adoptR tk3 2 4 0 tl4).entry.op.kind)), (.int .i64 ((adoptR tk3 2 4 0 tl4).entry.op.h)), (.int .i64 ((adoptR tk3 2 4 0 tl4).entry.op.i)), (.int .i64 ((adoptR tk3 2 4 0 tl4).entry.op.n)), (.int .i64 ((adoptR tk3 2 4 0 tl4).entry.op.k)), (.int .i64 ((adoptR tk3 2 4 0 tl4).entry.op.v)), (.int .i64 ((adoptR tk3 2 4 0 tl4).entry.op.t)), (.slice A21 n22 c23)], RowA 31 11 A21 n22 c23 (ents ((adoptR tk3 2 4 0 tl4).ents)), RowA 31 11 A8 4 c9 (ents tl4), RowA 31 11 A1 3 c2 (ents tk3.ents), Fix w NoB] w71 := H69.setB (i := 0) rfl g73 o74 rfl
  have z76 := g73.size
  refine za (.bool (adoptB tk3 2 4 3 ([]))) rfl (RL.nil (thn.n (CW.seq (CW.region (RL.call Tryz.call92 (three17 _) rfl rfl rfl ?_)))))
  rintro _ w79 ⟨A77, c78, rfl, g80⟩
  have g81 := g80.fix (i := 1) rfl
  have H82 : Sp [RowA 31 11 A77 3 c78 (ents tk3.ents), BlkA b63 33 [(.int .i64 ((adoptR tk3 2 4 3 ([])).kind)), (.int .i64 ((adoptR tk3 2 4 3 ([])).view)), (.int .i64 ((adoptR tk3 2 4 3 ([])).from_)), (.int .i64 ((adoptR tk3 2 4 3 ([])).number)), (.string (tx (adoptR tk3 2 4 3 ([])).image)), (.int .i64 ((adoptR tk3 2 4 3 ([])).entry.num)), (.int .i64 ((adoptR tk3 2 4 3 ([])).entry.view)), (.int .i64 ((adoptR tk3 2 4 3 ([])).entry.client)), (.int .i64 ((adoptR tk3 2 4 3 ([])).entry.seq)), (.int .i64 ((adoptR tk3 2 4 3 ([])).entry.op.kind)), (.int .i64 ((adoptR tk3 2 4 3 ([])).entry.op.h)), (.int .i64 ((adoptR tk3 2 4 3 ([])).entry.op.i)), (.int .i64 ((adoptR tk3 2 4 3 ([])).entry.op.n)), (.int .i64 ((adoptR tk3 2 4 3 ([])).entry.op.k)), (.int .i64 ((adoptR tk3 2 4 3 ([])).entry.op.v)), (.int .i64 ((adoptR tk3 2 4 3 ([])).entry.op.t)), (.slice A54 n55 c56)], RowA 31 11 A54 n55 c56 (ents ((adoptR tk3 2 4 3 ([])).ents)), RowA 31 11 A43 3 c44 (ents tk3.ents), BlkA b30 33 [(.int .i64 ((adoptR tk3 2 4 0 tl4).kind)), (.int .i64 ((adoptR tk3 2 4 0 tl4).view)), (.int .i64 ((adoptR tk3 2 4 0 tl4).from_)), (.int .i64 ((adoptR tk3 2 4 0 tl4).number)), (.string (tx (adoptR tk3 2 4 0 tl4).image)), (.int .i64 ((adoptR tk3 2 4 0 tl4).entry.num)), (.int .i64 ((adoptR tk3 2 4 0 tl4).entry.view)), (.int .i64 ((adoptR tk3 2 4 0 tl4).entry.client)), (.int .i64 ((adoptR tk3 2 4 0 tl4).entry.seq)), (.int .i64 ((adoptR tk3 2 4 0 tl4).entry.op.kind)), (.int .i64 ((adoptR tk3 2 4 0 tl4).entry.op.h)), (.int .i64 ((adoptR tk3 2 4 0 tl4).entry.op.i)), (.int .i64 ((adoptR tk3 2 4 0 tl4).entry.op.n)), (.int .i64 ((adoptR tk3 2 4 0 tl4).entry.op.k)), (.int .i64 ((adoptR tk3 2 4 0 tl4).entry.op.v)), (.int .i64 ((adoptR tk3 2 4 0 tl4).entry.op.t)), (.slice A21 n22 c23)], RowA 31 11 A21 n22 c23 (ents ((adoptR tk3 2 4 0 tl4).ents)), RowA 31 11 A8 4 c9 (ents tl4), RowA 31 11 A1 3 c2 (ents tk3.ents), Fix w NoB] w79 := H75.join (m := [RowA 31 11 A77 3 c78 (ents tk3.ents)]) g80
  have z83 := g81.size
  refine RL.call Tryz.call93 (row17_1 _) rfl rfl rfl ?_
  rintro _ w86 ⟨A84, c85, rfl, g87⟩
  have g88 := g87.fix (i := 1) rfl
  have H89 : Sp [RowA 31 11 A84 1 c85 (ents tl1), RowA 31 11 A77 3 c78 (ents tk3.ents), BlkA b63 33 [(.int .i64 ((adoptR tk3 2 4 3 ([])).kind)), (.int .i64 ((adoptR tk3 2 4 3 ([])).view)), (.int .i64 ((adoptR tk3 2 4 3 ([])).from_)), (.int .i64 ((adoptR tk3 2 4 3 ([])).number)), (.string (tx (adoptR tk3 2 4 3 ([])).image)), (.int .i64 ((adoptR tk3 2 4 3 ([])).entry.num)), (.int .i64 ((adoptR tk3 2 4 3 ([])).entry.view)), (.int .i64 ((adoptR tk3 2 4 3 ([])).entry.client)), (.int .i64 ((adoptR tk3 2 4 3 ([])).entry.seq)), (.int .i64 ((adoptR tk3 2 4 3 ([])).entry.op.kind)), (.int .i64 ((adoptR tk3 2 4 3 ([])).entry.op.h)), (.int .i64 ((adoptR tk3 2 4 3 ([])).entry.op.i)), (.int .i64 ((adoptR tk3 2 4 3 ([])).entry.op.n)), (.int .i64 ((adoptR tk3 2 4 3 ([])).entry.op.k)), (.int .i64 ((adoptR tk3 2 4 3 ([])).entry.op.v)), (.int .i64 ((adoptR tk3 2 4 3 ([])).entry.op.t)), (.slice A54 n55 c56)], RowA 31 11 A54 n55 c56 (ents ((adoptR tk3 2 4 3 ([])).ents)), RowA 31 11 A43 3 c44 (ents tk3.ents), BlkA b30 33 [(.int .i64 ((adoptR tk3 2 4 0 tl4).kind)), (.int .i64 ((adoptR tk3 2 4 0 tl4).view)), (.int .i64 ((adoptR tk3 2 4 0 tl4).from_)), (.int .i64 ((adoptR tk3 2 4 0 tl4).number)), (.string (tx (adoptR tk3 2 4 0 tl4).image)), (.int .i64 ((adoptR tk3 2 4 0 tl4).entry.num)), (.int .i64 ((adoptR tk3 2 4 0 tl4).entry.view)), (.int .i64 ((adoptR tk3 2 4 0 tl4).entry.client)), (.int .i64 ((adoptR tk3 2 4 0 tl4).entry.seq)), (.int .i64 ((adoptR tk3 2 4 0 tl4).entry.op.kind)), (.int .i64 ((adoptR tk3 2 4 0 tl4).entry.op.h)), (.int .i64 ((adoptR tk3 2 4 0 tl4).entry.op.i)), (.int .i64 ((adoptR tk3 2 4 0 tl4).entry.op.n)), (.int .i64 ((adoptR tk3 2 4 0 tl4).entry.op.k)), (.int .i64 ((adoptR tk3 2 4 0 tl4).entry.op.v)), (.int .i64 ((adoptR tk3 2 4 0 tl4).entry.op.t)), (.slice A21 n22 c23)], RowA 31 11 A21 n22 c23 (ents ((adoptR tk3 2 4 0 tl4).ents)), RowA 31 11 A8 4 c9 (ents tl4), RowA 31 11 A1 3 c2 (ents tk3.ents), Fix w NoB] w86 := H82.join (m := [RowA 31 11 A84 1 c85 (ents tl1)]) g87
  have z90 := g88.size
  have hfl91 : tk3.ents.length ≤ 4000 := (by decide)
  have hfi92 : tk3.image.length ≤ 4136 := (by decide +kernel)
  have hl93 := H89.len (i := 1) rfl
  rw [ents_length] at hl93
  have hc94 := H89.cap (i := 1) rfl
  have hl95 := H89.len (i := 0) rfl
  rw [ents_length] at hl95
  have hc96 := H89.cap (i := 0) rfl
  refine RL.call Tryz.call25 (adopt_ _ w86.heap.size tk3 A77 3 c78 (H89.rowrd (i := 1) rfl) (Nat.le_refl _) (by first | assumption | rfl | omega | decide +kernel) (by first | assumption | rfl | omega | decide +kernel) (by first | assumption | rfl | omega | decide +kernel) (by first | assumption | rfl | omega | decide +kernel) 2 4 0 (by first | assumption | decide | (unfold rng; omega)) tl1 A84 1 c85 ((H89.rowrd (i := 0) rfl).more (Nat.le_refl _)) (by first | assumption | rfl | omega | decide +kernel) (by first | assumption | rfl | omega | decide +kernel) (by first | assumption | rfl | omega | decide +kernel)) rfl rfl rfl ?_
  rintro _ w100 ⟨A97, n98, c99, rfl, g101⟩
  have g102 := g101.fix (i := 1) rfl
  have H103 : Sp [RowA 31 11 A97 n98 c99 (ents ((adoptR tk3 2 4 0 tl1).ents)), RowA 31 11 A84 1 c85 (ents tl1), RowA 31 11 A77 3 c78 (ents tk3.ents), BlkA b63 33 [(.int .i64 ((adoptR tk3 2 4 3 ([])).kind)), (.int .i64 ((adoptR tk3 2 4 3 ([])).view)), (.int .i64 ((adoptR tk3 2 4 3 ([])).from_)), (.int .i64 ((adoptR tk3 2 4 3 ([])).number)), (.string (tx (adoptR tk3 2 4 3 ([])).image)), (.int .i64 ((adoptR tk3 2 4 3 ([])).entry.num)), (.int .i64 ((adoptR tk3 2 4 3 ([])).entry.view)), (.int .i64 ((adoptR tk3 2 4 3 ([])).entry.client)), (.int .i64 ((adoptR tk3 2 4 3 ([])).entry.seq)), (.int .i64 ((adoptR tk3 2 4 3 ([])).entry.op.kind)), (.int .i64 ((adoptR tk3 2 4 3 ([])).entry.op.h)), (.int .i64 ((adoptR tk3 2 4 3 ([])).entry.op.i)), (.int .i64 ((adoptR tk3 2 4 3 ([])).entry.op.n)), (.int .i64 ((adoptR tk3 2 4 3 ([])).entry.op.k)), (.int .i64 ((adoptR tk3 2 4 3 ([])).entry.op.v)), (.int .i64 ((adoptR tk3 2 4 3 ([])).entry.op.t)), (.slice A54 n55 c56)], RowA 31 11 A54 n55 c56 (ents ((adoptR tk3 2 4 3 ([])).ents)), RowA 31 11 A43 3 c44 (ents tk3.ents), BlkA b30 33 [(.int .i64 ((adoptR tk3 2 4 0 tl4).kind)), (.int .i64 ((adoptR tk3 2 4 0 tl4).view)), (.int .i64 ((adoptR tk3 2 4 0 tl4).from_)), (.int .i64 ((adoptR tk3 2 4 0 tl4).number)), (.string (tx (adoptR tk3 2 4 0 tl4).image)), (.int .i64 ((adoptR tk3 2 4 0 tl4).entry.num)), (.int .i64 ((adoptR tk3 2 4 0 tl4).entry.view)), (.int .i64 ((adoptR tk3 2 4 0 tl4).entry.client)), (.int .i64 ((adoptR tk3 2 4 0 tl4).entry.seq)), (.int .i64 ((adoptR tk3 2 4 0 tl4).entry.op.kind)), (.int .i64 ((adoptR tk3 2 4 0 tl4).entry.op.h)), (.int .i64 ((adoptR tk3 2 4 0 tl4).entry.op.i)), (.int .i64 ((adoptR tk3 2 4 0 tl4).entry.op.n)), (.int .i64 ((adoptR tk3 2 4 0 tl4).entry.op.k)), (.int .i64 ((adoptR tk3 2 4 0 tl4).entry.op.v)), (.int .i64 ((adoptR tk3 2 4 0 tl4).entry.op.t)), (.slice A21 n22 c23)], RowA 31 11 A21 n22 c23 (ents ((adoptR tk3 2 4 0 tl4).ents)), RowA 31 11 A8 4 c9 (ents tl4), RowA 31 11 A1 3 c2 (ents tk3.ents), Fix w NoB] w100 := H89.join (m := [RowA 31 11 A97 n98 c99 (ents ((adoptR tk3 2 4 0 tl1).ents))]) g101
  have z104 := g102.size
  refine zm (.tuple #[(.agg ([(.int .i64 ((adoptR tk3 2 4 0 tl1).kind)), (.int .i64 ((adoptR tk3 2 4 0 tl1).view)), (.int .i64 ((adoptR tk3 2 4 0 tl1).from_)), (.int .i64 ((adoptR tk3 2 4 0 tl1).number)), (.string (tx (adoptR tk3 2 4 0 tl1).image)), (.int .i64 ((adoptR tk3 2 4 0 tl1).entry.num)), (.int .i64 ((adoptR tk3 2 4 0 tl1).entry.view)), (.int .i64 ((adoptR tk3 2 4 0 tl1).entry.client)), (.int .i64 ((adoptR tk3 2 4 0 tl1).entry.seq)), (.int .i64 ((adoptR tk3 2 4 0 tl1).entry.op.kind)), (.int .i64 ((adoptR tk3 2 4 0 tl1).entry.op.h)), (.int .i64 ((adoptR tk3 2 4 0 tl1).entry.op.i)), (.int .i64 ((adoptR tk3 2 4 0 tl1).entry.op.n)), (.int .i64 ((adoptR tk3 2 4 0 tl1).entry.op.k)), (.int .i64 ((adoptR tk3 2 4 0 tl1).entry.op.v)), (.int .i64 ((adoptR tk3 2 4 0 tl1).entry.op.t)), (.slice A97 n98 c99)]).toArray), (.bool (adoptB tk3 2 4 0 tl1))]) rfl (zx (.agg ([(.int .i64 ((adoptR tk3 2 4 0 tl1).kind)), (.int .i64 ((adoptR tk3 2 4 0 tl1).view)), (.int .i64 ((adoptR tk3 2 4 0 tl1).from_)), (.int .i64 ((adoptR tk3 2 4 0 tl1).number)), (.string (tx (adoptR tk3 2 4 0 tl1).image)), (.int .i64 ((adoptR tk3 2 4 0 tl1).entry.num)), (.int .i64 ((adoptR tk3 2 4 0 tl1).entry.view)), (.int .i64 ((adoptR tk3 2 4 0 tl1).entry.client)), (.int .i64 ((adoptR tk3 2 4 0 tl1).entry.seq)), (.int .i64 ((adoptR tk3 2 4 0 tl1).entry.op.kind)), (.int .i64 ((adoptR tk3 2 4 0 tl1).entry.op.h)), (.int .i64 ((adoptR tk3 2 4 0 tl1).entry.op.i)), (.int .i64 ((adoptR tk3 2 4 0 tl1).entry.op.n)), (.int .i64 ((adoptR tk3 2 4 0 tl1).entry.op.k)), (.int .i64 ((adoptR tk3 2 4 0 tl1).entry.op.v)), (.int .i64 ((adoptR tk3 2 4 0 tl1).entry.op.t)), (.slice A97 n98 c99)]).toArray) rfl ?_)
  refine zx (.bool (adoptB tk3 2 4 0 tl1)) rfl (RL.al (cs := [(.int .i64 0), (.int .i64 0), (.int .i64 0), (.int .i64 0), (.string (⟨#[]⟩)), (.int .i64 0), (.int .i64 0), (.int .i64 0), (.int .i64 0), (.int .i64 0), (.int .i64 0), (.int .i64 0), (.int .i64 0), (.int .i64 0), (.int .i64 0), (.int .i64 0), (.slice none 0 0)]) Tryz.zeroValue33 rfl rfl rfl ?_)
  intro w105 b106 hb107 hz108 g109 o110
  have H111 := H103.newB g109 o110 (by omega)
  have z112 := g109.size
  refine RL.st (vs := [(.int .i64 ((adoptR tk3 2 4 0 tl1).kind)), (.int .i64 ((adoptR tk3 2 4 0 tl1).view)), (.int .i64 ((adoptR tk3 2 4 0 tl1).from_)), (.int .i64 ((adoptR tk3 2 4 0 tl1).number)), (.string (tx (adoptR tk3 2 4 0 tl1).image)), (.int .i64 ((adoptR tk3 2 4 0 tl1).entry.num)), (.int .i64 ((adoptR tk3 2 4 0 tl1).entry.view)), (.int .i64 ((adoptR tk3 2 4 0 tl1).entry.client)), (.int .i64 ((adoptR tk3 2 4 0 tl1).entry.seq)), (.int .i64 ((adoptR tk3 2 4 0 tl1).entry.op.kind)), (.int .i64 ((adoptR tk3 2 4 0 tl1).entry.op.h)), (.int .i64 ((adoptR tk3 2 4 0 tl1).entry.op.i)), (.int .i64 ((adoptR tk3 2 4 0 tl1).entry.op.n)), (.int .i64 ((adoptR tk3 2 4 0 tl1).entry.op.k)), (.int .i64 ((adoptR tk3 2 4 0 tl1).entry.op.v)), (.int .i64 ((adoptR tk3 2 4 0 tl1).entry.op.t)), (.slice A97 n98 c99)]) (cs' := [(.int .i64 ((adoptR tk3 2 4 0 tl1).kind)), (.int .i64 ((adoptR tk3 2 4 0 tl1).view)), (.int .i64 ((adoptR tk3 2 4 0 tl1).from_)), (.int .i64 ((adoptR tk3 2 4 0 tl1).number)), (.string (tx (adoptR tk3 2 4 0 tl1).image)), (.int .i64 ((adoptR tk3 2 4 0 tl1).entry.num)), (.int .i64 ((adoptR tk3 2 4 0 tl1).entry.view)), (.int .i64 ((adoptR tk3 2 4 0 tl1).entry.client)), (.int .i64 ((adoptR tk3 2 4 0 tl1).entry.seq)), (.int .i64 ((adoptR tk3 2 4 0 tl1).entry.op.kind)), (.int .i64 ((adoptR tk3 2 4 0 tl1).entry.op.h)), (.int .i64 ((adoptR tk3 2 4 0 tl1).entry.op.i)), (.int .i64 ((adoptR tk3 2 4 0 tl1).entry.op.n)), (.int .i64 ((adoptR tk3 2 4 0 tl1).entry.op.k)), (.int .i64 ((adoptR tk3 2 4 0 tl1).entry.op.v)), (.int .i64 ((adoptR tk3 2 4 0 tl1).entry.op.t)), (.slice A97 n98 c99)]) Tryz.sizeOf33 (H111.ob (i := 0) rfl) rfl rfl rfl rfl rfl rfl ?_
  intro w113 hz114 g115 o116
  have H117 : Sp [BlkA b106 33 [(.int .i64 ((adoptR tk3 2 4 0 tl1).kind)), (.int .i64 ((adoptR tk3 2 4 0 tl1).view)), (.int .i64 ((adoptR tk3 2 4 0 tl1).from_)), (.int .i64 ((adoptR tk3 2 4 0 tl1).number)), (.string (tx (adoptR tk3 2 4 0 tl1).image)), (.int .i64 ((adoptR tk3 2 4 0 tl1).entry.num)), (.int .i64 ((adoptR tk3 2 4 0 tl1).entry.view)), (.int .i64 ((adoptR tk3 2 4 0 tl1).entry.client)), (.int .i64 ((adoptR tk3 2 4 0 tl1).entry.seq)), (.int .i64 ((adoptR tk3 2 4 0 tl1).entry.op.kind)), (.int .i64 ((adoptR tk3 2 4 0 tl1).entry.op.h)), (.int .i64 ((adoptR tk3 2 4 0 tl1).entry.op.i)), (.int .i64 ((adoptR tk3 2 4 0 tl1).entry.op.n)), (.int .i64 ((adoptR tk3 2 4 0 tl1).entry.op.k)), (.int .i64 ((adoptR tk3 2 4 0 tl1).entry.op.v)), (.int .i64 ((adoptR tk3 2 4 0 tl1).entry.op.t)), (.slice A97 n98 c99)], RowA 31 11 A97 n98 c99 (ents ((adoptR tk3 2 4 0 tl1).ents)), RowA 31 11 A84 1 c85 (ents tl1), RowA 31 11 A77 3 c78 (ents tk3.ents), BlkA b63 33 [(.int .i64 ((adoptR tk3 2 4 3 ([])).kind)), (.int .i64 ((adoptR tk3 2 4 3 ([])).view)), (.int .i64 ((adoptR tk3 2 4 3 ([])).from_)), (.int .i64 ((adoptR tk3 2 4 3 ([])).number)), (.string (tx (adoptR tk3 2 4 3 ([])).image)), (.int .i64 ((adoptR tk3 2 4 3 ([])).entry.num)), (.int .i64 ((adoptR tk3 2 4 3 ([])).entry.view)), (.int .i64 ((adoptR tk3 2 4 3 ([])).entry.client)), (.int .i64 ((adoptR tk3 2 4 3 ([])).entry.seq)), (.int .i64 ((adoptR tk3 2 4 3 ([])).entry.op.kind)), (.int .i64 ((adoptR tk3 2 4 3 ([])).entry.op.h)), (.int .i64 ((adoptR tk3 2 4 3 ([])).entry.op.i)), (.int .i64 ((adoptR tk3 2 4 3 ([])).entry.op.n)), (.int .i64 ((adoptR tk3 2 4 3 ([])).entry.op.k)), (.int .i64 ((adoptR tk3 2 4 3 ([])).entry.op.v)), (.int .i64 ((adoptR tk3 2 4 3 ([])).entry.op.t)), (.slice A54 n55 c56)], RowA 31 11 A54 n55 c56 (ents ((adoptR tk3 2 4 3 ([])).ents)), RowA 31 11 A43 3 c44 (ents tk3.ents), BlkA b30 33 [(.int .i64 ((adoptR tk3 2 4 0 tl4).kind)), (.int .i64 ((adoptR tk3 2 4 0 tl4).view)), (.int .i64 ((adoptR tk3 2 4 0 tl4).from_)), (.int .i64 ((adoptR tk3 2 4 0 tl4).number)), (.string (tx (adoptR tk3 2 4 0 tl4).image)), (.int .i64 ((adoptR tk3 2 4 0 tl4).entry.num)), (.int .i64 ((adoptR tk3 2 4 0 tl4).entry.view)), (.int .i64 ((adoptR tk3 2 4 0 tl4).entry.client)), (.int .i64 ((adoptR tk3 2 4 0 tl4).entry.seq)), (.int .i64 ((adoptR tk3 2 4 0 tl4).entry.op.kind)), (.int .i64 ((adoptR tk3 2 4 0 tl4).entry.op.h)), (.int .i64 ((adoptR tk3 2 4 0 tl4).entry.op.i)), (.int .i64 ((adoptR tk3 2 4 0 tl4).entry.op.n)), (.int .i64 ((adoptR tk3 2 4 0 tl4).entry.op.k)), (.int .i64 ((adoptR tk3 2 4 0 tl4).entry.op.v)), (.int .i64 ((adoptR tk3 2 4 0 tl4).entry.op.t)), (.slice A21 n22 c23)], RowA 31 11 A21 n22 c23 (ents ((adoptR tk3 2 4 0 tl4).ents)), RowA 31 11 A8 4 c9 (ents tl4), RowA 31 11 A1 3 c2 (ents tk3.ents), Fix w NoB] w113 := H111.setB (i := 0) rfl g115 o116 rfl
  have z118 := g115.size
  refine za (.bool (adoptB tk3 2 4 0 tl1)) rfl (RL.nil (thn.n (CW.seq (CW.region (zg rfl (Ex.mv (v := .bool true) (by show Value.bool (adoptB tk3 2 4 0 tl4) = _; rw [ad_y])) (zm (.bool true) rfl (zg rfl (fa33_0 (b := ⟨b30, 0, none⟩) rfl rfl) (zl (.int .i64 ((adoptR tk3 2 4 0 tl4).kind)) lo26 (H117.ob (i := 7) rfl) rfl (zg rfl (Ex.eqD (r := true) rfl rfl (decide_eq_true (by rw [ad_r]; rfl))) (zT (.bool true) rfl (zm (.bool true) rfl (zg rfl (fa33_1 (b := ⟨b30, 1, none⟩) rfl rfl) (zl (.int .i64 ((adoptR tk3 2 4 0 tl4).view)) lo3 (H117.ob (i := 7) rfl) rfl ?_)))))))))))))
  refine zg rfl (Ex.eqD (r := true) rfl rfl (decide_eq_true (by rw [ad_r]; rfl))) (zT (.bool true) rfl (zm (.bool true) rfl (zg rfl (fa33_2 (b := ⟨b30, 2, none⟩) rfl rfl) (zl (.int .i64 ((adoptR tk3 2 4 0 tl4).from_)) lo3 (H117.ob (i := 7) rfl) rfl (zg rfl (Ex.eqD (r := true) rfl rfl (decide_eq_true (by rw [ad_r]; rfl))) (zT (.bool true) rfl (zm (.bool true) rfl ?_)))))))
  have hl119 := H117.len (i := 8) rfl
  rw [ents_length, ad_r] at hl119
  simp only [ad3, List.length_cons, List.length_nil] at hl119
  have hl2 : (adoptR tk3 2 4 0 tl4).ents.length = 2 := by rw [ad_r]; rfl
  refine zg rfl (fa33_6 (b := ⟨b30, 16, none⟩) rfl rfl) (zl (.slice A21 n22 c23) lo22 (H117.ob (i := 7) rfl) rfl (zg rfl (Ex.len Tryz.underlying22 rfl) (zg rfl (Ex.eqD (r := true) rfl rfl (decide_eq_true (by omega))) (zT (.bool true) rfl (zm (.bool true) rfl (zg rfl (fa33_6 (b := ⟨b30, 16, none⟩) rfl rfl) (zl (.slice A21 n22 c23) lo22 (H117.ob (i := 7) rfl) rfl ?_)))))))
  obtain ⟨e120, he121⟩ : ∃ e, ((adoptR tk3 2 4 0 tl4).ents)[0]? = some e := ⟨_, List.getElem?_eq_getElem (by omega)⟩
  obtain ⟨ad122, hA123⟩ := Rd.sm (H117.rowrd (i := 8) rfl) (ents_get he121)
  have hl124 := Eng.lt_len (ents_get he121)
  refine zg rfl (Ex.ix (b := (ad122.add (0 * 11))) (i := 0) Tryz.underlying22 Tryz.sizeOf31 (by rw [← hA123]; rfl) rfl (by omega) (by omega) rfl) (zg rfl (fa31_0 (b := ((ad122.add (0 * 11)))) rfl rfl) (zg rfl (Ex.ldv rfl (loadC1 lo3 (Cl.at_ (v := (.int .i64 e120.num)) (Rd.cl (H117.rowrd (i := 8) rfl) hA123 (ents_get he121)) (i := 0) rfl))) ?_))
  have h3 : e120 = entR 3 := by rw [ad_r] at he121; injection he121 with h3; exact h3.symm
  refine zg rfl (Ex.eqD (r := true) rfl rfl (decide_eq_true (by rw [h3]; rfl))) (zT (.bool true) rfl (zm (.bool true) rfl (zg rfl (Ex.mv (v := .bool false) (by show Value.bool (adoptB tk3 2 4 3 ([])) = _; rw [ad_n1])) (zg rfl (Ex.not (b := false) rfl) (zT (.bool true) rfl (zm (.bool true) rfl (zg rfl (Ex.mv (v := .bool false) (by show Value.bool (adoptB tk3 2 4 0 tl1) = _; rw [ad_n2])) (zg rfl (Ex.not (b := false) rfl) (zT (.bool true) rfl (za (.bool true) rfl ?_))))))))))
  refine RL.nil (thn.n (CW.ret (finQ.r (v := (.bool true)) (res1 rfl rfl) ?_)))
  exact ⟨rfl, (H117.fix (i := 11) rfl)⟩
end Go.Proofs.YtfokljnhllflbaaGreat
namespace Go.Eng
open Go Go.RowKit
structure Vote where
  (node normal base number commit : Int)
  ents : List Entry
  deriving DecidableEq
structure RVote where
  v : Vote
  s : Sl
def RVote.cells (r : RVote) : List Value := [.int .i64 r.v.node, .int .i64 r.v.normal, .int .i64 r.v.base, .int .i64 r.v.number, .int .i64 r.v.commit, .slice r.s.a r.s.n r.s.c]
def VtR (w : World) (B : Nat) (l : List RVote) : Prop := ∀ r ∈ l, Rd w B 11 r.s.a (ents r.v.ents) ∧ r.s.n = r.v.ents.length ∧ r.s.n ≤ r.s.c
theorem VtR.st0 {w w' : World} {B : Nat} {l : List RVote} (h : VtR w B l) (g : w.grownBy w' none) : VtR w' B l := fun r hr => ⟨(h r hr).1.st0 g, (h r hr).2⟩
theorem VtR.more {w : World} {B B' : Nat} {l : List RVote} (h : VtR w B l) (hb : B ≤ B') : VtR w B' l := fun r hr => ⟨(h r hr).1.more hb, (h r hr).2⟩
section
variable {w w' w0 : World} {l m : List Atom} {A B C : Atom} {i j : Nat}
theorem Sp.merge (h : Sp (A :: B :: l) w) (hw : ∀ S T, A.ok S w → B.ok T w → C.ok (fun b => S b ∨ T b) w) : Sp (C :: l) w := by
  obtain ⟨S, h1, h2⟩ := h
  refine ⟨fun a b => if a = 0 then S 0 b ∨ S 1 b else S (a + 1) b, fun a c b ha hc => ?_, fun a D ha => ?_⟩
  · dsimp only at ha hc
    by_cases e1 : a = 0 <;> by_cases e2 : c = 0
    · rw [e1, e2]
    · rw [if_pos e1] at ha; rw [if_neg e2] at hc
      rcases ha with ha | ha <;> have := h1 _ _ b ha hc <;> omega
    · rw [if_neg e1] at ha; rw [if_pos e2] at hc
      rcases hc with hc | hc <;> have := h1 _ _ b ha hc <;> omega
    · rw [if_neg e1] at ha; rw [if_neg e2] at hc
      have := h1 _ _ b ha hc; omega
  · cases a with
    | zero => simp at ha; subst ha; exact C.mono (fun b hb => by show ite _ _ _; rw [if_pos rfl]; exact hb) (hw _ _ (h2 0 A rfl) (h2 1 B rfl))
    | succ a => exact D.mono (fun b hb => by show ite _ _ _; rw [if_neg (by omega)]; exact hb) (h2 (a + 2) D (by simpa using ha))
theorem VtR.get {w : World} {B : Nat} {l : List RVote} (h : VtR w B l) {k : Nat} {r : RVote} (hr : l[k]? = some r) : Rd w B 11 r.s.a (ents r.v.ents) ∧ r.s.n = r.v.ents.length ∧ r.s.n ≤ r.s.c := h r (List.mem_of_getElem? hr)
end
end Go.Eng
