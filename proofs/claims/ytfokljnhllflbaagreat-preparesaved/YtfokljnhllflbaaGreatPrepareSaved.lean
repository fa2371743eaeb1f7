/- What a replica joins and saves, record by record, is what was joined: for every input, with no condition. -/
import Derived.Deep.Quiet
import Derived.Ground.NamesProg
import Derived.Ground.SlgcProg
import Derived.Ground.SlsfProg
import Derived.JoinedOf
import Derived.Laws.BytesString
import Derived.Laws.MakeOwn
import Derived.Laws.Strings
import Derived.Lib.AppendZeros
import Derived.Lib.ConvBytes
import Derived.Lib.Overlaps
import Derived.Maps.AppendAt
import Derived.OrdersHeld
import Derived.ProofKit
import Derived.Recover
import Derived.ScopeJumps
import Derived.Shelf.SlSortCmp.NoneTotal
import Derived.Shelf.SlSortCmp.WholeK
import Derived.Shelf.SlicesG.Cmp
import Derived.Shelf.Small.Bits
import Derived.Sort.OwnSortedInts
import Derived.StillTail
import Derived.Test.YtfokljnhllflbaaGreatProg
import Derived.Test.YtfokljnhllflbaaGreatRows
import Derived.WalkKit
import Derived.WalkLawsBesides
import Derived.WalkSpells
import Derived.Test.YtfokljnhllflbaaGreatPPrepareSaved4
set_option linter.unusedSimpArgs false
set_option linter.unusedVariables false
namespace Go.Proofs.YtfokljnhllflbaaGreat
open Go Go.Eng Go.RowKit
set_option maxHeartbeats 400000 in
set_option maxRecDepth 20000 in
theorem prow (w : World) (B : Nat) (l : List Entry) (A : Option Addr) (n c : Nat) (fr : Int) (hr : Rd w B 11 A (ents l)) (hB : B ≤ w.heap.size) (hn : n = l.length) (hm : n ≤ 1099511627776) : Ret Tryz.prog 128 [(.slice A n c), (.int .i64 fr)] w (fun v w' => v = .bool (follB l fr) ∧ w.grownBy w' none) := by
  have H0 : Sp [Fix w NoB] w := Sp.start w
  refine Ret.body Tryz.func128 rfl rfl rfl ?_
  refine CW.seq (CW.region ?_)
  refine RL.go rfl rfl rfl (Ex.as (v := (.bool false)) rfl) ?_
  refine RL.nil (thn.n (CW.seq (CW.seq (CW.region ?_))))
  refine RL.go rfl rfl rfl (Ex.mv (v := (.slice A n c)) rfl) ?_
  refine RL.go rfl rfl rfl (Ex.len Tryz.underlying22 rfl) ?_
  refine RL.go rfl rfl rfl (Ex.mv (v := (.int .i64 0)) rfl) ?_
  refine RL.nil (thn.n (CW.block ?_))
  refine CW.loop (fun t => (Nat.ble 4 t && Nat.ble t 6) || (Nat.ble 9 t && Nat.ble t 21)) (fun nL ρ wl => ∃ (k : Nat), ρ 9 = (.int .i64 (k : Int)) ∧ nL = n - k ∧ Sp [Fix w NoB] wl ∧ k ≤ n ∧ follB (l.take k) fr = true) (n) ?aa0 ?bb0
  case aa0 =>
   exact ⟨0, rfl, rfl, H0, Nat.zero_le _, rfl⟩
  case bb0 =>
   rintro n2 ρ0 w1 ho3 ⟨k, hs0_9, hn0, H4, hk, hf⟩
   obtain ⟨j0, rfl⟩ := ho3.shape1 hs0_9
   clear ho3 hs0_9
   subst hn0
   have z5 := (H4.fix (i := 0) rfl).size
   refine CW.seq (CW.region ?_)
   refine RL.br (p := ((k : Int) : Int) < ((n : Nat) : Int)) rfl rfl rfl (fun r hr => Ex.lt rfl rfl hr) (fun h6 => ?_) (fun h6 => ?_)
   ·skip
    refine RL.nil (thn.n (CW.seq (CW.condT rfl (CW.skip (thn.n (CW.seq (CW.block (CW.seq (CW.region ?_)))))))))
    refine RL.go rfl rfl rfl (Ex.mv (v := (.int .i64 (k : Int))) rfl) ?_
    obtain ⟨e7, he8⟩ : ∃ e, (l)[k]? = some e := ⟨_, List.getElem?_eq_getElem (by omega)⟩
    obtain ⟨ad9, hA10⟩ := Rd.sm (hr.st0 (H4.fix (i := 0) rfl)) (ents_get he8)
    have hl11 := Eng.lt_len (ents_get he8)
    refine RL.go rfl rfl rfl (Ex.ix (b := (ad9.add (k * 11))) (i := k) Tryz.underlying22 Tryz.sizeOf31 (by rw [← hA10]; rfl) rfl (by omega) (by omega) rfl) ?_
    refine RL.go rfl rfl rfl (Ex.ldv rfl (loadCN (cs := e7.cells) wh31 (Rd.cl (hr.st0 (H4.fix (i := 0) rfl)) hA10 (ents_get he8)))) ?_
    refine RL.al (cs := [(.int .i64 0), (.int .i64 0), (.int .i64 0), (.int .i64 0), (.int .i64 0), (.int .i64 0), (.int .i64 0), (.int .i64 0), (.int .i64 0), (.int .i64 0), (.int .i64 0)]) Tryz.zeroValue31 rfl rfl rfl ?_
    intro w12 b13 hb14 hz15 g16 o17
    have H18 := H4.newB g16 o17 (by omega)
    have z19 := g16.size
    refine RL.go rfl rfl rfl (Ex.as (v := (.int .i64 (k : Int))) rfl) ?_
    refine RL.st (vs := e7.cells) (cs' := e7.cells) Tryz.sizeOf31 (H18.ob (i := 0) rfl) rfl rfl rfl rfl rfl rfl ?_
    intro w20 hz21 g22 o23
    have H24 : Sp [BlkA b13 31 e7.cells, Fix w NoB] w20 := H18.setB (i := 0) rfl g22 o23 rfl
    have z25 := g22.size
    refine RL.nil (thn.n (CW.seq (CW.region ?_)))
    refine RL.go rfl rfl rfl (fa31_0 (b := ⟨b13, 0, none⟩) rfl rfl) ?_
    refine RL.go rfl rfl rfl (Ex.ldv rfl (loadC1 lo3 (Ob.cell (v := (.int .i64 e7.num)) (H24.ob (i := 0) rfl) rfl))) ?_
    refine RL.go rfl rfl rfl (Ex.sub_ (r := IntKind.i64.wrap (e7.num - 1)) rfl rfl rfl) ?_
    refine RL.go rfl rfl rfl (Ex.mv (v := (.int .i64 (k : Int))) rfl) ?_
    refine RL.go rfl rfl rfl (Ex.sub_ (r := IntKind.i64.wrap ((IntKind.i64.wrap (e7.num - 1)) - (k : Int))) rfl rfl rfl) ?_
    refine RL.go rfl rfl rfl (Ex.mv (v := (.int .i64 fr)) rfl) ?_
    refine RL.br (p := (IntKind.i64.wrap ((IntKind.i64.wrap (e7.num - 1)) - (k : Int)) : Int) ≠ (fr : Int)) rfl rfl rfl (fun r hr => Ex.neD rfl rfl hr) (fun h26 => ?_) (fun h26 => ?_)
    ·skip
     refine RL.nil (thn.n (CW.condT rfl (CW.seq (CW.region ?_))))
     refine RL.go rfl rfl rfl (Ex.as (v := (.bool false)) rfl) ?_
     refine RL.nil (thn.n (CW.ret (inB.r (thn.r (thn.r (inB.r (thn.r ?_)))))))
     refine finQ.r (v := (.bool false)) (res1 rfl rfl) ?_
     exact ⟨ret_bool (by unfold follB; rw [allI_stop he8 0]; simpa using h26), (H24.fix (i := 1) rfl)⟩
    ·skip
     refine RL.nil (thn.n (CW.condF rfl (CW.skip (inB.n (thn.n (CW.region ?_))))))
     refine RL.go rfl rfl rfl (Ex.add (r := (k : Int) + 1) rfl rfl (w64 (by omega) (by omega))) ?_
     refine RL.go rfl rfl rfl (Ex.mv (v := (.int .i64 ((k : Int) + 1))) rfl) ?_
     refine RL.nil (thn.n ?_)
     refine ⟨(by repeat (first | exact Out.mix _ _ | exact Out.refl _ _ | refine Out.up ?_ rfl _)), _, ?_, k + 1, rfl, rfl, (H24.sel [1] (by decide) rfl), by omega, by unfold follB at *; rw [allI_take he8 0, hf]; simp only [Nat.zero_add, Bool.true_and, decide_eq_true_eq]; exact Decidable.not_not.1 h26⟩
     omega
   ·skip
    refine RL.nil (thn.n (CW.seq (CW.condF rfl (CW.exit (thn.x (thn.x (inB.hit (thn.n (CW.seq (CW.region ?_))))))))))
    refine RL.go rfl rfl rfl (Ex.as (v := (.bool true)) rfl) ?_
    refine RL.nil (thn.n (CW.ret ?_))
    refine finQ.r (v := (.bool true)) (res1 rfl rfl) ?_
    exact ⟨ret_bool (by rw [← hf, List.take_of_length_le (by omega)]), (H4.fix (i := 0) rfl)⟩
set_option maxHeartbeats 1000000 in
set_option maxRecDepth 20000 in
theorem join_ (w : World) (B : Nat) (k : Kept) (A : Option Addr) (n c : Nat) (hr : Rd w B 11 A (ents k.ents)) (hB : B ≤ w.heap.size) (hn : n = k.ents.length) (hm : n ≤ 1099511627776) (hc : n ≤ c) (hi : k.image.length ≤ 140737488351232) (number : Int) (l : List Entry) (A2 : Option Addr) (n2 c2 : Nat) (hr2 : Rd w B 11 A2 (ents l)) (hn2 : n2 = l.length) (hm2 : n2 ≤ 1000000) : Ret Tryz.prog 63 [(.agg ([(.int .i64 k.view), (.int .i64 k.normal), (.int .i64 k.base), (.string (tx k.image)), (.slice A n c)]).toArray), (.int .i64 number), (.slice A2 n2 c2)] w (fun v w' => ∃ (A' : Option Addr) (n' c' : Nat), v = .tuple #[.slice A' n' c', .bool (joinK k number l).2] ∧ Sp ([RowA 33 17 A' n' c' (recsE (joinK k number l).1)] ++ [Fix w NoB]) w') := by
  have H0 : Sp [Fix w NoB] w := Sp.start w
  refine Ret.body Tryz.func63 rfl rfl rfl ?_
  refine CW.seq (CW.region ?_)
  refine RL.bx (cs := [(.int .i64 k.view), (.int .i64 k.normal), (.int .i64 k.base), (.string (tx k.image)), (.slice A n c)]) rfl rfl rfl ?_
  intro w1 b2 hb3 hz4 g5 o6
  have H7 := H0.newB g5 o6 (by omega)
  have z8 := g5.size
  refine RL.go rfl rfl rfl (Ex.as (v := (.slice none 0 0)) rfl) ?_
  refine RL.go rfl rfl rfl (Ex.as (v := (.bool false)) rfl) ?_
  refine RL.nil (thn.n (CW.seq (CW.region ?_)))
  refine RL.go rfl rfl rfl (Ex.ldv rfl (loadCN (cs := [(.int .i64 k.view), (.int .i64 k.normal), (.int .i64 k.base), (.string (tx k.image)), (.slice A n c)]) wh24 (H7.ob (i := 0) rfl).cl)) ?_
  refine RL.call Tryz.call62 (Last_ _ _ _ k (KeptR.of (k := k) (n := n) (c := c) (hr.st0 (H7.fix (i := 1) rfl)) (by show n = (k.ents).length; (try simp only [List.length_append, List.length_cons, List.length_nil, List.length_take, List.length_drop]); all_goals omega) (by omega) (by omega) (by first | assumption | (show List.length _ ≤ _; first | assumption | decide | omega))) (by omega)) rfl rfl rfl ?_
  rintro _ w9 ⟨rfl, g10⟩
  have H11 := H7.grow g10
  have z12 := g10.size
  refine RL.go rfl rfl rfl (Ex.as (v := (.int .i64 (lastOf k))) rfl) ?_
  refine RL.nil (thn.n (CW.seq (CW.seq (CW.region ?_))))
  refine RL.go rfl rfl rfl (Ex.ldv rfl (loadCN (cs := [(.int .i64 k.view), (.int .i64 k.normal), (.int .i64 k.base), (.string (tx k.image)), (.slice A n c)]) wh24 (H11.ob (i := 0) rfl).cl)) ?_
  refine RL.call Tryz.call57 (opCheck_ _ _ _ k (KeptR.of (k := k) (n := n) (c := c) (hr.st0 (H11.fix (i := 1) rfl)) (by show n = (k.ents).length; (try simp only [List.length_append, List.length_cons, List.length_nil, List.length_take, List.length_drop]); all_goals omega) (by omega) (by omega) (by first | assumption | (show List.length _ ≤ _; first | assumption | decide | omega))) (by omega)) rfl rfl rfl ?_
  rintro _ w13 ⟨rfl, g14⟩
  have H15 := H11.grow g14
  have z16 := g14.size
  refine RL.br (p := ((if keptB k then 0 else 1) : Int) ≠ (0 : Int)) rfl rfl rfl (fun r hr => Ex.neD rfl rfl hr) (fun h17 => ?_) (fun h17 => ?_)
  ·skip
   refine RL.go rfl rfl rfl (Ex.mv (v := (.bool true)) rfl) ?_
   refine RL.out rfl rfl rfl ?_
   refine RL.out rfl rfl rfl ?_
   refine RL.go rfl rfl rfl (Ex.pkT (v := (.bool true)) rfl rfl) ?_
   refine RL.go rfl rfl rfl (Ex.mv (v := (.bool true)) rfl) ?_
   refine RL.out rfl rfl rfl ?_
   refine RL.out rfl rfl rfl ?_
   refine RL.out rfl rfl rfl ?_
   refine RL.go rfl rfl rfl (Ex.pkT (v := (.bool true)) rfl rfl) ?_
   refine RL.go rfl rfl rfl (Ex.mv (v := (.bool true)) rfl) ?_
   refine RL.out rfl rfl rfl ?_
   refine RL.out rfl rfl rfl ?_
   refine RL.out rfl rfl rfl ?_
   refine RL.out rfl rfl rfl ?_
   refine RL.go rfl rfl rfl (Ex.pkT (v := (.bool true)) rfl rfl) ?_
   refine RL.nil (thn.n (CW.condT rfl (CW.seq (CW.region ?_))))
   refine RL.go rfl rfl rfl (Ex.as (v := (.slice none 0 0)) rfl) ?_
   refine RL.go rfl rfl rfl (Ex.as (v := (.bool false)) rfl) ?_
   refine RL.nil (thn.n (CW.ret (thn.r ?_)))
   refine finQ.r (v := (.tuple #[(.slice none 0 0), (.bool false)])) (res2 rfl rfl rfl) ?_
   have H18 := H15.nil_ 33 17
   have hx : joinK k number l = ([], false) := by
     unfold joinK
     rw [if_neg]
     rintro ⟨q1, q2, q3, q4⟩
     first | (rw [q1] at h17; exact absurd rfl h17) | omega | (rw [q4] at h17; cases h17)
   exact ⟨none, 0, 0, by rw [hx], by rw [hx]; exact (H18.sel [0, 2] (by decide) rfl)⟩
  ·skip
   refine RL.go rfl rfl rfl (Ex.mv (v := (.bool false)) rfl) ?_
   refine RL.go rfl rfl rfl (Ex.mv (v := (.int .i64 number)) rfl) ?_
   refine RL.br (p := (number : Int) < (0 : Int)) rfl rfl rfl (fun r hr => Ex.lt rfl rfl hr) (fun h19 => ?_) (fun h19 => ?_)
   ·skip
    refine RL.go rfl rfl rfl (Ex.pkF (v := (.bool true)) rfl rfl) ?_
    refine RL.go rfl rfl rfl (Ex.mv (v := (.bool true)) rfl) ?_
    refine RL.out rfl rfl rfl ?_
    refine RL.out rfl rfl rfl ?_
    refine RL.out rfl rfl rfl ?_
    refine RL.go rfl rfl rfl (Ex.pkT (v := (.bool true)) rfl rfl) ?_
    refine RL.go rfl rfl rfl (Ex.mv (v := (.bool true)) rfl) ?_
    refine RL.out rfl rfl rfl ?_
    refine RL.out rfl rfl rfl ?_
    refine RL.out rfl rfl rfl ?_
    refine RL.out rfl rfl rfl ?_
    refine RL.go rfl rfl rfl (Ex.pkT (v := (.bool true)) rfl rfl) ?_
    refine RL.nil (thn.n (CW.condT rfl (CW.seq (CW.region ?_))))
    refine RL.go rfl rfl rfl (Ex.as (v := (.slice none 0 0)) rfl) ?_
    refine RL.go rfl rfl rfl (Ex.as (v := (.bool false)) rfl) ?_
    refine RL.nil (thn.n (CW.ret (thn.r ?_)))
    refine finQ.r (v := (.tuple #[(.slice none 0 0), (.bool false)])) (res2 rfl rfl rfl) ?_
    have H20 := H15.nil_ 33 17
    have hx : joinK k number l = ([], false) := by
      unfold joinK
      rw [if_neg]
      rintro ⟨q1, q2, q3, q4⟩
      first | (rw [q1] at h17; exact absurd rfl h17) | omega | (rw [q4] at h19; cases h19)
    exact ⟨none, 0, 0, by rw [hx], by rw [hx]; exact (H20.sel [0, 2] (by decide) rfl)⟩
   ·skip
    refine RL.go rfl rfl rfl (Ex.pkF (v := (.bool false)) rfl rfl) ?_
    refine RL.go rfl rfl rfl (Ex.mv (v := (.bool false)) rfl) ?_
    refine RL.go rfl rfl rfl (Ex.mv (v := (.int .i64 number)) rfl) ?_
    refine RL.go rfl rfl rfl (Ex.mv (v := (.int .i64 (lastOf k))) rfl) ?_
    refine RL.br (p := ((lastOf k) : Int) < (number : Int)) rfl rfl rfl (fun r hr => Ex.gt rfl rfl hr) (fun h21 => ?_) (fun h21 => ?_)
    ·skip
     refine RL.go rfl rfl rfl (Ex.pkF (v := (.bool true)) rfl rfl) ?_
     refine RL.go rfl rfl rfl (Ex.mv (v := (.bool true)) rfl) ?_
     refine RL.out rfl rfl rfl ?_
     refine RL.out rfl rfl rfl ?_
     refine RL.out rfl rfl rfl ?_
     refine RL.out rfl rfl rfl ?_
     refine RL.go rfl rfl rfl (Ex.pkT (v := (.bool true)) rfl rfl) ?_
     refine RL.nil (thn.n (CW.condT rfl (CW.seq (CW.region ?_))))
     refine RL.go rfl rfl rfl (Ex.as (v := (.slice none 0 0)) rfl) ?_
     refine RL.go rfl rfl rfl (Ex.as (v := (.bool false)) rfl) ?_
     refine RL.nil (thn.n (CW.ret (thn.r ?_)))
     refine finQ.r (v := (.tuple #[(.slice none 0 0), (.bool false)])) (res2 rfl rfl rfl) ?_
     have H22 := H15.nil_ 33 17
     have hx : joinK k number l = ([], false) := by
       unfold joinK
       rw [if_neg]
       rintro ⟨q1, q2, q3, q4⟩
       first | (rw [q1] at h17; exact absurd rfl h17) | omega | (rw [q4] at h21; cases h21)
     exact ⟨none, 0, 0, by rw [hx], by rw [hx]; exact (H22.sel [0, 2] (by decide) rfl)⟩
    ·skip
     refine RL.go rfl rfl rfl (Ex.pkF (v := (.bool false)) rfl rfl) ?_
     refine RL.go rfl rfl rfl (Ex.mv (v := (.bool false)) rfl) ?_
     refine RL.go rfl rfl rfl (Ex.mv (v := (.slice A2 n2 c2)) rfl) ?_
     refine RL.go rfl rfl rfl (Ex.mv (v := (.int .i64 number)) rfl) ?_
     refine RL.call Tryz.call128 (prow _ _ l A2 n2 c2 number (hr2.st0 (H15.fix (i := 1) rfl)) (by omega) (by first | rfl | assumption | omega) (by omega)) rfl rfl rfl ?_
     rintro _ w23 ⟨rfl, g24⟩
     have H25 := H15.grow g24
     have z26 := g24.size
     rcases hb27 : (follB l number) with _ | _
     ·skip
      refine RL.go rfl rfl rfl (Ex.not (b := false) rfl) ?_
      refine RL.go rfl rfl rfl (Ex.pkF (v := (.bool true)) rfl rfl) ?_
      refine RL.nil (thn.n (CW.condT rfl (CW.seq (CW.region ?_))))
      refine RL.go rfl rfl rfl (Ex.as (v := (.slice none 0 0)) rfl) ?_
      refine RL.go rfl rfl rfl (Ex.as (v := (.bool false)) rfl) ?_
      refine RL.nil (thn.n (CW.ret (thn.r ?_)))
      refine finQ.r (v := (.tuple #[(.slice none 0 0), (.bool false)])) (res2 rfl rfl rfl) ?_
      have H28 := H25.nil_ 33 17
      have hx : joinK k number l = ([], false) := by
        unfold joinK
        rw [if_neg]
        rintro ⟨q1, q2, q3, q4⟩
        first | (rw [q1] at h17; exact absurd rfl h17) | omega | (rw [q4] at hb27; cases hb27)
      exact ⟨none, 0, 0, by rw [hx], by rw [hx]; exact (H28.sel [0, 2] (by decide) rfl)⟩
     ·skip
      refine RL.go rfl rfl rfl (Ex.not (b := true) rfl) ?_
      refine RL.go rfl rfl rfl (Ex.pkF (v := (.bool false)) rfl rfl) ?_
      refine RL.nil (thn.n (CW.condF rfl (CW.skip (thn.n (CW.seq (CW.region ?_))))))
      refine RL.go rfl rfl rfl (Ex.as (v := (.slice none 0 0)) rfl) ?_
      refine RL.nil (thn.n (CW.seq (CW.seq (CW.region ?_))))
      refine RL.go rfl rfl rfl (Ex.mv (v := (.slice A2 n2 c2)) rfl) ?_
      refine RL.go rfl rfl rfl (Ex.len Tryz.underlying22 rfl) ?_
      refine RL.go rfl rfl rfl (Ex.mv (v := (.int .i64 0)) rfl) ?_
      refine RL.nil (thn.n (CW.block ?_))
      have H29 := H25.nil_ 33 17
      refine CW.loop (fun t => Nat.beq t 9 || Nat.beq t 11 || (Nat.ble 34 t && Nat.ble t 47)) (fun nL ρ wl => ∃ (k1 n1 c1 : Nat) (A1 : Option Addr), ρ 34 = (.int .i64 (k1 : Int)) ∧ ρ 9 = (.slice A1 n1 c1) ∧ nL = n2 - k1 ∧ Sp [RowA 33 17 A1 n1 c1 (recsE (((l.take k1).filter (fun e => decide (lastOf k < e.num))))), Fix w NoB] wl ∧ k1 ≤ n2 ∧ n1 ≤ k1) (n2) ?aa0 ?bb0
      case aa0 =>
       exact ⟨0, 0, 0, none, rfl, rfl, rfl, (H29.sel [0, 2] (by decide) rfl), Nat.zero_le _, Nat.le_refl _⟩
      case bb0 =>
       rintro n31 ρ0 w30 ho32 ⟨k1, n1, c1, A1, hs0_34, hs0_9, hn0, H33, hk1, hn1⟩
       obtain ⟨j0, rfl⟩ := ho32.shape2 hs0_34 hs0_9
       clear ho32 hs0_34 hs0_9
       subst hn0
       have z34 := (H33.fix (i := 1) rfl).size
       refine CW.seq (CW.region ?_)
       refine RL.br (p := ((k1 : Int) : Int) < ((n2 : Nat) : Int)) rfl rfl rfl (fun r hr => Ex.lt rfl rfl hr) (fun h35 => ?_) (fun h35 => ?_)
       ·skip
        refine RL.nil (thn.n (CW.seq (CW.condT rfl (CW.skip (thn.n (CW.seq (CW.block (CW.seq (CW.region ?_)))))))))
        obtain ⟨e36, he37⟩ : ∃ e, (l)[k1]? = some e := ⟨_, List.getElem?_eq_getElem (by omega)⟩
        obtain ⟨ad38, hA39⟩ := Rd.sm (hr2.st0 (H33.fix (i := 1) rfl)) (ents_get he37)
        have hl40 := Eng.lt_len (ents_get he37)
        refine RL.go rfl rfl rfl (Ex.ix (b := (ad38.add (k1 * 11))) (i := k1) Tryz.underlying22 Tryz.sizeOf31 (by rw [← hA39]; rfl) rfl (by omega) (by omega) rfl) ?_
        refine RL.go rfl rfl rfl (Ex.ldv rfl (loadCN (cs := e36.cells) wh31 (Rd.cl (hr2.st0 (H33.fix (i := 1) rfl)) hA39 (ents_get he37)))) ?_
        refine RL.al (cs := [(.int .i64 0), (.int .i64 0), (.int .i64 0), (.int .i64 0), (.int .i64 0), (.int .i64 0), (.int .i64 0), (.int .i64 0), (.int .i64 0), (.int .i64 0), (.int .i64 0)]) Tryz.zeroValue31 rfl rfl rfl ?_
        intro w41 b42 hb43 hz44 g45 o46
        have H47 := H33.newB g45 o46 (by omega)
        have z48 := g45.size
        refine RL.st (vs := e36.cells) (cs' := e36.cells) Tryz.sizeOf31 (H47.ob (i := 0) rfl) rfl rfl rfl rfl rfl rfl ?_
        intro w49 hz50 g51 o52
        have H53 : Sp [BlkA b42 31 e36.cells, RowA 33 17 A1 n1 c1 (recsE (((l.take k1).filter (fun e => decide (lastOf k < e.num))))), Fix w NoB] w49 := H47.setB (i := 0) rfl g51 o52 rfl
        have z54 := g51.size
        refine RL.nil (thn.n (CW.seq (CW.region ?_)))
        refine RL.go rfl rfl rfl (fa31_0 (b := ⟨b42, 0, none⟩) rfl rfl) ?_
        refine RL.go rfl rfl rfl (Ex.ldv rfl (loadC1 lo3 (Ob.cell (v := (.int .i64 e36.num)) (H53.ob (i := 0) rfl) rfl))) ?_
        refine RL.go rfl rfl rfl (Ex.mv (v := (.int .i64 (lastOf k))) rfl) ?_
        refine RL.br (p := ((lastOf k) : Int) < (e36.num : Int)) rfl rfl rfl (fun r hr => Ex.gt rfl rfl hr) (fun h55 => ?_) (fun h55 => ?_)
        ·skip
         refine RL.nil (thn.n (CW.condT rfl (CW.region ?_)))
         refine RL.go rfl rfl rfl (Ex.mv (v := (.slice A1 n1 c1)) rfl) ?_
         refine RL.go rfl rfl rfl (Ex.ldv rfl (loadCN (cs := e36.cells) wh31 (H53.ob (i := 0) rfl).cl)) ?_
         refine RL.go rfl rfl rfl (Ex.bd (cs := [(.int .i64 2), (.int .i64 0), (.int .i64 0), (.int .i64 0), (.string (⟨#[]⟩)), (.int .i64 e36.num), (.int .i64 e36.view), (.int .i64 e36.client), (.int .i64 e36.seq), (.int .i64 e36.op.kind), (.int .i64 e36.op.h), (.int .i64 e36.op.i), (.int .i64 e36.op.n), (.int .i64 e36.op.k), (.int .i64 e36.op.v), (.int .i64 e36.op.t), (.slice none 0 0)]) bd33 rfl) ?_
         refine RL.bs (cs := [(.int .i64 2), (.int .i64 0), (.int .i64 0), (.int .i64 0), (.string (⟨#[]⟩)), (.int .i64 e36.num), (.int .i64 e36.view), (.int .i64 e36.client), (.int .i64 e36.seq), (.int .i64 e36.op.kind), (.int .i64 e36.op.h), (.int .i64 e36.op.i), (.int .i64 e36.op.n), (.int .i64 e36.op.k), (.int .i64 e36.op.v), (.int .i64 e36.op.t), (.slice none 0 0)]) Tryz.underlying84 Tryz.sizeOf33 ze84 rfl rfl rfl (by decide) rfl rfl rfl ?_
         intro w56 b57 hb58 hz59 g60 o61
         have H62 := H53.newB g60 o61 (by omega)
         have z63 := g60.size
         refine RL.apW (base := 0) (xss := (recsE (((l.take k1).filter (fun e => decide (lastOf k < e.num)))))) (yss := (recsE ([e36]))) el84 (H62.wr (i := 2) rfl) rfl (Ob.rd1 (H62.ob (i := 0) rfl) rfl) rfl (by simp only [bcs_length, ics_length, rows_length, blks_length, robjs_length, ents_length, List.length_append, List.length_cons, List.length_nil, List.length_take, List.length_drop, List.length_map, enc4, enc8, encN_len, encW_len, recsE_length]; try omega) (recsE_one _) (by omega) (by omega) (by omega) rfl rfl ?_
         intro w65 A66 c67 g68 ow69 nx70
         have H71 : Sp [BlkA b57 33 [(.int .i64 2), (.int .i64 0), (.int .i64 0), (.int .i64 0), (.string (⟨#[]⟩)), (.int .i64 e36.num), (.int .i64 e36.view), (.int .i64 e36.client), (.int .i64 e36.seq), (.int .i64 e36.op.kind), (.int .i64 e36.op.h), (.int .i64 e36.op.i), (.int .i64 e36.op.n), (.int .i64 e36.op.k), (.int .i64 e36.op.v), (.int .i64 e36.op.t), (.slice none 0 0)], BlkA b42 31 e36.cells, RowA 33 17 A66 (n1 + 1) c67 (recsE (((l.take k1).filter (fun e => decide (lastOf k < e.num))) ++ [e36])), Fix w NoB] w65 := H62.setR (i := 2) rfl g68 ((recsE_app _ _).symm ▸ ow69) nx70 rfl
         have z72 := g68.size
         refine RL.go rfl rfl rfl (Ex.as (v := (.slice A66 (n1 + 1) c67)) rfl) ?_
         refine RL.nil (inB.n (thn.n (CW.region ?_)))
         refine RL.go rfl rfl rfl (Ex.add (r := (k1 : Int) + 1) rfl rfl (w64 (by omega) (by omega))) ?_
         refine RL.go rfl rfl rfl (Ex.mv (v := (.int .i64 ((k1 : Int) + 1))) rfl) ?_
         refine RL.nil (thn.n ?_)
         have H73 : Sp [BlkA b57 33 [(.int .i64 2), (.int .i64 0), (.int .i64 0), (.int .i64 0), (.string (⟨#[]⟩)), (.int .i64 e36.num), (.int .i64 e36.view), (.int .i64 e36.client), (.int .i64 e36.seq), (.int .i64 e36.op.kind), (.int .i64 e36.op.h), (.int .i64 e36.op.i), (.int .i64 e36.op.n), (.int .i64 e36.op.k), (.int .i64 e36.op.v), (.int .i64 e36.op.t), (.slice none 0 0)], BlkA b42 31 e36.cells, RowA 33 17 A66 (n1 + 1) c67 (recsE (((l.take (k1 + 1)).filter (fun e => decide (lastOf k < e.num))))), Fix w NoB] w65 := H71.eqR (i := 2) rfl rfl (by rw [filter_snoc he37, if_pos (by simpa using h55)]) rfl
         refine ⟨(by repeat (first | exact Out.mix _ _ | exact Out.refl _ _ | refine Out.up ?_ rfl _)), _, ?_, k1 + 1, n1 + 1, c67, A66, rfl, rfl, rfl, (H73.sel [2, 3] (by decide) rfl), by omega, by omega⟩
         omega
        ·skip
         refine RL.nil (thn.n (CW.condF rfl (CW.skip (inB.n (thn.n (CW.region ?_))))))
         refine RL.go rfl rfl rfl (Ex.add (r := (k1 : Int) + 1) rfl rfl (w64 (by omega) (by omega))) ?_
         refine RL.go rfl rfl rfl (Ex.mv (v := (.int .i64 ((k1 : Int) + 1))) rfl) ?_
         refine RL.nil (thn.n ?_)
         have H74 : Sp [BlkA b42 31 e36.cells, RowA 33 17 A1 n1 c1 (recsE (((l.take (k1 + 1)).filter (fun e => decide (lastOf k < e.num))))), Fix w NoB] w49 := H53.eqR (i := 1) rfl rfl (by rw [filter_snoc he37, if_neg (by simpa using h55), List.append_nil]) rfl
         refine ⟨(by repeat (first | exact Out.mix _ _ | exact Out.refl _ _ | refine Out.up ?_ rfl _)), _, ?_, k1 + 1, n1, c1, A1, rfl, rfl, rfl, (H74.sel [1, 2] (by decide) rfl), by omega, by omega⟩
         omega
       ·skip
        refine RL.nil (thn.n (CW.seq (CW.condF rfl (CW.exit (thn.x (thn.x (inB.hit (thn.n (CW.seq (CW.region ?_))))))))))
        refine RL.go rfl rfl rfl (Ex.mv (v := (.slice A1 n1 c1)) rfl) ?_
        refine RL.go rfl rfl rfl (Ex.as (v := (.slice A1 n1 c1)) rfl) ?_
        refine RL.go rfl rfl rfl (Ex.as (v := (.bool true)) rfl) ?_
        refine RL.nil (thn.n (CW.ret ?_))
        refine finQ.r (v := (.tuple #[(.slice A1 n1 c1), (.bool true)])) (res2 rfl rfl rfl) ?_
        have hkk : l.take k1 = l := List.take_of_length_le (by omega)
        have hkb : keptB k = true := by
                cases hkc : keptB k with
                | true => rfl
                | false => rw [hkc] at h17; exact absurd h17 (by decide)
        have hx : joinK k number l = (l.filter (fun e => decide (lastOf k < e.num)), true) := by
                unfold joinK
                rw [if_pos ⟨hkb, by omega, by omega, hb27⟩]
        rw [hkk] at H33
        exact ⟨_, _, _, by rw [hx], by rw [hx]; exact (H33.sel [0, 1] (by decide) rfl)⟩
set_option maxHeartbeats 1000000 in
set_option maxRecDepth 20000 in
theorem kept3 (w : World)  : Ret Tryz.prog 129 [(.int .i64 3)] w (fun v w' => ∃ (A' : Option Addr) (n' c' : Nat), v = .agg [.int .i64 fk3.view, .int .i64 fk3.normal, .int .i64 fk3.base, .string (tx fk3.image), .slice A' n' c'].toArray ∧ Sp ([RowA 31 11 A' n' c' (ents fk3.ents)] ++ [Fix w NoB]) w') := by
  have H0 : Sp [Fix w NoB] w := Sp.start w
  refine Ret.body Tryz.func129 rfl rfl rfl ?_
  refine CW.seq (CW.region ?_)
  refine RL.al (cs := [(.int .i64 0), (.int .i64 0), (.int .i64 0), (.string (⟨#[]⟩)), (.slice none 0 0)]) Tryz.zeroValue24 rfl rfl rfl ?_
  intro w1 b2 hb3 hz4 g5 o6
  have H7 := H0.newB g5 o6 (by omega)
  have z8 := g5.size
  refine RL.nil (thn.n (CW.seq (CW.region ?_)))
  refine RL.call Tryz.call55 (oplogNew3) rfl rfl rfl ?_
  rintro _ w9 ⟨rfl, g10⟩
  have H11 := H7.grow g10
  have z12 := g10.size
  refine RL.go rfl rfl rfl (Ex.mv (v := (.tuple #[(.agg ([(.int .i64 fk0.view), (.int .i64 fk0.normal), (.int .i64 fk0.base), (.string (tx fk0.image)), (.slice none 0 0)]).toArray), (.int .i64 0)])) rfl) ?_
  refine RL.go rfl rfl rfl (Ex.ext (vs := [(.agg ([(.int .i64 fk0.view), (.int .i64 fk0.normal), (.int .i64 fk0.base), (.string (tx fk0.image)), (.slice none 0 0)]).toArray), (.int .i64 0)]) (v := (.agg ([(.int .i64 fk0.view), (.int .i64 fk0.normal), (.int .i64 fk0.base), (.string (tx fk0.image)), (.slice none 0 0)]).toArray)) rfl rfl) ?_
  refine RL.go rfl rfl rfl (Ex.ext (vs := [(.agg ([(.int .i64 fk0.view), (.int .i64 fk0.normal), (.int .i64 fk0.base), (.string (tx fk0.image)), (.slice none 0 0)]).toArray), (.int .i64 0)]) (v := (.int .i64 0)) rfl rfl) ?_
  refine RL.al (cs := [(.int .i64 0), (.int .i64 0), (.int .i64 0), (.string (⟨#[]⟩)), (.slice none 0 0)]) Tryz.zeroValue24 rfl rfl rfl ?_
  intro w13 b14 hb15 hz16 g17 o18
  have H19 := H11.newB g17 o18 (by omega)
  have z20 := g17.size
  refine RL.st (vs := [(.int .i64 fk0.view), (.int .i64 fk0.normal), (.int .i64 fk0.base), (.string (tx fk0.image)), (.slice none 0 0)]) (cs' := [(.int .i64 fk0.view), (.int .i64 fk0.normal), (.int .i64 fk0.base), (.string (tx fk0.image)), (.slice none 0 0)]) Tryz.sizeOf24 (H19.ob (i := 0) rfl) rfl rfl rfl rfl rfl rfl ?_
  intro w21 hz22 g23 o24
  have H25 : Sp [BlkA b14 24 [(.int .i64 fk0.view), (.int .i64 fk0.normal), (.int .i64 fk0.base), (.string (tx fk0.image)), (.slice none 0 0)], BlkA b2 24 [(.int .i64 0), (.int .i64 0), (.int .i64 0), (.string (⟨#[]⟩)), (.slice none 0 0)], Fix w NoB] w21 := H19.setB (i := 0) rfl g23 o24 rfl
  have z26 := g23.size
  refine RL.go rfl rfl rfl (Ex.as (v := (.int .i64 0)) rfl) ?_
  refine RL.nil (thn.n (CW.seq (CW.seq (CW.region ?_))))
  refine RL.go rfl rfl rfl (Ex.as (v := (.int .i64 1)) rfl) ?_
  refine RL.nil (thn.n (CW.block ?_))
  refine CW.unroll ?_
  refine CL.step ?_
  refine CW.seq (CW.seq ?_)
  refine CW.region ?_
  refine RL.go rfl rfl rfl (Ex.mv (v := (.int .i64 1)) rfl) ?_
  refine RL.go rfl rfl rfl (Ex.mv (v := (.int .i64 3)) rfl) ?_
  refine RL.go rfl rfl rfl (Ex.le (r := true) rfl rfl (by decide)) ?_
  refine RL.nil (thn.n (CW.condT rfl (CW.skip (thn.n (CW.seq (CW.block (CW.seq (CW.region ?_))))))))
  refine RL.go rfl rfl rfl (Ex.ldv rfl (loadCN (cs := [(.int .i64 fk0.view), (.int .i64 fk0.normal), (.int .i64 fk0.base), (.string (tx fk0.image)), (.slice none 0 0)]) wh24 (H25.ob (i := 0) rfl).cl)) ?_
  refine RL.go rfl rfl rfl (Ex.mv (v := (.int .i64 1)) rfl) ?_
  refine RL.go rfl rfl rfl (Ex.bd (cs := [(.int .i64 1), (.int .i64 0), (.int .i64 0), (.int .i64 0), (.int .i64 0), (.int .i64 0), (.int .i64 0), (.int .i64 0), (.int .i64 0), (.int .i64 0), (.int .i64 0)]) bd31 rfl) ?_
  refine RL.go rfl rfl rfl (Ex.bd (cs := [(.int .i64 2), (.int .i64 0), (.int .i64 0), (.int .i64 0), (.string (⟨#[]⟩)), (.int .i64 1), (.int .i64 0), (.int .i64 0), (.int .i64 0), (.int .i64 0), (.int .i64 0), (.int .i64 0), (.int .i64 0), (.int .i64 0), (.int .i64 0), (.int .i64 0), (.slice none 0 0)]) bd33 rfl) ?_
  refine RL.call Tryz.call40 (Fold_ _ w21.heap.size fk0 none 0 0 (Rd.nil_ _ _ 11 none) (by omega) (by first | assumption | rfl | omega | decide +kernel) (by first | assumption | rfl | omega | decide +kernel) (by first | assumption | rfl | omega | decide +kernel) (by first | assumption | rfl | omega | decide +kernel) (laidR 1) none 0 0 ((Rd.nil_ _ _ 11 none)) (by first | assumption | rfl | omega | decide +kernel) (by first | assumption | rfl | omega | decide +kernel) (by first | assumption | rfl | omega | decide +kernel) (by first | assumption | rfl | omega | decide +kernel)) rfl rfl rfl ?_
  rintro _ w30 ⟨A27, n28, c29, rfl, g31⟩
  have g32 := g31.fix (i := 1) rfl
  have H33 : Sp [RowA 31 11 A27 n28 c29 (ents fk1.ents), BlkA b14 24 [(.int .i64 fk0.view), (.int .i64 fk0.normal), (.int .i64 fk0.base), (.string (tx fk0.image)), (.slice none 0 0)], BlkA b2 24 [(.int .i64 0), (.int .i64 0), (.int .i64 0), (.string (⟨#[]⟩)), (.slice none 0 0)], Fix w NoB] w30 := H25.join (m := [RowA 31 11 A27 n28 c29 (ents fk1.ents)]) g31
  have z34 := g32.size
  refine RL.go rfl rfl rfl (Ex.mv (v := (.tuple #[(.agg ([(.int .i64 fk1.view), (.int .i64 fk1.normal), (.int .i64 fk1.base), (.string (tx fk1.image)), (.slice A27 n28 c29)]).toArray), (.int .i64 ((foldK fk0 (laidR 1)).1))])) rfl) ?_
  refine RL.go rfl rfl rfl (Ex.ext (vs := [(.agg ([(.int .i64 fk1.view), (.int .i64 fk1.normal), (.int .i64 fk1.base), (.string (tx fk1.image)), (.slice A27 n28 c29)]).toArray), (.int .i64 ((foldK fk0 (laidR 1)).1))]) (v := (.agg ([(.int .i64 fk1.view), (.int .i64 fk1.normal), (.int .i64 fk1.base), (.string (tx fk1.image)), (.slice A27 n28 c29)]).toArray)) rfl rfl) ?_
  refine RL.go rfl rfl rfl (Ex.ext (vs := [(.agg ([(.int .i64 fk1.view), (.int .i64 fk1.normal), (.int .i64 fk1.base), (.string (tx fk1.image)), (.slice A27 n28 c29)]).toArray), (.int .i64 ((foldK fk0 (laidR 1)).1))]) (v := (.int .i64 ((foldK fk0 (laidR 1)).1))) rfl rfl) ?_
  refine RL.al (cs := [(.int .i64 0), (.int .i64 0), (.int .i64 0), (.string (⟨#[]⟩)), (.slice none 0 0)]) Tryz.zeroValue24 rfl rfl rfl ?_
  intro w35 b36 hb37 hz38 g39 o40
  have H41 := H33.newB g39 o40 (by omega)
  have z42 := g39.size
  refine RL.st (vs := [(.int .i64 fk1.view), (.int .i64 fk1.normal), (.int .i64 fk1.base), (.string (tx fk1.image)), (.slice A27 n28 c29)]) (cs' := [(.int .i64 fk1.view), (.int .i64 fk1.normal), (.int .i64 fk1.base), (.string (tx fk1.image)), (.slice A27 n28 c29)]) Tryz.sizeOf24 (H41.ob (i := 0) rfl) rfl rfl rfl rfl rfl rfl ?_
  intro w43 hz44 g45 o46
  have H47 : Sp [BlkA b36 24 [(.int .i64 fk1.view), (.int .i64 fk1.normal), (.int .i64 fk1.base), (.string (tx fk1.image)), (.slice A27 n28 c29)], RowA 31 11 A27 n28 c29 (ents fk1.ents), BlkA b14 24 [(.int .i64 fk0.view), (.int .i64 fk0.normal), (.int .i64 fk0.base), (.string (tx fk0.image)), (.slice none 0 0)], BlkA b2 24 [(.int .i64 0), (.int .i64 0), (.int .i64 0), (.string (⟨#[]⟩)), (.slice none 0 0)], Fix w NoB] w43 := H41.setB (i := 0) rfl g45 o46 rfl
  have z48 := g45.size
  refine RL.go rfl rfl rfl (Ex.as (v := (.int .i64 ((foldK fk0 (laidR 1)).1))) rfl) ?_
  refine RL.nil (thn.n (CW.region ?_))
  refine RL.go rfl rfl rfl (Ex.ldv rfl (loadCN (cs := [(.int .i64 fk1.view), (.int .i64 fk1.normal), (.int .i64 fk1.base), (.string (tx fk1.image)), (.slice A27 n28 c29)]) wh24 (H47.ob (i := 0) rfl).cl)) ?_
  refine RL.st (vs := [(.int .i64 fk1.view), (.int .i64 fk1.normal), (.int .i64 fk1.base), (.string (tx fk1.image)), (.slice A27 n28 c29)]) (cs' := [(.int .i64 fk1.view), (.int .i64 fk1.normal), (.int .i64 fk1.base), (.string (tx fk1.image)), (.slice A27 n28 c29)]) Tryz.sizeOf24 (H47.ob (i := 2) rfl) rfl rfl rfl rfl rfl rfl ?_
  intro w49 hz50 g51 o52
  have H53 : Sp [BlkA b36 24 [(.int .i64 fk1.view), (.int .i64 fk1.normal), (.int .i64 fk1.base), (.string (tx fk1.image)), (.slice A27 n28 c29)], RowA 31 11 A27 n28 c29 (ents fk1.ents), BlkA b14 24 [(.int .i64 fk1.view), (.int .i64 fk1.normal), (.int .i64 fk1.base), (.string (tx fk1.image)), (.slice A27 n28 c29)], BlkA b2 24 [(.int .i64 0), (.int .i64 0), (.int .i64 0), (.string (⟨#[]⟩)), (.slice none 0 0)], Fix w NoB] w49 := H47.setB (i := 2) rfl g51 o52 rfl
  have z54 := g51.size
  refine RL.nil (inB.n (thn.n (CW.region ?_)))
  refine RL.go rfl rfl rfl (Ex.mv (v := (.int .i64 1)) rfl) ?_
  refine RL.go rfl rfl rfl (Ex.add (r := 2) rfl rfl rfl) ?_
  refine RL.go rfl rfl rfl (Ex.as (v := (.int .i64 2)) rfl) ?_
  refine RL.nil (thn.n ?_)
  refine CL.step ?_
  refine CW.seq (CW.seq ?_)
  refine CW.region ?_
  refine RL.go rfl rfl rfl (Ex.mv (v := (.int .i64 2)) rfl) ?_
  refine RL.go rfl rfl rfl (Ex.mv (v := (.int .i64 3)) rfl) ?_
  refine RL.go rfl rfl rfl (Ex.le (r := true) rfl rfl (by decide)) ?_
  refine RL.nil (thn.n (CW.condT rfl (CW.skip (thn.n (CW.seq (CW.block (CW.seq (CW.region ?_))))))))
  refine RL.go rfl rfl rfl (Ex.ldv rfl (loadCN (cs := [(.int .i64 fk1.view), (.int .i64 fk1.normal), (.int .i64 fk1.base), (.string (tx fk1.image)), (.slice A27 n28 c29)]) wh24 (H53.ob (i := 2) rfl).cl)) ?_
  refine RL.go rfl rfl rfl (Ex.mv (v := (.int .i64 2)) rfl) ?_
  refine RL.go rfl rfl rfl (Ex.bd (cs := [(.int .i64 2), (.int .i64 0), (.int .i64 0), (.int .i64 0), (.int .i64 0), (.int .i64 0), (.int .i64 0), (.int .i64 0), (.int .i64 0), (.int .i64 0), (.int .i64 0)]) bd31 rfl) ?_
  refine RL.go rfl rfl rfl (Ex.bd (cs := [(.int .i64 2), (.int .i64 0), (.int .i64 0), (.int .i64 0), (.string (⟨#[]⟩)), (.int .i64 2), (.int .i64 0), (.int .i64 0), (.int .i64 0), (.int .i64 0), (.int .i64 0), (.int .i64 0), (.int .i64 0), (.int .i64 0), (.int .i64 0), (.int .i64 0), (.slice none 0 0)]) bd33 rfl) ?_
  have hfl55 : fk1.ents.length ≤ 4000 := foldK_len fk0 (laidR 1)
  have hfi56 : fk1.image.length ≤ fk0.image.length + (laidR 1).image.length := foldK_img fk0 (laidR 1)
  have hl57 := H53.len (i := 1) rfl
  rw [ents_length] at hl57
  have hc58 := H53.cap (i := 1) rfl
  refine RL.call Tryz.call40 (Fold_ _ w49.heap.size fk1 A27 n28 c29 (H53.rowrd (i := 1) rfl) (Nat.le_refl _) (by first | assumption | rfl | omega | decide +kernel) (by first | assumption | rfl | omega | decide +kernel) (by first | assumption | rfl | omega | decide +kernel) (by first | assumption | rfl | omega | decide +kernel) (laidR 2) none 0 0 ((Rd.nil_ _ _ 11 none)) (by first | assumption | rfl | omega | decide +kernel) (by first | assumption | rfl | omega | decide +kernel) (by first | assumption | rfl | omega | decide +kernel) (by first | assumption | rfl | omega | decide +kernel)) rfl rfl rfl ?_
  rintro _ w62 ⟨A59, n60, c61, rfl, g63⟩
  have g65 := g63.fix (i := 1) rfl
  have H66 : Sp [RowA 31 11 A59 n60 c61 (ents fk2.ents), BlkA b36 24 [(.int .i64 fk1.view), (.int .i64 fk1.normal), (.int .i64 fk1.base), (.string (tx fk1.image)), (.slice A27 n28 c29)], RowA 31 11 A27 n28 c29 (ents fk1.ents), BlkA b14 24 [(.int .i64 fk1.view), (.int .i64 fk1.normal), (.int .i64 fk1.base), (.string (tx fk1.image)), (.slice A27 n28 c29)], BlkA b2 24 [(.int .i64 0), (.int .i64 0), (.int .i64 0), (.string (⟨#[]⟩)), (.slice none 0 0)], Fix w NoB] w62 := H53.join (m := [RowA 31 11 A59 n60 c61 (ents fk2.ents)]) g63
  have z67 := g65.size
  refine RL.go rfl rfl rfl (Ex.mv (v := (.tuple #[(.agg ([(.int .i64 fk2.view), (.int .i64 fk2.normal), (.int .i64 fk2.base), (.string (tx fk2.image)), (.slice A59 n60 c61)]).toArray), (.int .i64 ((foldK fk1 (laidR 2)).1))])) rfl) ?_
  refine RL.go rfl rfl rfl (Ex.ext (vs := [(.agg ([(.int .i64 fk2.view), (.int .i64 fk2.normal), (.int .i64 fk2.base), (.string (tx fk2.image)), (.slice A59 n60 c61)]).toArray), (.int .i64 ((foldK fk1 (laidR 2)).1))]) (v := (.agg ([(.int .i64 fk2.view), (.int .i64 fk2.normal), (.int .i64 fk2.base), (.string (tx fk2.image)), (.slice A59 n60 c61)]).toArray)) rfl rfl) ?_
  refine RL.go rfl rfl rfl (Ex.ext (vs := [(.agg ([(.int .i64 fk2.view), (.int .i64 fk2.normal), (.int .i64 fk2.base), (.string (tx fk2.image)), (.slice A59 n60 c61)]).toArray), (.int .i64 ((foldK fk1 (laidR 2)).1))]) (v := (.int .i64 ((foldK fk1 (laidR 2)).1))) rfl rfl) ?_
  refine RL.al (cs := [(.int .i64 0), (.int .i64 0), (.int .i64 0), (.string (⟨#[]⟩)), (.slice none 0 0)]) Tryz.zeroValue24 rfl rfl rfl ?_
  intro w68 b69 hb70 hz71 g72 o73
  have H74 := H66.newB g72 o73 (by omega)
  have z75 := g72.size
  refine RL.st (vs := [(.int .i64 fk2.view), (.int .i64 fk2.normal), (.int .i64 fk2.base), (.string (tx fk2.image)), (.slice A59 n60 c61)]) (cs' := [(.int .i64 fk2.view), (.int .i64 fk2.normal), (.int .i64 fk2.base), (.string (tx fk2.image)), (.slice A59 n60 c61)]) Tryz.sizeOf24 (H74.ob (i := 0) rfl) rfl rfl rfl rfl rfl rfl ?_
  intro w76 hz77 g78 o79
  have H80 : Sp [BlkA b69 24 [(.int .i64 fk2.view), (.int .i64 fk2.normal), (.int .i64 fk2.base), (.string (tx fk2.image)), (.slice A59 n60 c61)], RowA 31 11 A59 n60 c61 (ents fk2.ents), BlkA b36 24 [(.int .i64 fk1.view), (.int .i64 fk1.normal), (.int .i64 fk1.base), (.string (tx fk1.image)), (.slice A27 n28 c29)], RowA 31 11 A27 n28 c29 (ents fk1.ents), BlkA b14 24 [(.int .i64 fk1.view), (.int .i64 fk1.normal), (.int .i64 fk1.base), (.string (tx fk1.image)), (.slice A27 n28 c29)], BlkA b2 24 [(.int .i64 0), (.int .i64 0), (.int .i64 0), (.string (⟨#[]⟩)), (.slice none 0 0)], Fix w NoB] w76 := H74.setB (i := 0) rfl g78 o79 rfl
  have z81 := g78.size
  refine RL.go rfl rfl rfl (Ex.as (v := (.int .i64 ((foldK fk1 (laidR 2)).1))) rfl) ?_
  refine RL.nil (thn.n (CW.region ?_))
  refine RL.go rfl rfl rfl (Ex.ldv rfl (loadCN (cs := [(.int .i64 fk2.view), (.int .i64 fk2.normal), (.int .i64 fk2.base), (.string (tx fk2.image)), (.slice A59 n60 c61)]) wh24 (H80.ob (i := 0) rfl).cl)) ?_
  refine RL.st (vs := [(.int .i64 fk2.view), (.int .i64 fk2.normal), (.int .i64 fk2.base), (.string (tx fk2.image)), (.slice A59 n60 c61)]) (cs' := [(.int .i64 fk2.view), (.int .i64 fk2.normal), (.int .i64 fk2.base), (.string (tx fk2.image)), (.slice A59 n60 c61)]) Tryz.sizeOf24 (H80.ob (i := 4) rfl) rfl rfl rfl rfl rfl rfl ?_
  intro w82 hz83 g84 o85
  have H86 : Sp [BlkA b69 24 [(.int .i64 fk2.view), (.int .i64 fk2.normal), (.int .i64 fk2.base), (.string (tx fk2.image)), (.slice A59 n60 c61)], RowA 31 11 A59 n60 c61 (ents fk2.ents), BlkA b36 24 [(.int .i64 fk1.view), (.int .i64 fk1.normal), (.int .i64 fk1.base), (.string (tx fk1.image)), (.slice A27 n28 c29)], RowA 31 11 A27 n28 c29 (ents fk1.ents), BlkA b14 24 [(.int .i64 fk2.view), (.int .i64 fk2.normal), (.int .i64 fk2.base), (.string (tx fk2.image)), (.slice A59 n60 c61)], BlkA b2 24 [(.int .i64 0), (.int .i64 0), (.int .i64 0), (.string (⟨#[]⟩)), (.slice none 0 0)], Fix w NoB] w82 := H80.setB (i := 4) rfl g84 o85 rfl
  have z87 := g84.size
  refine RL.nil (inB.n (thn.n (CW.region ?_)))
  refine RL.go rfl rfl rfl (Ex.mv (v := (.int .i64 2)) rfl) ?_
  refine RL.go rfl rfl rfl (Ex.add (r := 3) rfl rfl rfl) ?_
  refine RL.go rfl rfl rfl (Ex.as (v := (.int .i64 3)) rfl) ?_
  refine RL.nil (thn.n ?_)
  refine CL.step ?_
  refine CW.seq (CW.seq ?_)
  refine CW.region ?_
  refine RL.go rfl rfl rfl (Ex.mv (v := (.int .i64 3)) rfl) ?_
  refine RL.go rfl rfl rfl (Ex.mv (v := (.int .i64 3)) rfl) ?_
  refine RL.go rfl rfl rfl (Ex.le (r := true) rfl rfl (by decide)) ?_
  refine RL.nil (thn.n (CW.condT rfl (CW.skip (thn.n (CW.seq (CW.block (CW.seq (CW.region ?_))))))))
  refine RL.go rfl rfl rfl (Ex.ldv rfl (loadCN (cs := [(.int .i64 fk2.view), (.int .i64 fk2.normal), (.int .i64 fk2.base), (.string (tx fk2.image)), (.slice A59 n60 c61)]) wh24 (H86.ob (i := 4) rfl).cl)) ?_
  refine RL.go rfl rfl rfl (Ex.mv (v := (.int .i64 3)) rfl) ?_
  refine RL.go rfl rfl rfl (Ex.bd (cs := [(.int .i64 3), (.int .i64 0), (.int .i64 0), (.int .i64 0), (.int .i64 0), (.int .i64 0), (.int .i64 0), (.int .i64 0), (.int .i64 0), (.int .i64 0), (.int .i64 0)]) bd31 rfl) ?_
  refine RL.go rfl rfl rfl (Ex.bd (cs := [(.int .i64 2), (.int .i64 0), (.int .i64 0), (.int .i64 0), (.string (⟨#[]⟩)), (.int .i64 3), (.int .i64 0), (.int .i64 0), (.int .i64 0), (.int .i64 0), (.int .i64 0), (.int .i64 0), (.int .i64 0), (.int .i64 0), (.int .i64 0), (.int .i64 0), (.slice none 0 0)]) bd33 rfl) ?_
  have hfl88 : fk2.ents.length ≤ 4000 := foldK_len fk1 (laidR 2)
  have hfi89 : fk2.image.length ≤ fk1.image.length + (laidR 2).image.length := foldK_img fk1 (laidR 2)
  have hl90 := H86.len (i := 1) rfl
  rw [ents_length] at hl90
  have hc91 := H86.cap (i := 1) rfl
  refine RL.call Tryz.call40 (Fold_ _ w82.heap.size fk2 A59 n60 c61 (H86.rowrd (i := 1) rfl) (Nat.le_refl _) (by first | assumption | rfl | omega | decide +kernel) (by first | assumption | rfl | omega | decide +kernel) (by first | assumption | rfl | omega | decide +kernel) (by first | assumption | rfl | omega | decide +kernel) (laidR 3) none 0 0 ((Rd.nil_ _ _ 11 none)) (by first | assumption | rfl | omega | decide +kernel) (by first | assumption | rfl | omega | decide +kernel) (by first | assumption | rfl | omega | decide +kernel) (by first | assumption | rfl | omega | decide +kernel)) rfl rfl rfl ?_
  rintro _ w95 ⟨A92, n93, c94, rfl, g96⟩
  have g97 := g96.fix (i := 1) rfl
  have H98 : Sp [RowA 31 11 A92 n93 c94 (ents fk3.ents), BlkA b69 24 [(.int .i64 fk2.view), (.int .i64 fk2.normal), (.int .i64 fk2.base), (.string (tx fk2.image)), (.slice A59 n60 c61)], RowA 31 11 A59 n60 c61 (ents fk2.ents), BlkA b36 24 [(.int .i64 fk1.view), (.int .i64 fk1.normal), (.int .i64 fk1.base), (.string (tx fk1.image)), (.slice A27 n28 c29)], RowA 31 11 A27 n28 c29 (ents fk1.ents), BlkA b14 24 [(.int .i64 fk2.view), (.int .i64 fk2.normal), (.int .i64 fk2.base), (.string (tx fk2.image)), (.slice A59 n60 c61)], BlkA b2 24 [(.int .i64 0), (.int .i64 0), (.int .i64 0), (.string (⟨#[]⟩)), (.slice none 0 0)], Fix w NoB] w95 := H86.join (m := [RowA 31 11 A92 n93 c94 (ents fk3.ents)]) g96
  have z99 := g97.size
  refine RL.go rfl rfl rfl (Ex.mv (v := (.tuple #[(.agg ([(.int .i64 fk3.view), (.int .i64 fk3.normal), (.int .i64 fk3.base), (.string (tx fk3.image)), (.slice A92 n93 c94)]).toArray), (.int .i64 ((foldK fk2 (laidR 3)).1))])) rfl) ?_
  refine RL.go rfl rfl rfl (Ex.ext (vs := [(.agg ([(.int .i64 fk3.view), (.int .i64 fk3.normal), (.int .i64 fk3.base), (.string (tx fk3.image)), (.slice A92 n93 c94)]).toArray), (.int .i64 ((foldK fk2 (laidR 3)).1))]) (v := (.agg ([(.int .i64 fk3.view), (.int .i64 fk3.normal), (.int .i64 fk3.base), (.string (tx fk3.image)), (.slice A92 n93 c94)]).toArray)) rfl rfl) ?_
  refine RL.go rfl rfl rfl (Ex.ext (vs := [(.agg ([(.int .i64 fk3.view), (.int .i64 fk3.normal), (.int .i64 fk3.base), (.string (tx fk3.image)), (.slice A92 n93 c94)]).toArray), (.int .i64 ((foldK fk2 (laidR 3)).1))]) (v := (.int .i64 ((foldK fk2 (laidR 3)).1))) rfl rfl) ?_
  refine RL.al (cs := [(.int .i64 0), (.int .i64 0), (.int .i64 0), (.string (⟨#[]⟩)), (.slice none 0 0)]) Tryz.zeroValue24 rfl rfl rfl ?_
  intro w100 b101 hb102 hz103 g104 o105
  have H106 := H98.newB g104 o105 (by omega)
  have z107 := g104.size
  refine RL.st (vs := [(.int .i64 fk3.view), (.int .i64 fk3.normal), (.int .i64 fk3.base), (.string (tx fk3.image)), (.slice A92 n93 c94)]) (cs' := [(.int .i64 fk3.view), (.int .i64 fk3.normal), (.int .i64 fk3.base), (.string (tx fk3.image)), (.slice A92 n93 c94)]) Tryz.sizeOf24 (H106.ob (i := 0) rfl) rfl rfl rfl rfl rfl rfl ?_
  intro w108 hz109 g110 o111
  have H112 : Sp [BlkA b101 24 [(.int .i64 fk3.view), (.int .i64 fk3.normal), (.int .i64 fk3.base), (.string (tx fk3.image)), (.slice A92 n93 c94)], RowA 31 11 A92 n93 c94 (ents fk3.ents), BlkA b69 24 [(.int .i64 fk2.view), (.int .i64 fk2.normal), (.int .i64 fk2.base), (.string (tx fk2.image)), (.slice A59 n60 c61)], RowA 31 11 A59 n60 c61 (ents fk2.ents), BlkA b36 24 [(.int .i64 fk1.view), (.int .i64 fk1.normal), (.int .i64 fk1.base), (.string (tx fk1.image)), (.slice A27 n28 c29)], RowA 31 11 A27 n28 c29 (ents fk1.ents), BlkA b14 24 [(.int .i64 fk2.view), (.int .i64 fk2.normal), (.int .i64 fk2.base), (.string (tx fk2.image)), (.slice A59 n60 c61)], BlkA b2 24 [(.int .i64 0), (.int .i64 0), (.int .i64 0), (.string (⟨#[]⟩)), (.slice none 0 0)], Fix w NoB] w108 := H106.setB (i := 0) rfl g110 o111 rfl
  have z113 := g110.size
  refine RL.go rfl rfl rfl (Ex.as (v := (.int .i64 ((foldK fk2 (laidR 3)).1))) rfl) ?_
  refine RL.nil (thn.n (CW.region ?_))
  refine RL.go rfl rfl rfl (Ex.ldv rfl (loadCN (cs := [(.int .i64 fk3.view), (.int .i64 fk3.normal), (.int .i64 fk3.base), (.string (tx fk3.image)), (.slice A92 n93 c94)]) wh24 (H112.ob (i := 0) rfl).cl)) ?_
  refine RL.st (vs := [(.int .i64 fk3.view), (.int .i64 fk3.normal), (.int .i64 fk3.base), (.string (tx fk3.image)), (.slice A92 n93 c94)]) (cs' := [(.int .i64 fk3.view), (.int .i64 fk3.normal), (.int .i64 fk3.base), (.string (tx fk3.image)), (.slice A92 n93 c94)]) Tryz.sizeOf24 (H112.ob (i := 6) rfl) rfl rfl rfl rfl rfl rfl ?_
  intro w114 hz115 g116 o117
  have H118 : Sp [BlkA b101 24 [(.int .i64 fk3.view), (.int .i64 fk3.normal), (.int .i64 fk3.base), (.string (tx fk3.image)), (.slice A92 n93 c94)], RowA 31 11 A92 n93 c94 (ents fk3.ents), BlkA b69 24 [(.int .i64 fk2.view), (.int .i64 fk2.normal), (.int .i64 fk2.base), (.string (tx fk2.image)), (.slice A59 n60 c61)], RowA 31 11 A59 n60 c61 (ents fk2.ents), BlkA b36 24 [(.int .i64 fk1.view), (.int .i64 fk1.normal), (.int .i64 fk1.base), (.string (tx fk1.image)), (.slice A27 n28 c29)], RowA 31 11 A27 n28 c29 (ents fk1.ents), BlkA b14 24 [(.int .i64 fk3.view), (.int .i64 fk3.normal), (.int .i64 fk3.base), (.string (tx fk3.image)), (.slice A92 n93 c94)], BlkA b2 24 [(.int .i64 0), (.int .i64 0), (.int .i64 0), (.string (⟨#[]⟩)), (.slice none 0 0)], Fix w NoB] w114 := H112.setB (i := 6) rfl g116 o117 rfl
  have z119 := g116.size
  refine RL.nil (inB.n (thn.n (CW.region ?_)))
  refine RL.go rfl rfl rfl (Ex.mv (v := (.int .i64 3)) rfl) ?_
  refine RL.go rfl rfl rfl (Ex.add (r := 4) rfl rfl rfl) ?_
  refine RL.go rfl rfl rfl (Ex.as (v := (.int .i64 4)) rfl) ?_
  refine RL.nil (thn.n ?_)
  refine CL.step ?_
  refine CW.seq (CW.seq ?_)
  refine CW.region ?_
  refine RL.go rfl rfl rfl (Ex.mv (v := (.int .i64 4)) rfl) ?_
  refine RL.go rfl rfl rfl (Ex.mv (v := (.int .i64 3)) rfl) ?_
  refine RL.go rfl rfl rfl (Ex.le (r := false) rfl rfl (by decide)) ?_
  refine RL.nil (thn.n (CW.condF rfl (CW.exit (thn.x (thn.x (inB.hit (thn.n (CW.seq (CW.region ?_)))))))))
  refine RL.go rfl rfl rfl (Ex.ldv rfl (loadCN (cs := [(.int .i64 fk3.view), (.int .i64 fk3.normal), (.int .i64 fk3.base), (.string (tx fk3.image)), (.slice A92 n93 c94)]) wh24 (H118.ob (i := 6) rfl).cl)) ?_
  refine RL.st (vs := [(.int .i64 fk3.view), (.int .i64 fk3.normal), (.int .i64 fk3.base), (.string (tx fk3.image)), (.slice A92 n93 c94)]) (cs' := [(.int .i64 fk3.view), (.int .i64 fk3.normal), (.int .i64 fk3.base), (.string (tx fk3.image)), (.slice A92 n93 c94)]) Tryz.sizeOf24 (H118.ob (i := 7) rfl) rfl rfl rfl rfl rfl rfl ?_
  intro w120 hz121 g122 o123
  have H124 : Sp [BlkA b101 24 [(.int .i64 fk3.view), (.int .i64 fk3.normal), (.int .i64 fk3.base), (.string (tx fk3.image)), (.slice A92 n93 c94)], RowA 31 11 A92 n93 c94 (ents fk3.ents), BlkA b69 24 [(.int .i64 fk2.view), (.int .i64 fk2.normal), (.int .i64 fk2.base), (.string (tx fk2.image)), (.slice A59 n60 c61)], RowA 31 11 A59 n60 c61 (ents fk2.ents), BlkA b36 24 [(.int .i64 fk1.view), (.int .i64 fk1.normal), (.int .i64 fk1.base), (.string (tx fk1.image)), (.slice A27 n28 c29)], RowA 31 11 A27 n28 c29 (ents fk1.ents), BlkA b14 24 [(.int .i64 fk3.view), (.int .i64 fk3.normal), (.int .i64 fk3.base), (.string (tx fk3.image)), (.slice A92 n93 c94)], BlkA b2 24 [(.int .i64 fk3.view), (.int .i64 fk3.normal), (.int .i64 fk3.base), (.string (tx fk3.image)), (.slice A92 n93 c94)], Fix w NoB] w120 := H118.setB (i := 7) rfl g122 o123 rfl
  have z125 := g122.size
  refine RL.nil (thn.n (CW.ret ?_))
  refine finQ.r (v := (.agg ([(.int .i64 fk3.view), (.int .i64 fk3.normal), (.int .i64 fk3.base), (.string (tx fk3.image)), (.slice A92 n93 c94)]).toArray)) (resv1 rfl (Rv.cell rfl (loadCN (cs := [(.int .i64 fk3.view), (.int .i64 fk3.normal), (.int .i64 fk3.base), (.string (tx fk3.image)), (.slice A92 n93 c94)]) wh24 (H124.ob (i := 7) rfl).cl))) ?_
  exact ⟨_, _, _, rfl, (H124.sel [1, 8] (by decide) rfl)⟩
set_option maxHeartbeats 1000000 in
set_option maxRecDepth 20000 in
theorem joins16 (w : World)  : Ret Tryz.prog 64 [] w (fun v w' => v = .bool true ∧ w.grownBy w' none) := by
  have H0 : Sp [Fix w NoB] w := Sp.start w
  refine Ret.body Tryz.func64 rfl rfl rfl ?_
  refine CW.seq (CW.region ?_)
  refine RL.go rfl rfl rfl (Ex.as (v := (.bool false)) rfl) ?_
  refine RL.nil (thn.n (CW.seq (CW.region ?_)))
  refine RL.call Tryz.call129 (kept3 _) rfl rfl rfl ?_
  rintro _ w4 ⟨A1, n2, c3, rfl, g5⟩
  have g6 := g5.fix (i := 1) rfl
  have H7 : Sp [RowA 31 11 A1 n2 c3 (ents fk3.ents), Fix w NoB] w4 := H0.join (m := [RowA 31 11 A1 n2 c3 (ents fk3.ents)]) g5
  have z8 := g6.size
  refine RL.al (cs := [(.int .i64 0), (.int .i64 0), (.int .i64 0), (.string (⟨#[]⟩)), (.slice none 0 0)]) Tryz.zeroValue24 rfl rfl rfl ?_
  intro w9 b10 hb11 hz12 g13 o14
  have H15 := H7.newB g13 o14 (by omega)
  have z16 := g13.size
  refine RL.st (vs := [(.int .i64 fk3.view), (.int .i64 fk3.normal), (.int .i64 fk3.base), (.string (tx fk3.image)), (.slice A1 n2 c3)]) (cs' := [(.int .i64 fk3.view), (.int .i64 fk3.normal), (.int .i64 fk3.base), (.string (tx fk3.image)), (.slice A1 n2 c3)]) Tryz.sizeOf24 (H15.ob (i := 0) rfl) rfl rfl rfl rfl rfl rfl ?_
  intro w17 hz18 g19 o20
  have H21 : Sp [BlkA b10 24 [(.int .i64 fk3.view), (.int .i64 fk3.normal), (.int .i64 fk3.base), (.string (tx fk3.image)), (.slice A1 n2 c3)], RowA 31 11 A1 n2 c3 (ents fk3.ents), Fix w NoB] w17 := H15.setB (i := 0) rfl g19 o20 rfl
  have z22 := g19.size
  refine RL.nil (thn.n (CW.seq (CW.region ?_)))
  refine RL.go rfl rfl rfl (Ex.ldv rfl (loadCN (cs := [(.int .i64 fk3.view), (.int .i64 fk3.normal), (.int .i64 fk3.base), (.string (tx fk3.image)), (.slice A1 n2 c3)]) wh24 (H21.ob (i := 0) rfl).cl)) ?_
  refine RL.go rfl rfl rfl (Ex.bd (cs := [(.int .i64 3), (.int .i64 0), (.int .i64 0), (.int .i64 0), (.int .i64 0), (.int .i64 0), (.int .i64 0), (.int .i64 0), (.int .i64 0), (.int .i64 0), (.int .i64 0)]) bd31 rfl) ?_
  refine RL.go rfl rfl rfl (Ex.bd (cs := [(.int .i64 4), (.int .i64 0), (.int .i64 0), (.int .i64 0), (.int .i64 0), (.int .i64 0), (.int .i64 0), (.int .i64 0), (.int .i64 0), (.int .i64 0), (.int .i64 0)]) bd31 rfl) ?_
  refine RL.bs (cs := [(.int .i64 3), (.int .i64 0), (.int .i64 0), (.int .i64 0), (.int .i64 0), (.int .i64 0), (.int .i64 0), (.int .i64 0), (.int .i64 0), (.int .i64 0), (.int .i64 0), (.int .i64 4), (.int .i64 0), (.int .i64 0), (.int .i64 0), (.int .i64 0), (.int .i64 0), (.int .i64 0), (.int .i64 0), (.int .i64 0), (.int .i64 0), (.int .i64 0)]) Tryz.underlying22 Tryz.sizeOf31 ze22 rfl rfl rfl (by decide) rfl rfl rfl ?_
  intro w23 b24 hb25 hz26 g27 o28
  have H29 := H21.newB g27 o28 (by omega)
  have z30 := g27.size
  have hfl31 : fk3.ents.length ≤ 4000 := foldK_len _ _
  have hfi32 : fk3.image.length ≤ 4136 := (by decide +kernel)
  have hl33 := H29.len (i := 2) rfl
  rw [ents_length] at hl33
  have hc34 := H29.cap (i := 2) rfl
  refine RL.call Tryz.call63 (join_ _ w23.heap.size fk3 A1 n2 c3 (H29.rowrd (i := 2) rfl) (Nat.le_refl _) (by first | assumption | rfl | omega | decide +kernel) (by first | assumption | rfl | omega | decide +kernel) (by first | assumption | rfl | omega | decide +kernel) (by first | assumption | rfl | omega | decide +kernel) 2 jl34 (some ⟨b24, 0, none⟩) 2 2 ((Ob.rdL (xss := ents [(⟨3, 0, 0, 0, ⟨0, 0, 0, 0, 0, 0, 0⟩⟩ : Entry), (⟨4, 0, 0, 0, ⟨0, 0, 0, 0, 0, 0, 0⟩⟩ : Entry)]) (H29.ob (i := 0) rfl) rfl (ents_k _)).more (by have := (H29.ob (i := 0) rfl).lt; omega)) (by first | assumption | rfl | omega | decide +kernel) (by first | assumption | rfl | omega | decide +kernel)) rfl rfl rfl ?_
  rintro _ w38 ⟨A35, n36, c37, rfl, g39⟩
  have g40 := g39.fix (i := 1) rfl
  have H41 : Sp [RowA 33 17 A35 n36 c37 (recsE ((joinK fk3 2 jl34).1)), BlkA b24 31 [(.int .i64 3), (.int .i64 0), (.int .i64 0), (.int .i64 0), (.int .i64 0), (.int .i64 0), (.int .i64 0), (.int .i64 0), (.int .i64 0), (.int .i64 0), (.int .i64 0), (.int .i64 4), (.int .i64 0), (.int .i64 0), (.int .i64 0), (.int .i64 0), (.int .i64 0), (.int .i64 0), (.int .i64 0), (.int .i64 0), (.int .i64 0), (.int .i64 0)], BlkA b10 24 [(.int .i64 fk3.view), (.int .i64 fk3.normal), (.int .i64 fk3.base), (.string (tx fk3.image)), (.slice A1 n2 c3)], RowA 31 11 A1 n2 c3 (ents fk3.ents), Fix w NoB] w38 := H29.join (m := [RowA 33 17 A35 n36 c37 (recsE ((joinK fk3 2 jl34).1))]) g39
  have z42 := g40.size
  refine RL.go rfl rfl rfl (Ex.mv (v := (.tuple #[(.slice A35 n36 c37), (.bool ((joinK fk3 2 jl34).2))])) rfl) ?_
  refine RL.go rfl rfl rfl (Ex.ext (vs := [(.slice A35 n36 c37), (.bool ((joinK fk3 2 jl34).2))]) (v := (.slice A35 n36 c37)) rfl rfl) ?_
  refine RL.go rfl rfl rfl (Ex.ext (vs := [(.slice A35 n36 c37), (.bool ((joinK fk3 2 jl34).2))]) (v := (.bool ((joinK fk3 2 jl34).2))) rfl rfl) ?_
  refine RL.go rfl rfl rfl (Ex.as (v := (.slice A35 n36 c37)) rfl) ?_
  refine RL.go rfl rfl rfl (Ex.as (v := (.bool ((joinK fk3 2 jl34).2))) rfl) ?_
  refine RL.nil (thn.n (CW.seq (CW.region ?_)))
  refine RL.go rfl rfl rfl (Ex.ldv rfl (loadCN (cs := [(.int .i64 fk3.view), (.int .i64 fk3.normal), (.int .i64 fk3.base), (.string (tx fk3.image)), (.slice A1 n2 c3)]) wh24 (H41.ob (i := 2) rfl).cl)) ?_
  have hfl43 : fk3.ents.length ≤ 4000 := foldK_len _ _
  have hfi44 : fk3.image.length ≤ 4136 := (by decide +kernel)
  have hl45 := H41.len (i := 3) rfl
  rw [ents_length] at hl45
  have hc46 := H41.cap (i := 3) rfl
  refine RL.call Tryz.call63 (join_ _ w38.heap.size fk3 A1 n2 c3 (H41.rowrd (i := 3) rfl) (Nat.le_refl _) (by first | assumption | rfl | omega | decide +kernel) (by first | assumption | rfl | omega | decide +kernel) (by first | assumption | rfl | omega | decide +kernel) (by first | assumption | rfl | omega | decide +kernel) 4 ([]) none 0 0 (Rd.nil_ _ _ 11 none) (by first | assumption | rfl | omega | decide +kernel) (by first | assumption | rfl | omega | decide +kernel)) rfl rfl rfl ?_
  rintro _ w50 ⟨A47, n48, c49, rfl, g51⟩
  have g52 := g51.fix (i := 1) rfl
  have H53 : Sp [RowA 33 17 A47 n48 c49 (recsE ((joinK fk3 4 ([])).1)), RowA 33 17 A35 n36 c37 (recsE ((joinK fk3 2 jl34).1)), BlkA b24 31 [(.int .i64 3), (.int .i64 0), (.int .i64 0), (.int .i64 0), (.int .i64 0), (.int .i64 0), (.int .i64 0), (.int .i64 0), (.int .i64 0), (.int .i64 0), (.int .i64 0), (.int .i64 4), (.int .i64 0), (.int .i64 0), (.int .i64 0), (.int .i64 0), (.int .i64 0), (.int .i64 0), (.int .i64 0), (.int .i64 0), (.int .i64 0), (.int .i64 0)], BlkA b10 24 [(.int .i64 fk3.view), (.int .i64 fk3.normal), (.int .i64 fk3.base), (.string (tx fk3.image)), (.slice A1 n2 c3)], RowA 31 11 A1 n2 c3 (ents fk3.ents), Fix w NoB] w50 := H41.join (m := [RowA 33 17 A47 n48 c49 (recsE ((joinK fk3 4 ([])).1))]) g51
  have z54 := g52.size
  refine RL.go rfl rfl rfl (Ex.mv (v := (.tuple #[(.slice A47 n48 c49), (.bool ((joinK fk3 4 ([])).2))])) rfl) ?_
  refine RL.go rfl rfl rfl (Ex.ext (vs := [(.slice A47 n48 c49), (.bool ((joinK fk3 4 ([])).2))]) (v := (.slice A47 n48 c49)) rfl rfl) ?_
  refine RL.go rfl rfl rfl (Ex.ext (vs := [(.slice A47 n48 c49), (.bool ((joinK fk3 4 ([])).2))]) (v := (.bool ((joinK fk3 4 ([])).2))) rfl rfl) ?_
  refine RL.go rfl rfl rfl (Ex.as (v := (.slice A47 n48 c49)) rfl) ?_
  refine RL.go rfl rfl rfl (Ex.as (v := (.bool ((joinK fk3 4 ([])).2))) rfl) ?_
  refine RL.nil (thn.n (CW.seq (CW.region ?_)))
  refine RL.go rfl rfl rfl (Ex.mv (v := .bool true) (by show Value.bool (joinK fk3 2 jl34).2 = _; rw [joins_e])) ?_
  have hje := joins_e
  have hl55 := H53.len (i := 1) rfl
  rw [recsE_length] at hl55
  have hl1 : (joinK fk3 2 jl34).1.length = 1 := by rw [joins_e]; rfl
  refine RL.go rfl rfl rfl (Ex.mv (v := (.bool true)) rfl) ?_
  refine RL.go rfl rfl rfl (Ex.mv (v := (.slice A35 n36 c37)) rfl) ?_
  refine RL.go rfl rfl rfl (Ex.len Tryz.underlying84 rfl) ?_
  refine RL.go rfl rfl rfl (Ex.eqD (r := true) rfl rfl (decide_eq_true (by omega))) ?_
  refine RL.go rfl rfl rfl (Ex.pkT (v := (.bool true)) rfl rfl) ?_
  refine RL.go rfl rfl rfl (Ex.mv (v := (.bool true)) rfl) ?_
  refine RL.go rfl rfl rfl (Ex.mv (v := (.slice A35 n36 c37)) rfl) ?_
  obtain ⟨e56, he57⟩ : ∃ e, ((joinK fk3 2 jl34).1)[0]? = some e := ⟨_, List.getElem?_eq_getElem (by omega)⟩
  obtain ⟨ad58, hA59⟩ := Rd.sm (H53.rowrd (i := 1) rfl) (recsE_get he57)
  have hl60 := Eng.lt_len (recsE_get he57)
  refine RL.go rfl rfl rfl (Ex.ix (b := (ad58.add (0 * 17))) (i := 0) Tryz.underlying84 Tryz.sizeOf33 (by rw [← hA59]; rfl) rfl (by omega) (by omega) rfl) ?_
  refine RL.go rfl rfl rfl (fa33_0 (b := ((ad58.add (0 * 17)))) rfl rfl) ?_
  refine RL.go rfl rfl rfl (Ex.ldv rfl (loadC1 lo26 (Cl.at_ (v := (.int .i64 2)) (Rd.cl (H53.rowrd (i := 1) rfl) hA59 (recsE_get he57)) (i := 0) rfl))) ?_
  refine RL.go rfl rfl rfl (Ex.eqD (r := true) rfl rfl (by decide)) ?_
  refine RL.go rfl rfl rfl (Ex.pkT (v := (.bool true)) rfl rfl) ?_
  refine RL.go rfl rfl rfl (Ex.mv (v := (.bool true)) rfl) ?_
  refine RL.go rfl rfl rfl (Ex.mv (v := (.slice A35 n36 c37)) rfl) ?_
  obtain ⟨e61, he62⟩ : ∃ e, ((joinK fk3 2 jl34).1)[0]? = some e := ⟨_, List.getElem?_eq_getElem (by omega)⟩
  obtain ⟨ad63, hA65⟩ := Rd.sm (H53.rowrd (i := 1) rfl) (recsE_get he62)
  have hl66 := Eng.lt_len (recsE_get he62)
  refine RL.go rfl rfl rfl (Ex.ix (b := (ad63.add (0 * 17))) (i := 0) Tryz.underlying84 Tryz.sizeOf33 (by rw [← hA65]; rfl) rfl (by omega) (by omega) rfl) ?_
  refine RL.go rfl rfl rfl (fa33_5 (b := (((ad63.add (0 * 17))).add 5)) rfl rfl) ?_
  refine RL.go rfl rfl rfl (fa31_0 (b := (((ad63.add (0 * 17))).add 5)) rfl rfl) ?_
  refine RL.go rfl rfl rfl (Ex.ldv rfl (loadC1 lo3 (Cl.at_ (v := (.int .i64 e61.num)) (Rd.cl (H53.rowrd (i := 1) rfl) hA65 (recsE_get he62)) (i := 5) rfl))) ?_
  have h4 : e61 = entR 4 := by rw [joins_e] at he62; injection he62 with h4; exact h4.symm
  refine RL.go rfl rfl rfl (Ex.eqD (r := true) rfl rfl (decide_eq_true (by rw [h4]; rfl))) ?_
  refine RL.go rfl rfl rfl (Ex.pkT (v := (.bool true)) rfl rfl) ?_
  refine RL.go rfl rfl rfl (Ex.mv (v := (.bool true)) rfl) ?_
  refine RL.go rfl rfl rfl (Ex.mv (v := .bool false) (by show Value.bool (joinK fk3 4 ([])).2 = _; rw [joins_n])) ?_
  refine RL.go rfl rfl rfl (Ex.not (b := false) rfl) ?_
  refine RL.go rfl rfl rfl (Ex.pkT (v := (.bool true)) rfl rfl) ?_
  refine RL.go rfl rfl rfl (Ex.as (v := (.bool true)) rfl) ?_
  refine RL.nil (thn.n (CW.ret ?_))
  refine finQ.r (v := (.bool true)) (res1 rfl rfl) ?_
  exact ⟨rfl, (H53.fix (i := 5) rfl)⟩
end Go.Proofs.YtfokljnhllflbaaGreat
namespace Go.Eng
open Go Go.RowKit
theorem wrapEq {a : Int} (h : rng a) {j f : Int} (hj : 0 ≤ j ∧ j ≤ 1000000) (hf : 0 ≤ f ∧ f ≤ 2000000000) (e : IntKind.i64.wrap (IntKind.i64.wrap (a - 1) - j) = f) : a = f + 1 + j := by
  unfold rng at h
  rw [IntKind.wrap_i64, IntKind.wrap_i64] at e
  omega
theorem foll_nums {l : List Entry} {f : Int} (h : follB l f = true) (hf : 0 ≤ f ∧ f ≤ 2000000000) (hl : l.length ≤ 1000000) (hr : ∀ e ∈ l, rng e.num) {j : Nat} {e : Entry} (he : l[j]? = some e) : e.num = f + 1 + j := by
  unfold follB at h
  have h2 := allI_get h he
  simp only [Nat.zero_add, decide_eq_true_eq] at h2
  have := lt_len he
  exact wrapEq (hr e (List.mem_of_getElem? he)) (by omega) hf h2
theorem filter_nums : ∀ {l : List Entry} {f L : Int}, f ≤ L → (∀ (j : Nat) (e : Entry), l[j]? = some e → e.num = f + 1 + j) → l.filter (fun e => decide (L < e.num)) = l.drop (L - f).toNat
  | [], f, L, _, _ => by simp
  | x :: l, f, L, hL, h => by
    have hx := h 0 x rfl
    have ht : ∀ (j : Nat) (e : Entry), l[j]? = some e → e.num = (f + 1) + 1 + j := fun j e he => by
      have := h (j + 1) e (by simpa using he)
      omega
    by_cases hc : f = L
    · subst hc
      rw [Int.sub_self, Int.toNat_zero, List.drop_zero]
      refine List.filter_eq_self.2 fun e he => ?_
      obtain ⟨j, hj⟩ := List.mem_iff_getElem?.1 he
      have := h j e hj
      simp only [decide_eq_true_eq]
      omega
    · have ih := filter_nums (l := l) (f := f + 1) (L := L) (by omega) ht
      rw [List.filter_cons, if_neg (by simp only [decide_eq_true_eq]; omega), ih]
      rw [show (L - f).toNat = (L - (f + 1)).toNat + 1 by omega, List.drop_succ_cons]
def addK (k : Kept) (l : List Entry) : Kept := { k with ents := k.ents ++ l }
theorem joinK_t {k : Kept} {number : Int} {l : List Entry} (h : (joinK k number l).2 = true) (hl : l.length ≤ 1000000) (hr : ∀ e ∈ l, rng e.num) :
    keptB k = true ∧ lastOf k = lastK k ∧ 0 ≤ number ∧ number ≤ lastK k ∧ follB l number = true ∧ (∀ (j : Nat) (e : Entry), l[j]? = some e → e.num = number + 1 + j) ∧ (joinK k number l).1 = l.drop (lastK k - number).toNat := by
  unfold joinK at *
  split at h
  · rename_i hc
    obtain ⟨h1, h2, h3, h4⟩ := hc
    have hk := keptB_t h1
    have e1 : lastOf k = lastK k := by unfold lastOf; rw [if_pos h1]
    rw [e1] at h3
    have hlk : lastK k = k.base + k.ents.length := rfl
    have hn := fun (j : Nat) (e : Entry) (he : l[j]? = some e) => foll_nums h4 (by omega) hl hr he
    refine ⟨h1, e1, h2, h3, h4, hn, ?_⟩
    rw [if_pos ⟨h1, h2, by rw [e1]; exact h3, h4⟩]
    show l.filter (fun e => decide (lastOf k < e.num)) = _
    rw [e1]
    exact filter_nums h3 hn
  · cases h
theorem addK_last (k : Kept) (l : List Entry) : lastK (addK k l) = lastK k + l.length := by
  unfold lastK addK
  simp only [List.length_append]
  omega
theorem addK_nil (k : Kept) : addK k [] = k := by simp [addK]
theorem saved_step {k : Kept} {js : List Entry} {i : Nat} {e : Entry} (hk : keptB (addK k (js.take i)) = true) (he : js[i]? = some e) (hn : e.num = lastK k + 1 + i) :
    (foldK (addK k (js.take i)) (laidRe e)).1 ≠ 140 ∧ ((foldK (addK k (js.take i)) (laidRe e)).1 = 0 → (foldK (addK k (js.take i)) (laidRe e)).2 = addK k (js.take (i + 1)) ∧ keptB (addK k (js.take (i + 1))) = true) := by
  have hi := lt_len he
  have hkt := keptB_t hk
  have hle : (addK k (js.take i)).ents.length = k.ents.length + i := by
    show (k.ents ++ js.take i).length = _
    rw [List.length_append, List.length_take]; omega
  have hb : (addK k (js.take i)).base = k.base := rfl
  have hlast : lastK (addK k (js.take i)) = lastK k + i := by rw [addK_last, List.length_take]; omega
  have hlk : lastK k = k.base + k.ents.length := rfl
  have hf : follB [e] (lastK (addK k (js.take i))) = true := by
    unfold follB
    simp only [allI, Bool.and_true, decide_eq_true_eq]
    rw [hlast, w64 (r := e.num - 1) (by omega) (by omega), w64 (by omega) (by omega)]
    omega
  have hm : madeK (addK k (js.take i)) (laidRe e) = (0, addK k (js.take (i + 1))) := by
    unfold madeK
    rw [if_neg (by rintro ⟨h1 | h1 | h1, _⟩ <;> exact absurd h1 (by show ¬ (2 : Int) = _; decide)), if_neg (by show ¬ (2 : Int) = 1; decide), if_pos (by rfl : (laidRe e).kind = 2)]
    rw [if_pos (by exact hf)]
    show (_, _) = _
    rw [take_snoc he]
    simp only [addK, laidRe, List.append_assoc]
  have h1 : foldK (addK k (js.take i)) (laidRe e) = seenK (0, addK k (js.take (i + 1))) := by unfold foldK; rw [if_pos hk, hm]
  rw [h1]
  unfold seenK
  rw [if_pos rfl]
  split
  · exact ⟨by show (2 : Int) ≠ 140; decide, fun h => absurd h (by show ¬ (2 : Int) = 0; decide)⟩
  · split
    · rename_i h2; exact ⟨by show (0 : Int) ≠ 140; decide, fun _ => ⟨rfl, h2⟩⟩
    · exact ⟨by show (141 : Int) ≠ 140; decide, fun h => absurd h (by show ¬ (141 : Int) = 0; decide)⟩
theorem saved_end {k : Kept} {number : Int} {l : List Entry} (h : (joinK k number l).2 = true) (hl : l.length ≤ 1000000) (hr : ∀ e ∈ l, rng e.num) (hx : keptB (addK k (joinK k number l).1) = true) :
    joinK (addK k (joinK k number l).1) number l = ([], true) ∧ lastOf (addK k (joinK k number l).1) = (if number + l.length > lastOf k then number + l.length else lastOf k) := by
  obtain ⟨h1, h2, h3, h4, h5, h6, h7⟩ := joinK_t h hl hr
  have e1 : lastOf (addK k (joinK k number l).1) = lastK k + ((joinK k number l).1.length : Int) := by unfold lastOf; rw [if_pos hx, addK_last]
  have e2 : ((joinK k number l).1.length : Int) = if number + l.length > lastK k then number + l.length - lastK k else 0 := by
    rw [h7, List.length_drop]
    split <;> omega
  refine ⟨?_, by rw [e1, e2, h2]; split <;> omega⟩
  unfold joinK
  rw [if_pos ⟨hx, h3, by rw [← joinK, e1]; omega, h5⟩]
  congr 1
  refine List.filter_eq_nil_iff.2 fun e he => ?_
  obtain ⟨j, hj⟩ := List.mem_iff_getElem?.1 he
  have := h6 j e hj
  have := lt_len hj
  simp only [decide_eq_true_eq]
  rw [← joinK, e1, e2]
  split <;> omega
theorem joinK_f {k : Kept} {number : Int} {l : List Entry} (h : (joinK k number l).2 = false) : (joinK k number l).1 = [] := by
  unfold joinK at *
  split at h
  · cases h
  · rename_i hc; rw [if_neg hc]
theorem joinK_len (k : Kept) (number : Int) (l : List Entry) : (joinK k number l).1.length ≤ l.length := by
  unfold joinK
  split
  · exact List.length_filter_le _ _
  · simp
end Go.Eng
namespace Go.Eng
theorem Out.mixIn {m m2 : Nat → Bool} {j ρ ρ0 : Env} (h : Out m ρ ρ0) (hm : ∀ t, m t = false → m2 t = false) : Out m (Eng.mix m2 j ρ) ρ0 := fun t ht => by
  unfold Eng.mix; rw [hm t ht]; exact h t ht
theorem ble_f {a b : Nat} : Nat.ble a b = false ↔ b < a := by
  rw [← Bool.not_eq_true, Nat.ble_eq]; omega
theorem beq_f {a b : Nat} : Nat.beq a b = false ↔ a ≠ b := by
  rw [← Bool.not_eq_true, Nat.beq_eq]
end Go.Eng
namespace Go.Proofs.YtfokljnhllflbaaGreat
open Go Go.Eng Go.RowKit
set_option maxHeartbeats 2000000 in
set_option maxRecDepth 20000 in
theorem prepareSaved_ (w : World) (B : Nat) (k : Kept) (A : Option Addr) (n c : Nat) (hr : Rd w B 11 A (ents k.ents)) (hB : B ≤ w.heap.size) (hn : n = k.ents.length) (hc : n ≤ c) (number : Int) (l : List Entry) (A2 : Option Addr) (n2 c2 : Nat) (hr2 : Rd w B 11 A2 (ents l)) (hn2 : n2 = l.length) (hc2 : n2 ≤ c2) (hok : ∀ e ∈ l, rng e.num) (hnr : rng number) : Ret Tryz.prog 11 [(.agg ([(.int .i64 k.view), (.int .i64 k.normal), (.int .i64 k.base), (.string (tx k.image)), (.slice A n c)]).toArray), (.int .i64 number), (.slice A2 n2 c2)] w (fun v w' => v = .bool true ∧ w.grownBy w' none) := by
  have H0 : Sp [Fix w NoB] w := Sp.start w
  refine Ret.body Tryz.func11 rfl rfl rfl ?_
  refine CW.seq (CW.region ?_)
  refine RL.bx (cs := [(.int .i64 k.view), (.int .i64 k.normal), (.int .i64 k.base), (.string (tx k.image)), (.slice A n c)]) rfl rfl rfl ?_
  intro w1 b2 hb3 hz4 g5 o6
  have H7 := H0.newB g5 o6 (by omega)
  have z8 := g5.size
  refine RL.go rfl rfl rfl (Ex.as (v := (.bool false)) rfl) ?_
  refine RL.nil (thn.n (CW.seq (CW.seq (CW.region ?_))))
  refine RL.go rfl rfl rfl (Ex.ldv rfl (loadCN (cs := [(.int .i64 k.view), (.int .i64 k.normal), (.int .i64 k.base), (.string (tx k.image)), (.slice A n c)]) wh24 (H7.ob (i := 0) rfl).cl)) ?_
  refine RL.go rfl rfl rfl (Ex.mv (v := (.slice A2 n2 c2)) rfl) ?_
  refine RL.go rfl rfl rfl (Ex.bd (cs := [(.int .i64 0), (.int .i64 0), (.int .i64 0), (.int .i64 0), (.string (⟨#[]⟩)), (.int .i64 0), (.int .i64 0), (.int .i64 0), (.int .i64 0), (.int .i64 0), (.int .i64 0), (.int .i64 0), (.int .i64 0), (.int .i64 0), (.int .i64 0), (.int .i64 0), (.slice A2 n2 c2)]) bd33 rfl) ?_
  refine RL.call Tryz.call23 (big15 _ k A n c (by first | assumption | rfl | omega) (⟨0, 0, 0, 0, [], (⟨0, 0, 0, 0, ⟨0, 0, 0, 0, 0, 0, 0⟩⟩ : Entry), l⟩ : Rec) A2 n2 c2 (by first | assumption | rfl | omega)) rfl rfl rfl ?_
  rintro _ w9 ⟨rfl, g10⟩
  have H11 := H7.grow g10
  have z12 := g10.size
  rcases hb13 : (bigK k (⟨0, 0, 0, 0, [], (⟨0, 0, 0, 0, ⟨0, 0, 0, 0, 0, 0, 0⟩⟩ : Entry), l⟩ : Rec)) with _ | _
  ·obtain ⟨hbg1, hbg2, hbg3, hbg4⟩ := bigK_f hb13
   refine RL.nil (thn.n (CW.condF rfl (CW.skip (thn.n (CW.seq (CW.region ?_))))))
   have hbl : l.length ≤ 300 := hbg2
   refine RL.go rfl rfl rfl (Ex.ldv rfl (loadCN (cs := [(.int .i64 k.view), (.int .i64 k.normal), (.int .i64 k.base), (.string (tx k.image)), (.slice A n c)]) wh24 (H11.ob (i := 0) rfl).cl)) ?_
   refine RL.go rfl rfl rfl (Ex.mv (v := (.int .i64 number)) rfl) ?_
   refine RL.go rfl rfl rfl (Ex.mv (v := (.slice A2 n2 c2)) rfl) ?_
   refine RL.call Tryz.call63 (join_ _ w9.heap.size k A n c ((hr.st0 (H11.fix (i := 1) rfl)).more (by omega)) (by omega) (by first | assumption | rfl | omega | decide +kernel) (by first | assumption | rfl | omega | decide +kernel) (by first | assumption | rfl | omega | decide +kernel) (by first | assumption | rfl | omega | decide +kernel) number l A2 n2 c2 ((hr2.st0 (H11.fix (i := 1) rfl)).more (by omega)) (by first | assumption | rfl | omega | decide +kernel) (by first | assumption | rfl | omega | decide +kernel)) rfl rfl rfl ?_
   rintro _ w17 ⟨A14, n15, c16, rfl, g18⟩
   have g19 := g18.fix (i := 1) rfl
   have H20 : Sp [RowA 33 17 A14 n15 c16 (recsE ((joinK k number l).1)), BlkA b2 24 [(.int .i64 k.view), (.int .i64 k.normal), (.int .i64 k.base), (.string (tx k.image)), (.slice A n c)], Fix w NoB] w17 := H11.join (m := [RowA 33 17 A14 n15 c16 (recsE ((joinK k number l).1))]) g18
   have z21 := g19.size
   refine RL.go rfl rfl rfl (Ex.mv (v := (.tuple #[(.slice A14 n15 c16), (.bool ((joinK k number l).2))])) rfl) ?_
   refine RL.go rfl rfl rfl (Ex.ext (vs := [(.slice A14 n15 c16), (.bool ((joinK k number l).2))]) (v := (.slice A14 n15 c16)) rfl rfl) ?_
   refine RL.go rfl rfl rfl (Ex.ext (vs := [(.slice A14 n15 c16), (.bool ((joinK k number l).2))]) (v := (.bool ((joinK k number l).2))) rfl rfl) ?_
   refine RL.go rfl rfl rfl (Ex.as (v := (.slice A14 n15 c16)) rfl) ?_
   refine RL.go rfl rfl rfl (Ex.as (v := (.bool ((joinK k number l).2))) rfl) ?_
   refine RL.nil (thn.n (CW.seq (CW.seq (CW.region ?_))))
   rcases hb22 : (joinK k number l).2 with _ | _
   ·refine RL.go rfl rfl rfl (Ex.mv (v := (.bool false)) rfl) ?_
    refine RL.go rfl rfl rfl (Ex.not (b := false) rfl) ?_
    refine RL.nil (thn.n (CW.condT rfl (CW.seq (CW.region ?_))))
    refine RL.call Tryz.call64 (joins16 _) rfl rfl rfl ?_
    rintro _ w23 ⟨rfl, g24⟩
    have H25 := H20.grow g24
    have z26 := g24.size
    refine RL.go rfl rfl rfl (Ex.mv (v := (.bool true)) rfl) ?_
    have hjf := joinK_f hb22
    have hl27 := H25.len (i := 0) rfl
    rw [recsE_length, hjf] at hl27; simp only [List.length_nil] at hl27
    refine RL.go rfl rfl rfl (Ex.mv (v := (.slice A14 n15 c16)) rfl) ?_
    refine RL.go rfl rfl rfl (Ex.len Tryz.underlying84 rfl) ?_
    refine RL.go rfl rfl rfl (Ex.eqD (r := true) rfl rfl (decide_eq_true (by omega))) ?_
    refine RL.go rfl rfl rfl (Ex.pkT (v := (.bool true)) rfl rfl) ?_
    refine RL.go rfl rfl rfl (Ex.as (v := (.bool true)) rfl) ?_
    refine RL.nil (thn.n (CW.ret (thn.r ?_)))
    refine finQ.r (v := (.bool true)) (res1 rfl rfl) ?_
    exact ⟨rfl, (H25.fix (i := 2) rfl)⟩
   ·refine RL.go rfl rfl rfl (Ex.mv (v := (.bool true)) rfl) ?_
    refine RL.go rfl rfl rfl (Ex.not (b := true) rfl) ?_
    refine RL.nil (thn.n (CW.condF rfl (CW.skip (thn.n (CW.seq (CW.region ?_))))))
    have hjt := joinK_t hb22 (by omega) hok
    obtain ⟨hj1, hj2, hj3, hj4, hj5, hj6, hj7⟩ := hjt
    have hkt := keptB_t hj1
    have hlk : lastK k = k.base + k.ents.length := rfl
    have hjl := joinK_len k number l
    have hjs := hb22
    have hl7 := H20.len (i := 0) rfl
    rw [recsE_length] at hl7
    refine RL.go rfl rfl rfl (Ex.ldv rfl (loadCN (cs := [(.int .i64 k.view), (.int .i64 k.normal), (.int .i64 k.base), (.string (tx k.image)), (.slice A n c)]) wh24 (H20.ob (i := 1) rfl).cl)) ?_
    refine RL.al (cs := [(.int .i64 0), (.int .i64 0), (.int .i64 0), (.string (⟨#[]⟩)), (.slice none 0 0)]) Tryz.zeroValue24 rfl rfl rfl ?_
    intro w28 b29 hb30 hz31 g32 o33
    have H34 := H20.newB g32 o33 (by omega)
    have z35 := g32.size
    refine RL.st (vs := [(.int .i64 k.view), (.int .i64 k.normal), (.int .i64 k.base), (.string (tx k.image)), (.slice A n c)]) (cs' := [(.int .i64 k.view), (.int .i64 k.normal), (.int .i64 k.base), (.string (tx k.image)), (.slice A n c)]) Tryz.sizeOf24 (H34.ob (i := 0) rfl) rfl rfl rfl rfl rfl rfl ?_
    intro w36 hz37 g38 o39
    have H40 : Sp [BlkA b29 24 [(.int .i64 k.view), (.int .i64 k.normal), (.int .i64 k.base), (.string (tx k.image)), (.slice A n c)], RowA 33 17 A14 n15 c16 (recsE ((joinK k number l).1)), BlkA b2 24 [(.int .i64 k.view), (.int .i64 k.normal), (.int .i64 k.base), (.string (tx k.image)), (.slice A n c)], Fix w NoB] w36 := H34.setB (i := 0) rfl g38 o39 rfl
    have z41 := g38.size
    refine RL.nil (thn.n (CW.seq (CW.seq (CW.region ?_))))
    refine RL.go rfl rfl rfl (Ex.as (v := (.int .i64 0)) rfl) ?_
    refine RL.nil (thn.n (CW.block ?_))
    have H42 : Sp [RoA w 11 A n c (ents k.ents), BlkA b29 24 [(.int .i64 k.view), (.int .i64 k.normal), (.int .i64 k.base), (.string (tx k.image)), (.slice A n c)], RowA 33 17 A14 n15 c16 (recsE ((joinK k number l).1)), BlkA b2 24 [(.int .i64 k.view), (.int .i64 k.normal), (.int .i64 k.base), (.string (tx k.image)), (.slice A n c)], Fix w NoB] w36 := H40.ro1 (w0 := w) (hr.more hB) (by rw [ents_length]; omega) hc
    have hak : addK k ((joinK k number l).1.take 0) = k := addK_nil k
    have H00 : Sp [RoA w 11 A n c (ents ((addK k ((joinK k number l).1.take 0)).ents)), BlkA b29 24 [(.int .i64 ((addK k ((joinK k number l).1.take 0)).view)), (.int .i64 ((addK k ((joinK k number l).1.take 0)).normal)), (.int .i64 ((addK k ((joinK k number l).1.take 0)).base)), (.string (tx (addK k ((joinK k number l).1.take 0)).image)), (.slice A n c)], RowA 33 17 A14 n15 c16 (recsE ((joinK k number l).1)), BlkA b2 24 [(.int .i64 k.view), (.int .i64 k.normal), (.int .i64 k.base), (.string (tx k.image)), (.slice A n c)], Fix w NoB] w36 := by rw [hak]; exact H42
    refine CW.loop (fun t => Nat.beq t 6 || (Nat.ble 10 t && Nat.ble t 12) || (Nat.ble 35 t && Nat.ble t 57)) (fun nL ρ wl => ∃ (i n1 c1 : Nat) (A1 : Option Addr), ρ 10 = (.int .i64 (i : Int)) ∧ nL = n15 - i ∧ Sp [RoA w 11 A1 n1 c1 (ents ((addK k ((joinK k number l).1.take i)).ents)), BlkA b29 24 [(.int .i64 ((addK k ((joinK k number l).1.take i)).view)), (.int .i64 ((addK k ((joinK k number l).1.take i)).normal)), (.int .i64 ((addK k ((joinK k number l).1.take i)).base)), (.string (tx (addK k ((joinK k number l).1.take i)).image)), (.slice A1 n1 c1)], RowA 33 17 A14 n15 c16 (recsE ((joinK k number l).1)), BlkA b2 24 [(.int .i64 k.view), (.int .i64 k.normal), (.int .i64 k.base), (.string (tx k.image)), (.slice A n c)], Fix w NoB] wl ∧ i ≤ n15 ∧ keptB (addK k ((joinK k number l).1.take i)) = true ∧ (addK k ((joinK k number l).1.take i)).ents.length ≤ 5000) (n15) ?aa0 ?bb0
    case aa0 =>
     exact ⟨0, n, c, A, rfl, rfl, H00, Nat.zero_le _, by rw [hak]; exact hj1, by rw [hak]; omega⟩
    case bb0 =>
     rintro n44 ρ0 w43 ho45 ⟨i, n1, c1, A1, hs0_10, hn0, H46, hi, hkx, hxl⟩
     obtain ⟨j0, rfl⟩ := ho45.shape1 hs0_10
     clear ho45 hs0_10
     subst hn0
     have z47 := (H46.fix (i := 4) rfl).size
     refine CW.seq (CW.seq ?_)
     refine CW.region ?_
     refine RL.go rfl rfl rfl (Ex.mv (v := (.int .i64 (i : Int))) rfl) ?_
     refine RL.go rfl rfl rfl (Ex.mv (v := (.slice A14 n15 c16)) rfl) ?_
     refine RL.go rfl rfl rfl (Ex.len Tryz.underlying84 rfl) ?_
     refine RL.br (p := ((i : Int) : Int) < ((n15 : Nat) : Int)) rfl rfl rfl (fun r hr => Ex.lt rfl rfl hr) (fun h48 => ?_) (fun h48 => ?_)
     ·skip
      refine RL.nil (thn.n (CW.condT rfl (CW.skip (thn.n (CW.seq (CW.block (CW.seq ?_)))))))
      obtain ⟨e49, he50⟩ : ∃ e, (joinK k number l).1[i]? = some e := ⟨_, List.getElem?_eq_getElem (by omega)⟩
      have hai : (addK k ((joinK k number l).1.take i)).image.length ≤ 100000 := hbg3
      have hli : (laidRe e49).image.length ≤ 0 := Nat.le_refl 0
      have hll : (laidRe e49).ents.length ≤ 0 := Nat.le_refl 0
      refine CW.mid (fun t => (Nat.ble 11 t && Nat.ble t 12) || (Nat.ble 41 t && Nat.ble t 49)) (fun ρ wl => ∃ (b70 : Nat) (A60 : Option Addr) (n61 : Nat) (c62 : Nat), ρ 11 = (.pointer (some ⟨b70, 0, none⟩)) ∧ ρ 12 = (.int .i64 ((foldK (addK k ((joinK k number l).1.take i)) (laidRe e49)).1)) ∧ Sp [BlkA b70 24 [(.int .i64 ((foldK (addK k ((joinK k number l).1.take i)) (laidRe e49)).2.view)), (.int .i64 ((foldK (addK k ((joinK k number l).1.take i)) (laidRe e49)).2.normal)), (.int .i64 ((foldK (addK k ((joinK k number l).1.take i)) (laidRe e49)).2.base)), (.string (tx (foldK (addK k ((joinK k number l).1.take i)) (laidRe e49)).2.image)), (.slice A60 n61 c62)], RowA 31 11 A60 n61 c62 (ents ((foldK (addK k ((joinK k number l).1.take i)) (laidRe e49)).2.ents)), RoA w 11 A1 n1 c1 (ents ((addK k ((joinK k number l).1.take i)).ents)), BlkA b29 24 [(.int .i64 ((addK k ((joinK k number l).1.take i)).view)), (.int .i64 ((addK k ((joinK k number l).1.take i)).normal)), (.int .i64 ((addK k ((joinK k number l).1.take i)).base)), (.string (tx (addK k ((joinK k number l).1.take i)).image)), (.slice A1 n1 c1)], RowA 33 17 A14 n15 c16 (recsE ((joinK k number l).1)), BlkA b2 24 [(.int .i64 k.view), (.int .i64 k.normal), (.int .i64 k.base), (.string (tx k.image)), (.slice A n c)], Fix w NoB] wl) ?_ ?_
      ·skip
       refine CW.held (fun wq => Sp [RoA w 11 A1 n1 c1 (ents ((addK k ((joinK k number l).1.take i)).ents)), BlkA b29 24 [(.int .i64 ((addK k ((joinK k number l).1.take i)).view)), (.int .i64 ((addK k ((joinK k number l).1.take i)).normal)), (.int .i64 ((addK k ((joinK k number l).1.take i)).base)), (.string (tx (addK k ((joinK k number l).1.take i)).image)), (.slice A1 n1 c1)], RowA 33 17 A14 n15 c16 (recsE ((joinK k number l).1)), BlkA b2 24 [(.int .i64 k.view), (.int .i64 k.normal), (.int .i64 k.base), (.string (tx k.image)), (.slice A n c)], Fix w NoB] wq) Tryz.mixed rfl ?_
       intro w84 g85
       have H86 := H46.grow g85
       have z87 := g85.size
       refine RA.tk 1 0 2 rfl rfl rfl (by kernel_rfl) (fun wq hq => Ex.mv (v := (.slice A14 n15 c16)) rfl) H86 ?_
       refine RA.tk 2 2 6 rfl rfl rfl (by kernel_rfl) (fun wq hq => Ex.mv (v := (.int .i64 (i : Int))) rfl) H86 ?_
       refine RA.tk 0 6 7 rfl rfl rfl (by kernel_rfl) (fun wq hq => Ex.ldv rfl (loadCN (cs := [(.int .i64 ((addK k ((joinK k number l).1.take i)).view)), (.int .i64 ((addK k ((joinK k number l).1.take i)).normal)), (.int .i64 ((addK k ((joinK k number l).1.take i)).base)), (.string (tx (addK k ((joinK k number l).1.take i)).image)), (.slice A1 n1 c1)]) wh24 (hq.ob (i := 1) rfl).cl)) H86 ?_
       obtain ⟨ad88, hA89⟩ := Rd.sm (H86.rowrd (i := 2) rfl) (recsE_get he50)
       have hl90 := Eng.lt_len (recsE_get he50)
       refine RA.tk 3 7 15 rfl rfl rfl (by kernel_rfl) (fun wq hq => Ex.ix (b := (ad88.add (i * 17))) (i := i) Tryz.underlying84 Tryz.sizeOf33 (by rw [← hA89]; rfl) rfl (by omega) (by omega) rfl) H86 ?_
       refine RA.tk 4 15 31 rfl rfl rfl (by kernel_rfl) (fun wq hq => Ex.ldv rfl (loadCN (cs := (laidC e49)) wh33 (Rd.cl (hq.rowrd (i := 2) rfl) hA89 (recsE_get he50)))) H86 ?_
       refine RA.two (i := 5) (j := 9) (by kernel_rfl) ?_ ?_
       ·skip
        refine ⟨_, 63, rfl, by kernel_rfl, ?_⟩
        have hl91 := H86.roLen (i := 0) rfl
        rw [ents_length] at hl91
        have hc92 := H86.roCap (i := 0) rfl
        refine RL.call Tryz.call40 (Fold_ _ w84.heap.size (addK k ((joinK k number l).1.take i)) A1 n1 c1 (H86.roRd (i := 0) (j := 4) rfl rfl) (Nat.le_refl _) (by first | assumption | rfl | omega | decide +kernel) (by first | assumption | rfl | omega | decide +kernel) (by first | assumption | rfl | omega | decide +kernel) (by first | assumption | rfl | omega | decide +kernel) (laidRe e49) none 0 0 ((Rd.nil_ _ _ 11 none)) (by first | assumption | rfl | omega | decide +kernel) (by first | assumption | rfl | omega | decide +kernel) (by first | assumption | rfl | omega | decide +kernel) (by first | assumption | rfl | omega | decide +kernel)) rfl rfl rfl ?_
        rintro _ w96 ⟨A93, n94, c95, rfl, g97⟩
        have g98 := g97.fix (i := 1) rfl
        have H99 : Sp [RowA 31 11 A93 n94 c95 (ents ((foldK (addK k ((joinK k number l).1.take i)) (laidRe e49)).2.ents)), RoA w 11 A1 n1 c1 (ents ((addK k ((joinK k number l).1.take i)).ents)), BlkA b29 24 [(.int .i64 ((addK k ((joinK k number l).1.take i)).view)), (.int .i64 ((addK k ((joinK k number l).1.take i)).normal)), (.int .i64 ((addK k ((joinK k number l).1.take i)).base)), (.string (tx (addK k ((joinK k number l).1.take i)).image)), (.slice A1 n1 c1)], RowA 33 17 A14 n15 c16 (recsE ((joinK k number l).1)), BlkA b2 24 [(.int .i64 k.view), (.int .i64 k.normal), (.int .i64 k.base), (.string (tx k.image)), (.slice A n c)], Fix w NoB] w96 := H86.join (m := [RowA 31 11 A93 n94 c95 (ents ((foldK (addK k ((joinK k number l).1.take i)) (laidRe e49)).2.ents))]) g97
        have z100 := g98.size
        refine RL.nil ?_
        refine ⟨(H99.sel [1, 2, 3, 4, 5] (by decide) rfl), ?_⟩
        refine RA.tk 6 63 127 rfl rfl rfl (by kernel_rfl) (fun wq hq => Ex.mv (v := (.tuple #[(.agg ([(.int .i64 ((foldK (addK k ((joinK k number l).1.take i)) (laidRe e49)).2.view)), (.int .i64 ((foldK (addK k ((joinK k number l).1.take i)) (laidRe e49)).2.normal)), (.int .i64 ((foldK (addK k ((joinK k number l).1.take i)) (laidRe e49)).2.base)), (.string (tx (foldK (addK k ((joinK k number l).1.take i)) (laidRe e49)).2.image)), (.slice A93 n94 c95)]).toArray), (.int .i64 ((foldK (addK k ((joinK k number l).1.take i)) (laidRe e49)).1))])) rfl) (H99.sel [1, 2, 3, 4, 5] (by decide) rfl) ?_
        refine RA.tk 7 127 255 rfl rfl rfl (by kernel_rfl) (fun wq hq => Ex.ext (vs := [(.agg ([(.int .i64 ((foldK (addK k ((joinK k number l).1.take i)) (laidRe e49)).2.view)), (.int .i64 ((foldK (addK k ((joinK k number l).1.take i)) (laidRe e49)).2.normal)), (.int .i64 ((foldK (addK k ((joinK k number l).1.take i)) (laidRe e49)).2.base)), (.string (tx (foldK (addK k ((joinK k number l).1.take i)) (laidRe e49)).2.image)), (.slice A93 n94 c95)]).toArray), (.int .i64 ((foldK (addK k ((joinK k number l).1.take i)) (laidRe e49)).1))]) (v := (.agg ([(.int .i64 ((foldK (addK k ((joinK k number l).1.take i)) (laidRe e49)).2.view)), (.int .i64 ((foldK (addK k ((joinK k number l).1.take i)) (laidRe e49)).2.normal)), (.int .i64 ((foldK (addK k ((joinK k number l).1.take i)) (laidRe e49)).2.base)), (.string (tx (foldK (addK k ((joinK k number l).1.take i)) (laidRe e49)).2.image)), (.slice A93 n94 c95)]).toArray)) rfl rfl) (H99.sel [1, 2, 3, 4, 5] (by decide) rfl) ?_
        refine RA.tk 8 255 511 rfl rfl rfl (by kernel_rfl) (fun wq hq => Ex.ext (vs := [(.agg ([(.int .i64 ((foldK (addK k ((joinK k number l).1.take i)) (laidRe e49)).2.view)), (.int .i64 ((foldK (addK k ((joinK k number l).1.take i)) (laidRe e49)).2.normal)), (.int .i64 ((foldK (addK k ((joinK k number l).1.take i)) (laidRe e49)).2.base)), (.string (tx (foldK (addK k ((joinK k number l).1.take i)) (laidRe e49)).2.image)), (.slice A93 n94 c95)]).toArray), (.int .i64 ((foldK (addK k ((joinK k number l).1.take i)) (laidRe e49)).1))]) (v := (.int .i64 ((foldK (addK k ((joinK k number l).1.take i)) (laidRe e49)).1))) rfl rfl) (H99.sel [1, 2, 3, 4, 5] (by decide) rfl) ?_
        refine RA.one (i := 9) (by kernel_rfl) ?_
        refine ⟨_, 1023, rfl, by kernel_rfl, ?_⟩
        refine RL.al (cs := [(.int .i64 0), (.int .i64 0), (.int .i64 0), (.string (⟨#[]⟩)), (.slice none 0 0)]) Tryz.zeroValue24 rfl rfl rfl ?_
        intro w101 b102 hb103 hz104 g105 o106
        have H107 := H99.newB g105 o106 (by omega)
        have z108 := g105.size
        refine RL.nil ?_
        refine ⟨(H107.sel [2, 3, 4, 5, 6] (by decide) rfl), ?_⟩
        refine RA.one (i := 10) (by kernel_rfl) ?_
        refine ⟨_, 2047, rfl, by kernel_rfl, ?_⟩
        refine RL.st (vs := [(.int .i64 ((foldK (addK k ((joinK k number l).1.take i)) (laidRe e49)).2.view)), (.int .i64 ((foldK (addK k ((joinK k number l).1.take i)) (laidRe e49)).2.normal)), (.int .i64 ((foldK (addK k ((joinK k number l).1.take i)) (laidRe e49)).2.base)), (.string (tx (foldK (addK k ((joinK k number l).1.take i)) (laidRe e49)).2.image)), (.slice A93 n94 c95)]) (cs' := [(.int .i64 ((foldK (addK k ((joinK k number l).1.take i)) (laidRe e49)).2.view)), (.int .i64 ((foldK (addK k ((joinK k number l).1.take i)) (laidRe e49)).2.normal)), (.int .i64 ((foldK (addK k ((joinK k number l).1.take i)) (laidRe e49)).2.base)), (.string (tx (foldK (addK k ((joinK k number l).1.take i)) (laidRe e49)).2.image)), (.slice A93 n94 c95)]) Tryz.sizeOf24 (H107.ob (i := 0) rfl) rfl rfl rfl rfl rfl rfl ?_
        intro w109 hz110 g111 o112
        have H113 : Sp [BlkA b102 24 [(.int .i64 ((foldK (addK k ((joinK k number l).1.take i)) (laidRe e49)).2.view)), (.int .i64 ((foldK (addK k ((joinK k number l).1.take i)) (laidRe e49)).2.normal)), (.int .i64 ((foldK (addK k ((joinK k number l).1.take i)) (laidRe e49)).2.base)), (.string (tx (foldK (addK k ((joinK k number l).1.take i)) (laidRe e49)).2.image)), (.slice A93 n94 c95)], RowA 31 11 A93 n94 c95 (ents ((foldK (addK k ((joinK k number l).1.take i)) (laidRe e49)).2.ents)), RoA w 11 A1 n1 c1 (ents ((addK k ((joinK k number l).1.take i)).ents)), BlkA b29 24 [(.int .i64 ((addK k ((joinK k number l).1.take i)).view)), (.int .i64 ((addK k ((joinK k number l).1.take i)).normal)), (.int .i64 ((addK k ((joinK k number l).1.take i)).base)), (.string (tx (addK k ((joinK k number l).1.take i)).image)), (.slice A1 n1 c1)], RowA 33 17 A14 n15 c16 (recsE ((joinK k number l).1)), BlkA b2 24 [(.int .i64 k.view), (.int .i64 k.normal), (.int .i64 k.base), (.string (tx k.image)), (.slice A n c)], Fix w NoB] w109 := H107.setB (i := 0) rfl g111 o112 rfl
        have z114 := g111.size
        refine RL.nil ?_
        refine ⟨(H113.sel [2, 3, 4, 5, 6] (by decide) rfl), ?_⟩
        refine RA.tk 11 2047 4095 rfl rfl rfl (by kernel_rfl) (fun wq hq => Ex.as (v := (.int .i64 ((foldK (addK k ((joinK k number l).1.take i)) (laidRe e49)).1))) rfl) (H113.sel [2, 3, 4, 5, 6] (by decide) rfl) ?_
        refine RA.done (by kernel_rfl) ?_
        refine thn.n ?_
        exact ⟨(by repeat (first | exact Out.mix _ _ | exact Out.refl _ _ | refine Out.up ?_ rfl _ | refine Out.mixIn ?_ (by intro t ht; simp only [Bool.or_eq_false_iff, Bool.and_eq_false_iff, ble_f, beq_f] at ht ⊢; omega))), b102, A93, n94, c95, rfl, rfl, (H113.sel [0, 1, 2, 3, 4, 5, 6] (by decide) rfl)⟩
       ·skip
        refine ⟨_, 543, rfl, by kernel_rfl, ?_⟩
        refine RL.al (cs := [(.int .i64 0), (.int .i64 0), (.int .i64 0), (.string (⟨#[]⟩)), (.slice none 0 0)]) Tryz.zeroValue24 rfl rfl rfl ?_
        intro w115 b116 hb117 hz118 g119 o120
        have H121 := H86.newB g119 o120 (by omega)
        have z122 := g119.size
        refine RL.nil ?_
        refine ⟨(H121.sel [1, 2, 3, 4, 5] (by decide) rfl), ?_⟩
        refine RA.one (i := 5) (by kernel_rfl) ?_
        refine ⟨_, 575, rfl, by kernel_rfl, ?_⟩
        have hl123 := H121.roLen (i := 1) rfl
        rw [ents_length] at hl123
        have hc124 := H121.roCap (i := 1) rfl
        refine RL.call Tryz.call40 (Fold_ _ w115.heap.size (addK k ((joinK k number l).1.take i)) A1 n1 c1 (H121.roRd (i := 1) (j := 5) rfl rfl) (Nat.le_refl _) (by first | assumption | rfl | omega | decide +kernel) (by first | assumption | rfl | omega | decide +kernel) (by first | assumption | rfl | omega | decide +kernel) (by first | assumption | rfl | omega | decide +kernel) (laidRe e49) none 0 0 ((Rd.nil_ _ _ 11 none)) (by first | assumption | rfl | omega | decide +kernel) (by first | assumption | rfl | omega | decide +kernel) (by first | assumption | rfl | omega | decide +kernel) (by first | assumption | rfl | omega | decide +kernel)) rfl rfl rfl ?_
        rintro _ w128 ⟨A125, n126, c127, rfl, g129⟩
        have g130 := g129.fix (i := 1) rfl
        have H131 : Sp [RowA 31 11 A125 n126 c127 (ents ((foldK (addK k ((joinK k number l).1.take i)) (laidRe e49)).2.ents)), BlkA b116 24 [(.int .i64 0), (.int .i64 0), (.int .i64 0), (.string (⟨#[]⟩)), (.slice none 0 0)], RoA w 11 A1 n1 c1 (ents ((addK k ((joinK k number l).1.take i)).ents)), BlkA b29 24 [(.int .i64 ((addK k ((joinK k number l).1.take i)).view)), (.int .i64 ((addK k ((joinK k number l).1.take i)).normal)), (.int .i64 ((addK k ((joinK k number l).1.take i)).base)), (.string (tx (addK k ((joinK k number l).1.take i)).image)), (.slice A1 n1 c1)], RowA 33 17 A14 n15 c16 (recsE ((joinK k number l).1)), BlkA b2 24 [(.int .i64 k.view), (.int .i64 k.normal), (.int .i64 k.base), (.string (tx k.image)), (.slice A n c)], Fix w NoB] w128 := H121.join (m := [RowA 31 11 A125 n126 c127 (ents ((foldK (addK k ((joinK k number l).1.take i)) (laidRe e49)).2.ents))]) g129
        have z132 := g130.size
        refine RL.nil ?_
        refine ⟨(H131.sel [2, 3, 4, 5, 6] (by decide) rfl), ?_⟩
        refine RA.tk 6 575 639 rfl rfl rfl (by kernel_rfl) (fun wq hq => Ex.mv (v := (.tuple #[(.agg ([(.int .i64 ((foldK (addK k ((joinK k number l).1.take i)) (laidRe e49)).2.view)), (.int .i64 ((foldK (addK k ((joinK k number l).1.take i)) (laidRe e49)).2.normal)), (.int .i64 ((foldK (addK k ((joinK k number l).1.take i)) (laidRe e49)).2.base)), (.string (tx (foldK (addK k ((joinK k number l).1.take i)) (laidRe e49)).2.image)), (.slice A125 n126 c127)]).toArray), (.int .i64 ((foldK (addK k ((joinK k number l).1.take i)) (laidRe e49)).1))])) rfl) (H131.sel [2, 3, 4, 5, 6] (by decide) rfl) ?_
        refine RA.tk 7 639 767 rfl rfl rfl (by kernel_rfl) (fun wq hq => Ex.ext (vs := [(.agg ([(.int .i64 ((foldK (addK k ((joinK k number l).1.take i)) (laidRe e49)).2.view)), (.int .i64 ((foldK (addK k ((joinK k number l).1.take i)) (laidRe e49)).2.normal)), (.int .i64 ((foldK (addK k ((joinK k number l).1.take i)) (laidRe e49)).2.base)), (.string (tx (foldK (addK k ((joinK k number l).1.take i)) (laidRe e49)).2.image)), (.slice A125 n126 c127)]).toArray), (.int .i64 ((foldK (addK k ((joinK k number l).1.take i)) (laidRe e49)).1))]) (v := (.agg ([(.int .i64 ((foldK (addK k ((joinK k number l).1.take i)) (laidRe e49)).2.view)), (.int .i64 ((foldK (addK k ((joinK k number l).1.take i)) (laidRe e49)).2.normal)), (.int .i64 ((foldK (addK k ((joinK k number l).1.take i)) (laidRe e49)).2.base)), (.string (tx (foldK (addK k ((joinK k number l).1.take i)) (laidRe e49)).2.image)), (.slice A125 n126 c127)]).toArray)) rfl rfl) (H131.sel [2, 3, 4, 5, 6] (by decide) rfl) ?_
        refine RA.tk 8 767 1023 rfl rfl rfl (by kernel_rfl) (fun wq hq => Ex.ext (vs := [(.agg ([(.int .i64 ((foldK (addK k ((joinK k number l).1.take i)) (laidRe e49)).2.view)), (.int .i64 ((foldK (addK k ((joinK k number l).1.take i)) (laidRe e49)).2.normal)), (.int .i64 ((foldK (addK k ((joinK k number l).1.take i)) (laidRe e49)).2.base)), (.string (tx (foldK (addK k ((joinK k number l).1.take i)) (laidRe e49)).2.image)), (.slice A125 n126 c127)]).toArray), (.int .i64 ((foldK (addK k ((joinK k number l).1.take i)) (laidRe e49)).1))]) (v := (.int .i64 ((foldK (addK k ((joinK k number l).1.take i)) (laidRe e49)).1))) rfl rfl) (H131.sel [2, 3, 4, 5, 6] (by decide) rfl) ?_
        refine RA.one (i := 10) (by kernel_rfl) ?_
        refine ⟨_, 2047, rfl, by kernel_rfl, ?_⟩
        refine RL.st (vs := [(.int .i64 ((foldK (addK k ((joinK k number l).1.take i)) (laidRe e49)).2.view)), (.int .i64 ((foldK (addK k ((joinK k number l).1.take i)) (laidRe e49)).2.normal)), (.int .i64 ((foldK (addK k ((joinK k number l).1.take i)) (laidRe e49)).2.base)), (.string (tx (foldK (addK k ((joinK k number l).1.take i)) (laidRe e49)).2.image)), (.slice A125 n126 c127)]) (cs' := [(.int .i64 ((foldK (addK k ((joinK k number l).1.take i)) (laidRe e49)).2.view)), (.int .i64 ((foldK (addK k ((joinK k number l).1.take i)) (laidRe e49)).2.normal)), (.int .i64 ((foldK (addK k ((joinK k number l).1.take i)) (laidRe e49)).2.base)), (.string (tx (foldK (addK k ((joinK k number l).1.take i)) (laidRe e49)).2.image)), (.slice A125 n126 c127)]) Tryz.sizeOf24 (H131.ob (i := 1) rfl) rfl rfl rfl rfl rfl rfl ?_
        intro w133 hz134 g135 o136
        have H137 : Sp [RowA 31 11 A125 n126 c127 (ents ((foldK (addK k ((joinK k number l).1.take i)) (laidRe e49)).2.ents)), BlkA b116 24 [(.int .i64 ((foldK (addK k ((joinK k number l).1.take i)) (laidRe e49)).2.view)), (.int .i64 ((foldK (addK k ((joinK k number l).1.take i)) (laidRe e49)).2.normal)), (.int .i64 ((foldK (addK k ((joinK k number l).1.take i)) (laidRe e49)).2.base)), (.string (tx (foldK (addK k ((joinK k number l).1.take i)) (laidRe e49)).2.image)), (.slice A125 n126 c127)], RoA w 11 A1 n1 c1 (ents ((addK k ((joinK k number l).1.take i)).ents)), BlkA b29 24 [(.int .i64 ((addK k ((joinK k number l).1.take i)).view)), (.int .i64 ((addK k ((joinK k number l).1.take i)).normal)), (.int .i64 ((addK k ((joinK k number l).1.take i)).base)), (.string (tx (addK k ((joinK k number l).1.take i)).image)), (.slice A1 n1 c1)], RowA 33 17 A14 n15 c16 (recsE ((joinK k number l).1)), BlkA b2 24 [(.int .i64 k.view), (.int .i64 k.normal), (.int .i64 k.base), (.string (tx k.image)), (.slice A n c)], Fix w NoB] w133 := H131.setB (i := 1) rfl g135 o136 rfl
        have z138 := g135.size
        refine RL.nil ?_
        refine ⟨(H137.sel [2, 3, 4, 5, 6] (by decide) rfl), ?_⟩
        refine RA.tk 11 2047 4095 rfl rfl rfl (by kernel_rfl) (fun wq hq => Ex.as (v := (.int .i64 ((foldK (addK k ((joinK k number l).1.take i)) (laidRe e49)).1))) rfl) (H137.sel [2, 3, 4, 5, 6] (by decide) rfl) ?_
        refine RA.done (by kernel_rfl) ?_
        refine thn.n ?_
        exact ⟨(by repeat (first | exact Out.mix _ _ | exact Out.refl _ _ | refine Out.up ?_ rfl _ | refine Out.mixIn ?_ (by intro t ht; simp only [Bool.or_eq_false_iff, Bool.and_eq_false_iff, ble_f, beq_f] at ht ⊢; omega))), b116, A125, n126, c127, rfl, rfl, (H137.sel [1, 0, 2, 3, 4, 5, 6] (by decide) rfl)⟩
      ·rintro ρc83 w139 ho140 ⟨b70, A60, n61, c62, hs142, hs143, H141⟩
       obtain ⟨jc83, rfl⟩ := ho140.shape2 hs142 hs143
       clear ho140 hs142 hs143
       have z144 := (H141.fix (i := 6) rfl).size
       refine thn.n (CW.seq ?_)
       refine CW.seq (CW.region ?_)
       have hdl : (joinK k number l).1[i]? = some e49 := he50
       have hnum : e49.num = lastK k + 1 + i := by
         have h1 := hdl; rw [hj7, List.getElem?_drop] at h1; have := hj6 _ _ h1; omega
       have hss := saved_step hkx hdl hnum
       refine RL.go rfl rfl rfl (Ex.mv (v := (.int .i64 ((foldK (addK k ((joinK k number l).1.take i)) (laidRe e49)).1))) rfl) ?_
       refine RL.br (p := ((foldK (addK k ((joinK k number l).1.take i)) (laidRe e49)).1 : Int) ≠ (0 : Int)) rfl rfl rfl (fun r hr => Ex.neD rfl rfl hr) (fun h145 => ?_) (fun h145 => ?_)
       ·skip
        refine RL.nil (thn.n (CW.condT rfl (CW.seq (CW.region ?_))))
        refine RL.call Tryz.call64 (joins16 _) rfl rfl rfl ?_
        rintro _ w146 ⟨rfl, g147⟩
        have H148 := H141.grow g147
        have z149 := g147.size
        refine RL.go rfl rfl rfl (Ex.mv (v := (.bool true)) rfl) ?_
        refine RL.go rfl rfl rfl (Ex.mv (v := (.int .i64 ((foldK (addK k ((joinK k number l).1.take i)) (laidRe e49)).1))) rfl) ?_
        refine RL.go rfl rfl rfl (Ex.neD (r := true) rfl rfl (decide_eq_true (hss.1))) ?_
        refine RL.go rfl rfl rfl (Ex.pkT (v := (.bool true)) rfl rfl) ?_
        refine RL.go rfl rfl rfl (Ex.as (v := (.bool true)) rfl) ?_
        refine RL.nil (thn.n (CW.ret (thn.r (inB.r (thn.r (thn.r (inB.r (thn.r ?_))))))))
        refine finQ.r (v := (.bool true)) (res1 rfl rfl) ?_
        exact ⟨rfl, (H148.fix (i := 6) rfl)⟩
       ·skip
        refine RL.nil (thn.n (CW.condF rfl (CW.skip (thn.n (CW.region ?_)))))
        obtain ⟨hx1, hx2⟩ := hss.2 (by have := h145; omega)
        refine RL.go rfl rfl rfl (Ex.ldv rfl (loadCN (cs := [(.int .i64 ((foldK (addK k ((joinK k number l).1.take i)) (laidRe e49)).2.view)), (.int .i64 ((foldK (addK k ((joinK k number l).1.take i)) (laidRe e49)).2.normal)), (.int .i64 ((foldK (addK k ((joinK k number l).1.take i)) (laidRe e49)).2.base)), (.string (tx (foldK (addK k ((joinK k number l).1.take i)) (laidRe e49)).2.image)), (.slice A60 n61 c62)]) wh24 (H141.ob (i := 0) rfl).cl)) ?_
        refine RL.st (vs := [(.int .i64 ((foldK (addK k ((joinK k number l).1.take i)) (laidRe e49)).2.view)), (.int .i64 ((foldK (addK k ((joinK k number l).1.take i)) (laidRe e49)).2.normal)), (.int .i64 ((foldK (addK k ((joinK k number l).1.take i)) (laidRe e49)).2.base)), (.string (tx (foldK (addK k ((joinK k number l).1.take i)) (laidRe e49)).2.image)), (.slice A60 n61 c62)]) (cs' := [(.int .i64 ((foldK (addK k ((joinK k number l).1.take i)) (laidRe e49)).2.view)), (.int .i64 ((foldK (addK k ((joinK k number l).1.take i)) (laidRe e49)).2.normal)), (.int .i64 ((foldK (addK k ((joinK k number l).1.take i)) (laidRe e49)).2.base)), (.string (tx (foldK (addK k ((joinK k number l).1.take i)) (laidRe e49)).2.image)), (.slice A60 n61 c62)]) Tryz.sizeOf24 (H141.ob (i := 3) rfl) rfl rfl rfl rfl rfl rfl ?_
        intro w150 hz151 g152 o153
        have H154 : Sp [BlkA b70 24 [(.int .i64 ((foldK (addK k ((joinK k number l).1.take i)) (laidRe e49)).2.view)), (.int .i64 ((foldK (addK k ((joinK k number l).1.take i)) (laidRe e49)).2.normal)), (.int .i64 ((foldK (addK k ((joinK k number l).1.take i)) (laidRe e49)).2.base)), (.string (tx (foldK (addK k ((joinK k number l).1.take i)) (laidRe e49)).2.image)), (.slice A60 n61 c62)], RowA 31 11 A60 n61 c62 (ents ((foldK (addK k ((joinK k number l).1.take i)) (laidRe e49)).2.ents)), RoA w 11 A1 n1 c1 (ents ((addK k ((joinK k number l).1.take i)).ents)), BlkA b29 24 [(.int .i64 ((foldK (addK k ((joinK k number l).1.take i)) (laidRe e49)).2.view)), (.int .i64 ((foldK (addK k ((joinK k number l).1.take i)) (laidRe e49)).2.normal)), (.int .i64 ((foldK (addK k ((joinK k number l).1.take i)) (laidRe e49)).2.base)), (.string (tx (foldK (addK k ((joinK k number l).1.take i)) (laidRe e49)).2.image)), (.slice A60 n61 c62)], RowA 33 17 A14 n15 c16 (recsE ((joinK k number l).1)), BlkA b2 24 [(.int .i64 k.view), (.int .i64 k.normal), (.int .i64 k.base), (.string (tx k.image)), (.slice A n c)], Fix w NoB] w150 := H141.setB (i := 3) rfl g152 o153 rfl
        have z155 := g152.size
        refine RL.nil (inB.n (thn.n (CW.region ?_)))
        refine RL.go rfl rfl rfl (Ex.mv (v := (.int .i64 (i : Int))) rfl) ?_
        refine RL.go rfl rfl rfl (Ex.add (r := (i : Int) + 1) rfl rfl (w64 (by omega) (by omega))) ?_
        refine RL.go rfl rfl rfl (Ex.as (v := (.int .i64 ((i : Int) + 1))) rfl) ?_
        refine RL.nil (thn.n ?_)
        have H156 : Sp [BlkA b70 24 [(.int .i64 ((foldK (addK k ((joinK k number l).1.take i)) (laidRe e49)).2.view)), (.int .i64 ((foldK (addK k ((joinK k number l).1.take i)) (laidRe e49)).2.normal)), (.int .i64 ((foldK (addK k ((joinK k number l).1.take i)) (laidRe e49)).2.base)), (.string (tx (foldK (addK k ((joinK k number l).1.take i)) (laidRe e49)).2.image)), (.slice A60 n61 c62)], RoA w 11 A60 n61 c62 (ents ((foldK (addK k ((joinK k number l).1.take i)) (laidRe e49)).2.ents)), RoA w 11 A1 n1 c1 (ents ((addK k ((joinK k number l).1.take i)).ents)), BlkA b29 24 [(.int .i64 ((foldK (addK k ((joinK k number l).1.take i)) (laidRe e49)).2.view)), (.int .i64 ((foldK (addK k ((joinK k number l).1.take i)) (laidRe e49)).2.normal)), (.int .i64 ((foldK (addK k ((joinK k number l).1.take i)) (laidRe e49)).2.base)), (.string (tx (foldK (addK k ((joinK k number l).1.take i)) (laidRe e49)).2.image)), (.slice A60 n61 c62)], RowA 33 17 A14 n15 c16 (recsE ((joinK k number l).1)), BlkA b2 24 [(.int .i64 k.view), (.int .i64 k.normal), (.int .i64 k.base), (.string (tx k.image)), (.slice A n c)], Fix w NoB] w150 := H154.ro2 (w0 := w) (i := 1) rfl rfl
        rw [hx1] at H156
        refine ⟨(by repeat (first | exact Out.mix _ _ | exact Out.refl _ _ | refine Out.up ?_ rfl _ | refine Out.mixIn ?_ (by intro t ht; simp only [Bool.or_eq_false_iff, Bool.and_eq_false_iff, ble_f, beq_f] at ht ⊢; omega))), _, ?_, i + 1, n61, c62, A60, rfl, rfl, (H156.sel [1, 3, 4, 5, 6] (by decide) rfl), by omega, hx2, by show (k.ents ++ _).length ≤ _; rw [List.length_append, List.length_take]; omega⟩
        omega
     ·skip
      refine RL.nil (thn.n (CW.condF rfl (CW.exit (thn.x (thn.x (inB.hit (thn.n (CW.seq (CW.region ?_)))))))))
      have htk : (joinK k number l).1.take i = (joinK k number l).1 := List.take_of_length_le (by omega)
      rw [htk] at hkx hxl H46
      have haj : (addK k (joinK k number l).1).image.length ≤ 100000 := hbg3
      obtain ⟨hse, hsl⟩ := saved_end hjs (by omega) hok hkx
      refine RL.go rfl rfl rfl (Ex.ldv rfl (loadCN (cs := [(.int .i64 ((addK k (joinK k number l).1).view)), (.int .i64 ((addK k (joinK k number l).1).normal)), (.int .i64 ((addK k (joinK k number l).1).base)), (.string (tx (addK k (joinK k number l).1).image)), (.slice A1 n1 c1)]) wh24 (H46.ob (i := 1) rfl).cl)) ?_
      refine RL.go rfl rfl rfl (Ex.mv (v := (.int .i64 number)) rfl) ?_
      refine RL.go rfl rfl rfl (Ex.mv (v := (.slice A2 n2 c2)) rfl) ?_
      have hl157 := H46.roLen (i := 0) rfl
      rw [ents_length] at hl157
      have hc158 := H46.roCap (i := 0) rfl
      refine RL.call Tryz.call63 (join_ _ w43.heap.size (addK k (joinK k number l).1) A1 n1 c1 (H46.roRd (i := 0) (j := 4) rfl rfl) (Nat.le_refl _) (by first | assumption | rfl | omega | decide +kernel) (by first | assumption | rfl | omega | decide +kernel) (by first | assumption | rfl | omega | decide +kernel) (by first | assumption | rfl | omega | decide +kernel) number l A2 n2 c2 ((hr2.st0 (H46.fix (i := 4) rfl)).more (by omega)) (by first | assumption | rfl | omega | decide +kernel) (by first | assumption | rfl | omega | decide +kernel)) rfl rfl rfl ?_
      rintro _ w162 ⟨A159, n160, c161, rfl, g163⟩
      have g164 := g163.fix (i := 1) rfl
      have H165 : Sp [RowA 33 17 A159 n160 c161 (recsE ((joinK (addK k (joinK k number l).1) number l).1)), RoA w 11 A1 n1 c1 (ents ((addK k (joinK k number l).1).ents)), BlkA b29 24 [(.int .i64 ((addK k (joinK k number l).1).view)), (.int .i64 ((addK k (joinK k number l).1).normal)), (.int .i64 ((addK k (joinK k number l).1).base)), (.string (tx (addK k (joinK k number l).1).image)), (.slice A1 n1 c1)], RowA 33 17 A14 n15 c16 (recsE ((joinK k number l).1)), BlkA b2 24 [(.int .i64 k.view), (.int .i64 k.normal), (.int .i64 k.base), (.string (tx k.image)), (.slice A n c)], Fix w NoB] w162 := H46.join (m := [RowA 33 17 A159 n160 c161 (recsE ((joinK (addK k (joinK k number l).1) number l).1))]) g163
      have z166 := g164.size
      refine RL.go rfl rfl rfl (Ex.mv (v := (.tuple #[(.slice A159 n160 c161), (.bool ((joinK (addK k (joinK k number l).1) number l).2))])) rfl) ?_
      refine RL.go rfl rfl rfl (Ex.ext (vs := [(.slice A159 n160 c161), (.bool ((joinK (addK k (joinK k number l).1) number l).2))]) (v := (.slice A159 n160 c161)) rfl rfl) ?_
      refine RL.go rfl rfl rfl (Ex.ext (vs := [(.slice A159 n160 c161), (.bool ((joinK (addK k (joinK k number l).1) number l).2))]) (v := (.bool ((joinK (addK k (joinK k number l).1) number l).2))) rfl rfl) ?_
      refine RL.go rfl rfl rfl (Ex.as (v := (.slice A159 n160 c161)) rfl) ?_
      refine RL.go rfl rfl rfl (Ex.as (v := (.bool ((joinK (addK k (joinK k number l).1) number l).2))) rfl) ?_
      refine RL.nil (thn.n (CW.seq ?_))
      refine CW.held (fun wq => Sp [RowA 33 17 A159 n160 c161 (recsE ((joinK (addK k (joinK k number l).1) number l).1)), RoA w 11 A1 n1 c1 (ents ((addK k (joinK k number l).1).ents)), BlkA b29 24 [(.int .i64 ((addK k (joinK k number l).1).view)), (.int .i64 ((addK k (joinK k number l).1).normal)), (.int .i64 ((addK k (joinK k number l).1).base)), (.string (tx (addK k (joinK k number l).1).image)), (.slice A1 n1 c1)], RowA 33 17 A14 n15 c16 (recsE ((joinK k number l).1)), BlkA b2 24 [(.int .i64 k.view), (.int .i64 k.normal), (.int .i64 k.base), (.string (tx k.image)), (.slice A n c)], Fix w NoB] wq) Tryz.mixed rfl ?_
      intro w167 g168
      have H169 := H165.grow g168
      have z170 := g168.size
      refine RA.one (i := 0) (by kernel_rfl) ?_
      refine ⟨_, 1, rfl, by kernel_rfl, ?_⟩
      have hl13 := H169.len (i := 0) rfl
      rw [recsE_length, hse] at hl13; simp only [List.length_nil] at hl13
      refine RL.call Tryz.call64 (joins16 _) rfl rfl rfl ?_
      rintro _ w171 ⟨rfl, g172⟩
      have H173 := H169.grow g172
      have z174 := g172.size
      refine RL.nil ?_
      refine ⟨H173, ?_⟩
      refine RA.tk 1 1 3 rfl rfl rfl (by kernel_rfl) (fun wq hq => Ex.mv (v := (.bool true)) rfl) H173 ?_
      refine RA.tk 2 3 7 rfl rfl rfl (by kernel_rfl) (fun wq hq => Ex.mv (v := .bool true) (by show Value.bool (joinK (addK k (joinK k number l).1) number l).2 = _; rw [hse])) H173 ?_
      refine RA.tk 3 7 15 rfl rfl rfl (by kernel_rfl) (fun wq hq => Ex.pkT (v := (.bool true)) rfl rfl) H173 ?_
      refine RA.tk 4 15 31 rfl rfl rfl (by kernel_rfl) (fun wq hq => Ex.mv (v := (.bool true)) rfl) H173 ?_
      refine RA.tk 5 31 63 rfl rfl rfl (by kernel_rfl) (fun wq hq => Ex.mv (v := (.slice A159 n160 c161)) rfl) H173 ?_
      refine RA.tk 6 63 127 rfl rfl rfl (by kernel_rfl) (fun wq hq => Ex.len Tryz.underlying84 rfl) H173 ?_
      refine RA.tk 7 127 255 rfl rfl rfl (by kernel_rfl) (fun wq hq => Ex.eqD (r := true) rfl rfl (decide_eq_true (by omega))) H173 ?_
      refine RA.tk 8 255 511 rfl rfl rfl (by kernel_rfl) (fun wq hq => Ex.pkT (v := (.bool true)) rfl rfl) H173 ?_
      refine RA.tk 9 511 1023 rfl rfl rfl (by kernel_rfl) (fun wq hq => Ex.mv (v := (.bool true)) rfl) H173 ?_
      refine RA.tk 14 1023 17407 rfl rfl rfl (by kernel_rfl) (fun wq hq => Ex.mv (v := (.int .i64 number)) rfl) H173 ?_
      refine RA.tk 15 17407 50175 rfl rfl rfl (by kernel_rfl) (fun wq hq => Ex.mv (v := (.slice A2 n2 c2)) rfl) H173 ?_
      refine RA.tk 16 50175 115711 rfl rfl rfl (by kernel_rfl) (fun wq hq => Ex.len Tryz.underlying22 rfl) H173 ?_
      refine RA.tk 17 115711 246783 rfl rfl rfl (by kernel_rfl) (fun wq hq => Ex.add (r := number + l.length) rfl rfl (by rw [w64 (by omega) (by omega)]; omega)) H173 ?_
      refine RA.tk 10 246783 247807 rfl rfl rfl (by kernel_rfl) (fun wq hq => Ex.ldv rfl (loadCN (cs := [(.int .i64 ((addK k (joinK k number l).1).view)), (.int .i64 ((addK k (joinK k number l).1).normal)), (.int .i64 ((addK k (joinK k number l).1).base)), (.string (tx (addK k (joinK k number l).1).image)), (.slice A1 n1 c1)]) wh24 (hq.ob (i := 2) rfl).cl)) H173 ?_
      refine RA.tk 12 247807 251903 rfl rfl rfl (by kernel_rfl) (fun wq hq => Ex.ldv rfl (loadCN (cs := [(.int .i64 k.view), (.int .i64 k.normal), (.int .i64 k.base), (.string (tx k.image)), (.slice A n c)]) wh24 (hq.ob (i := 4) rfl).cl)) H173 ?_
      refine RA.one (i := 11) (by kernel_rfl) ?_
      refine ⟨_, 253951, rfl, by kernel_rfl, ?_⟩
      have hl175 := H173.roLen (i := 1) rfl
      rw [ents_length] at hl175
      have hc176 := H173.roCap (i := 1) rfl
      refine RL.call Tryz.call62 (Last_ _ _ _ (addK k (joinK k number l).1) (KeptR.of (k := (addK k (joinK k number l).1)) (n := n1) (c := c1) (H173.roRd (i := 1) (j := 5) rfl rfl) (by show n1 = ((addK k (joinK k number l).1).ents).length; (try simp only [List.length_append, List.length_cons, List.length_nil, List.length_take, List.length_drop]); all_goals omega) (by omega) (by omega) (by first | assumption | (show List.length _ ≤ _; first | assumption | decide | omega))) (Nat.le_refl _)) rfl rfl rfl ?_
      rintro _ w177 ⟨rfl, g178⟩
      have H179 := H173.grow g178
      have z180 := g178.size
      refine RL.nil ?_
      refine ⟨H179, ?_⟩
      refine RA.one (i := 13) (by kernel_rfl) ?_
      refine ⟨_, 262143, rfl, by kernel_rfl, ?_⟩
      refine RL.call Tryz.call62 (Last_ _ _ _ k (KeptR.of (k := k) (n := n) (c := c) (hr.st0 (H179.fix (i := 5) rfl)) (by show n = (k.ents).length; (try simp only [List.length_append, List.length_cons, List.length_nil, List.length_take, List.length_drop]); all_goals omega) (by omega) (by omega) (by first | assumption | (show List.length _ ≤ _; first | assumption | decide | omega))) (by omega)) rfl rfl rfl ?_
      rintro _ w181 ⟨rfl, g182⟩
      have H183 := H179.grow g182
      have z184 := g182.size
      refine RL.nil ?_
      refine ⟨H183, ?_⟩
      refine RA.tk 18 262143 524287 rfl rfl rfl (by kernel_rfl) (fun wq hq => Ex.max2 (r := (if number + l.length > lastOf k then number + l.length else lastOf k)) rfl rfl (by first | rfl | (split <;> split <;> omega))) H183 ?_
      refine RA.tk 19 524287 1048575 rfl rfl rfl (by kernel_rfl) (fun wq hq => Ex.eqD (r := true) rfl rfl (decide_eq_true (by rw [hsl]))) H183 ?_
      refine RA.tk 20 1048575 2097151 rfl rfl rfl (by kernel_rfl) (fun wq hq => Ex.pkT (v := (.bool true)) rfl rfl) H183 ?_
      refine RA.tk 21 2097151 4194303 rfl rfl rfl (by kernel_rfl) (fun wq hq => Ex.mv (v := (.bool true)) rfl) H183 ?_
      refine RA.tk 22 4194303 8388607 rfl rfl rfl (by kernel_rfl) (fun wq hq => Ex.ldv rfl (loadCN (cs := [(.int .i64 ((addK k (joinK k number l).1).view)), (.int .i64 ((addK k (joinK k number l).1).normal)), (.int .i64 ((addK k (joinK k number l).1).base)), (.string (tx (addK k (joinK k number l).1).image)), (.slice A1 n1 c1)]) wh24 (hq.ob (i := 2) rfl).cl)) H183 ?_
      refine RA.one (i := 23) (by kernel_rfl) ?_
      refine ⟨_, 16777215, rfl, by kernel_rfl, ?_⟩
      have hl185 := H183.roLen (i := 1) rfl
      rw [ents_length] at hl185
      have hc186 := H183.roCap (i := 1) rfl
      refine RL.call Tryz.call57 (opCheck_ _ _ _ (addK k (joinK k number l).1) (KeptR.of (k := (addK k (joinK k number l).1)) (n := n1) (c := c1) (H183.roRd (i := 1) (j := 5) rfl rfl) (by show n1 = ((addK k (joinK k number l).1).ents).length; (try simp only [List.length_append, List.length_cons, List.length_nil, List.length_take, List.length_drop]); all_goals omega) (by omega) (by omega) (by first | assumption | (show List.length _ ≤ _; first | assumption | decide | omega))) (Nat.le_refl _)) rfl rfl rfl ?_
      rintro _ w187 ⟨rfl, g188⟩
      have H189 := H183.grow g188
      have z190 := g188.size
      refine RL.nil ?_
      refine ⟨H189, ?_⟩
      refine RA.tk 24 16777215 33554431 rfl rfl rfl (by kernel_rfl) (fun wq hq => Ex.eqD (r := true) rfl rfl (decide_eq_true (by rw [hkx]; rfl))) H189 ?_
      refine RA.tk 25 33554431 67108863 rfl rfl rfl (by kernel_rfl) (fun wq hq => Ex.pkT (v := (.bool true)) rfl rfl) H189 ?_
      refine RA.tk 26 67108863 134217727 rfl rfl rfl (by kernel_rfl) (fun wq hq => Ex.as (v := (.bool true)) rfl) H189 ?_
      refine RA.done (by kernel_rfl) ?_
      refine thn.n (CW.ret ?_)
      refine finQ.r (v := (.bool true)) (res1 rfl rfl) ?_
      exact ⟨rfl, (H189.fix (i := 5) rfl)⟩
  ·skip
   refine RL.nil (thn.n (CW.condT rfl (CW.seq (CW.region ?_))))
   refine RL.go rfl rfl rfl (Ex.as (v := (.bool true)) rfl) ?_
   refine RL.nil (thn.n (CW.ret (thn.r ?_)))
   refine finQ.r (v := (.bool true)) (res1 rfl rfl) ?_
   exact ⟨rfl, (H11.fix (i := 1) rfl)⟩
end Go.Proofs.YtfokljnhllflbaaGreat
namespace Go.Proofs.YtfokljnhllflbaaGreat
open Go
set_option maxRecDepth 100000
def sp : Char := Char.ofNat 32
theorem ws_app (r : List Char) : ∀ (a : List Char), (a.all fun c => c != sp) = true → wordsSigns (a ++ sp :: r) = a :: wordsSigns r
  | [], _ => rfl
  | c :: a, h => by
    simp only [List.all_cons, Bool.and_eq_true, bne_iff_ne, ne_eq] at h
    have ih := ws_app r a h.2
    rw [List.cons_append]
    conv => lhs; unfold wordsSigns
    split
    · rename_i e; cases e
    · rename_i e; injection e with e1 _; exact absurd e1 h.1
    · rename_i c' r' hne e
      injection e with e1 e2
      subst e1
      rw [← e2, ih]
theorem io_eq : Tryz.prog.initOrder.toList = "harness".toList ++ sp :: ("e992cc6d704afc89758aaf8fd9a77071690771db51468eeba60045f0eed610c9".toList ++ sp :: ("cut".toList ++ sp :: Tryz.prog.initOrder.toList.drop 77)) := by kernel_rfl
theorem io_words : behindMainWord (wordsSigns Tryz.prog.initOrder.toList) = "cut".toList :: wordsSigns (Tryz.prog.initOrder.toList.drop 77) := by
  rw [io_eq, ws_app _ _ (by decide), ws_app _ _ (by decide), ws_app _ _ (by decide)]
  rw [← io_eq]
  generalize wordsSigns (Tryz.prog.initOrder.toList.drop 77) = ws
  show (if (("harness".toList == "harness".toList || "harness".toList == "ownmain".toList) && isSumSigns "e992cc6d704afc89758aaf8fd9a77071690771db51468eeba60045f0eed610c9".toList) = true then "cut".toList :: ws else "harness".toList :: "e992cc6d704afc89758aaf8fd9a77071690771db51468eeba60045f0eed610c9".toList :: "cut".toList :: ws) = _
  rw [if_pos (by decide)]
theorem sl (ws : List (List Char)) : stripLifts liftWords ("cut".toList :: ws) = ([], "cut".toList :: ws) := by
  unfold liftWords
  simp only [stripLifts]
  rfl
theorem hl : Tryz.prog.headLifts = [] := by unfold Program.headLifts; rw [io_words, sl]; rfl
theorem jf_later : Tryz.prog.laysLater = false := by kernel_rfl
theorem jf_refl : Tryz.prog.bearsReflect = false := by kernel_rfl
theorem jf_rows : Tryz.prog.doorRows = [] := by kernel_rfl
theorem jf_door : Tryz.prog.doorFits [] = true := by unfold Program.doorFits; rw [jf_rows]; rfl
theorem jf_may : Tryz.prog.mayEnter = true := by
  unfold Program.mayEnter
  rw [io_words]
  generalize wordsSigns (Tryz.prog.initOrder.toList.drop 77) = ws
  have e := sl ws
  simp only [e, jf_later, jf_refl, jf_door]
  simp
theorem jf_lift : Tryz.prog.liftsFinal = false := by
  unfold Program.liftsFinal
  rw [io_words, hl]
  generalize wordsSigns (Tryz.prog.initOrder.toList.drop 77) = ws
  rfl
theorem jf_make : Tryz.prog.make = some .cut := by
  unfold Program.make
  rw [io_words]
  generalize wordsSigns (Tryz.prog.initOrder.toList.drop 77) = ws
  rfl
end Go.Proofs.YtfokljnhllflbaaGreat
namespace Go.Proofs.YtfokljnhllflbaaGreat
open Go
set_option maxRecDepth 100000
theorem jf_prepareSaved0 : (Rows.prepareSavedRow.wf (OpenSpec.ofChange Rows.prepareSavedSpec)) = true := by kernel_rfl
theorem jf_prepareSaved1 : (laidOutB Tryz.prog) = true := by kernel_rfl
theorem jf_prepareSaved2 : (mapsRowed Tryz.prog) = true := by kernel_rfl
theorem jf_prepareSaved3 : (Tryz.f11.params.all (Tryz.prog.readableRec ·)) = true := by kernel_rfl
theorem jf_prepareSaved4 : (namedTie Tryz.prog Rows.prepareSavedRow.named Rows.prepareSavedSpec.vars) = true := by kernel_rfl
theorem jf_prepareSaved5 : ((Rows.prepareSavedRow.stops == [])) = true := by kernel_rfl
theorem jf_prepareSaved6 : ((Tryz.prog.stops == [])) = true := by kernel_rfl
theorem jf_prepareSaved7 : ((Rows.prepareSavedRow.knobs == [])) = true := by kernel_rfl
theorem jf_prepareSaved8 : ((Tryz.prog.stopKnobs == [])) = true := by kernel_rfl
theorem jf_prepareSaved9 : ((Rows.prepareSavedRow.inPlace == Tryz.prog.inPlace 11)) = true := by kernel_rfl
theorem jf_prepareSaved10 : ((Rows.prepareSavedRow.unfollowed == Tryz.prog.unfollowed 11)) = true := by kernel_rfl
theorem jf_prepareSaved11 : ((Rows.prepareSavedRow.recurses == Tryz.prog.recurses 11)) = true := by kernel_rfl
theorem jf_prepareSaved12 : ((Rows.prepareSavedRow.named == Tryz.prog.varsNamed 11)) = true := by kernel_rfl
theorem jf_prepareSaved13 : ((Rows.prepareSavedRow.maps == (Tryz.f11.params.toList ++ Rows.prepareSavedSpec.plain.varTypes Tryz.prog).any (Tryz.prog.mapsRec ·))) = true := by kernel_rfl
theorem jf_prepareSaved14 : ((Rows.prepareSavedRow.ifaces == (Tryz.f11.params.toList ++ Rows.prepareSavedSpec.plain.varTypes Tryz.prog).any (Tryz.prog.ifacesRec ·))) = true := by kernel_rfl
theorem jf_prepareSaved15 : ((Rows.prepareSavedRow.mapsOut == Tryz.prog.mapsAmong Tryz.f11.resultTypes.toList)) = true := by kernel_rfl
theorem jf_prepareSaved16 : ((Rows.prepareSavedRow.loops == (Tryz.f11.params.toList ++ Rows.prepareSavedSpec.plain.varTypes Tryz.prog).any (Tryz.prog.loopsFrom ·))) = true := by kernel_rfl
theorem jf_prepareSaved17 : ((Rows.prepareSavedRow.wideKeys == (Tryz.f11.params.toList ++ Rows.prepareSavedSpec.plain.varTypes Tryz.prog ++ Tryz.f11.resultTypes.toList).any (Tryz.prog.wideKeysFrom ·))) = true := by kernel_rfl
theorem jf_prepareSaved18 : (Rows.prepareSavedSpec.vars.all (Tryz.prog.varReadable ·)) = true := by kernel_rfl
theorem jf_prepareSaved19 : (Tryz.f11.resultTypes.all (fun t => Tryz.prog.readableRec t && decide (t < Tryz.prog.types.size))) = true := by kernel_rfl
theorem jf_prepareSaved20 : ((Rows.prepareSavedRow.ifacesOut == Tryz.f11.resultTypes.toList.any (Tryz.prog.ifacesRec ·))) = true := by kernel_rfl
theorem jf_prepareSaved21 : ((Rows.prepareSavedRow.loopsOut == Tryz.f11.resultTypes.toList.any (Tryz.prog.loopsFrom ·))) = true := by kernel_rfl
theorem jf_prepareSaved22 : ((Rows.prepareSavedRow.plainKeys == Tryz.prog.plainKeys)) = true := by kernel_rfl
theorem jf_prepareSaved23 : (Rows.prepareSavedRow.shortTexts.isNone) = true := by kernel_rfl
theorem jf_prepareSaved24 : (Tryz.prog.stopsHeard) = true := by kernel_rfl
theorem jf_prepareSaved25 : (Tryz.prog.mayEnter) = true := jf_may
theorem jf_prepareSaved26 : ((Rows.prepareSavedRow.lifted == Tryz.prog.liftsFinal)) = true := by rw [jf_lift]; rfl
theorem jf_prepareSaved27 : ((Tryz.prog.make == some Rows.prepareSavedRow.make)) = true := by rw [jf_make]; rfl
theorem jf_prepareSaved28 : ((Rows.prepareSavedRow.kinds == (if Rows.prepareSavedRow.domain.isEmpty then [] else Tryz.f11.params.toList.map fun t => match Tryz.prog.underlying t with | some (.int k) => some k | _ => none))) = true := by kernel_rfl
theorem jf_prepareSaved29 : ((Rows.prepareSavedRow.pinned == Rows.prepareSavedRow.pinnedBy)) = true := by kernel_rfl
theorem jf_prepareSaved30 : ((Rows.prepareSavedRow.veiled == (Tryz.f11.params.toList ++ Rows.prepareSavedSpec.plain.varTypes Tryz.prog ++ Tryz.f11.resultTypes.toList).any (Tryz.prog.veiledRec ·))) = true := by kernel_rfl
theorem jf_prepareSaved31 : (Rows.prepareSavedRow.veiledFits Tryz.prog Tryz.f11.params.toList (Tryz.f11.params.toList ++ Rows.prepareSavedSpec.plain.varTypes Tryz.prog ++ Tryz.f11.resultTypes.toList)) = true := by kernel_rfl
theorem jf_prepareSaved : joinedFacts Tryz.prog 11 Tryz.f11 Rows.prepareSavedSpec Rows.prepareSavedRow = true := by
  unfold joinedFacts
  simp only [Bool.and_eq_true]
  exact ⟨⟨⟨⟨⟨⟨⟨⟨⟨⟨⟨⟨⟨⟨⟨⟨⟨⟨⟨⟨⟨⟨⟨⟨⟨⟨⟨⟨⟨⟨⟨jf_prepareSaved0, jf_prepareSaved1⟩, jf_prepareSaved2⟩, jf_prepareSaved3⟩, jf_prepareSaved4⟩, jf_prepareSaved5⟩, jf_prepareSaved6⟩, jf_prepareSaved7⟩, jf_prepareSaved8⟩, jf_prepareSaved9⟩, jf_prepareSaved10⟩, jf_prepareSaved11⟩, jf_prepareSaved12⟩, jf_prepareSaved13⟩, jf_prepareSaved14⟩, jf_prepareSaved15⟩, jf_prepareSaved16⟩, jf_prepareSaved17⟩, jf_prepareSaved18⟩, jf_prepareSaved19⟩, jf_prepareSaved20⟩, jf_prepareSaved21⟩, jf_prepareSaved22⟩, jf_prepareSaved23⟩, jf_prepareSaved24⟩, jf_prepareSaved25⟩, jf_prepareSaved26⟩, jf_prepareSaved27⟩, jf_prepareSaved28⟩, jf_prepareSaved29⟩, jf_prepareSaved30⟩, jf_prepareSaved31⟩
end Go.Proofs.YtfokljnhllflbaaGreat
namespace Go.Proofs.YtfokljnhllflbaaGreat
open Go Go.Eng Go.ChangeShapes Go.WideShapes Go.ChangeAt Go.RowKit
set_option maxRecDepth 100000 in
theorem prepareSaved_lifted (os : Os) (started : os.Started) (H : Type) (enc : TypeId × Value → H) :
    ReturnsInHanded {} Tryz.checked os 11 .any (Rows.prepareSavedSpec.pre6 enc Tryz.prog Tryz.f11 Rows.prepareSavedRow.domain false) (Rows.prepareSavedSpec.post enc Tryz.prog Tryz.f11 false true false false) := by
  refine returnsInHanded_of_change (C := Tryz.checked) Tryz.own started (by kernel_rfl) Tryz.func11
    (ChangeSpec.witness6 (enc := enc) (C := Tryz.checked) false ⟨#[], #[(.agg #[(.int .i64 0), (.int .i64 0), (.int .i64 0), (.string (⟨#[]⟩)), (.slice none 0 0)]), (.int .i64 0), (.slice none 0 0)], []⟩ 8 (by kernel_rfl) (by kernel_rfl) (by kernel_rfl) (by kernel_rfl)) ?_
  intro W base args ds gs before hval0 hW hcnd _
  have hval : ∀ (j : Nat) t v, Tryz.f11.params[j]? = some t → args[j]? = some v → Value.okWide Tryz.prog W .any base t v := hval0
  have hW' := hW
  obtain ⟨p, q, hA0, hV, rfl, hfz, hnd⟩ := hW
  have hA : DataW.TrodAll enc Tryz.prog W 0 (fun _ => true) true Tryz.f11.params.toList args.toList ds p := hA0
  rw [Tryz.params11] at hA hval
  clear hA0 hval0
  obtain ⟨v0, vs0, d0, ds0, p0, q0, ha0, rfl, rfl, h0, hA⟩ := trodAll_cons hA
  obtain ⟨v1, vs1, d1, ds1, p1, q1, ha1, rfl, rfl, h1, hA⟩ := trodAll_cons hA
  obtain ⟨v2, vs2, d2, ds2, p2, q2, ha2, rfl, rfl, h2, hA⟩ := trodAll_cons hA
  obtain ⟨hz1, rfl, rfl⟩ := trodAll_nil hA
  obtain ⟨rfl, rfl⟩ := trodVars_none hV
  have hargs : args = #[v0, v1, v2] := by apply Array.ext'; rw [ha0, ha1, ha2, hz1]
  subst hargs
  obtain ⟨l0, e0, c0⟩ := tr_agg Tryz.underlying24 (hval 0 24 v0 rfl rfl)
  obtain ⟨m0, h0⟩ := h0
  rw [c0] at h0
  clear c0
  obtain ⟨k, A, n, c, q0, hr, hn, hc, hk0, hk1, hk2, hke⟩ := op_Kept h0
  subst q0
  subst e0
  obtain ⟨number, q1, hnr⟩ := tr_pint Tryz.underlying3 (hval 1 3 v1 rfl rfl)
  subst q1
  clear h1
  obtain ⟨m2, h2⟩ := h2
  obtain ⟨A2, n2, c2, mm2, xs2, q2, hn2, hc2, hr2, hx2⟩ := tr_psl Tryz.underlying22 co31 (by decide) (hval 2 22 v2 rfl rfl) h2
  subst q2
  clear h2
  obtain ⟨l, q2, hle⟩ := tr_list (f := Entry.cells) (p := Entry.ok) (fun y hy => by obtain ⟨z, hz⟩ := hy; exact op_Entry hz) hx2
  subst q2
  rw [List.length_map] at hn2
  refine Calls.mono (prepareSaved_ W W.heap.size k A n c hr (Nat.le_refl _) hn hc number l A2 n2 c2 hr2 hn2 hc2 (fun e he => (hle e he).1) hnr) ?_
  rintro e W' ⟨v, rfl, rfl, g⟩
  exact ⟨_, rfl, law_post (t := 4) Tryz.laidOut (by kernel_rfl) rfl Tryz.underlying4 hW' rfl rfl g⟩
theorem prepareSaved_holds : Rows.PrepareSavedSaid :=
  OpenClaim.holds_of_wide 11 Tryz.f11 rfl rfl rfl rfl rfl rfl rfl ⟨rfl, rfl, rfl, rfl, rfl⟩ rfl rfl rfl rfl rfl (by kernel_rfl) Tryz.func11 jf_prepareSaved
    (of_decide_eq_true (by kernel_rfl)) (by unfold Func.isWrapper; first | (rw [if_pos (by decide +kernel)]; kernel_rfl) | (rw [if_neg (by decide +kernel)]; exact ⟨rfl, rfl⟩))
    (fun os started H enc _ => prepareSaved_lifted os started H enc)
#print axioms prepareSaved_holds
end Go.Proofs.YtfokljnhllflbaaGreat
