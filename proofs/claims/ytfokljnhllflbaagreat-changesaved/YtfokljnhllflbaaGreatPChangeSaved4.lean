/- Part 5 of the proof of ChangeSaved: C15, C16, C17, Spec13, C18, Spec14, Spec15. -/
import Derived.Deep.Quiet
import Derived.Ground.NamesProg
import Derived.Ground.SlgcProg
import Derived.Ground.SlsfProg
import Derived.JoinedOf
import Derived.Laws.BytesString
import Derived.Laws.MakeOwn
import Derived.Laws.Strings
import Derived.Lib.AppendZeros
import Derived.Lib.ConvBytes
import Derived.Lib.Overlaps
import Derived.Maps.AppendAt
import Derived.OrdersHeld
import Derived.ProofKit
import Derived.Recover
import Derived.ScopeJumps
import Derived.Shelf.SlSortCmp.NoneTotal
import Derived.Shelf.SlSortCmp.WholeK
import Derived.Shelf.SlicesG.Cmp
import Derived.Shelf.Small.Bits
import Derived.Sort.OwnSortedInts
import Derived.StillTail
import Derived.Test.YtfokljnhllflbaaGreatProg
import Derived.WalkKit
import Derived.WalkLawsBesides
import Derived.WalkSpells
import Derived.Test.YtfokljnhllflbaaGreatPChangeSaved3
set_option linter.unusedSimpArgs false
set_option linter.unusedVariables false
namespace Go.Proofs.YtfokljnhllflbaaGreat
open Go Go.Eng Go.RowKit
set_option maxHeartbeats 400000 in
set_option maxRecDepth 20000 in
theorem above_ (w : World) (B : Nat) (k : Kept) (A : Option Addr) (n c : Nat) (hr : Rd w B 11 A (ents k.ents)) (hB : B ≤ w.heap.size) (hn : n = k.ents.length) (hm : n ≤ 1099511627776) (hc : n ≤ c) (hi : k.image.length ≤ 140737488351232) (number most : Int) (h1 : -9000000000000000000 ≤ number) (h2 : number ≤ 9223372036854775807) (h3 : most ≤ 1099511627776) : Ret Tryz.prog 58 [(.agg ([(.int .i64 k.view), (.int .i64 k.normal), (.int .i64 k.base), (.string (tx k.image)), (.slice A n c)]).toArray), (.int .i64 number), (.int .i64 most)] w (fun v w' => ∃ (A' : Option Addr) (n' c' : Nat), v = .slice A' n' c' ∧ Sp ([RowA 31 11 A' n' c' (ents (aboveK k number most))] ++ [Fix w NoB]) w') := by
  have H0 : Sp [Fix w NoB] w := Sp.start w
  refine Ret.body Tryz.func58 rfl rfl rfl ?_
  refine CW.seq (CW.region ?_)
  refine RL.bx (cs := [(.int .i64 k.view), (.int .i64 k.normal), (.int .i64 k.base), (.string (tx k.image)), (.slice A n c)]) rfl rfl rfl ?_
  intro w1 b2 hb3 hz4 g5 o6
  have H7 := H0.newB g5 o6 (by omega)
  have z8 := g5.size
  refine RL.go rfl rfl rfl (Ex.as (v := (.slice none 0 0)) rfl) ?_
  refine RL.nil (thn.n (CW.seq (CW.seq (CW.region ?_))))
  refine RL.go rfl rfl rfl (Ex.ldv rfl (loadCN (cs := [(.int .i64 k.view), (.int .i64 k.normal), (.int .i64 k.base), (.string (tx k.image)), (.slice A n c)]) wh24 (H7.ob (i := 0) rfl).cl)) ?_
  refine RL.call Tryz.call57 (opCheck_ _ _ _ k (KeptR.of (k := k) (n := n) (c := c) (hr.st0 (H7.fix (i := 1) rfl)) (by show n = (k.ents).length; (try simp only [List.length_append, List.length_cons, List.length_nil, List.length_take, List.length_drop]); all_goals omega) (by omega) (by omega) (by first | assumption | (show List.length _ ≤ _; first | assumption | decide | omega))) (by omega)) rfl rfl rfl ?_
  rintro _ w9 ⟨rfl, g10⟩
  have H11 := H7.grow g10
  have z12 := g10.size
  refine RL.br (p := ((if keptB k then 0 else 1) : Int) ≠ (0 : Int)) rfl rfl rfl (fun r hr => Ex.neD rfl rfl hr) (fun h13 => ?_) (fun h13 => ?_)
  ·skip
   refine RL.go rfl rfl rfl (Ex.mv (v := (.bool true)) rfl) ?_
   refine RL.out rfl rfl rfl ?_
   refine RL.out rfl rfl rfl ?_
   refine RL.go rfl rfl rfl (Ex.pkT (v := (.bool true)) rfl rfl) ?_
   refine RL.go rfl rfl rfl (Ex.mv (v := (.bool true)) rfl) ?_
   refine RL.out rfl rfl rfl ?_
   refine RL.out rfl rfl rfl ?_
   refine RL.out rfl rfl rfl ?_
   refine RL.out rfl rfl rfl ?_
   refine RL.go rfl rfl rfl (Ex.pkT (v := (.bool true)) rfl rfl) ?_
   refine RL.nil (thn.n (CW.condT rfl (CW.seq (CW.region ?_))))
   refine RL.go rfl rfl rfl (Ex.as (v := (.slice none 0 0)) rfl) ?_
   refine RL.nil (thn.n (CW.ret (thn.r ?_)))
   refine finQ.r (v := (.slice none 0 0)) (res1 rfl rfl) ?_
   have H14 := H11.nil_ 31 11
   have ha : aboveK k number most = [] := by
     unfold aboveK
     rw [if_pos]
     first | exact .inl (ite_ne0 h13) | exact .inr (.inl h13) | exact .inr (.inr h13)
   exact ⟨none, 0, 0, rfl, ha ▸ (H14.sel [0, 2] (by decide) rfl)⟩
  ·skip
   refine RL.go rfl rfl rfl (Ex.mv (v := (.bool false)) rfl) ?_
   refine RL.go rfl rfl rfl (Ex.mv (v := (.int .i64 most)) rfl) ?_
   refine RL.br (p := (most : Int) < (1 : Int)) rfl rfl rfl (fun r hr => Ex.lt rfl rfl hr) (fun h15 => ?_) (fun h15 => ?_)
   ·skip
    refine RL.go rfl rfl rfl (Ex.pkF (v := (.bool true)) rfl rfl) ?_
    refine RL.go rfl rfl rfl (Ex.mv (v := (.bool true)) rfl) ?_
    refine RL.out rfl rfl rfl ?_
    refine RL.out rfl rfl rfl ?_
    refine RL.out rfl rfl rfl ?_
    refine RL.out rfl rfl rfl ?_
    refine RL.go rfl rfl rfl (Ex.pkT (v := (.bool true)) rfl rfl) ?_
    refine RL.nil (thn.n (CW.condT rfl (CW.seq (CW.region ?_))))
    refine RL.go rfl rfl rfl (Ex.as (v := (.slice none 0 0)) rfl) ?_
    refine RL.nil (thn.n (CW.ret (thn.r ?_)))
    refine finQ.r (v := (.slice none 0 0)) (res1 rfl rfl) ?_
    have H16 := H11.nil_ 31 11
    have ha : aboveK k number most = [] := by
      unfold aboveK
      rw [if_pos]
      first | exact .inl (ite_ne0 h13) | exact .inr (.inl h15) | exact .inr (.inr h15)
    exact ⟨none, 0, 0, rfl, ha ▸ (H16.sel [0, 2] (by decide) rfl)⟩
   ·skip
    refine RL.go rfl rfl rfl (Ex.pkF (v := (.bool false)) rfl rfl) ?_
    refine RL.go rfl rfl rfl (Ex.mv (v := (.bool false)) rfl) ?_
    refine RL.go rfl rfl rfl (Ex.mv (v := (.int .i64 number)) rfl) ?_
    refine RL.go rfl rfl rfl (Ex.ldv rfl (loadCN (cs := [(.int .i64 k.view), (.int .i64 k.normal), (.int .i64 k.base), (.string (tx k.image)), (.slice A n c)]) wh24 (H11.ob (i := 0) rfl).cl)) ?_
    refine RL.call Tryz.call125 (last_ _ _ _ k (KeptR.of (k := k) (n := n) (c := c) (hr.st0 (H11.fix (i := 1) rfl)) (by show n = (k.ents).length; (try simp only [List.length_append, List.length_cons, List.length_nil, List.length_take, List.length_drop]); all_goals omega) (by omega) (by omega) (by first | assumption | (show List.length _ ≤ _; first | assumption | decide | omega))) (by omega) (ite_eq0 h13)) rfl rfl rfl ?_
    rintro _ w17 ⟨rfl, g18⟩
    have H19 := H11.grow g18
    have z20 := g18.size
    refine RL.br (p := ((k.base + (k.ents.length : Int)) : Int) ≤ (number : Int)) rfl rfl rfl (fun r hr => Ex.ge rfl rfl hr) (fun h21 => ?_) (fun h21 => ?_)
    ·skip
     refine RL.go rfl rfl rfl (Ex.pkF (v := (.bool true)) rfl rfl) ?_
     refine RL.nil (thn.n (CW.condT rfl (CW.seq (CW.region ?_))))
     refine RL.go rfl rfl rfl (Ex.as (v := (.slice none 0 0)) rfl) ?_
     refine RL.nil (thn.n (CW.ret (thn.r ?_)))
     refine finQ.r (v := (.slice none 0 0)) (res1 rfl rfl) ?_
     have H22 := H19.nil_ 31 11
     have ha : aboveK k number most = [] := by
       unfold aboveK
       rw [if_pos]
       first | exact .inl (ite_ne0 h13) | exact .inr (.inl h21) | exact .inr (.inr h21)
     exact ⟨none, 0, 0, rfl, ha ▸ (H22.sel [0, 2] (by decide) rfl)⟩
    ·skip
     refine RL.go rfl rfl rfl (Ex.pkF (v := (.bool false)) rfl rfl) ?_
     refine RL.nil (thn.n (CW.condF rfl (CW.skip (thn.n (CW.seq (CW.region ?_))))))
     refine RL.go rfl rfl rfl (fa24_4 (b := ⟨b2, 4, none⟩) rfl rfl) ?_
     refine RL.go rfl rfl rfl (Ex.ldv rfl (loadC1 lo22 (Ob.cell (v := (.slice A n c)) (H19.ob (i := 0) rfl) rfl))) ?_
     refine RL.go rfl rfl rfl (Ex.mv (v := (.int .i64 number)) rfl) ?_
     refine RL.go rfl rfl rfl (fa24_2 (b := ⟨b2, 2, none⟩) rfl rfl) ?_
     refine RL.go rfl rfl rfl (Ex.ldv rfl (loadC1 lo3 (Ob.cell (v := (.int .i64 k.base)) (H19.ob (i := 0) rfl) rfl))) ?_
     have hkk := ite_eq0 h13
     have hkt := keptB_t hkk
     have hll : lastK k = k.base + k.ents.length := rfl
     refine RL.go rfl rfl rfl (Ex.sub_ (r := number - k.base) rfl rfl (w64 (by omega) (by omega))) ?_
     refine RL.go rfl rfl rfl (Ex.max2 (r := (((number - k.base).toNat : Nat) : Int)) rfl rfl (by split <;> omega)) ?_
     refine RL.slR (i := ((number - k.base).toNat)) Tryz.underlying22 Tryz.sizeOf31 (hr.st0 (H19.fix (i := 1) rfl)) rfl rfl (by omega) (by omega) (by simp only [bcs_length, ics_length, rows_length, blks_length, robjs_length, ents_length, List.length_append, List.length_cons, List.length_nil, List.length_take, List.length_drop, List.length_map, enc4, enc8, encN_len, encW_len]; omega) rfl rfl ?_
     intro A23 r24
     refine RL.go rfl rfl rfl (Ex.as (v := (.slice A23 (n - ((number - k.base).toNat)) (c - ((number - k.base).toNat)))) rfl) ?_
     refine RL.nil (thn.n (CW.seq (CW.region ?_)))
     refine RL.go rfl rfl rfl (Ex.mv (v := (.slice A23 (n - ((number - k.base).toNat)) (c - ((number - k.base).toNat)))) rfl) ?_
     refine RL.go rfl rfl rfl (Ex.mv (v := (.int .i64 most)) rfl) ?_
     refine RL.go rfl rfl rfl (Ex.mv (v := (.slice A23 (n - ((number - k.base).toNat)) (c - ((number - k.base).toNat)))) rfl) ?_
     refine RL.go rfl rfl rfl (Ex.len Tryz.underlying22 rfl) ?_
     refine RL.go rfl rfl rfl (Ex.min2 (r := ((min most.toNat (n - (number - k.base).toNat) : Nat) : Int)) rfl rfl (by split <;> omega)) ?_
     refine RL.go rfl rfl rfl (Ex.slHi (i := (min most.toNat (n - (number - k.base).toNat))) Tryz.underlying22 Tryz.sizeOf31 rfl rfl rfl (by omega)) ?_
     refine RL.call Tryz.call89 (cloneEnt _ ((((k.ents).drop ((number - k.base).toNat)).take (min most.toNat (n - (number - k.base).toNat)))) _ _ _ _ (ents_take _ _ ▸ (ents_drop _ _ ▸ r24).take (min most.toNat (n - (number - k.base).toNat))) (by (try simp only [List.length_append, List.length_cons, List.length_nil, List.length_take, List.length_drop]); all_goals omega) (by omega)) rfl rfl rfl ?_
     rintro _ w28 ⟨A25, c26, rfl, g29, ow27⟩
     have H30 : Sp [RowA 31 11 A25 (min most.toNat (n - (number - k.base).toNat)) c26 (ents ((((k.ents).drop ((number - k.base).toNat)).take (min most.toNat (n - (number - k.base).toNat))))), BlkA b2 24 [(.int .i64 k.view), (.int .i64 k.normal), (.int .i64 k.base), (.string (tx k.image)), (.slice A n c)], Fix w NoB] w28 := H19.newO g29 ow27 (by simp only [bcs_length, ics_length, rows_length, blks_length, robjs_length, ents_length, List.length_append, List.length_cons, List.length_nil, List.length_take, List.length_drop, List.length_map, enc4, enc8, encN_len, encW_len]; omega) (Nat.le_refl _)
     have z31 := g29.size
     refine RL.go rfl rfl rfl (Ex.as (v := (.slice A25 (min most.toNat (n - (number - k.base).toNat)) c26)) rfl) ?_
     refine RL.nil (thn.n (CW.ret ?_))
     refine finQ.r (v := (.slice A25 (min most.toNat (n - (number - k.base).toNat)) c26)) (res1 rfl rfl) ?_
     have ha : aboveK k number most = ((k.ents).drop (number - k.base).toNat).take (min most.toNat (n - (number - k.base).toNat)) := by
       unfold aboveK
       rw [if_neg (by rintro (h1 | h1 | h1)
                      · rw [hkk] at h1; cases h1
                      · omega
                      · omega)]
       rw [List.take_eq_take_iff, List.length_drop]; omega
     exact ⟨_, _, _, rfl, ha ▸ (H30.sel [0, 2] (by decide) rfl)⟩
set_option maxHeartbeats 2000000 in
set_option maxRecDepth 20000 in
theorem fold_ (w : World) (S : Nat → Prop) (p : Nat) (k : Kept) (A : Option Addr) (n c : Nat) (hS : (AllA [BlkA p 141 [(.int .i64 k.view), (.int .i64 k.normal), (.int .i64 k.base), (.string (tx k.image)), (.slice A n c)], RowA 31 11 A n c (ents k.ents)]).ok S w) (hkk : keptB k = true) (hi : k.image.length ≤ 140737488351232) (r : Rec) (A2 : Option Addr) (n2 c2 : Nat) (hr2 : RdN w S 11 A2 (ents r.ents)) (hn2 : n2 = r.ents.length) (hm2 : n2 ≤ 1099511627776) (hc2 : n2 ≤ c2) (hi2 : r.image.length ≤ 140737488351232) : Ret Tryz.prog 109 [(.pointer (some ⟨p, 0, none⟩)), (.agg ([(.int .i64 r.kind), (.int .i64 r.view), (.int .i64 r.from_), (.int .i64 r.number), (.string (tx r.image)), (.int .i64 r.entry.num), (.int .i64 r.entry.view), (.int .i64 r.entry.client), (.int .i64 r.entry.seq), (.int .i64 r.entry.op.kind), (.int .i64 r.entry.op.h), (.int .i64 r.entry.op.i), (.int .i64 r.entry.op.n), (.int .i64 r.entry.op.k), (.int .i64 r.entry.op.v), (.int .i64 r.entry.op.t), (.slice A2 n2 c2)]).toArray)] w (fun v w' => ∃ (k' : Kept) (A' : Option Addr) (n' c' : Nat), v = .int .i64 (seenK (madeK k r)).1 ∧ Sp ([BlkA p 141 [.int .i64 k'.view, .int .i64 k'.normal, .int .i64 k'.base, .string (tx k'.image), .slice A' n' c'], RowA 31 11 A' n' c' (ents k'.ents)] ++ [Fix w S]) w' ∧ ((seenK (madeK k r)).1 = 0 → k' = (seenK (madeK k r)).2)) := by
  have hkt := keptB_t hkk
  have H0 := Sp.startL hS
  have hnl := H0.len (i := 1) rfl
  have hnc := H0.cap (i := 1) rfl
  simp only [ents_length] at hnl
  have H0 : Sp [BlkA p 141 [(.int .i64 k.view), (.int .i64 k.normal), (.int .i64 k.base), (.string (tx k.image)), (.slice A n c)], RowA 31 11 A n c (ents k.ents), Fix w S] w := H0
  refine Ret.body Tryz.func109 rfl rfl rfl ?_
  refine CW.seq (CW.region ?_)
  refine RL.bx (cs := [(.int .i64 r.kind), (.int .i64 r.view), (.int .i64 r.from_), (.int .i64 r.number), (.string (tx r.image)), (.int .i64 r.entry.num), (.int .i64 r.entry.view), (.int .i64 r.entry.client), (.int .i64 r.entry.seq), (.int .i64 r.entry.op.kind), (.int .i64 r.entry.op.h), (.int .i64 r.entry.op.i), (.int .i64 r.entry.op.n), (.int .i64 r.entry.op.k), (.int .i64 r.entry.op.v), (.int .i64 r.entry.op.t), (.slice A2 n2 c2)]) rfl rfl rfl ?_
  intro w1 b2 hb3 hz4 g5 o6
  have H7 := H0.newB g5 o6 (by omega)
  have z8 := g5.size
  refine RL.go rfl rfl rfl (Ex.as (v := (.int .i64 0)) rfl) ?_
  refine RL.nil (thn.n (CW.seq (CW.seq (CW.region ?_))))
  refine RL.go rfl rfl rfl (fa33_0 (b := ⟨b2, 0, none⟩) rfl rfl) ?_
  refine RL.go rfl rfl rfl (Ex.ldv rfl (loadC1 lo26 (Ob.cell (v := (.int .i64 r.kind)) (H7.ob (i := 0) rfl) rfl))) ?_
  refine RL.nil (thn.n (CW.block (CW.seq (CW.seq (CW.region ?_)))))
  refine RL.br (p := (r.kind : Int) = (1 : Int)) rfl rfl rfl (fun r hr => Ex.eqD rfl rfl hr) (fun h9 => ?_) (fun h9 => ?_)
  ·skip
   refine RL.go rfl rfl rfl (Ex.as (v := (.bool true)) rfl) ?_
   refine RL.nil (thn.n (CW.condT rfl (CW.skip (thn.n (CW.condT rfl (CW.seq ?_))))))
   refine CW.quiet (fun wq => World.grownBy w1 wq none) Tryz.mixed (by kernel_rfl) ⟨rfl, rfl, rfl, Nat.le_refl _, fun _ _ _ => rfl⟩ ?_
   refine QL.go rfl rfl rfl (fun wq gq => fa33_1 (b := ⟨b2, 1, none⟩) rfl rfl) ?_
   refine QL.go rfl rfl rfl (fun wq gq => Ex.ldv rfl (loadC1 lo3 (Ob.cell (v := (.int .i64 r.view)) ((H7.grow gq).ob (i := 0) rfl) rfl))) ?_
   refine QL.go rfl rfl rfl (fun wq gq => Ex.mv (v := (.pointer (some ⟨p, 0, none⟩))) rfl) ?_
   refine QL.go rfl rfl rfl (fun wq gq => Ex.nck rfl) ?_
   refine QL.go rfl rfl rfl (fun wq gq => fa141_0 (b := ⟨p, 0, none⟩) rfl rfl) ?_
   refine QL.go rfl rfl rfl (fun wq gq => fa24_0 (b := ⟨p, 0, none⟩) rfl rfl) ?_
   refine QL.go rfl rfl rfl (fun wq gq => Ex.ldv rfl (loadC1 lo3 (Ob.cell (v := (.int .i64 k.view)) ((H7.grow gq).ob (i := 1) rfl) rfl))) ?_
   refine QL.br (p := (r.view : Int) < (k.view : Int)) rfl rfl rfl (fun r hr wq gq => Ex.lt rfl rfl hr) (fun h10 => ?_) (fun h10 => ?_)
   ·skip
    refine QL.nil ?_
    intro w11 g12
    have H13 := H7.grow g12
    have z14 := g12.size
    refine thn.n (CW.condT rfl ?_)
    refine CW.seq (CW.region ?_)
    refine RL.go rfl rfl rfl (Ex.as (v := (.int .i64 141)) rfl) ?_
    refine RL.nil (thn.n (CW.ret (inB.r (thn.r ?_))))
    refine finQ.r (v := (.int .i64 141)) (res1 rfl rfl) ?_
    have hx : (seenK (madeK k r)).1 = 141 := by
      unfold madeK lastK
      simp [seenK, h9, h10]
    exact ⟨k, _, _, _, ret_int hx.symm, (H13.sel [1, 2, 3] (by decide) rfl), fun h0 => by rw [hx] at h0; cases h0⟩
   ·skip
    refine QL.nil ?_
    intro w15 g16
    have H17 := H7.grow g16
    have z18 := g16.size
    refine thn.n (CW.condF rfl ?_)
    refine CW.skip (inB.n (thn.n (CW.seq (CW.region ?_))))
    refine RL.go rfl rfl rfl (Ex.mv (v := (.pointer (some ⟨p, 0, none⟩))) rfl) ?_
    refine RL.go rfl rfl rfl (Ex.nck rfl) ?_
    refine RL.go rfl rfl rfl (fa141_0 (b := ⟨p, 0, none⟩) rfl rfl) ?_
    refine RL.go rfl rfl rfl (Ex.ldv rfl (loadCN (cs := [(.int .i64 k.view), (.int .i64 k.normal), (.int .i64 k.base), (.string (tx k.image)), (.slice A n c)]) wh24 (H17.ob (i := 1) rfl).cl)) ?_
    refine RL.call Tryz.call125 (last_ _ _ _ k (KeptR.of (k := k) (n := n) (c := c) (H17.rowrd (i := 2) rfl) (by show n = (k.ents).length; (try simp only [List.length_append, List.length_cons, List.length_nil, List.length_take, List.length_drop]); all_goals omega) (by omega) (by omega) (by first | assumption | (show List.length _ ≤ _; first | assumption | decide | omega))) (Nat.le_refl _) hkk) rfl rfl rfl ?_
    rintro _ w19 ⟨rfl, g20⟩
    have H21 := H17.grow g20
    have z22 := g20.size
    refine RL.go rfl rfl rfl (Ex.as (v := (.int .i64 (k.base + (k.ents.length : Int)))) rfl) ?_
    refine RL.nil (thn.n (CW.seq (CW.seq (CW.region ?_))))
    refine RL.go rfl rfl rfl (fa33_0 (b := ⟨b2, 0, none⟩) rfl rfl) ?_
    refine RL.go rfl rfl rfl (Ex.ldv rfl (loadC1 lo26 (Ob.cell (v := (.int .i64 r.kind)) (H21.ob (i := 0) rfl) rfl))) ?_
    refine RL.nil (thn.n (CW.block (CW.seq (CW.region ?_))))
    refine RL.go rfl rfl rfl (Ex.eqD (r := true) rfl rfl (decide_eq_true (by omega))) ?_
    refine RL.go rfl rfl rfl (Ex.as (v := (.bool true)) rfl) ?_
    refine RL.nil (thn.n (CW.condT rfl (CW.region ?_)))
    refine RL.go rfl rfl rfl (Ex.mv (v := (.pointer (some ⟨p, 0, none⟩))) rfl) ?_
    refine RL.go rfl rfl rfl (fa33_1 (b := ⟨b2, 1, none⟩) rfl rfl) ?_
    refine RL.go rfl rfl rfl (Ex.ldv rfl (loadC1 lo3 (Ob.cell (v := (.int .i64 r.view)) (H21.ob (i := 0) rfl) rfl))) ?_
    refine RL.go rfl rfl rfl (Ex.nck rfl) ?_
    refine RL.go rfl rfl rfl (fa141_0 (b := ⟨p, 0, none⟩) rfl rfl) ?_
    refine RL.go rfl rfl rfl (fa24_0 (b := ⟨p, 0, none⟩) rfl rfl) ?_
    refine RL.st (vs := [(.int .i64 r.view)]) (cs' := [(.int .i64 r.view), (.int .i64 k.normal), (.int .i64 k.base), (.string (tx k.image)), (.slice A n c)]) Tryz.sizeOf3 (H21.ob (i := 1) rfl) rfl rfl rfl rfl rfl rfl ?_
    intro w23 hz24 g25 o26
    have H27 : Sp [BlkA b2 33 [(.int .i64 r.kind), (.int .i64 r.view), (.int .i64 r.from_), (.int .i64 r.number), (.string (tx r.image)), (.int .i64 r.entry.num), (.int .i64 r.entry.view), (.int .i64 r.entry.client), (.int .i64 r.entry.seq), (.int .i64 r.entry.op.kind), (.int .i64 r.entry.op.h), (.int .i64 r.entry.op.i), (.int .i64 r.entry.op.n), (.int .i64 r.entry.op.k), (.int .i64 r.entry.op.v), (.int .i64 r.entry.op.t), (.slice A2 n2 c2)], BlkA p 141 [(.int .i64 r.view), (.int .i64 k.normal), (.int .i64 k.base), (.string (tx k.image)), (.slice A n c)], RowA 31 11 A n c (ents k.ents), Fix w S] w23 := H21.setB (i := 1) rfl g25 o26 rfl
    have z28 := g25.size
    refine RL.nil (inB.n (thn.n (CW.seq (CW.block (CW.seq (CW.region ?_))))))
    refine RL.go rfl rfl rfl (Ex.mv (v := (.pointer (some ⟨p, 0, none⟩))) rfl) ?_
    refine RL.go rfl rfl rfl (Ex.nck rfl) ?_
    refine RL.go rfl rfl rfl (fa141_0 (b := ⟨p, 0, none⟩) rfl rfl) ?_
    refine RL.go rfl rfl rfl (fa24_4 (b := ⟨p, 4, none⟩) rfl rfl) ?_
    refine RL.go rfl rfl rfl (Ex.ldv rfl (loadC1 lo22 (Ob.cell (v := (.slice A n c)) (H27.ob (i := 1) rfl) rfl))) ?_
    have hmk29 : madeK k r = (0, (⟨r.view, k.normal, k.base, k.image, k.ents⟩ : Kept)) := by
        unfold madeK lastK
        simp [h9, h10]
    have hln := H27.len (i := 2) rfl
    have hcn := H27.cap (i := 2) rfl
    simp only [bcs_length, ics_length, rows_length, blks_length, robjs_length, ents_length, List.length_append, List.length_cons, List.length_nil, List.length_take, List.length_drop, List.length_map, enc4, enc8, encN_len, encW_len] at hln
    refine RL.go rfl rfl rfl (Ex.len Tryz.underlying22 rfl) ?_
    refine RL.br (p := (4000 : Int) < ((n : Nat) : Int)) rfl rfl rfl (fun r hr => Ex.gt rfl rfl hr) (fun h30 => ?_) (fun h30 => ?_)
    ·skip
     refine RL.go rfl rfl rfl (Ex.as (v := (.bool true)) rfl) ?_
     refine RL.nil (thn.n (CW.condT rfl (CW.seq (CW.region ?_))))
     refine RL.go rfl rfl rfl (Ex.as (v := (.int .i64 2)) rfl) ?_
     refine RL.nil (thn.n (CW.ret (inB.r (thn.r ?_))))
     refine finQ.r (v := (.int .i64 2)) (res1 rfl rfl) ?_
     have hx : (seenK (madeK k r)).1 = 2 := by
       rw [hmk29]; unfold seenK
       rw [if_pos rfl, if_pos (by show 4000 < (List.length _); simp only [bcs_length, ics_length, rows_length, blks_length, robjs_length, ents_length, List.length_append, List.length_cons, List.length_nil, List.length_take, List.length_drop, List.length_map, enc4, enc8, encN_len, encW_len]; omega)]
     exact ⟨(⟨r.view, k.normal, k.base, k.image, k.ents⟩ : Kept), _, _, _, ret_int hx.symm, (H27.sel [1, 2, 3] (by decide) rfl), fun h0 => by rw [hx] at h0; cases h0⟩
    ·skip
     refine RL.go rfl rfl rfl (Ex.as (v := (.bool false)) rfl) ?_
     refine RL.nil (thn.n (CW.condF rfl (CW.seq (CW.region ?_))))
     refine RL.go rfl rfl rfl (Ex.mv (v := (.pointer (some ⟨p, 0, none⟩))) rfl) ?_
     refine RL.go rfl rfl rfl (Ex.nck rfl) ?_
     refine RL.go rfl rfl rfl (fa141_0 (b := ⟨p, 0, none⟩) rfl rfl) ?_
     refine RL.go rfl rfl rfl (Ex.ldv rfl (loadCN (cs := [(.int .i64 r.view), (.int .i64 k.normal), (.int .i64 k.base), (.string (tx k.image)), (.slice A n c)]) wh24 (H27.ob (i := 1) rfl).cl)) ?_
     refine RL.call Tryz.call57 (opCheck_ _ _ _ (⟨r.view, k.normal, k.base, k.image, k.ents⟩ : Kept) (KeptR.of (k := (⟨r.view, k.normal, k.base, k.image, k.ents⟩ : Kept)) (n := n) (c := c) (H27.rowrd (i := 2) rfl) (by show n = (k.ents).length; (try simp only [List.length_append, List.length_cons, List.length_nil, List.length_take, List.length_drop]); all_goals omega) (by omega) (by omega) (by first | assumption | (show List.length _ ≤ _; first | assumption | decide | omega))) (Nat.le_refl _)) rfl rfl rfl ?_
     rintro _ w31 ⟨rfl, g32⟩
     have H33 := H27.grow g32
     have z34 := g32.size
     refine RL.br (p := ((if keptB (⟨r.view, k.normal, k.base, k.image, k.ents⟩ : Kept) then 0 else 1) : Int) ≠ (0 : Int)) rfl rfl rfl (fun r hr => Ex.neD rfl rfl hr) (fun h35 => ?_) (fun h35 => ?_)
     ·skip
      refine RL.go rfl rfl rfl (Ex.as (v := (.bool true)) rfl) ?_
      refine RL.nil (thn.n (CW.condT rfl (CW.seq (CW.region ?_))))
      refine RL.go rfl rfl rfl (Ex.as (v := (.int .i64 141)) rfl) ?_
      refine RL.nil (thn.n (CW.ret (inB.r (thn.r ?_))))
      refine finQ.r (v := (.int .i64 141)) (res1 rfl rfl) ?_
      have hx : (seenK (madeK k r)).1 = 141 := by
        rw [hmk29]; unfold seenK
        rw [if_pos rfl, if_neg (by show ¬ 4000 < (List.length _); simp only [bcs_length, ics_length, rows_length, blks_length, robjs_length, ents_length, List.length_append, List.length_cons, List.length_nil, List.length_take, List.length_drop, List.length_map, enc4, enc8, encN_len, encW_len]; omega), if_neg (by have := ite_ne0 h35; intro h0; rw [h0] at this; cases this)]
      exact ⟨(⟨r.view, k.normal, k.base, k.image, k.ents⟩ : Kept), _, _, _, ret_int hx.symm, (H33.sel [1, 2, 3] (by decide) rfl), fun h0 => by rw [hx] at h0; cases h0⟩
     ·skip
      refine RL.go rfl rfl rfl (Ex.as (v := (.bool false)) rfl) ?_
      refine RL.nil (thn.n (CW.condF rfl (CW.skip (inB.n (thn.n (CW.seq (CW.region ?_)))))))
      refine RL.go rfl rfl rfl (Ex.as (v := (.int .i64 0)) rfl) ?_
      refine RL.nil (thn.n (CW.ret ?_))
      refine finQ.r (v := (.int .i64 0)) (res1 rfl rfl) ?_
      have hx : seenK (madeK k r) = (0, (⟨r.view, k.normal, k.base, k.image, k.ents⟩ : Kept)) := by
        rw [hmk29]; unfold seenK
        rw [if_pos rfl, if_neg (by show ¬ 4000 < (List.length _); simp only [bcs_length, ics_length, rows_length, blks_length, robjs_length, ents_length, List.length_append, List.length_cons, List.length_nil, List.length_take, List.length_drop, List.length_map, enc4, enc8, encN_len, encW_len]; omega), if_pos (by exact ite_eq0 h35)]
      exact ⟨(⟨r.view, k.normal, k.base, k.image, k.ents⟩ : Kept), _, _, _, by rw [hx], (H33.sel [1, 2, 3] (by decide) rfl), fun _ => by rw [hx]⟩
  ·skip
   refine RL.go rfl rfl rfl (Ex.as (v := (.bool false)) rfl) ?_
   refine RL.nil (thn.n (CW.condF rfl (CW.seq (CW.region ?_))))
   refine RL.br (p := (r.kind : Int) = (3 : Int)) rfl rfl rfl (fun r hr => Ex.eqD rfl rfl hr) (fun h36 => ?_) (fun h36 => ?_)
   ·skip
    refine RL.go rfl rfl rfl (Ex.as (v := (.bool true)) rfl) ?_
    refine RL.nil (thn.n (CW.condT rfl (CW.skip (thn.n (CW.condT rfl (CW.seq ?_))))))
    refine CW.quiet (fun wq => World.grownBy w1 wq none) Tryz.mixed (by kernel_rfl) ⟨rfl, rfl, rfl, Nat.le_refl _, fun _ _ _ => rfl⟩ ?_
    refine QL.go rfl rfl rfl (fun wq gq => fa33_1 (b := ⟨b2, 1, none⟩) rfl rfl) ?_
    refine QL.go rfl rfl rfl (fun wq gq => Ex.ldv rfl (loadC1 lo3 (Ob.cell (v := (.int .i64 r.view)) ((H7.grow gq).ob (i := 0) rfl) rfl))) ?_
    refine QL.go rfl rfl rfl (fun wq gq => Ex.mv (v := (.pointer (some ⟨p, 0, none⟩))) rfl) ?_
    refine QL.go rfl rfl rfl (fun wq gq => Ex.nck rfl) ?_
    refine QL.go rfl rfl rfl (fun wq gq => fa141_0 (b := ⟨p, 0, none⟩) rfl rfl) ?_
    refine QL.go rfl rfl rfl (fun wq gq => fa24_0 (b := ⟨p, 0, none⟩) rfl rfl) ?_
    refine QL.go rfl rfl rfl (fun wq gq => Ex.ldv rfl (loadC1 lo3 (Ob.cell (v := (.int .i64 k.view)) ((H7.grow gq).ob (i := 1) rfl) rfl))) ?_
    refine QL.br (p := (r.view : Int) < (k.view : Int)) rfl rfl rfl (fun r hr wq gq => Ex.lt rfl rfl hr) (fun h37 => ?_) (fun h37 => ?_)
    ·skip
     refine QL.nil ?_
     intro w38 g39
     have H40 := H7.grow g39
     have z41 := g39.size
     refine thn.n (CW.condT rfl ?_)
     refine CW.seq (CW.region ?_)
     refine RL.go rfl rfl rfl (Ex.as (v := (.int .i64 141)) rfl) ?_
     refine RL.nil (thn.n (CW.ret (inB.r (thn.r ?_))))
     refine finQ.r (v := (.int .i64 141)) (res1 rfl rfl) ?_
     have hx : (seenK (madeK k r)).1 = 141 := by
       unfold madeK lastK
       simp [seenK, h9, h36, h37]
     exact ⟨k, _, _, _, ret_int hx.symm, (H40.sel [1, 2, 3] (by decide) rfl), fun h0 => by rw [hx] at h0; cases h0⟩
    ·skip
     refine QL.nil ?_
     intro w42 g43
     have H44 := H7.grow g43
     have z45 := g43.size
     refine thn.n (CW.condF rfl ?_)
     refine CW.skip (inB.n (thn.n (CW.seq (CW.region ?_))))
     refine RL.go rfl rfl rfl (Ex.mv (v := (.pointer (some ⟨p, 0, none⟩))) rfl) ?_
     refine RL.go rfl rfl rfl (Ex.nck rfl) ?_
     refine RL.go rfl rfl rfl (fa141_0 (b := ⟨p, 0, none⟩) rfl rfl) ?_
     refine RL.go rfl rfl rfl (Ex.ldv rfl (loadCN (cs := [(.int .i64 k.view), (.int .i64 k.normal), (.int .i64 k.base), (.string (tx k.image)), (.slice A n c)]) wh24 (H44.ob (i := 1) rfl).cl)) ?_
     refine RL.call Tryz.call125 (last_ _ _ _ k (KeptR.of (k := k) (n := n) (c := c) (H44.rowrd (i := 2) rfl) (by show n = (k.ents).length; (try simp only [List.length_append, List.length_cons, List.length_nil, List.length_take, List.length_drop]); all_goals omega) (by omega) (by omega) (by first | assumption | (show List.length _ ≤ _; first | assumption | decide | omega))) (Nat.le_refl _) hkk) rfl rfl rfl ?_
     rintro _ w46 ⟨rfl, g47⟩
     have H48 := H44.grow g47
     have z49 := g47.size
     refine RL.go rfl rfl rfl (Ex.as (v := (.int .i64 (k.base + (k.ents.length : Int)))) rfl) ?_
     refine RL.nil (thn.n (CW.seq (CW.seq (CW.region ?_))))
     refine RL.go rfl rfl rfl (fa33_0 (b := ⟨b2, 0, none⟩) rfl rfl) ?_
     refine RL.go rfl rfl rfl (Ex.ldv rfl (loadC1 lo26 (Ob.cell (v := (.int .i64 r.kind)) (H48.ob (i := 0) rfl) rfl))) ?_
     refine RL.nil (thn.n (CW.block (CW.seq (CW.region ?_))))
     refine RL.go rfl rfl rfl (Ex.eqD (r := false) rfl rfl (decide_eq_false (by omega))) ?_
     refine RL.go rfl rfl rfl (Ex.as (v := (.bool false)) rfl) ?_
     refine RL.nil (thn.n (CW.condF rfl (CW.seq (CW.region ?_))))
     refine RL.go rfl rfl rfl (Ex.eqD (r := false) rfl rfl (decide_eq_false (by omega))) ?_
     refine RL.go rfl rfl rfl (Ex.as (v := (.bool false)) rfl) ?_
     refine RL.nil (thn.n (CW.condF rfl (CW.seq (CW.region ?_))))
     refine RL.go rfl rfl rfl (Ex.eqD (r := true) rfl rfl (decide_eq_true (by omega))) ?_
     refine RL.go rfl rfl rfl (Ex.as (v := (.bool true)) rfl) ?_
     refine RL.nil (thn.n (CW.condT rfl (CW.seq (CW.seq ?_))))
     refine CW.held (fun wq => Sp [BlkA b2 33 [(.int .i64 r.kind), (.int .i64 r.view), (.int .i64 r.from_), (.int .i64 r.number), (.string (tx r.image)), (.int .i64 r.entry.num), (.int .i64 r.entry.view), (.int .i64 r.entry.client), (.int .i64 r.entry.seq), (.int .i64 r.entry.op.kind), (.int .i64 r.entry.op.h), (.int .i64 r.entry.op.i), (.int .i64 r.entry.op.n), (.int .i64 r.entry.op.k), (.int .i64 r.entry.op.v), (.int .i64 r.entry.op.t), (.slice A2 n2 c2)], BlkA p 141 [(.int .i64 k.view), (.int .i64 k.normal), (.int .i64 k.base), (.string (tx k.image)), (.slice A n c)], RowA 31 11 A n c (ents k.ents), Fix w S] wq) Tryz.mixed rfl ?_
     intro w50 g51
     have H52 := H48.grow g51
     have z53 := g51.size
     refine RA.tk 0 0 1 rfl rfl rfl (by kernel_rfl) (fun wq hq => fa33_2 (b := ⟨b2, 2, none⟩) rfl rfl) H52 ?_
     refine RA.tk 2 1 5 rfl rfl rfl (by kernel_rfl) (fun wq hq => Ex.mv (v := (.pointer (some ⟨p, 0, none⟩))) rfl) H52 ?_
     refine RA.tk 3 5 13 rfl rfl rfl (by kernel_rfl) (fun wq hq => Ex.nck rfl) H52 ?_
     refine RA.tk 4 13 29 rfl rfl rfl (by kernel_rfl) (fun wq hq => fa141_0 (b := ⟨p, 0, none⟩) rfl rfl) H52 ?_
     refine RA.tk 5 29 61 rfl rfl rfl (by kernel_rfl) (fun wq hq => fa24_2 (b := ⟨p, 2, none⟩) rfl rfl) H52 ?_
     refine RA.tk 7 61 189 rfl rfl rfl (by kernel_rfl) (fun wq hq => Ex.mv (v := (.int .i64 (k.base + (k.ents.length : Int)))) rfl) H52 ?_
     refine RA.tk 1 189 191 rfl rfl rfl (by kernel_rfl) (fun wq hq => Ex.ldv rfl (loadC1 lo3 (Ob.cell (v := (.int .i64 r.from_)) (hq.ob (i := 0) rfl) rfl))) H52 ?_
     refine RA.tk 6 191 255 rfl rfl rfl (by kernel_rfl) (fun wq hq => Ex.ldv rfl (loadC1 lo3 (Ob.cell (v := (.int .i64 k.base)) (hq.ob (i := 1) rfl) rfl))) H52 ?_
     refine RA.one (i := 8) (by kernel_rfl) ?_
     refine ⟨_, 511, rfl, by kernel_rfl, ?_⟩
     refine RL.call Tryz.call122 (within_oplog _ r.from_ k.base (k.base + (k.ents.length : Int))) rfl rfl rfl ?_
     rintro _ _ ⟨rfl, rfl⟩
     rcases hb57 : (withinB r.from_ k.base (k.base + (k.ents.length : Int))) with _ | _
     ·skip
      refine RL.nil ?_
      refine ⟨H52, ?_⟩
      refine RA.tk 9 511 1023 rfl rfl rfl (by kernel_rfl) (fun wq hq => Ex.not (b := false) rfl) H52 ?_
      refine RA.tk 10 1023 2047 rfl rfl rfl (by kernel_rfl) (fun wq hq => Ex.mv (v := (.bool true)) rfl) H52 ?_
      refine RA.out (i := 11) (m := 2047) (m' := 4095) rfl rfl rfl (by kernel_rfl) (fun _ _ _ _ h => h) rfl H52 ?_
      refine RA.out (i := 13) (m := 4095) (m' := 12287) rfl rfl rfl (by kernel_rfl) (fun _ _ _ _ h => h) rfl H52 ?_
      refine RA.out (i := 12) (m := 12287) (m' := 16383) rfl rfl rfl (by kernel_rfl) (fun _ _ _ _ h => h) rfl H52 ?_
      refine RA.out (i := 14) (m := 16383) (m' := 32767) rfl rfl rfl (by kernel_rfl) (fun _ _ _ _ h => h) rfl H52 ?_
      refine RA.out (i := 15) (m := 32767) (m' := 65535) rfl rfl rfl (by kernel_rfl) (fun _ _ _ _ h => h) rfl H52 ?_
      refine RA.out (i := 16) (m := 65535) (m' := 131071) rfl rfl rfl (by kernel_rfl) (fun _ _ _ _ h => h) rfl H52 ?_
      refine RA.tk 17 131071 262143 rfl rfl rfl (by kernel_rfl) (fun wq hq => Ex.pkT (v := (.bool true)) rfl rfl) H52 ?_
      refine RA.done (by kernel_rfl) ?_
      refine thn.n (CW.condT rfl ?_)
      refine CW.seq (CW.region ?_)
      refine RL.go rfl rfl rfl (Ex.as (v := (.int .i64 140)) rfl) ?_
      refine RL.nil (thn.n (CW.ret (thn.r (inB.r (thn.r ?_)))))
      refine finQ.r (v := (.int .i64 140)) (res1 rfl rfl) ?_
      have hx : (seenK (madeK k r)).1 = 140 := by
        unfold madeK lastK
        simp [seenK, h9, h36, h37, hb57]
      exact ⟨k, _, _, _, ret_int hx.symm, (H52.sel [1, 2, 3] (by decide) rfl), fun h0 => by rw [hx] at h0; cases h0⟩
     ·have hw54 := withinB_t hb57
      refine RL.nil ?_
      refine ⟨H52, ?_⟩
      refine RA.tk 9 511 1023 rfl rfl rfl (by kernel_rfl) (fun wq hq => Ex.not (b := true) rfl) H52 ?_
      refine RA.tk 10 1023 2047 rfl rfl rfl (by kernel_rfl) (fun wq hq => Ex.mv (v := (.bool false)) rfl) H52 ?_
      refine RA.tk 11 2047 4095 rfl rfl rfl (by kernel_rfl) (fun wq hq => fa33_6 (b := ⟨b2, 16, none⟩) rfl rfl) H52 ?_
      refine RA.tk 13 4095 12287 rfl rfl rfl (by kernel_rfl) (fun wq hq => fa33_2 (b := ⟨b2, 2, none⟩) rfl rfl) H52 ?_
      refine RA.tk 12 12287 16383 rfl rfl rfl (by kernel_rfl) (fun wq hq => Ex.ldv rfl (loadC1 lo22 (Ob.cell (v := (.slice A2 n2 c2)) (hq.ob (i := 0) rfl) rfl))) H52 ?_
      refine RA.tk 14 16383 32767 rfl rfl rfl (by kernel_rfl) (fun wq hq => Ex.ldv rfl (loadC1 lo3 (Ob.cell (v := (.int .i64 r.from_)) (hq.ob (i := 0) rfl) rfl))) H52 ?_
      refine RA.one (i := 15) (by kernel_rfl) ?_
      refine ⟨_, 65535, rfl, by kernel_rfl, ?_⟩
      refine RL.call Tryz.call123 (follows_ _ ⟨A2, n2, c2⟩ r.ents r.from_ _ (by first | assumption | rfl | omega) (by show n2 ≤ _; omega) ((hr2.st (H52.chg (i := 3) rfl)).rd)) rfl rfl rfl ?_
      rintro _ w58 ⟨rfl, g59⟩
      have H60 := H52.grow g59
      have z61 := g59.size
      rcases hb62 : (follB r.ents r.from_) with _ | _
      ·skip
       refine RL.nil ?_
       refine ⟨H60, ?_⟩
       refine RA.tk 16 65535 131071 rfl rfl rfl (by kernel_rfl) (fun wq hq => Ex.not (b := false) rfl) H60 ?_
       refine RA.tk 17 131071 262143 rfl rfl rfl (by kernel_rfl) (fun wq hq => Ex.pkF (v := (.bool true)) rfl rfl) H60 ?_
       refine RA.done (by kernel_rfl) ?_
       refine thn.n (CW.condT rfl ?_)
       refine CW.seq (CW.region ?_)
       refine RL.go rfl rfl rfl (Ex.as (v := (.int .i64 140)) rfl) ?_
       refine RL.nil (thn.n (CW.ret (thn.r (inB.r (thn.r ?_)))))
       refine finQ.r (v := (.int .i64 140)) (res1 rfl rfl) ?_
       have hx : (seenK (madeK k r)).1 = 140 := by
         unfold madeK lastK
         simp [seenK, h9, h36, h37, hb57, hb62]
       exact ⟨k, _, _, _, ret_int hx.symm, (H60.sel [1, 2, 3] (by decide) rfl), fun h0 => by rw [hx] at h0; cases h0⟩
      ·skip
       refine RL.nil ?_
       refine ⟨H60, ?_⟩
       refine RA.tk 16 65535 131071 rfl rfl rfl (by kernel_rfl) (fun wq hq => Ex.not (b := true) rfl) H60 ?_
       refine RA.tk 17 131071 262143 rfl rfl rfl (by kernel_rfl) (fun wq hq => Ex.pkF (v := (.bool false)) rfl rfl) H60 ?_
       refine RA.done (by kernel_rfl) ?_
       refine thn.n (CW.condF rfl ?_)
       refine CW.skip (thn.n (CW.seq ?_))
       refine CW.held (fun wq => Sp [BlkA b2 33 [(.int .i64 r.kind), (.int .i64 r.view), (.int .i64 r.from_), (.int .i64 r.number), (.string (tx r.image)), (.int .i64 r.entry.num), (.int .i64 r.entry.view), (.int .i64 r.entry.client), (.int .i64 r.entry.seq), (.int .i64 r.entry.op.kind), (.int .i64 r.entry.op.h), (.int .i64 r.entry.op.i), (.int .i64 r.entry.op.n), (.int .i64 r.entry.op.k), (.int .i64 r.entry.op.v), (.int .i64 r.entry.op.t), (.slice A2 n2 c2)], RowA 31 11 A n c (ents k.ents), Fix w S] wq) Tryz.mixed rfl ?_
       intro w63 g65
       have H66 := H60.grow g65
       have z67 := g65.size
       refine RA.tk 0 0 1 rfl rfl rfl (by kernel_rfl) (fun wq hq => Ex.mv (v := (.pointer (some ⟨p, 0, none⟩))) rfl) (H66.sel [0, 2, 3] (by decide) rfl) ?_
       refine RA.tk 1 1 3 rfl rfl rfl (by kernel_rfl) (fun wq hq => Ex.mv (v := (.pointer (some ⟨p, 0, none⟩))) rfl) (H66.sel [0, 2, 3] (by decide) rfl) ?_
       refine RA.tk 2 3 7 rfl rfl rfl (by kernel_rfl) (fun wq hq => fa33_1 (b := ⟨b2, 1, none⟩) rfl rfl) (H66.sel [0, 2, 3] (by decide) rfl) ?_
       refine RA.tk 4 7 23 rfl rfl rfl (by kernel_rfl) (fun wq hq => fa33_1 (b := ⟨b2, 1, none⟩) rfl rfl) (H66.sel [0, 2, 3] (by decide) rfl) ?_
       refine RA.tk 3 23 31 rfl rfl rfl (by kernel_rfl) (fun wq hq => Ex.ldv rfl (loadC1 lo3 (Ob.cell (v := (.int .i64 r.view)) (hq.ob (i := 0) rfl) rfl))) (H66.sel [0, 2, 3] (by decide) rfl) ?_
       refine RA.tk 6 31 95 rfl rfl rfl (by kernel_rfl) (fun wq hq => Ex.nck rfl) (H66.sel [0, 2, 3] (by decide) rfl) ?_
       refine RA.tk 7 95 223 rfl rfl rfl (by kernel_rfl) (fun wq hq => fa141_0 (b := ⟨p, 0, none⟩) rfl rfl) (H66.sel [0, 2, 3] (by decide) rfl) ?_
       refine RA.tk 8 223 479 rfl rfl rfl (by kernel_rfl) (fun wq hq => fa24_0 (b := ⟨p, 0, none⟩) rfl rfl) (H66.sel [0, 2, 3] (by decide) rfl) ?_
       refine RA.tk 5 479 511 rfl rfl rfl (by kernel_rfl) (fun wq hq => Ex.ldv rfl (loadC1 lo3 (Ob.cell (v := (.int .i64 r.view)) (hq.ob (i := 0) rfl) rfl))) (H66.sel [0, 2, 3] (by decide) rfl) ?_
       refine RA.one (i := 9) (by kernel_rfl) ?_
       refine ⟨_, 1023, rfl, by kernel_rfl, ?_⟩
       refine RL.st (vs := [(.int .i64 r.view)]) (cs' := [(.int .i64 r.view), (.int .i64 k.normal), (.int .i64 k.base), (.string (tx k.image)), (.slice A n c)]) Tryz.sizeOf3 (H66.ob (i := 1) rfl) rfl rfl rfl rfl rfl rfl ?_
       intro w68 hz69 g70 o71
       have H72 : Sp [BlkA b2 33 [(.int .i64 r.kind), (.int .i64 r.view), (.int .i64 r.from_), (.int .i64 r.number), (.string (tx r.image)), (.int .i64 r.entry.num), (.int .i64 r.entry.view), (.int .i64 r.entry.client), (.int .i64 r.entry.seq), (.int .i64 r.entry.op.kind), (.int .i64 r.entry.op.h), (.int .i64 r.entry.op.i), (.int .i64 r.entry.op.n), (.int .i64 r.entry.op.k), (.int .i64 r.entry.op.v), (.int .i64 r.entry.op.t), (.slice A2 n2 c2)], BlkA p 141 [(.int .i64 r.view), (.int .i64 k.normal), (.int .i64 k.base), (.string (tx k.image)), (.slice A n c)], RowA 31 11 A n c (ents k.ents), Fix w S] w68 := H66.setB (i := 1) rfl g70 o71 rfl
       have z73 := g70.size
       refine RL.nil ?_
       refine ⟨(H72.sel [0, 2, 3] (by decide) rfl), ?_⟩
       refine RA.tk 10 1023 2047 rfl rfl rfl (by kernel_rfl) (fun wq hq => Ex.nck rfl) (H72.sel [0, 2, 3] (by decide) rfl) ?_
       refine RA.tk 11 2047 4095 rfl rfl rfl (by kernel_rfl) (fun wq hq => fa141_0 (b := ⟨p, 0, none⟩) rfl rfl) (H72.sel [0, 2, 3] (by decide) rfl) ?_
       refine RA.tk 12 4095 8191 rfl rfl rfl (by kernel_rfl) (fun wq hq => fa24_1 (b := ⟨p, 1, none⟩) rfl rfl) (H72.sel [0, 2, 3] (by decide) rfl) ?_
       refine RA.one (i := 13) (by kernel_rfl) ?_
       refine ⟨_, 16383, rfl, by kernel_rfl, ?_⟩
       refine RL.st (vs := [(.int .i64 r.view)]) (cs' := [(.int .i64 r.view), (.int .i64 r.view), (.int .i64 k.base), (.string (tx k.image)), (.slice A n c)]) Tryz.sizeOf3 (H72.ob (i := 1) rfl) rfl rfl rfl rfl rfl rfl ?_
       intro w74 hz75 g76 o77
       have H78 : Sp [BlkA b2 33 [(.int .i64 r.kind), (.int .i64 r.view), (.int .i64 r.from_), (.int .i64 r.number), (.string (tx r.image)), (.int .i64 r.entry.num), (.int .i64 r.entry.view), (.int .i64 r.entry.client), (.int .i64 r.entry.seq), (.int .i64 r.entry.op.kind), (.int .i64 r.entry.op.h), (.int .i64 r.entry.op.i), (.int .i64 r.entry.op.n), (.int .i64 r.entry.op.k), (.int .i64 r.entry.op.v), (.int .i64 r.entry.op.t), (.slice A2 n2 c2)], BlkA p 141 [(.int .i64 r.view), (.int .i64 r.view), (.int .i64 k.base), (.string (tx k.image)), (.slice A n c)], RowA 31 11 A n c (ents k.ents), Fix w S] w74 := H72.setB (i := 1) rfl g76 o77 rfl
       have z79 := g76.size
       refine RL.nil ?_
       refine ⟨(H78.sel [0, 2, 3] (by decide) rfl), ?_⟩
       refine RA.done (by kernel_rfl) ?_
       refine thn.n ?_
       refine CW.mid (fun t => (Nat.ble 88 t && Nat.ble t 108)) (fun ρ wl => ∃ (A109 : Option Addr) (c110 : Nat), Sp [BlkA b2 33 [(.int .i64 r.kind), (.int .i64 r.view), (.int .i64 r.from_), (.int .i64 r.number), (.string (tx r.image)), (.int .i64 r.entry.num), (.int .i64 r.entry.view), (.int .i64 r.entry.client), (.int .i64 r.entry.seq), (.int .i64 r.entry.op.kind), (.int .i64 r.entry.op.h), (.int .i64 r.entry.op.i), (.int .i64 r.entry.op.n), (.int .i64 r.entry.op.k), (.int .i64 r.entry.op.v), (.int .i64 r.entry.op.t), (.slice A2 n2 c2)], BlkA p 141 [(.int .i64 r.view), (.int .i64 r.view), (.int .i64 k.base), (.string (tx k.image)), (.slice A109 (((r.from_ - k.base).toNat) + n2) c110)], RowA 31 11 A109 (((r.from_ - k.base).toNat) + n2) c110 (ents ((k.ents).take ((r.from_ - k.base).toNat) ++ r.ents)), Fix w S] wl) ?_ ?_
       ·skip
        refine CW.held (fun wq => Sp [BlkA b2 33 [(.int .i64 r.kind), (.int .i64 r.view), (.int .i64 r.from_), (.int .i64 r.number), (.string (tx r.image)), (.int .i64 r.entry.num), (.int .i64 r.entry.view), (.int .i64 r.entry.client), (.int .i64 r.entry.seq), (.int .i64 r.entry.op.kind), (.int .i64 r.entry.op.h), (.int .i64 r.entry.op.i), (.int .i64 r.entry.op.n), (.int .i64 r.entry.op.k), (.int .i64 r.entry.op.v), (.int .i64 r.entry.op.t), (.slice A2 n2 c2)], Fix w S] wq) Tryz.mixed rfl ?_
        intro w123 g124
        have H125 := H78.grow g124
        have z126 := g124.size
        refine RA.tk 0 0 1 rfl rfl rfl (by kernel_rfl) (fun wq hq => Ex.mv (v := (.pointer (some ⟨p, 0, none⟩))) rfl) (H125.sel [0, 3] (by decide) rfl) ?_
        refine RA.tk 1 1 3 rfl rfl rfl (by kernel_rfl) (fun wq hq => Ex.mv (v := (.pointer (some ⟨p, 0, none⟩))) rfl) (H125.sel [0, 3] (by decide) rfl) ?_
        refine RA.tk 2 3 7 rfl rfl rfl (by kernel_rfl) (fun wq hq => Ex.nck rfl) (H125.sel [0, 3] (by decide) rfl) ?_
        refine RA.tk 3 7 15 rfl rfl rfl (by kernel_rfl) (fun wq hq => fa141_0 (b := ⟨p, 0, none⟩) rfl rfl) (H125.sel [0, 3] (by decide) rfl) ?_
        refine RA.tk 4 15 31 rfl rfl rfl (by kernel_rfl) (fun wq hq => fa24_4 (b := ⟨p, 4, none⟩) rfl rfl) (H125.sel [0, 3] (by decide) rfl) ?_
        refine RA.tk 6 31 95 rfl rfl rfl (by kernel_rfl) (fun wq hq => fa33_2 (b := ⟨b2, 2, none⟩) rfl rfl) (H125.sel [0, 3] (by decide) rfl) ?_
        refine RA.tk 8 95 351 rfl rfl rfl (by kernel_rfl) (fun wq hq => Ex.mv (v := (.pointer (some ⟨p, 0, none⟩))) rfl) (H125.sel [0, 3] (by decide) rfl) ?_
        refine RA.tk 9 351 863 rfl rfl rfl (by kernel_rfl) (fun wq hq => Ex.nck rfl) (H125.sel [0, 3] (by decide) rfl) ?_
        refine RA.tk 10 863 1887 rfl rfl rfl (by kernel_rfl) (fun wq hq => fa141_0 (b := ⟨p, 0, none⟩) rfl rfl) (H125.sel [0, 3] (by decide) rfl) ?_
        refine RA.tk 11 1887 3935 rfl rfl rfl (by kernel_rfl) (fun wq hq => fa24_2 (b := ⟨p, 2, none⟩) rfl rfl) (H125.sel [0, 3] (by decide) rfl) ?_
        refine RA.tk 15 3935 36703 rfl rfl rfl (by kernel_rfl) (fun wq hq => fa33_6 (b := ⟨b2, 16, none⟩) rfl rfl) (H125.sel [0, 3] (by decide) rfl) ?_
        refine RA.tk 7 36703 36831 rfl rfl rfl (by kernel_rfl) (fun wq hq => Ex.ldv rfl (loadC1 lo3 (Ob.cell (v := (.int .i64 r.from_)) (hq.ob (i := 0) rfl) rfl))) (H125.sel [0, 3] (by decide) rfl) ?_
        refine RA.tk 16 36831 102367 rfl rfl rfl (by kernel_rfl) (fun wq hq => Ex.ldv rfl (loadC1 lo22 (Ob.cell (v := (.slice A2 n2 c2)) (hq.ob (i := 0) rfl) rfl))) (H125.sel [0, 3] (by decide) rfl) ?_
        refine RA.two (i := 5) (j := 12) (by kernel_rfl) ?_ ?_
        ·skip
         refine ⟨_, 102399, rfl, by kernel_rfl, ?_⟩
         refine RL.go rfl rfl rfl (Ex.ldv rfl (loadC1 lo22 (Ob.cell (v := (.slice A n c)) (H125.ob (i := 1) rfl) rfl))) ?_
         refine RL.nil ?_
         refine ⟨(H125.sel [0, 3] (by decide) rfl), ?_⟩
         refine RA.one (i := 12) (by kernel_rfl) ?_
         refine ⟨_, 106495, rfl, by kernel_rfl, ?_⟩
         refine RL.go rfl rfl rfl (Ex.ldv rfl (loadC1 lo3 (Ob.cell (v := (.int .i64 k.base)) (H125.ob (i := 1) rfl) rfl))) ?_
         refine RL.nil ?_
         refine ⟨(H125.sel [0, 3] (by decide) rfl), ?_⟩
         try have hw127 := withinB_t hb57
         try have hw128 := withinB_t hb62
         refine RA.tk 13 106495 114687 rfl rfl rfl (by kernel_rfl) (fun wq hq => Ex.sub_ (r := (((r.from_ - k.base).toNat : Nat) : Int)) rfl rfl (by rw [w64 (by omega) (by omega)]; omega)) (H125.sel [0, 3] (by decide) rfl) ?_
         refine RA.tk 14 114687 131071 rfl rfl rfl (by kernel_rfl) (fun wq hq => Ex.slHi (i := ((r.from_ - k.base).toNat)) Tryz.underlying22 Tryz.sizeOf31 rfl rfl rfl (by omega)) (H125.sel [0, 3] (by decide) rfl) ?_
         refine RA.one (i := 17) (by kernel_rfl) ?_
         refine ⟨_, 262143, rfl, by kernel_rfl, ?_⟩
         have H129 : Sp [BlkA b2 33 [(.int .i64 r.kind), (.int .i64 r.view), (.int .i64 r.from_), (.int .i64 r.number), (.string (tx r.image)), (.int .i64 r.entry.num), (.int .i64 r.entry.view), (.int .i64 r.entry.client), (.int .i64 r.entry.seq), (.int .i64 r.entry.op.kind), (.int .i64 r.entry.op.h), (.int .i64 r.entry.op.i), (.int .i64 r.entry.op.n), (.int .i64 r.entry.op.k), (.int .i64 r.entry.op.v), (.int .i64 r.entry.op.t), (.slice A2 n2 c2)], BlkA p 141 [(.int .i64 r.view), (.int .i64 r.view), (.int .i64 k.base), (.string (tx k.image)), (.slice A n c)], RowA 31 11 A ((r.from_ - k.base).toNat) c (ents ((k.ents).take ((r.from_ - k.base).toNat))), Fix w S] w123 := H125.takeR (i := 2) rfl (by omega) (ents_take _ _) rfl
         refine RL.apW (base := 0) (xss := (ents ((k.ents).take ((r.from_ - k.base).toNat)))) (yss := (ents r.ents)) el22 (H129.wr (i := 2) rfl) rfl ((hr2.st (H129.chg (i := 3) rfl)).rd) rfl (by simp only [bcs_length, ics_length, rows_length, blks_length, robjs_length, ents_length, List.length_append, List.length_cons, List.length_nil, List.length_take, List.length_drop, List.length_map, enc4, enc8, encN_len, encW_len]; try omega) (ents_one _) (by omega) (by omega) (by omega) rfl rfl ?_
         intro w130 A131 c132 g133 ow134 nx135
         have H136 : Sp [BlkA b2 33 [(.int .i64 r.kind), (.int .i64 r.view), (.int .i64 r.from_), (.int .i64 r.number), (.string (tx r.image)), (.int .i64 r.entry.num), (.int .i64 r.entry.view), (.int .i64 r.entry.client), (.int .i64 r.entry.seq), (.int .i64 r.entry.op.kind), (.int .i64 r.entry.op.h), (.int .i64 r.entry.op.i), (.int .i64 r.entry.op.n), (.int .i64 r.entry.op.k), (.int .i64 r.entry.op.v), (.int .i64 r.entry.op.t), (.slice A2 n2 c2)], BlkA p 141 [(.int .i64 r.view), (.int .i64 r.view), (.int .i64 k.base), (.string (tx k.image)), (.slice A n c)], RowA 31 11 A131 (((r.from_ - k.base).toNat) + n2) c132 (ents ((k.ents).take ((r.from_ - k.base).toNat) ++ r.ents)), Fix w S] w130 := H129.setR (i := 2) rfl g133 ((ents_app _ _).symm ▸ ow134) nx135 rfl
         have z137 := g133.size
         refine RL.nil ?_
         refine ⟨(H136.sel [0, 3] (by decide) rfl), ?_⟩
         refine RA.tk 18 262143 524287 rfl rfl rfl (by kernel_rfl) (fun wq hq => Ex.nck rfl) (H136.sel [0, 3] (by decide) rfl) ?_
         refine RA.tk 19 524287 1048575 rfl rfl rfl (by kernel_rfl) (fun wq hq => fa141_0 (b := ⟨p, 0, none⟩) rfl rfl) (H136.sel [0, 3] (by decide) rfl) ?_
         refine RA.tk 20 1048575 2097151 rfl rfl rfl (by kernel_rfl) (fun wq hq => fa24_4 (b := ⟨p, 4, none⟩) rfl rfl) (H136.sel [0, 3] (by decide) rfl) ?_
         refine RA.one (i := 21) (by kernel_rfl) ?_
         refine ⟨_, 4194303, rfl, by kernel_rfl, ?_⟩
         refine RL.st (vs := [(.slice A131 (((r.from_ - k.base).toNat) + n2) c132)]) (cs' := [(.int .i64 r.view), (.int .i64 r.view), (.int .i64 k.base), (.string (tx k.image)), (.slice A131 (((r.from_ - k.base).toNat) + n2) c132)]) Tryz.sizeOf22 (H136.ob (i := 1) rfl) rfl rfl rfl rfl rfl rfl ?_
         intro w138 hz139 g140 o141
         have H142 : Sp [BlkA b2 33 [(.int .i64 r.kind), (.int .i64 r.view), (.int .i64 r.from_), (.int .i64 r.number), (.string (tx r.image)), (.int .i64 r.entry.num), (.int .i64 r.entry.view), (.int .i64 r.entry.client), (.int .i64 r.entry.seq), (.int .i64 r.entry.op.kind), (.int .i64 r.entry.op.h), (.int .i64 r.entry.op.i), (.int .i64 r.entry.op.n), (.int .i64 r.entry.op.k), (.int .i64 r.entry.op.v), (.int .i64 r.entry.op.t), (.slice A2 n2 c2)], BlkA p 141 [(.int .i64 r.view), (.int .i64 r.view), (.int .i64 k.base), (.string (tx k.image)), (.slice A131 (((r.from_ - k.base).toNat) + n2) c132)], RowA 31 11 A131 (((r.from_ - k.base).toNat) + n2) c132 (ents ((k.ents).take ((r.from_ - k.base).toNat) ++ r.ents)), Fix w S] w138 := H136.setB (i := 1) rfl g140 o141 rfl
         have z143 := g140.size
         refine RL.nil ?_
         refine ⟨(H142.sel [0, 3] (by decide) rfl), ?_⟩
         refine RA.done (by kernel_rfl) ?_
         refine thn.n ?_
         exact ⟨(by repeat (first | exact Out.mix _ _ | exact Out.refl _ _ | refine Out.up ?_ rfl _)), A131, c132, (H142.sel [0, 1, 2, 3] (by decide) rfl)⟩
        ·skip
         refine ⟨_, 106463, rfl, by kernel_rfl, ?_⟩
         refine RL.go rfl rfl rfl (Ex.ldv rfl (loadC1 lo3 (Ob.cell (v := (.int .i64 k.base)) (H125.ob (i := 1) rfl) rfl))) ?_
         refine RL.nil ?_
         refine ⟨(H125.sel [0, 3] (by decide) rfl), ?_⟩
         try have hw144 := withinB_t hb57
         try have hw145 := withinB_t hb62
         refine RA.tk 13 106463 114655 rfl rfl rfl (by kernel_rfl) (fun wq hq => Ex.sub_ (r := (((r.from_ - k.base).toNat : Nat) : Int)) rfl rfl (by rw [w64 (by omega) (by omega)]; omega)) (H125.sel [0, 3] (by decide) rfl) ?_
         refine RA.one (i := 5) (by kernel_rfl) ?_
         refine ⟨_, 114687, rfl, by kernel_rfl, ?_⟩
         refine RL.go rfl rfl rfl (Ex.ldv rfl (loadC1 lo22 (Ob.cell (v := (.slice A n c)) (H125.ob (i := 1) rfl) rfl))) ?_
         refine RL.nil ?_
         refine ⟨(H125.sel [0, 3] (by decide) rfl), ?_⟩
         refine RA.tk 14 114687 131071 rfl rfl rfl (by kernel_rfl) (fun wq hq => Ex.slHi (i := ((r.from_ - k.base).toNat)) Tryz.underlying22 Tryz.sizeOf31 rfl rfl rfl (by omega)) (H125.sel [0, 3] (by decide) rfl) ?_
         refine RA.one (i := 17) (by kernel_rfl) ?_
         refine ⟨_, 262143, rfl, by kernel_rfl, ?_⟩
         have H146 : Sp [BlkA b2 33 [(.int .i64 r.kind), (.int .i64 r.view), (.int .i64 r.from_), (.int .i64 r.number), (.string (tx r.image)), (.int .i64 r.entry.num), (.int .i64 r.entry.view), (.int .i64 r.entry.client), (.int .i64 r.entry.seq), (.int .i64 r.entry.op.kind), (.int .i64 r.entry.op.h), (.int .i64 r.entry.op.i), (.int .i64 r.entry.op.n), (.int .i64 r.entry.op.k), (.int .i64 r.entry.op.v), (.int .i64 r.entry.op.t), (.slice A2 n2 c2)], BlkA p 141 [(.int .i64 r.view), (.int .i64 r.view), (.int .i64 k.base), (.string (tx k.image)), (.slice A n c)], RowA 31 11 A ((r.from_ - k.base).toNat) c (ents ((k.ents).take ((r.from_ - k.base).toNat))), Fix w S] w123 := H125.takeR (i := 2) rfl (by omega) (ents_take _ _) rfl
         refine RL.apW (base := 0) (xss := (ents ((k.ents).take ((r.from_ - k.base).toNat)))) (yss := (ents r.ents)) el22 (H146.wr (i := 2) rfl) rfl ((hr2.st (H146.chg (i := 3) rfl)).rd) rfl (by simp only [bcs_length, ics_length, rows_length, blks_length, robjs_length, ents_length, List.length_append, List.length_cons, List.length_nil, List.length_take, List.length_drop, List.length_map, enc4, enc8, encN_len, encW_len]; try omega) (ents_one _) (by omega) (by omega) (by omega) rfl rfl ?_
         intro w147 A148 c149 g150 ow151 nx152
         have H153 : Sp [BlkA b2 33 [(.int .i64 r.kind), (.int .i64 r.view), (.int .i64 r.from_), (.int .i64 r.number), (.string (tx r.image)), (.int .i64 r.entry.num), (.int .i64 r.entry.view), (.int .i64 r.entry.client), (.int .i64 r.entry.seq), (.int .i64 r.entry.op.kind), (.int .i64 r.entry.op.h), (.int .i64 r.entry.op.i), (.int .i64 r.entry.op.n), (.int .i64 r.entry.op.k), (.int .i64 r.entry.op.v), (.int .i64 r.entry.op.t), (.slice A2 n2 c2)], BlkA p 141 [(.int .i64 r.view), (.int .i64 r.view), (.int .i64 k.base), (.string (tx k.image)), (.slice A n c)], RowA 31 11 A148 (((r.from_ - k.base).toNat) + n2) c149 (ents ((k.ents).take ((r.from_ - k.base).toNat) ++ r.ents)), Fix w S] w147 := H146.setR (i := 2) rfl g150 ((ents_app _ _).symm ▸ ow151) nx152 rfl
         have z154 := g150.size
         refine RL.nil ?_
         refine ⟨(H153.sel [0, 3] (by decide) rfl), ?_⟩
         refine RA.tk 18 262143 524287 rfl rfl rfl (by kernel_rfl) (fun wq hq => Ex.nck rfl) (H153.sel [0, 3] (by decide) rfl) ?_
         refine RA.tk 19 524287 1048575 rfl rfl rfl (by kernel_rfl) (fun wq hq => fa141_0 (b := ⟨p, 0, none⟩) rfl rfl) (H153.sel [0, 3] (by decide) rfl) ?_
         refine RA.tk 20 1048575 2097151 rfl rfl rfl (by kernel_rfl) (fun wq hq => fa24_4 (b := ⟨p, 4, none⟩) rfl rfl) (H153.sel [0, 3] (by decide) rfl) ?_
         refine RA.one (i := 21) (by kernel_rfl) ?_
         refine ⟨_, 4194303, rfl, by kernel_rfl, ?_⟩
         refine RL.st (vs := [(.slice A148 (((r.from_ - k.base).toNat) + n2) c149)]) (cs' := [(.int .i64 r.view), (.int .i64 r.view), (.int .i64 k.base), (.string (tx k.image)), (.slice A148 (((r.from_ - k.base).toNat) + n2) c149)]) Tryz.sizeOf22 (H153.ob (i := 1) rfl) rfl rfl rfl rfl rfl rfl ?_
         intro w155 hz156 g157 o158
         have H159 : Sp [BlkA b2 33 [(.int .i64 r.kind), (.int .i64 r.view), (.int .i64 r.from_), (.int .i64 r.number), (.string (tx r.image)), (.int .i64 r.entry.num), (.int .i64 r.entry.view), (.int .i64 r.entry.client), (.int .i64 r.entry.seq), (.int .i64 r.entry.op.kind), (.int .i64 r.entry.op.h), (.int .i64 r.entry.op.i), (.int .i64 r.entry.op.n), (.int .i64 r.entry.op.k), (.int .i64 r.entry.op.v), (.int .i64 r.entry.op.t), (.slice A2 n2 c2)], BlkA p 141 [(.int .i64 r.view), (.int .i64 r.view), (.int .i64 k.base), (.string (tx k.image)), (.slice A148 (((r.from_ - k.base).toNat) + n2) c149)], RowA 31 11 A148 (((r.from_ - k.base).toNat) + n2) c149 (ents ((k.ents).take ((r.from_ - k.base).toNat) ++ r.ents)), Fix w S] w155 := H153.setB (i := 1) rfl g157 o158 rfl
         have z160 := g157.size
         refine RL.nil ?_
         refine ⟨(H159.sel [0, 3] (by decide) rfl), ?_⟩
         refine RA.done (by kernel_rfl) ?_
         refine thn.n ?_
         exact ⟨(by repeat (first | exact Out.mix _ _ | exact Out.refl _ _ | refine Out.up ?_ rfl _)), A148, c149, (H159.sel [0, 1, 2, 3] (by decide) rfl)⟩
       ·rintro ρc122 w161 ho162 ⟨A109, c110, H163⟩
        obtain ⟨jc122, rfl⟩ := ho162.shape0
        clear ho162
        have z164 := (H163.chg (i := 3) rfl).size
        refine inB.n (thn.n (CW.seq (CW.block (CW.seq (CW.region ?_)))))
        refine RL.go rfl rfl rfl (Ex.mv (v := (.pointer (some ⟨p, 0, none⟩))) rfl) ?_
        refine RL.go rfl rfl rfl (Ex.nck rfl) ?_
        refine RL.go rfl rfl rfl (fa141_0 (b := ⟨p, 0, none⟩) rfl rfl) ?_
        refine RL.go rfl rfl rfl (fa24_4 (b := ⟨p, 4, none⟩) rfl rfl) ?_
        refine RL.go rfl rfl rfl (Ex.ldv rfl (loadC1 lo22 (Ob.cell (v := (.slice A109 (((r.from_ - k.base).toNat) + n2) c110)) (H163.ob (i := 1) rfl) rfl))) ?_
        have hmk165 : madeK k r = (0, (⟨r.view, r.view, k.base, k.image, (k.ents).take ((r.from_ - k.base).toNat) ++ r.ents⟩ : Kept)) := by
                unfold madeK lastK
                simp [h9, h36, h37, hb57, hb62]
        have hln := H163.len (i := 2) rfl
        have hcn := H163.cap (i := 2) rfl
        simp only [bcs_length, ics_length, rows_length, blks_length, robjs_length, ents_length, List.length_append, List.length_cons, List.length_nil, List.length_take, List.length_drop, List.length_map, enc4, enc8, encN_len, encW_len] at hln
        refine RL.go rfl rfl rfl (Ex.len Tryz.underlying22 rfl) ?_
        refine RL.br (p := (4000 : Int) < ((((r.from_ - k.base).toNat) + n2 : Nat) : Int)) rfl rfl rfl (fun r hr => Ex.gt rfl rfl hr) (fun h166 => ?_) (fun h166 => ?_)
        ·skip
         refine RL.go rfl rfl rfl (Ex.as (v := (.bool true)) rfl) ?_
         refine RL.nil (thn.n (CW.condT rfl (CW.seq (CW.region ?_))))
         refine RL.go rfl rfl rfl (Ex.as (v := (.int .i64 2)) rfl) ?_
         refine RL.nil (thn.n (CW.ret (inB.r (thn.r ?_))))
         refine finQ.r (v := (.int .i64 2)) (res1 rfl rfl) ?_
         have hx : (seenK (madeK k r)).1 = 2 := by
           rw [hmk165]; unfold seenK
           rw [if_pos rfl, if_pos (by show 4000 < (List.length _); simp only [bcs_length, ics_length, rows_length, blks_length, robjs_length, ents_length, List.length_append, List.length_cons, List.length_nil, List.length_take, List.length_drop, List.length_map, enc4, enc8, encN_len, encW_len]; omega)]
         exact ⟨(⟨r.view, r.view, k.base, k.image, (k.ents).take ((r.from_ - k.base).toNat) ++ r.ents⟩ : Kept), _, _, _, ret_int hx.symm, (H163.sel [1, 2, 3] (by decide) rfl), fun h0 => by rw [hx] at h0; cases h0⟩
        ·skip
         refine RL.go rfl rfl rfl (Ex.as (v := (.bool false)) rfl) ?_
         refine RL.nil (thn.n (CW.condF rfl (CW.seq (CW.region ?_))))
         refine RL.go rfl rfl rfl (Ex.mv (v := (.pointer (some ⟨p, 0, none⟩))) rfl) ?_
         refine RL.go rfl rfl rfl (Ex.nck rfl) ?_
         refine RL.go rfl rfl rfl (fa141_0 (b := ⟨p, 0, none⟩) rfl rfl) ?_
         refine RL.go rfl rfl rfl (Ex.ldv rfl (loadCN (cs := [(.int .i64 r.view), (.int .i64 r.view), (.int .i64 k.base), (.string (tx k.image)), (.slice A109 (((r.from_ - k.base).toNat) + n2) c110)]) wh24 (H163.ob (i := 1) rfl).cl)) ?_
         refine RL.call Tryz.call57 (opCheck_ _ _ _ (⟨r.view, r.view, k.base, k.image, (k.ents).take ((r.from_ - k.base).toNat) ++ r.ents⟩ : Kept) (KeptR.of (k := (⟨r.view, r.view, k.base, k.image, (k.ents).take ((r.from_ - k.base).toNat) ++ r.ents⟩ : Kept)) (n := ((r.from_ - k.base).toNat) + n2) (c := c110) (H163.rowrd (i := 2) rfl) (by show ((r.from_ - k.base).toNat) + n2 = ((k.ents).take ((r.from_ - k.base).toNat) ++ r.ents).length; (try simp only [List.length_append, List.length_cons, List.length_nil, List.length_take, List.length_drop]); all_goals omega) (by omega) (by omega) (by first | assumption | (show List.length _ ≤ _; first | assumption | decide | omega))) (Nat.le_refl _)) rfl rfl rfl ?_
         rintro _ w167 ⟨rfl, g168⟩
         have H169 := H163.grow g168
         have z170 := g168.size
         refine RL.br (p := ((if keptB (⟨r.view, r.view, k.base, k.image, (k.ents).take ((r.from_ - k.base).toNat) ++ r.ents⟩ : Kept) then 0 else 1) : Int) ≠ (0 : Int)) rfl rfl rfl (fun r hr => Ex.neD rfl rfl hr) (fun h171 => ?_) (fun h171 => ?_)
         ·skip
          refine RL.go rfl rfl rfl (Ex.as (v := (.bool true)) rfl) ?_
          refine RL.nil (thn.n (CW.condT rfl (CW.seq (CW.region ?_))))
          refine RL.go rfl rfl rfl (Ex.as (v := (.int .i64 141)) rfl) ?_
          refine RL.nil (thn.n (CW.ret (inB.r (thn.r ?_))))
          refine finQ.r (v := (.int .i64 141)) (res1 rfl rfl) ?_
          have hx : (seenK (madeK k r)).1 = 141 := by
            rw [hmk165]; unfold seenK
            rw [if_pos rfl, if_neg (by show ¬ 4000 < (List.length _); simp only [bcs_length, ics_length, rows_length, blks_length, robjs_length, ents_length, List.length_append, List.length_cons, List.length_nil, List.length_take, List.length_drop, List.length_map, enc4, enc8, encN_len, encW_len]; omega), if_neg (by have := ite_ne0 h171; intro h0; rw [h0] at this; cases this)]
          exact ⟨(⟨r.view, r.view, k.base, k.image, (k.ents).take ((r.from_ - k.base).toNat) ++ r.ents⟩ : Kept), _, _, _, ret_int hx.symm, (H169.sel [1, 2, 3] (by decide) rfl), fun h0 => by rw [hx] at h0; cases h0⟩
         ·skip
          refine RL.go rfl rfl rfl (Ex.as (v := (.bool false)) rfl) ?_
          refine RL.nil (thn.n (CW.condF rfl (CW.skip (inB.n (thn.n (CW.seq (CW.region ?_)))))))
          refine RL.go rfl rfl rfl (Ex.as (v := (.int .i64 0)) rfl) ?_
          refine RL.nil (thn.n (CW.ret ?_))
          refine finQ.r (v := (.int .i64 0)) (res1 rfl rfl) ?_
          have hx : seenK (madeK k r) = (0, (⟨r.view, r.view, k.base, k.image, (k.ents).take ((r.from_ - k.base).toNat) ++ r.ents⟩ : Kept)) := by
            rw [hmk165]; unfold seenK
            rw [if_pos rfl, if_neg (by show ¬ 4000 < (List.length _); simp only [bcs_length, ics_length, rows_length, blks_length, robjs_length, ents_length, List.length_append, List.length_cons, List.length_nil, List.length_take, List.length_drop, List.length_map, enc4, enc8, encN_len, encW_len]; omega), if_pos (by exact ite_eq0 h171)]
          exact ⟨(⟨r.view, r.view, k.base, k.image, (k.ents).take ((r.from_ - k.base).toNat) ++ r.ents⟩ : Kept), _, _, _, by rw [hx], (H169.sel [1, 2, 3] (by decide) rfl), fun _ => by rw [hx]⟩
   ·skip
    refine RL.go rfl rfl rfl (Ex.as (v := (.bool false)) rfl) ?_
    refine RL.nil (thn.n (CW.condF rfl (CW.region ?_)))
    refine RL.br (p := (r.kind : Int) = (5 : Int)) rfl rfl rfl (fun r hr => Ex.eqD rfl rfl hr) (fun h172 => ?_) (fun h172 => ?_)
    ·skip
     refine RL.go rfl rfl rfl (Ex.as (v := (.bool true)) rfl) ?_
     refine RL.nil (thn.n (CW.condT rfl (CW.seq ?_)))
     refine CW.quiet (fun wq => World.grownBy w1 wq none) Tryz.mixed (by kernel_rfl) ⟨rfl, rfl, rfl, Nat.le_refl _, fun _ _ _ => rfl⟩ ?_
     refine QL.go rfl rfl rfl (fun wq gq => fa33_1 (b := ⟨b2, 1, none⟩) rfl rfl) ?_
     refine QL.go rfl rfl rfl (fun wq gq => Ex.ldv rfl (loadC1 lo3 (Ob.cell (v := (.int .i64 r.view)) ((H7.grow gq).ob (i := 0) rfl) rfl))) ?_
     refine QL.go rfl rfl rfl (fun wq gq => Ex.mv (v := (.pointer (some ⟨p, 0, none⟩))) rfl) ?_
     refine QL.go rfl rfl rfl (fun wq gq => Ex.nck rfl) ?_
     refine QL.go rfl rfl rfl (fun wq gq => fa141_0 (b := ⟨p, 0, none⟩) rfl rfl) ?_
     refine QL.go rfl rfl rfl (fun wq gq => fa24_0 (b := ⟨p, 0, none⟩) rfl rfl) ?_
     refine QL.go rfl rfl rfl (fun wq gq => Ex.ldv rfl (loadC1 lo3 (Ob.cell (v := (.int .i64 k.view)) ((H7.grow gq).ob (i := 1) rfl) rfl))) ?_
     refine QL.br (p := (r.view : Int) < (k.view : Int)) rfl rfl rfl (fun r hr wq gq => Ex.lt rfl rfl hr) (fun h173 => ?_) (fun h173 => ?_)
     ·skip
      refine QL.nil ?_
      intro w174 g175
      have H176 := H7.grow g175
      have z177 := g175.size
      refine thn.n (CW.condT rfl ?_)
      refine CW.seq (CW.region ?_)
      refine RL.go rfl rfl rfl (Ex.as (v := (.int .i64 141)) rfl) ?_
      refine RL.nil (thn.n (CW.ret (inB.r (thn.r ?_))))
      refine finQ.r (v := (.int .i64 141)) (res1 rfl rfl) ?_
      have hx : (seenK (madeK k r)).1 = 141 := by
        unfold madeK lastK
        simp [seenK, h9, h36, h172, h173]
      exact ⟨k, _, _, _, ret_int hx.symm, (H176.sel [1, 2, 3] (by decide) rfl), fun h0 => by rw [hx] at h0; cases h0⟩
     ·skip
      refine QL.nil ?_
      intro w178 g179
      have H180 := H7.grow g179
      have z181 := g179.size
      refine thn.n (CW.condF rfl ?_)
      refine CW.skip (inB.n (thn.n (CW.seq (CW.region ?_))))
      refine RL.go rfl rfl rfl (Ex.mv (v := (.pointer (some ⟨p, 0, none⟩))) rfl) ?_
      refine RL.go rfl rfl rfl (Ex.nck rfl) ?_
      refine RL.go rfl rfl rfl (fa141_0 (b := ⟨p, 0, none⟩) rfl rfl) ?_
      refine RL.go rfl rfl rfl (Ex.ldv rfl (loadCN (cs := [(.int .i64 k.view), (.int .i64 k.normal), (.int .i64 k.base), (.string (tx k.image)), (.slice A n c)]) wh24 (H180.ob (i := 1) rfl).cl)) ?_
      refine RL.call Tryz.call125 (last_ _ _ _ k (KeptR.of (k := k) (n := n) (c := c) (H180.rowrd (i := 2) rfl) (by show n = (k.ents).length; (try simp only [List.length_append, List.length_cons, List.length_nil, List.length_take, List.length_drop]); all_goals omega) (by omega) (by omega) (by first | assumption | (show List.length _ ≤ _; first | assumption | decide | omega))) (Nat.le_refl _) hkk) rfl rfl rfl ?_
      rintro _ w182 ⟨rfl, g183⟩
      have H184 := H180.grow g183
      have z185 := g183.size
      refine RL.go rfl rfl rfl (Ex.as (v := (.int .i64 (k.base + (k.ents.length : Int)))) rfl) ?_
      refine RL.nil (thn.n (CW.seq (CW.seq (CW.region ?_))))
      refine RL.go rfl rfl rfl (fa33_0 (b := ⟨b2, 0, none⟩) rfl rfl) ?_
      refine RL.go rfl rfl rfl (Ex.ldv rfl (loadC1 lo26 (Ob.cell (v := (.int .i64 r.kind)) (H184.ob (i := 0) rfl) rfl))) ?_
      refine RL.nil (thn.n (CW.block (CW.seq (CW.region ?_))))
      refine RL.go rfl rfl rfl (Ex.eqD (r := false) rfl rfl (decide_eq_false (by omega))) ?_
      refine RL.go rfl rfl rfl (Ex.as (v := (.bool false)) rfl) ?_
      refine RL.nil (thn.n (CW.condF rfl (CW.seq (CW.region ?_))))
      refine RL.go rfl rfl rfl (Ex.eqD (r := false) rfl rfl (decide_eq_false (by omega))) ?_
      refine RL.go rfl rfl rfl (Ex.as (v := (.bool false)) rfl) ?_
      refine RL.nil (thn.n (CW.condF rfl (CW.seq (CW.region ?_))))
      refine RL.go rfl rfl rfl (Ex.eqD (r := false) rfl rfl (decide_eq_false (by omega))) ?_
      refine RL.go rfl rfl rfl (Ex.as (v := (.bool false)) rfl) ?_
      refine RL.nil (thn.n (CW.condF rfl (CW.seq (CW.region ?_))))
      refine RL.go rfl rfl rfl (Ex.eqD (r := false) rfl rfl (decide_eq_false (by omega))) ?_
      refine RL.go rfl rfl rfl (Ex.as (v := (.bool false)) rfl) ?_
      refine RL.nil (thn.n (CW.condF rfl (CW.seq (CW.region ?_))))
      refine RL.go rfl rfl rfl (Ex.eqD (r := true) rfl rfl (decide_eq_true (by omega))) ?_
      refine RL.go rfl rfl rfl (Ex.as (v := (.bool true)) rfl) ?_
      refine RL.nil (thn.n (CW.condT rfl (CW.seq (CW.seq (CW.region ?_)))))
      refine RL.go rfl rfl rfl (fa33_3 (b := ⟨b2, 3, none⟩) rfl rfl) ?_
      refine RL.go rfl rfl rfl (Ex.ldv rfl (loadC1 lo3 (Ob.cell (v := (.int .i64 r.number)) (H184.ob (i := 0) rfl) rfl))) ?_
      refine RL.call Tryz.call122 (within_oplog _ r.number 0 900000000) rfl rfl rfl ?_
      rintro _ _ ⟨rfl, rfl⟩
      rcases hb189 : (withinB r.number 0 900000000) with _ | _
      ·skip
       refine RL.go rfl rfl rfl (Ex.not (b := false) rfl) ?_
       refine RL.go rfl rfl rfl (Ex.mv (v := (.bool true)) rfl) ?_
       refine RL.out rfl rfl rfl ?_
       refine RL.out rfl rfl rfl ?_
       refine RL.out rfl rfl rfl ?_
       refine RL.out rfl rfl rfl ?_
       refine RL.out rfl rfl rfl ?_
       refine RL.out rfl rfl rfl ?_
       refine RL.go rfl rfl rfl (Ex.pkT (v := (.bool true)) rfl rfl) ?_
       refine RL.nil (thn.n (CW.condT rfl (CW.seq (CW.region ?_))))
       refine RL.go rfl rfl rfl (Ex.as (v := (.int .i64 140)) rfl) ?_
       refine RL.nil (thn.n (CW.ret (thn.r (inB.r (thn.r ?_)))))
       refine finQ.r (v := (.int .i64 140)) (res1 rfl rfl) ?_
       have hx : (seenK (madeK k r)).1 = 140 := by
         unfold madeK lastK
         simp [seenK, h9, h36, h172, h173, hb189]
       exact ⟨k, _, _, _, ret_int hx.symm, (H184.sel [1, 2, 3] (by decide) rfl), fun h0 => by rw [hx] at h0; cases h0⟩
      ·have hw186 := withinB_t hb189
       refine RL.go rfl rfl rfl (Ex.not (b := true) rfl) ?_
       refine RL.go rfl rfl rfl (Ex.mv (v := (.bool false)) rfl) ?_
       refine RL.go rfl rfl rfl (fa33_6 (b := ⟨b2, 16, none⟩) rfl rfl) ?_
       refine RL.go rfl rfl rfl (Ex.ldv rfl (loadC1 lo22 (Ob.cell (v := (.slice A2 n2 c2)) (H184.ob (i := 0) rfl) rfl))) ?_
       refine RL.go rfl rfl rfl (fa33_3 (b := ⟨b2, 3, none⟩) rfl rfl) ?_
       refine RL.go rfl rfl rfl (Ex.ldv rfl (loadC1 lo3 (Ob.cell (v := (.int .i64 r.number)) (H184.ob (i := 0) rfl) rfl))) ?_
       refine RL.call Tryz.call123 (follows_ _ ⟨A2, n2, c2⟩ r.ents r.number _ (by first | assumption | rfl | omega) (by show n2 ≤ _; omega) ((hr2.st (H184.chg (i := 3) rfl)).rd)) rfl rfl rfl ?_
       rintro _ w190 ⟨rfl, g191⟩
       have H192 := H184.grow g191
       have z193 := g191.size
       rcases hb194 : (follB r.ents r.number) with _ | _
       ·skip
        refine RL.go rfl rfl rfl (Ex.not (b := false) rfl) ?_
        refine RL.go rfl rfl rfl (Ex.pkF (v := (.bool true)) rfl rfl) ?_
        refine RL.nil (thn.n (CW.condT rfl (CW.seq (CW.region ?_))))
        refine RL.go rfl rfl rfl (Ex.as (v := (.int .i64 140)) rfl) ?_
        refine RL.nil (thn.n (CW.ret (thn.r (inB.r (thn.r ?_)))))
        refine finQ.r (v := (.int .i64 140)) (res1 rfl rfl) ?_
        have hx : (seenK (madeK k r)).1 = 140 := by
          unfold madeK lastK
          simp [seenK, h9, h36, h172, h173, hb189, hb194]
        exact ⟨k, _, _, _, ret_int hx.symm, (H192.sel [1, 2, 3] (by decide) rfl), fun h0 => by rw [hx] at h0; cases h0⟩
       ·skip
        refine RL.go rfl rfl rfl (Ex.not (b := true) rfl) ?_
        refine RL.go rfl rfl rfl (Ex.pkF (v := (.bool false)) rfl rfl) ?_
        refine RL.nil (thn.n (CW.condF rfl (CW.skip (thn.n ?_))))
        refine CW.held (fun wq => Sp [BlkA b2 33 [(.int .i64 r.kind), (.int .i64 r.view), (.int .i64 r.from_), (.int .i64 r.number), (.string (tx r.image)), (.int .i64 r.entry.num), (.int .i64 r.entry.view), (.int .i64 r.entry.client), (.int .i64 r.entry.seq), (.int .i64 r.entry.op.kind), (.int .i64 r.entry.op.h), (.int .i64 r.entry.op.i), (.int .i64 r.entry.op.n), (.int .i64 r.entry.op.k), (.int .i64 r.entry.op.v), (.int .i64 r.entry.op.t), (.slice A2 n2 c2)], RowA 31 11 A n c (ents k.ents), Fix w S] wq) Tryz.mixed rfl ?_
        intro w195 g196
        have H197 := H192.grow g196
        have z198 := g196.size
        refine RA.tk 0 0 1 rfl rfl rfl (by kernel_rfl) (fun wq hq => Ex.mv (v := (.pointer (some ⟨p, 0, none⟩))) rfl) (H197.sel [0, 2, 3] (by decide) rfl) ?_
        refine RA.tk 1 1 3 rfl rfl rfl (by kernel_rfl) (fun wq hq => fa33_1 (b := ⟨b2, 1, none⟩) rfl rfl) (H197.sel [0, 2, 3] (by decide) rfl) ?_
        refine RA.tk 3 3 11 rfl rfl rfl (by kernel_rfl) (fun wq hq => fa33_1 (b := ⟨b2, 1, none⟩) rfl rfl) (H197.sel [0, 2, 3] (by decide) rfl) ?_
        refine RA.tk 5 11 43 rfl rfl rfl (by kernel_rfl) (fun wq hq => fa33_3 (b := ⟨b2, 3, none⟩) rfl rfl) (H197.sel [0, 2, 3] (by decide) rfl) ?_
        refine RA.tk 7 43 171 rfl rfl rfl (by kernel_rfl) (fun wq hq => fa33_4 (b := ⟨b2, 4, none⟩) rfl rfl) (H197.sel [0, 2, 3] (by decide) rfl) ?_
        refine RA.tk 9 171 683 rfl rfl rfl (by kernel_rfl) (fun wq hq => fa33_6 (b := ⟨b2, 16, none⟩) rfl rfl) (H197.sel [0, 2, 3] (by decide) rfl) ?_
        refine RA.tk 2 683 687 rfl rfl rfl (by kernel_rfl) (fun wq hq => Ex.ldv rfl (loadC1 lo3 (Ob.cell (v := (.int .i64 r.view)) (hq.ob (i := 0) rfl) rfl))) (H197.sel [0, 2, 3] (by decide) rfl) ?_
        refine RA.tk 4 687 703 rfl rfl rfl (by kernel_rfl) (fun wq hq => Ex.ldv rfl (loadC1 lo3 (Ob.cell (v := (.int .i64 r.view)) (hq.ob (i := 0) rfl) rfl))) (H197.sel [0, 2, 3] (by decide) rfl) ?_
        refine RA.tk 6 703 767 rfl rfl rfl (by kernel_rfl) (fun wq hq => Ex.ldv rfl (loadC1 lo3 (Ob.cell (v := (.int .i64 r.number)) (hq.ob (i := 0) rfl) rfl))) (H197.sel [0, 2, 3] (by decide) rfl) ?_
        refine RA.tk 8 767 1023 rfl rfl rfl (by kernel_rfl) (fun wq hq => Ex.ldv rfl (loadC1 lo9 (Ob.cell (v := (.string (tx r.image))) (hq.ob (i := 0) rfl) rfl))) (H197.sel [0, 2, 3] (by decide) rfl) ?_
        refine RA.tk 10 1023 2047 rfl rfl rfl (by kernel_rfl) (fun wq hq => Ex.ldv rfl (loadC1 lo22 (Ob.cell (v := (.slice A2 n2 c2)) (hq.ob (i := 0) rfl) rfl))) (H197.sel [0, 2, 3] (by decide) rfl) ?_
        refine RA.one (i := 11) (by kernel_rfl) ?_
        refine ⟨_, 4095, rfl, by kernel_rfl, ?_⟩
        refine RL.call Tryz.call89 (cloneEnt _ r.ents _ _ _ _ ((hr2.st (H197.chg (i := 3) rfl)).rd) (by (try simp only [List.length_append, List.length_cons, List.length_nil, List.length_take, List.length_drop]); all_goals omega) (by omega)) rfl rfl rfl ?_
        rintro _ w202 ⟨A199, c200, rfl, g203, ow201⟩
        have H204 : Sp [RowA 31 11 A199 n2 c200 (ents r.ents), BlkA b2 33 [(.int .i64 r.kind), (.int .i64 r.view), (.int .i64 r.from_), (.int .i64 r.number), (.string (tx r.image)), (.int .i64 r.entry.num), (.int .i64 r.entry.view), (.int .i64 r.entry.client), (.int .i64 r.entry.seq), (.int .i64 r.entry.op.kind), (.int .i64 r.entry.op.h), (.int .i64 r.entry.op.i), (.int .i64 r.entry.op.n), (.int .i64 r.entry.op.k), (.int .i64 r.entry.op.v), (.int .i64 r.entry.op.t), (.slice A2 n2 c2)], BlkA p 141 [(.int .i64 k.view), (.int .i64 k.normal), (.int .i64 k.base), (.string (tx k.image)), (.slice A n c)], RowA 31 11 A n c (ents k.ents), Fix w S] w202 := H197.newO g203 ow201 (by simp only [bcs_length, ics_length, rows_length, blks_length, robjs_length, ents_length, List.length_append, List.length_cons, List.length_nil, List.length_take, List.length_drop, List.length_map, enc4, enc8, encN_len, encW_len]; omega) (Nat.le_refl _)
        have z205 := g203.size
        refine RL.nil ?_
        refine ⟨(H204.sel [1, 3, 4] (by decide) rfl), ?_⟩
        refine RA.tk 12 4095 8191 rfl rfl rfl (by kernel_rfl) (fun wq hq => Ex.bd (cs := [(.int .i64 r.view), (.int .i64 r.view), (.int .i64 r.number), (.string (tx r.image)), (.slice A199 n2 c200)]) bd24 rfl) (H204.sel [1, 3, 4] (by decide) rfl) ?_
        refine RA.tk 13 8191 16383 rfl rfl rfl (by kernel_rfl) (fun wq hq => Ex.nck rfl) (H204.sel [1, 3, 4] (by decide) rfl) ?_
        refine RA.tk 14 16383 32767 rfl rfl rfl (by kernel_rfl) (fun wq hq => fa141_0 (b := ⟨p, 0, none⟩) rfl rfl) (H204.sel [1, 3, 4] (by decide) rfl) ?_
        refine RA.one (i := 15) (by kernel_rfl) ?_
        refine ⟨_, 65535, rfl, by kernel_rfl, ?_⟩
        refine RL.st (vs := [(.int .i64 r.view), (.int .i64 r.view), (.int .i64 r.number), (.string (tx r.image)), (.slice A199 n2 c200)]) (cs' := [(.int .i64 r.view), (.int .i64 r.view), (.int .i64 r.number), (.string (tx r.image)), (.slice A199 n2 c200)]) Tryz.sizeOf24 (H204.ob (i := 2) rfl) rfl rfl rfl rfl rfl rfl ?_
        intro w206 hz207 g208 o209
        have H210 : Sp [RowA 31 11 A199 n2 c200 (ents r.ents), BlkA b2 33 [(.int .i64 r.kind), (.int .i64 r.view), (.int .i64 r.from_), (.int .i64 r.number), (.string (tx r.image)), (.int .i64 r.entry.num), (.int .i64 r.entry.view), (.int .i64 r.entry.client), (.int .i64 r.entry.seq), (.int .i64 r.entry.op.kind), (.int .i64 r.entry.op.h), (.int .i64 r.entry.op.i), (.int .i64 r.entry.op.n), (.int .i64 r.entry.op.k), (.int .i64 r.entry.op.v), (.int .i64 r.entry.op.t), (.slice A2 n2 c2)], BlkA p 141 [(.int .i64 r.view), (.int .i64 r.view), (.int .i64 r.number), (.string (tx r.image)), (.slice A199 n2 c200)], RowA 31 11 A n c (ents k.ents), Fix w S] w206 := H204.setB (i := 2) rfl g208 o209 rfl
        have z211 := g208.size
        refine RL.nil ?_
        refine ⟨(H210.sel [1, 3, 4] (by decide) rfl), ?_⟩
        refine RA.done (by kernel_rfl) ?_
        refine inB.n (thn.n (CW.seq (CW.block (CW.seq (CW.region ?_)))))
        refine RL.go rfl rfl rfl (Ex.mv (v := (.pointer (some ⟨p, 0, none⟩))) rfl) ?_
        refine RL.go rfl rfl rfl (Ex.nck rfl) ?_
        refine RL.go rfl rfl rfl (fa141_0 (b := ⟨p, 0, none⟩) rfl rfl) ?_
        refine RL.go rfl rfl rfl (fa24_4 (b := ⟨p, 4, none⟩) rfl rfl) ?_
        refine RL.go rfl rfl rfl (Ex.ldv rfl (loadC1 lo22 (Ob.cell (v := (.slice A199 n2 c200)) (H210.ob (i := 2) rfl) rfl))) ?_
        have hmk212 : madeK k r = (0, (⟨r.view, r.view, r.number, r.image, r.ents⟩ : Kept)) := by
                unfold madeK lastK
                simp [h9, h36, h172, h173, hb189, hb194]
        have hln := H210.len (i := 0) rfl
        have hcn := H210.cap (i := 0) rfl
        simp only [bcs_length, ics_length, rows_length, blks_length, robjs_length, ents_length, List.length_append, List.length_cons, List.length_nil, List.length_take, List.length_drop, List.length_map, enc4, enc8, encN_len, encW_len] at hln
        refine RL.go rfl rfl rfl (Ex.len Tryz.underlying22 rfl) ?_
        refine RL.br (p := (4000 : Int) < ((n2 : Nat) : Int)) rfl rfl rfl (fun r hr => Ex.gt rfl rfl hr) (fun h213 => ?_) (fun h213 => ?_)
        ·skip
         refine RL.go rfl rfl rfl (Ex.as (v := (.bool true)) rfl) ?_
         refine RL.nil (thn.n (CW.condT rfl (CW.seq (CW.region ?_))))
         refine RL.go rfl rfl rfl (Ex.as (v := (.int .i64 2)) rfl) ?_
         refine RL.nil (thn.n (CW.ret (inB.r (thn.r ?_))))
         refine finQ.r (v := (.int .i64 2)) (res1 rfl rfl) ?_
         have hx : (seenK (madeK k r)).1 = 2 := by
           rw [hmk212]; unfold seenK
           rw [if_pos rfl, if_pos (by show 4000 < (List.length _); simp only [bcs_length, ics_length, rows_length, blks_length, robjs_length, ents_length, List.length_append, List.length_cons, List.length_nil, List.length_take, List.length_drop, List.length_map, enc4, enc8, encN_len, encW_len]; omega)]
         exact ⟨(⟨r.view, r.view, r.number, r.image, r.ents⟩ : Kept), _, _, _, ret_int hx.symm, (H210.sel [2, 0, 4] (by decide) rfl), fun h0 => by rw [hx] at h0; cases h0⟩
        ·skip
         refine RL.go rfl rfl rfl (Ex.as (v := (.bool false)) rfl) ?_
         refine RL.nil (thn.n (CW.condF rfl (CW.seq (CW.region ?_))))
         refine RL.go rfl rfl rfl (Ex.mv (v := (.pointer (some ⟨p, 0, none⟩))) rfl) ?_
         refine RL.go rfl rfl rfl (Ex.nck rfl) ?_
         refine RL.go rfl rfl rfl (fa141_0 (b := ⟨p, 0, none⟩) rfl rfl) ?_
         refine RL.go rfl rfl rfl (Ex.ldv rfl (loadCN (cs := [(.int .i64 r.view), (.int .i64 r.view), (.int .i64 r.number), (.string (tx r.image)), (.slice A199 n2 c200)]) wh24 (H210.ob (i := 2) rfl).cl)) ?_
         refine RL.call Tryz.call57 (opCheck_ _ _ _ (⟨r.view, r.view, r.number, r.image, r.ents⟩ : Kept) (KeptR.of (k := (⟨r.view, r.view, r.number, r.image, r.ents⟩ : Kept)) (n := n2) (c := c200) (H210.rowrd (i := 0) rfl) (by show n2 = (r.ents).length; (try simp only [List.length_append, List.length_cons, List.length_nil, List.length_take, List.length_drop]); all_goals omega) (by omega) (by omega) (by first | assumption | (show List.length _ ≤ _; first | assumption | decide | omega))) (Nat.le_refl _)) rfl rfl rfl ?_
         rintro _ w214 ⟨rfl, g215⟩
         have H216 := H210.grow g215
         have z217 := g215.size
         refine RL.br (p := ((if keptB (⟨r.view, r.view, r.number, r.image, r.ents⟩ : Kept) then 0 else 1) : Int) ≠ (0 : Int)) rfl rfl rfl (fun r hr => Ex.neD rfl rfl hr) (fun h218 => ?_) (fun h218 => ?_)
         ·skip
          refine RL.go rfl rfl rfl (Ex.as (v := (.bool true)) rfl) ?_
          refine RL.nil (thn.n (CW.condT rfl (CW.seq (CW.region ?_))))
          refine RL.go rfl rfl rfl (Ex.as (v := (.int .i64 141)) rfl) ?_
          refine RL.nil (thn.n (CW.ret (inB.r (thn.r ?_))))
          refine finQ.r (v := (.int .i64 141)) (res1 rfl rfl) ?_
          have hx : (seenK (madeK k r)).1 = 141 := by
            rw [hmk212]; unfold seenK
            rw [if_pos rfl, if_neg (by show ¬ 4000 < (List.length _); simp only [bcs_length, ics_length, rows_length, blks_length, robjs_length, ents_length, List.length_append, List.length_cons, List.length_nil, List.length_take, List.length_drop, List.length_map, enc4, enc8, encN_len, encW_len]; omega), if_neg (by have := ite_ne0 h218; intro h0; rw [h0] at this; cases this)]
          exact ⟨(⟨r.view, r.view, r.number, r.image, r.ents⟩ : Kept), _, _, _, ret_int hx.symm, (H216.sel [2, 0, 4] (by decide) rfl), fun h0 => by rw [hx] at h0; cases h0⟩
         ·skip
          refine RL.go rfl rfl rfl (Ex.as (v := (.bool false)) rfl) ?_
          refine RL.nil (thn.n (CW.condF rfl (CW.skip (inB.n (thn.n (CW.seq (CW.region ?_)))))))
          refine RL.go rfl rfl rfl (Ex.as (v := (.int .i64 0)) rfl) ?_
          refine RL.nil (thn.n (CW.ret ?_))
          refine finQ.r (v := (.int .i64 0)) (res1 rfl rfl) ?_
          have hx : seenK (madeK k r) = (0, (⟨r.view, r.view, r.number, r.image, r.ents⟩ : Kept)) := by
            rw [hmk212]; unfold seenK
            rw [if_pos rfl, if_neg (by show ¬ 4000 < (List.length _); simp only [bcs_length, ics_length, rows_length, blks_length, robjs_length, ents_length, List.length_append, List.length_cons, List.length_nil, List.length_take, List.length_drop, List.length_map, enc4, enc8, encN_len, encW_len]; omega), if_pos (by exact ite_eq0 h218)]
          exact ⟨(⟨r.view, r.view, r.number, r.image, r.ents⟩ : Kept), _, _, _, by rw [hx], (H216.sel [2, 0, 4] (by decide) rfl), fun _ => by rw [hx]⟩
    ·skip
     refine RL.go rfl rfl rfl (Ex.as (v := (.bool false)) rfl) ?_
     refine RL.nil (thn.n (CW.condF rfl (CW.skip (inB.n (thn.n (CW.seq (CW.region ?_)))))))
     refine RL.go rfl rfl rfl (Ex.mv (v := (.pointer (some ⟨p, 0, none⟩))) rfl) ?_
     refine RL.go rfl rfl rfl (Ex.nck rfl) ?_
     refine RL.go rfl rfl rfl (fa141_0 (b := ⟨p, 0, none⟩) rfl rfl) ?_
     refine RL.go rfl rfl rfl (Ex.ldv rfl (loadCN (cs := [(.int .i64 k.view), (.int .i64 k.normal), (.int .i64 k.base), (.string (tx k.image)), (.slice A n c)]) wh24 (H7.ob (i := 1) rfl).cl)) ?_
     refine RL.call Tryz.call125 (last_ _ _ _ k (KeptR.of (k := k) (n := n) (c := c) (H7.rowrd (i := 2) rfl) (by show n = (k.ents).length; (try simp only [List.length_append, List.length_cons, List.length_nil, List.length_take, List.length_drop]); all_goals omega) (by omega) (by omega) (by first | assumption | (show List.length _ ≤ _; first | assumption | decide | omega))) (Nat.le_refl _) hkk) rfl rfl rfl ?_
     rintro _ w219 ⟨rfl, g220⟩
     have H221 := H7.grow g220
     have z222 := g220.size
     refine RL.go rfl rfl rfl (Ex.as (v := (.int .i64 (k.base + (k.ents.length : Int)))) rfl) ?_
     refine RL.nil (thn.n (CW.seq (CW.seq (CW.region ?_))))
     refine RL.go rfl rfl rfl (fa33_0 (b := ⟨b2, 0, none⟩) rfl rfl) ?_
     refine RL.go rfl rfl rfl (Ex.ldv rfl (loadC1 lo26 (Ob.cell (v := (.int .i64 r.kind)) (H221.ob (i := 0) rfl) rfl))) ?_
     refine RL.nil (thn.n (CW.block (CW.seq (CW.region ?_))))
     refine RL.go rfl rfl rfl (Ex.eqD (r := false) rfl rfl (decide_eq_false (by omega))) ?_
     refine RL.go rfl rfl rfl (Ex.as (v := (.bool false)) rfl) ?_
     refine RL.nil (thn.n (CW.condF rfl (CW.seq (CW.region ?_))))
     refine RL.br (p := (r.kind : Int) = (2 : Int)) rfl rfl rfl (fun r hr => Ex.eqD rfl rfl hr) (fun h223 => ?_) (fun h223 => ?_)
     ·skip
      refine RL.go rfl rfl rfl (Ex.as (v := (.bool true)) rfl) ?_
      refine RL.nil (thn.n (CW.condT rfl (CW.seq (CW.seq (CW.region ?_)))))
      refine RL.go rfl rfl rfl (fa33_5 (b := ⟨b2, 5, none⟩) rfl rfl) ?_
      refine RL.go rfl rfl rfl (Ex.ldv rfl (loadCN (cs := [(.int .i64 r.entry.num), (.int .i64 r.entry.view), (.int .i64 r.entry.client), (.int .i64 r.entry.seq), (.int .i64 r.entry.op.kind), (.int .i64 r.entry.op.h), (.int .i64 r.entry.op.i), (.int .i64 r.entry.op.n), (.int .i64 r.entry.op.k), (.int .i64 r.entry.op.v), (.int .i64 r.entry.op.t)]) wh31 ((H221.ob (i := 0) rfl).sub 5 11))) ?_
      refine RL.bs (cs := [(.int .i64 r.entry.num), (.int .i64 r.entry.view), (.int .i64 r.entry.client), (.int .i64 r.entry.seq), (.int .i64 r.entry.op.kind), (.int .i64 r.entry.op.h), (.int .i64 r.entry.op.i), (.int .i64 r.entry.op.n), (.int .i64 r.entry.op.k), (.int .i64 r.entry.op.v), (.int .i64 r.entry.op.t)]) Tryz.underlying22 Tryz.sizeOf31 ze22 rfl rfl rfl (by decide) rfl rfl rfl ?_
      intro w224 b225 hb226 hz227 g228 o229
      have H230 := H221.newB g228 o229 (by omega)
      have z231 := g228.size
      refine RL.go rfl rfl rfl (Ex.mv (v := (.int .i64 (k.base + (k.ents.length : Int)))) rfl) ?_
      refine RL.call Tryz.call123 (follows_ _ ⟨(some ⟨b225, 0, none⟩), 1, 1⟩ ([r.entry]) (k.base + (k.ents.length : Int)) _ (by first | assumption | rfl | omega) (by show 1 ≤ _; omega) (Ob.rd1 (H230.ob (i := 0) rfl) rfl)) rfl rfl rfl ?_
      rintro _ w232 ⟨rfl, g233⟩
      have H234 := H230.grow g233
      have z235 := g233.size
      rcases hb236 : (follB ([r.entry]) (k.base + (k.ents.length : Int))) with _ | _
      ·skip
       refine RL.go rfl rfl rfl (Ex.not (b := false) rfl) ?_
       refine RL.nil (thn.n (CW.condT rfl (CW.seq (CW.region ?_))))
       refine RL.go rfl rfl rfl (Ex.as (v := (.int .i64 140)) rfl) ?_
       refine RL.nil (thn.n (CW.ret (thn.r (inB.r (thn.r ?_)))))
       refine finQ.r (v := (.int .i64 140)) (res1 rfl rfl) ?_
       have hx : (seenK (madeK k r)).1 = 140 := by
         unfold madeK lastK
         simp [seenK, h9, h36, h172, h223, hb236]
       exact ⟨k, _, _, _, ret_int hx.symm, (H234.sel [2, 3, 4] (by decide) rfl), fun h0 => by rw [hx] at h0; cases h0⟩
      ·skip
       refine RL.go rfl rfl rfl (Ex.not (b := true) rfl) ?_
       refine RL.nil (thn.n (CW.condF rfl (CW.skip (thn.n ?_))))
       refine CW.mid (fun t => (Nat.ble 43 t && Nat.ble t 55)) (fun ρ wl => ∃ (A276 : Option Addr) (c277 : Nat), Sp [BlkA b225 31 [(.int .i64 r.entry.num), (.int .i64 r.entry.view), (.int .i64 r.entry.client), (.int .i64 r.entry.seq), (.int .i64 r.entry.op.kind), (.int .i64 r.entry.op.h), (.int .i64 r.entry.op.i), (.int .i64 r.entry.op.n), (.int .i64 r.entry.op.k), (.int .i64 r.entry.op.v), (.int .i64 r.entry.op.t)], BlkA b2 33 [(.int .i64 r.kind), (.int .i64 r.view), (.int .i64 r.from_), (.int .i64 r.number), (.string (tx r.image)), (.int .i64 r.entry.num), (.int .i64 r.entry.view), (.int .i64 r.entry.client), (.int .i64 r.entry.seq), (.int .i64 r.entry.op.kind), (.int .i64 r.entry.op.h), (.int .i64 r.entry.op.i), (.int .i64 r.entry.op.n), (.int .i64 r.entry.op.k), (.int .i64 r.entry.op.v), (.int .i64 r.entry.op.t), (.slice A2 n2 c2)], BlkA p 141 [(.int .i64 k.view), (.int .i64 k.normal), (.int .i64 k.base), (.string (tx k.image)), (.slice A276 (n + 1) c277)], RowA 31 11 A276 (n + 1) c277 (ents (k.ents ++ [r.entry])), Fix w S] wl) ?_ ?_
       ·skip
        refine CW.held (fun wq => Sp [BlkA b225 31 [(.int .i64 r.entry.num), (.int .i64 r.entry.view), (.int .i64 r.entry.client), (.int .i64 r.entry.seq), (.int .i64 r.entry.op.kind), (.int .i64 r.entry.op.h), (.int .i64 r.entry.op.i), (.int .i64 r.entry.op.n), (.int .i64 r.entry.op.k), (.int .i64 r.entry.op.v), (.int .i64 r.entry.op.t)], BlkA b2 33 [(.int .i64 r.kind), (.int .i64 r.view), (.int .i64 r.from_), (.int .i64 r.number), (.string (tx r.image)), (.int .i64 r.entry.num), (.int .i64 r.entry.view), (.int .i64 r.entry.client), (.int .i64 r.entry.seq), (.int .i64 r.entry.op.kind), (.int .i64 r.entry.op.h), (.int .i64 r.entry.op.i), (.int .i64 r.entry.op.n), (.int .i64 r.entry.op.k), (.int .i64 r.entry.op.v), (.int .i64 r.entry.op.t), (.slice A2 n2 c2)], Fix w S] wq) Tryz.mixed rfl ?_
        intro w290 g291
        have H292 := H234.grow g291
        have z293 := g291.size
        refine RA.tk 0 0 1 rfl rfl rfl (by kernel_rfl) (fun wq hq => Ex.mv (v := (.pointer (some ⟨p, 0, none⟩))) rfl) (H292.sel [0, 1, 4] (by decide) rfl) ?_
        refine RA.tk 1 1 3 rfl rfl rfl (by kernel_rfl) (fun wq hq => Ex.mv (v := (.pointer (some ⟨p, 0, none⟩))) rfl) (H292.sel [0, 1, 4] (by decide) rfl) ?_
        refine RA.tk 2 3 7 rfl rfl rfl (by kernel_rfl) (fun wq hq => Ex.nck rfl) (H292.sel [0, 1, 4] (by decide) rfl) ?_
        refine RA.tk 3 7 15 rfl rfl rfl (by kernel_rfl) (fun wq hq => fa141_0 (b := ⟨p, 0, none⟩) rfl rfl) (H292.sel [0, 1, 4] (by decide) rfl) ?_
        refine RA.tk 4 15 31 rfl rfl rfl (by kernel_rfl) (fun wq hq => fa24_4 (b := ⟨p, 4, none⟩) rfl rfl) (H292.sel [0, 1, 4] (by decide) rfl) ?_
        refine RA.tk 6 31 95 rfl rfl rfl (by kernel_rfl) (fun wq hq => fa33_5 (b := ⟨b2, 5, none⟩) rfl rfl) (H292.sel [0, 1, 4] (by decide) rfl) ?_
        refine RA.tk 7 95 223 rfl rfl rfl (by kernel_rfl) (fun wq hq => Ex.ldv rfl (loadCN (cs := [(.int .i64 r.entry.num), (.int .i64 r.entry.view), (.int .i64 r.entry.client), (.int .i64 r.entry.seq), (.int .i64 r.entry.op.kind), (.int .i64 r.entry.op.h), (.int .i64 r.entry.op.i), (.int .i64 r.entry.op.n), (.int .i64 r.entry.op.k), (.int .i64 r.entry.op.v), (.int .i64 r.entry.op.t)]) wh31 ((hq.ob (i := 1) rfl).sub 5 11))) (H292.sel [0, 1, 4] (by decide) rfl) ?_
        refine RA.two (i := 5) (j := 8) (by kernel_rfl) ?_ ?_
        ·skip
         refine ⟨_, 255, rfl, by kernel_rfl, ?_⟩
         refine RL.go rfl rfl rfl (Ex.ldv rfl (loadC1 lo22 (Ob.cell (v := (.slice A n c)) (H292.ob (i := 2) rfl) rfl))) ?_
         refine RL.nil ?_
         refine ⟨(H292.sel [0, 1, 4] (by decide) rfl), ?_⟩
         refine RA.one (i := 8) (by kernel_rfl) ?_
         refine ⟨_, 511, rfl, by kernel_rfl, ?_⟩
         refine RL.bs (cs := [(.int .i64 r.entry.num), (.int .i64 r.entry.view), (.int .i64 r.entry.client), (.int .i64 r.entry.seq), (.int .i64 r.entry.op.kind), (.int .i64 r.entry.op.h), (.int .i64 r.entry.op.i), (.int .i64 r.entry.op.n), (.int .i64 r.entry.op.k), (.int .i64 r.entry.op.v), (.int .i64 r.entry.op.t)]) Tryz.underlying22 Tryz.sizeOf31 ze22 rfl rfl rfl (by decide) rfl rfl rfl ?_
         intro w294 b295 hb296 hz297 g298 o299
         have H300 := H292.newB g298 o299 (by omega)
         have z301 := g298.size
         refine RL.nil ?_
         refine ⟨(H300.sel [1, 2, 5] (by decide) rfl), ?_⟩
         refine RA.one (i := 9) (by kernel_rfl) ?_
         refine ⟨_, 1023, rfl, by kernel_rfl, ?_⟩
         refine RL.apW (base := 0) (xss := (ents k.ents)) (yss := (ents ([r.entry]))) el22 (H300.wr (i := 4) rfl) rfl (Ob.rd1 (H300.ob (i := 0) rfl) rfl) rfl (by simp only [bcs_length, ics_length, rows_length, blks_length, robjs_length, ents_length, List.length_append, List.length_cons, List.length_nil, List.length_take, List.length_drop, List.length_map, enc4, enc8, encN_len, encW_len]; try omega) (ents_one _) (by omega) (by omega) (by omega) rfl rfl ?_
         intro w302 A303 c304 g305 ow306 nx307
         have H308 : Sp [BlkA b295 31 [(.int .i64 r.entry.num), (.int .i64 r.entry.view), (.int .i64 r.entry.client), (.int .i64 r.entry.seq), (.int .i64 r.entry.op.kind), (.int .i64 r.entry.op.h), (.int .i64 r.entry.op.i), (.int .i64 r.entry.op.n), (.int .i64 r.entry.op.k), (.int .i64 r.entry.op.v), (.int .i64 r.entry.op.t)], BlkA b225 31 [(.int .i64 r.entry.num), (.int .i64 r.entry.view), (.int .i64 r.entry.client), (.int .i64 r.entry.seq), (.int .i64 r.entry.op.kind), (.int .i64 r.entry.op.h), (.int .i64 r.entry.op.i), (.int .i64 r.entry.op.n), (.int .i64 r.entry.op.k), (.int .i64 r.entry.op.v), (.int .i64 r.entry.op.t)], BlkA b2 33 [(.int .i64 r.kind), (.int .i64 r.view), (.int .i64 r.from_), (.int .i64 r.number), (.string (tx r.image)), (.int .i64 r.entry.num), (.int .i64 r.entry.view), (.int .i64 r.entry.client), (.int .i64 r.entry.seq), (.int .i64 r.entry.op.kind), (.int .i64 r.entry.op.h), (.int .i64 r.entry.op.i), (.int .i64 r.entry.op.n), (.int .i64 r.entry.op.k), (.int .i64 r.entry.op.v), (.int .i64 r.entry.op.t), (.slice A2 n2 c2)], BlkA p 141 [(.int .i64 k.view), (.int .i64 k.normal), (.int .i64 k.base), (.string (tx k.image)), (.slice A n c)], RowA 31 11 A303 (n + 1) c304 (ents (k.ents ++ [r.entry])), Fix w S] w302 := H300.setR (i := 4) rfl g305 ((ents_app _ _).symm ▸ ow306) nx307 rfl
         have z309 := g305.size
         refine RL.nil ?_
         refine ⟨(H308.sel [1, 2, 5] (by decide) rfl), ?_⟩
         refine RA.tk 10 1023 2047 rfl rfl rfl (by kernel_rfl) (fun wq hq => Ex.nck rfl) (H308.sel [1, 2, 5] (by decide) rfl) ?_
         refine RA.tk 11 2047 4095 rfl rfl rfl (by kernel_rfl) (fun wq hq => fa141_0 (b := ⟨p, 0, none⟩) rfl rfl) (H308.sel [1, 2, 5] (by decide) rfl) ?_
         refine RA.tk 12 4095 8191 rfl rfl rfl (by kernel_rfl) (fun wq hq => fa24_4 (b := ⟨p, 4, none⟩) rfl rfl) (H308.sel [1, 2, 5] (by decide) rfl) ?_
         refine RA.one (i := 13) (by kernel_rfl) ?_
         refine ⟨_, 16383, rfl, by kernel_rfl, ?_⟩
         refine RL.st (vs := [(.slice A303 (n + 1) c304)]) (cs' := [(.int .i64 k.view), (.int .i64 k.normal), (.int .i64 k.base), (.string (tx k.image)), (.slice A303 (n + 1) c304)]) Tryz.sizeOf22 (H308.ob (i := 3) rfl) rfl rfl rfl rfl rfl rfl ?_
         intro w310 hz311 g312 o313
         have H314 : Sp [BlkA b295 31 [(.int .i64 r.entry.num), (.int .i64 r.entry.view), (.int .i64 r.entry.client), (.int .i64 r.entry.seq), (.int .i64 r.entry.op.kind), (.int .i64 r.entry.op.h), (.int .i64 r.entry.op.i), (.int .i64 r.entry.op.n), (.int .i64 r.entry.op.k), (.int .i64 r.entry.op.v), (.int .i64 r.entry.op.t)], BlkA b225 31 [(.int .i64 r.entry.num), (.int .i64 r.entry.view), (.int .i64 r.entry.client), (.int .i64 r.entry.seq), (.int .i64 r.entry.op.kind), (.int .i64 r.entry.op.h), (.int .i64 r.entry.op.i), (.int .i64 r.entry.op.n), (.int .i64 r.entry.op.k), (.int .i64 r.entry.op.v), (.int .i64 r.entry.op.t)], BlkA b2 33 [(.int .i64 r.kind), (.int .i64 r.view), (.int .i64 r.from_), (.int .i64 r.number), (.string (tx r.image)), (.int .i64 r.entry.num), (.int .i64 r.entry.view), (.int .i64 r.entry.client), (.int .i64 r.entry.seq), (.int .i64 r.entry.op.kind), (.int .i64 r.entry.op.h), (.int .i64 r.entry.op.i), (.int .i64 r.entry.op.n), (.int .i64 r.entry.op.k), (.int .i64 r.entry.op.v), (.int .i64 r.entry.op.t), (.slice A2 n2 c2)], BlkA p 141 [(.int .i64 k.view), (.int .i64 k.normal), (.int .i64 k.base), (.string (tx k.image)), (.slice A303 (n + 1) c304)], RowA 31 11 A303 (n + 1) c304 (ents (k.ents ++ [r.entry])), Fix w S] w310 := H308.setB (i := 3) rfl g312 o313 rfl
         have z315 := g312.size
         refine RL.nil ?_
         refine ⟨(H314.sel [1, 2, 5] (by decide) rfl), ?_⟩
         refine RA.done (by kernel_rfl) ?_
         refine thn.n ?_
         exact ⟨(by repeat (first | exact Out.mix _ _ | exact Out.refl _ _ | refine Out.up ?_ rfl _)), A303, c304, (H314.sel [1, 2, 3, 4, 5] (by decide) rfl)⟩
        ·skip
         refine ⟨_, 479, rfl, by kernel_rfl, ?_⟩
         refine RL.bs (cs := [(.int .i64 r.entry.num), (.int .i64 r.entry.view), (.int .i64 r.entry.client), (.int .i64 r.entry.seq), (.int .i64 r.entry.op.kind), (.int .i64 r.entry.op.h), (.int .i64 r.entry.op.i), (.int .i64 r.entry.op.n), (.int .i64 r.entry.op.k), (.int .i64 r.entry.op.v), (.int .i64 r.entry.op.t)]) Tryz.underlying22 Tryz.sizeOf31 ze22 rfl rfl rfl (by decide) rfl rfl rfl ?_
         intro w316 b317 hb318 hz319 g320 o321
         have H322 := H292.newB g320 o321 (by omega)
         have z323 := g320.size
         refine RL.nil ?_
         refine ⟨(H322.sel [1, 2, 5] (by decide) rfl), ?_⟩
         refine RA.one (i := 5) (by kernel_rfl) ?_
         refine ⟨_, 511, rfl, by kernel_rfl, ?_⟩
         refine RL.go rfl rfl rfl (Ex.ldv rfl (loadC1 lo22 (Ob.cell (v := (.slice A n c)) (H322.ob (i := 3) rfl) rfl))) ?_
         refine RL.nil ?_
         refine ⟨(H322.sel [1, 2, 5] (by decide) rfl), ?_⟩
         refine RA.one (i := 9) (by kernel_rfl) ?_
         refine ⟨_, 1023, rfl, by kernel_rfl, ?_⟩
         refine RL.apW (base := 0) (xss := (ents k.ents)) (yss := (ents ([r.entry]))) el22 (H322.wr (i := 4) rfl) rfl (Ob.rd1 (H322.ob (i := 0) rfl) rfl) rfl (by simp only [bcs_length, ics_length, rows_length, blks_length, robjs_length, ents_length, List.length_append, List.length_cons, List.length_nil, List.length_take, List.length_drop, List.length_map, enc4, enc8, encN_len, encW_len]; try omega) (ents_one _) (by omega) (by omega) (by omega) rfl rfl ?_
         intro w324 A325 c326 g327 ow328 nx329
         have H330 : Sp [BlkA b317 31 [(.int .i64 r.entry.num), (.int .i64 r.entry.view), (.int .i64 r.entry.client), (.int .i64 r.entry.seq), (.int .i64 r.entry.op.kind), (.int .i64 r.entry.op.h), (.int .i64 r.entry.op.i), (.int .i64 r.entry.op.n), (.int .i64 r.entry.op.k), (.int .i64 r.entry.op.v), (.int .i64 r.entry.op.t)], BlkA b225 31 [(.int .i64 r.entry.num), (.int .i64 r.entry.view), (.int .i64 r.entry.client), (.int .i64 r.entry.seq), (.int .i64 r.entry.op.kind), (.int .i64 r.entry.op.h), (.int .i64 r.entry.op.i), (.int .i64 r.entry.op.n), (.int .i64 r.entry.op.k), (.int .i64 r.entry.op.v), (.int .i64 r.entry.op.t)], BlkA b2 33 [(.int .i64 r.kind), (.int .i64 r.view), (.int .i64 r.from_), (.int .i64 r.number), (.string (tx r.image)), (.int .i64 r.entry.num), (.int .i64 r.entry.view), (.int .i64 r.entry.client), (.int .i64 r.entry.seq), (.int .i64 r.entry.op.kind), (.int .i64 r.entry.op.h), (.int .i64 r.entry.op.i), (.int .i64 r.entry.op.n), (.int .i64 r.entry.op.k), (.int .i64 r.entry.op.v), (.int .i64 r.entry.op.t), (.slice A2 n2 c2)], BlkA p 141 [(.int .i64 k.view), (.int .i64 k.normal), (.int .i64 k.base), (.string (tx k.image)), (.slice A n c)], RowA 31 11 A325 (n + 1) c326 (ents (k.ents ++ [r.entry])), Fix w S] w324 := H322.setR (i := 4) rfl g327 ((ents_app _ _).symm ▸ ow328) nx329 rfl
         have z331 := g327.size
         refine RL.nil ?_
         refine ⟨(H330.sel [1, 2, 5] (by decide) rfl), ?_⟩
         refine RA.tk 10 1023 2047 rfl rfl rfl (by kernel_rfl) (fun wq hq => Ex.nck rfl) (H330.sel [1, 2, 5] (by decide) rfl) ?_
         refine RA.tk 11 2047 4095 rfl rfl rfl (by kernel_rfl) (fun wq hq => fa141_0 (b := ⟨p, 0, none⟩) rfl rfl) (H330.sel [1, 2, 5] (by decide) rfl) ?_
         refine RA.tk 12 4095 8191 rfl rfl rfl (by kernel_rfl) (fun wq hq => fa24_4 (b := ⟨p, 4, none⟩) rfl rfl) (H330.sel [1, 2, 5] (by decide) rfl) ?_
         refine RA.one (i := 13) (by kernel_rfl) ?_
         refine ⟨_, 16383, rfl, by kernel_rfl, ?_⟩
         refine RL.st (vs := [(.slice A325 (n + 1) c326)]) (cs' := [(.int .i64 k.view), (.int .i64 k.normal), (.int .i64 k.base), (.string (tx k.image)), (.slice A325 (n + 1) c326)]) Tryz.sizeOf22 (H330.ob (i := 3) rfl) rfl rfl rfl rfl rfl rfl ?_
         intro w332 hz333 g334 o335
         have H336 : Sp [BlkA b317 31 [(.int .i64 r.entry.num), (.int .i64 r.entry.view), (.int .i64 r.entry.client), (.int .i64 r.entry.seq), (.int .i64 r.entry.op.kind), (.int .i64 r.entry.op.h), (.int .i64 r.entry.op.i), (.int .i64 r.entry.op.n), (.int .i64 r.entry.op.k), (.int .i64 r.entry.op.v), (.int .i64 r.entry.op.t)], BlkA b225 31 [(.int .i64 r.entry.num), (.int .i64 r.entry.view), (.int .i64 r.entry.client), (.int .i64 r.entry.seq), (.int .i64 r.entry.op.kind), (.int .i64 r.entry.op.h), (.int .i64 r.entry.op.i), (.int .i64 r.entry.op.n), (.int .i64 r.entry.op.k), (.int .i64 r.entry.op.v), (.int .i64 r.entry.op.t)], BlkA b2 33 [(.int .i64 r.kind), (.int .i64 r.view), (.int .i64 r.from_), (.int .i64 r.number), (.string (tx r.image)), (.int .i64 r.entry.num), (.int .i64 r.entry.view), (.int .i64 r.entry.client), (.int .i64 r.entry.seq), (.int .i64 r.entry.op.kind), (.int .i64 r.entry.op.h), (.int .i64 r.entry.op.i), (.int .i64 r.entry.op.n), (.int .i64 r.entry.op.k), (.int .i64 r.entry.op.v), (.int .i64 r.entry.op.t), (.slice A2 n2 c2)], BlkA p 141 [(.int .i64 k.view), (.int .i64 k.normal), (.int .i64 k.base), (.string (tx k.image)), (.slice A325 (n + 1) c326)], RowA 31 11 A325 (n + 1) c326 (ents (k.ents ++ [r.entry])), Fix w S] w332 := H330.setB (i := 3) rfl g334 o335 rfl
         have z337 := g334.size
         refine RL.nil ?_
         refine ⟨(H336.sel [1, 2, 5] (by decide) rfl), ?_⟩
         refine RA.done (by kernel_rfl) ?_
         refine thn.n ?_
         exact ⟨(by repeat (first | exact Out.mix _ _ | exact Out.refl _ _ | refine Out.up ?_ rfl _)), A325, c326, (H336.sel [1, 2, 3, 4, 5] (by decide) rfl)⟩
       ·rintro ρc289 w338 ho339 ⟨A276, c277, H340⟩
        obtain ⟨jc289, rfl⟩ := ho339.shape0
        clear ho339
        have z341 := (H340.chg (i := 4) rfl).size
        refine inB.n (thn.n (CW.seq (CW.block (CW.seq (CW.region ?_)))))
        refine RL.go rfl rfl rfl (Ex.mv (v := (.pointer (some ⟨p, 0, none⟩))) rfl) ?_
        refine RL.go rfl rfl rfl (Ex.nck rfl) ?_
        refine RL.go rfl rfl rfl (fa141_0 (b := ⟨p, 0, none⟩) rfl rfl) ?_
        refine RL.go rfl rfl rfl (fa24_4 (b := ⟨p, 4, none⟩) rfl rfl) ?_
        refine RL.go rfl rfl rfl (Ex.ldv rfl (loadC1 lo22 (Ob.cell (v := (.slice A276 (n + 1) c277)) (H340.ob (i := 2) rfl) rfl))) ?_
        have hmk342 : madeK k r = (0, (⟨k.view, k.normal, k.base, k.image, k.ents ++ [r.entry]⟩ : Kept)) := by
                unfold madeK lastK
                simp [h9, h36, h172, h223, hb236]
        have hln := H340.len (i := 3) rfl
        have hcn := H340.cap (i := 3) rfl
        simp only [bcs_length, ics_length, rows_length, blks_length, robjs_length, ents_length, List.length_append, List.length_cons, List.length_nil, List.length_take, List.length_drop, List.length_map, enc4, enc8, encN_len, encW_len] at hln
        refine RL.go rfl rfl rfl (Ex.len Tryz.underlying22 rfl) ?_
        refine RL.br (p := (4000 : Int) < ((n + 1 : Nat) : Int)) rfl rfl rfl (fun r hr => Ex.gt rfl rfl hr) (fun h343 => ?_) (fun h343 => ?_)
        ·skip
         refine RL.go rfl rfl rfl (Ex.as (v := (.bool true)) rfl) ?_
         refine RL.nil (thn.n (CW.condT rfl (CW.seq (CW.region ?_))))
         refine RL.go rfl rfl rfl (Ex.as (v := (.int .i64 2)) rfl) ?_
         refine RL.nil (thn.n (CW.ret (inB.r (thn.r ?_))))
         refine finQ.r (v := (.int .i64 2)) (res1 rfl rfl) ?_
         have hx : (seenK (madeK k r)).1 = 2 := by
           rw [hmk342]; unfold seenK
           rw [if_pos rfl, if_pos (by show 4000 < (List.length _); simp only [bcs_length, ics_length, rows_length, blks_length, robjs_length, ents_length, List.length_append, List.length_cons, List.length_nil, List.length_take, List.length_drop, List.length_map, enc4, enc8, encN_len, encW_len]; omega)]
         exact ⟨(⟨k.view, k.normal, k.base, k.image, k.ents ++ [r.entry]⟩ : Kept), _, _, _, ret_int hx.symm, (H340.sel [2, 3, 4] (by decide) rfl), fun h0 => by rw [hx] at h0; cases h0⟩
        ·skip
         refine RL.go rfl rfl rfl (Ex.as (v := (.bool false)) rfl) ?_
         refine RL.nil (thn.n (CW.condF rfl (CW.seq (CW.region ?_))))
         refine RL.go rfl rfl rfl (Ex.mv (v := (.pointer (some ⟨p, 0, none⟩))) rfl) ?_
         refine RL.go rfl rfl rfl (Ex.nck rfl) ?_
         refine RL.go rfl rfl rfl (fa141_0 (b := ⟨p, 0, none⟩) rfl rfl) ?_
         refine RL.go rfl rfl rfl (Ex.ldv rfl (loadCN (cs := [(.int .i64 k.view), (.int .i64 k.normal), (.int .i64 k.base), (.string (tx k.image)), (.slice A276 (n + 1) c277)]) wh24 (H340.ob (i := 2) rfl).cl)) ?_
         refine RL.call Tryz.call57 (opCheck_ _ _ _ (⟨k.view, k.normal, k.base, k.image, k.ents ++ [r.entry]⟩ : Kept) (KeptR.of (k := (⟨k.view, k.normal, k.base, k.image, k.ents ++ [r.entry]⟩ : Kept)) (n := n + 1) (c := c277) (H340.rowrd (i := 3) rfl) (by show n + 1 = (k.ents ++ [r.entry]).length; (try simp only [List.length_append, List.length_cons, List.length_nil, List.length_take, List.length_drop]); all_goals omega) (by omega) (by omega) (by first | assumption | (show List.length _ ≤ _; first | assumption | decide | omega))) (Nat.le_refl _)) rfl rfl rfl ?_
         rintro _ w344 ⟨rfl, g345⟩
         have H346 := H340.grow g345
         have z347 := g345.size
         refine RL.br (p := ((if keptB (⟨k.view, k.normal, k.base, k.image, k.ents ++ [r.entry]⟩ : Kept) then 0 else 1) : Int) ≠ (0 : Int)) rfl rfl rfl (fun r hr => Ex.neD rfl rfl hr) (fun h348 => ?_) (fun h348 => ?_)
         ·skip
          refine RL.go rfl rfl rfl (Ex.as (v := (.bool true)) rfl) ?_
          refine RL.nil (thn.n (CW.condT rfl (CW.seq (CW.region ?_))))
          refine RL.go rfl rfl rfl (Ex.as (v := (.int .i64 141)) rfl) ?_
          refine RL.nil (thn.n (CW.ret (inB.r (thn.r ?_))))
          refine finQ.r (v := (.int .i64 141)) (res1 rfl rfl) ?_
          have hx : (seenK (madeK k r)).1 = 141 := by
            rw [hmk342]; unfold seenK
            rw [if_pos rfl, if_neg (by show ¬ 4000 < (List.length _); simp only [bcs_length, ics_length, rows_length, blks_length, robjs_length, ents_length, List.length_append, List.length_cons, List.length_nil, List.length_take, List.length_drop, List.length_map, enc4, enc8, encN_len, encW_len]; omega), if_neg (by have := ite_ne0 h348; intro h0; rw [h0] at this; cases this)]
          exact ⟨(⟨k.view, k.normal, k.base, k.image, k.ents ++ [r.entry]⟩ : Kept), _, _, _, ret_int hx.symm, (H346.sel [2, 3, 4] (by decide) rfl), fun h0 => by rw [hx] at h0; cases h0⟩
         ·skip
          refine RL.go rfl rfl rfl (Ex.as (v := (.bool false)) rfl) ?_
          refine RL.nil (thn.n (CW.condF rfl (CW.skip (inB.n (thn.n (CW.seq (CW.region ?_)))))))
          refine RL.go rfl rfl rfl (Ex.as (v := (.int .i64 0)) rfl) ?_
          refine RL.nil (thn.n (CW.ret ?_))
          refine finQ.r (v := (.int .i64 0)) (res1 rfl rfl) ?_
          have hx : seenK (madeK k r) = (0, (⟨k.view, k.normal, k.base, k.image, k.ents ++ [r.entry]⟩ : Kept)) := by
            rw [hmk342]; unfold seenK
            rw [if_pos rfl, if_neg (by show ¬ 4000 < (List.length _); simp only [bcs_length, ics_length, rows_length, blks_length, robjs_length, ents_length, List.length_append, List.length_cons, List.length_nil, List.length_take, List.length_drop, List.length_map, enc4, enc8, encN_len, encW_len]; omega), if_pos (by exact ite_eq0 h348)]
          exact ⟨(⟨k.view, k.normal, k.base, k.image, k.ents ++ [r.entry]⟩ : Kept), _, _, _, by rw [hx], (H346.sel [2, 3, 4] (by decide) rfl), fun _ => by rw [hx]⟩
     ·skip
      refine RL.go rfl rfl rfl (Ex.as (v := (.bool false)) rfl) ?_
      refine RL.nil (thn.n (CW.condF rfl (CW.seq (CW.region ?_))))
      refine RL.go rfl rfl rfl (Ex.eqD (r := false) rfl rfl (decide_eq_false (by omega))) ?_
      refine RL.go rfl rfl rfl (Ex.as (v := (.bool false)) rfl) ?_
      refine RL.nil (thn.n (CW.condF rfl (CW.seq (CW.region ?_))))
      refine RL.br (p := (r.kind : Int) = (4 : Int)) rfl rfl rfl (fun r hr => Ex.eqD rfl rfl hr) (fun h349 => ?_) (fun h349 => ?_)
      ·skip
       refine RL.go rfl rfl rfl (Ex.as (v := (.bool true)) rfl) ?_
       refine RL.nil (thn.n (CW.condT rfl (CW.seq (CW.seq ?_))))
       refine CW.quiet (fun wq => World.grownBy w219 wq none) Tryz.mixed (by kernel_rfl) ⟨rfl, rfl, rfl, Nat.le_refl _, fun _ _ _ => rfl⟩ ?_
       refine QL.go rfl rfl rfl (fun wq gq => fa33_3 (b := ⟨b2, 3, none⟩) rfl rfl) ?_
       refine QL.go rfl rfl rfl (fun wq gq => Ex.ldv rfl (loadC1 lo3 (Ob.cell (v := (.int .i64 r.number)) ((H221.grow gq).ob (i := 0) rfl) rfl))) ?_
       refine QL.go rfl rfl rfl (fun wq gq => Ex.mv (v := (.pointer (some ⟨p, 0, none⟩))) rfl) ?_
       refine QL.go rfl rfl rfl (fun wq gq => Ex.nck rfl) ?_
       refine QL.go rfl rfl rfl (fun wq gq => fa141_0 (b := ⟨p, 0, none⟩) rfl rfl) ?_
       refine QL.go rfl rfl rfl (fun wq gq => fa24_2 (b := ⟨p, 2, none⟩) rfl rfl) ?_
       refine QL.go rfl rfl rfl (fun wq gq => Ex.ldv rfl (loadC1 lo3 (Ob.cell (v := (.int .i64 k.base)) ((H221.grow gq).ob (i := 1) rfl) rfl))) ?_
       refine QL.br (p := (r.number : Int) ≤ (k.base : Int)) rfl rfl rfl (fun r hr wq gq => Ex.le rfl rfl hr) (fun h350 => ?_) (fun h350 => ?_)
       ·skip
        refine QL.go rfl rfl rfl (fun wq gq => Ex.mv (v := (.bool true)) rfl) ?_
        refine QL.out rfl rfl rfl ?_
        refine QL.out rfl rfl rfl ?_
        refine QL.out rfl rfl rfl ?_
        refine QL.out rfl rfl rfl ?_
        refine QL.go rfl rfl rfl (fun wq gq => Ex.pkT (v := (.bool true)) rfl rfl) ?_
        refine QL.nil ?_
        intro w351 g352
        have H353 := H221.grow g352
        have z354 := g352.size
        refine thn.n (CW.condT rfl ?_)
        refine CW.seq (CW.region ?_)
        refine RL.go rfl rfl rfl (Ex.as (v := (.int .i64 140)) rfl) ?_
        refine RL.nil (thn.n (CW.ret (thn.r (inB.r (thn.r ?_)))))
        refine finQ.r (v := (.int .i64 140)) (res1 rfl rfl) ?_
        have hx : (seenK (madeK k r)).1 = 140 := by
          unfold madeK lastK
          simp [seenK, h9, h36, h172, h223, h349, h350]
        exact ⟨k, _, _, _, ret_int hx.symm, (H353.sel [1, 2, 3] (by decide) rfl), fun h0 => by rw [hx] at h0; cases h0⟩
       ·skip
        refine QL.go rfl rfl rfl (fun wq gq => Ex.mv (v := (.bool false)) rfl) ?_
        refine QL.go rfl rfl rfl (fun wq gq => fa33_3 (b := ⟨b2, 3, none⟩) rfl rfl) ?_
        refine QL.go rfl rfl rfl (fun wq gq => Ex.ldv rfl (loadC1 lo3 (Ob.cell (v := (.int .i64 r.number)) ((H221.grow gq).ob (i := 0) rfl) rfl))) ?_
        refine QL.go rfl rfl rfl (fun wq gq => Ex.mv (v := (.int .i64 (k.base + (k.ents.length : Int)))) rfl) ?_
        refine QL.br (p := ((k.base + (k.ents.length : Int)) : Int) < (r.number : Int)) rfl rfl rfl (fun r hr wq gq => Ex.gt rfl rfl hr) (fun h355 => ?_) (fun h355 => ?_)
        ·skip
         refine QL.go rfl rfl rfl (fun wq gq => Ex.pkF (v := (.bool true)) rfl rfl) ?_
         refine QL.nil ?_
         intro w356 g357
         have H358 := H221.grow g357
         have z359 := g357.size
         refine thn.n (CW.condT rfl ?_)
         refine CW.seq (CW.region ?_)
         refine RL.go rfl rfl rfl (Ex.as (v := (.int .i64 140)) rfl) ?_
         refine RL.nil (thn.n (CW.ret (thn.r (inB.r (thn.r ?_)))))
         refine finQ.r (v := (.int .i64 140)) (res1 rfl rfl) ?_
         have hx : (seenK (madeK k r)).1 = 140 := by
           unfold madeK lastK
           simp [seenK, h9, h36, h172, h223, h349, h350, h355]
         exact ⟨k, _, _, _, ret_int hx.symm, (H358.sel [1, 2, 3] (by decide) rfl), fun h0 => by rw [hx] at h0; cases h0⟩
        ·skip
         refine QL.go rfl rfl rfl (fun wq gq => Ex.pkF (v := (.bool false)) rfl rfl) ?_
         refine QL.nil ?_
         intro w360 g361
         have H362 := H221.grow g361
         have z363 := g361.size
         refine thn.n (CW.condF rfl ?_)
         refine CW.skip (thn.n (CW.seq ?_))
         refine CW.quietTail 18 (fun wq => World.grownBy w360 wq none) Tryz.mixed (by kernel_rfl) ⟨rfl, rfl, rfl, Nat.le_refl _, fun _ _ _ => rfl⟩ ?_
         refine QL.go rfl rfl rfl (fun wq gq => Ex.mv (v := (.pointer (some ⟨p, 0, none⟩))) rfl) ?_
         refine QL.go rfl rfl rfl (fun wq gq => Ex.mv (v := (.pointer (some ⟨p, 0, none⟩))) rfl) ?_
         refine QL.go rfl rfl rfl (fun wq gq => Ex.nck rfl) ?_
         refine QL.go rfl rfl rfl (fun wq gq => fa141_0 (b := ⟨p, 0, none⟩) rfl rfl) ?_
         refine QL.go rfl rfl rfl (fun wq gq => fa24_4 (b := ⟨p, 4, none⟩) rfl rfl) ?_
         refine QL.go rfl rfl rfl (fun wq gq => Ex.ldv rfl (loadC1 lo22 (Ob.cell (v := (.slice A n c)) ((H362.grow gq).ob (i := 1) rfl) rfl))) ?_
         refine QL.go rfl rfl rfl (fun wq gq => fa33_3 (b := ⟨b2, 3, none⟩) rfl rfl) ?_
         refine QL.go rfl rfl rfl (fun wq gq => Ex.ldv rfl (loadC1 lo3 (Ob.cell (v := (.int .i64 r.number)) ((H362.grow gq).ob (i := 0) rfl) rfl))) ?_
         refine QL.go rfl rfl rfl (fun wq gq => Ex.mv (v := (.pointer (some ⟨p, 0, none⟩))) rfl) ?_
         refine QL.go rfl rfl rfl (fun wq gq => Ex.nck rfl) ?_
         refine QL.go rfl rfl rfl (fun wq gq => fa141_0 (b := ⟨p, 0, none⟩) rfl rfl) ?_
         refine QL.go rfl rfl rfl (fun wq gq => fa24_2 (b := ⟨p, 2, none⟩) rfl rfl) ?_
         refine QL.go rfl rfl rfl (fun wq gq => Ex.ldv rfl (loadC1 lo3 (Ob.cell (v := (.int .i64 k.base)) ((H362.grow gq).ob (i := 1) rfl) rfl))) ?_
         refine QL.go rfl rfl rfl (fun wq gq => Ex.sub_ (r := (((r.number - k.base).toNat : Nat) : Int)) rfl rfl (by rw [w64 (by omega) (by omega)]; omega)) ?_
         refine QL.go rfl rfl rfl (fun wq gq => Ex.slLo (i := ((r.number - k.base).toNat)) Tryz.underlying22 Tryz.sizeOf31 rfl rfl (by omega) (by omega) rfl) ?_
         refine QL.go rfl rfl rfl (fun wq gq => Ex.nck rfl) ?_
         refine QL.go rfl rfl rfl (fun wq gq => fa141_0 (b := ⟨p, 0, none⟩) rfl rfl) ?_
         refine QL.go rfl rfl rfl (fun wq gq => fa24_4 (b := ⟨p, 4, none⟩) rfl rfl) ?_
         refine QL.nil ?_
         intro w367 g368
         have H369 := H362.grow g368
         have z370 := g368.size
         have H371 : Sp [BlkA b2 33 [(.int .i64 r.kind), (.int .i64 r.view), (.int .i64 r.from_), (.int .i64 r.number), (.string (tx r.image)), (.int .i64 r.entry.num), (.int .i64 r.entry.view), (.int .i64 r.entry.client), (.int .i64 r.entry.seq), (.int .i64 r.entry.op.kind), (.int .i64 r.entry.op.h), (.int .i64 r.entry.op.i), (.int .i64 r.entry.op.n), (.int .i64 r.entry.op.k), (.int .i64 r.entry.op.v), (.int .i64 r.entry.op.t), (.slice A2 n2 c2)], BlkA p 141 [(.int .i64 k.view), (.int .i64 k.normal), (.int .i64 k.base), (.string (tx k.image)), (.slice A n c)], RowA 31 11 (dropA A c ((r.number - k.base).toNat) 11) (n - ((r.number - k.base).toNat)) (c - ((r.number - k.base).toNat)) (ents ((k.ents).drop ((r.number - k.base).toNat))), Fix w S] w367 := H369.dropR (i := 2) rfl (by omega) (ents_drop _ _) rfl
         refine RL.st (vs := [(.slice (dropA A c ((r.number - k.base).toNat) 11) (n - ((r.number - k.base).toNat)) (c - ((r.number - k.base).toNat)))]) (cs' := [(.int .i64 k.view), (.int .i64 k.normal), (.int .i64 k.base), (.string (tx k.image)), (.slice (dropA A c ((r.number - k.base).toNat) 11) (n - ((r.number - k.base).toNat)) (c - ((r.number - k.base).toNat)))]) Tryz.sizeOf22 (H371.ob (i := 1) rfl) rfl rfl rfl rfl rfl rfl ?_
         intro w372 hz373 g374 o375
         have H376 : Sp [BlkA b2 33 [(.int .i64 r.kind), (.int .i64 r.view), (.int .i64 r.from_), (.int .i64 r.number), (.string (tx r.image)), (.int .i64 r.entry.num), (.int .i64 r.entry.view), (.int .i64 r.entry.client), (.int .i64 r.entry.seq), (.int .i64 r.entry.op.kind), (.int .i64 r.entry.op.h), (.int .i64 r.entry.op.i), (.int .i64 r.entry.op.n), (.int .i64 r.entry.op.k), (.int .i64 r.entry.op.v), (.int .i64 r.entry.op.t), (.slice A2 n2 c2)], BlkA p 141 [(.int .i64 k.view), (.int .i64 k.normal), (.int .i64 k.base), (.string (tx k.image)), (.slice (dropA A c ((r.number - k.base).toNat) 11) (n - ((r.number - k.base).toNat)) (c - ((r.number - k.base).toNat)))], RowA 31 11 (dropA A c ((r.number - k.base).toNat) 11) (n - ((r.number - k.base).toNat)) (c - ((r.number - k.base).toNat)) (ents ((k.ents).drop ((r.number - k.base).toNat))), Fix w S] w372 := H371.setB (i := 1) rfl g374 o375 rfl
         have z377 := g374.size
         refine RL.nil (thn.n ?_)
         refine CW.held (fun wq => Sp [BlkA b2 33 [(.int .i64 r.kind), (.int .i64 r.view), (.int .i64 r.from_), (.int .i64 r.number), (.string (tx r.image)), (.int .i64 r.entry.num), (.int .i64 r.entry.view), (.int .i64 r.entry.client), (.int .i64 r.entry.seq), (.int .i64 r.entry.op.kind), (.int .i64 r.entry.op.h), (.int .i64 r.entry.op.i), (.int .i64 r.entry.op.n), (.int .i64 r.entry.op.k), (.int .i64 r.entry.op.v), (.int .i64 r.entry.op.t), (.slice A2 n2 c2)], RowA 31 11 (dropA A c ((r.number - k.base).toNat) 11) (n - ((r.number - k.base).toNat)) (c - ((r.number - k.base).toNat)) (ents ((k.ents).drop ((r.number - k.base).toNat))), Fix w S] wq) Tryz.mixed rfl ?_
         intro w378 g379
         have H380 := H376.grow g379
         have z381 := g379.size
         refine RA.tk 0 0 1 rfl rfl rfl (by kernel_rfl) (fun wq hq => Ex.mv (v := (.pointer (some ⟨p, 0, none⟩))) rfl) (H380.sel [0, 2, 3] (by decide) rfl) ?_
         refine RA.tk 1 1 3 rfl rfl rfl (by kernel_rfl) (fun wq hq => Ex.mv (v := (.pointer (some ⟨p, 0, none⟩))) rfl) (H380.sel [0, 2, 3] (by decide) rfl) ?_
         refine RA.tk 2 3 7 rfl rfl rfl (by kernel_rfl) (fun wq hq => fa33_3 (b := ⟨b2, 3, none⟩) rfl rfl) (H380.sel [0, 2, 3] (by decide) rfl) ?_
         refine RA.tk 4 7 23 rfl rfl rfl (by kernel_rfl) (fun wq hq => fa33_4 (b := ⟨b2, 4, none⟩) rfl rfl) (H380.sel [0, 2, 3] (by decide) rfl) ?_
         refine RA.tk 3 23 31 rfl rfl rfl (by kernel_rfl) (fun wq hq => Ex.ldv rfl (loadC1 lo3 (Ob.cell (v := (.int .i64 r.number)) (hq.ob (i := 0) rfl) rfl))) (H380.sel [0, 2, 3] (by decide) rfl) ?_
         refine RA.tk 6 31 95 rfl rfl rfl (by kernel_rfl) (fun wq hq => Ex.nck rfl) (H380.sel [0, 2, 3] (by decide) rfl) ?_
         refine RA.tk 7 95 223 rfl rfl rfl (by kernel_rfl) (fun wq hq => fa141_0 (b := ⟨p, 0, none⟩) rfl rfl) (H380.sel [0, 2, 3] (by decide) rfl) ?_
         refine RA.tk 8 223 479 rfl rfl rfl (by kernel_rfl) (fun wq hq => fa24_2 (b := ⟨p, 2, none⟩) rfl rfl) (H380.sel [0, 2, 3] (by decide) rfl) ?_
         refine RA.tk 5 479 511 rfl rfl rfl (by kernel_rfl) (fun wq hq => Ex.ldv rfl (loadC1 lo9 (Ob.cell (v := (.string (tx r.image))) (hq.ob (i := 0) rfl) rfl))) (H380.sel [0, 2, 3] (by decide) rfl) ?_
         refine RA.one (i := 9) (by kernel_rfl) ?_
         refine ⟨_, 1023, rfl, by kernel_rfl, ?_⟩
         refine RL.st (vs := [(.int .i64 r.number)]) (cs' := [(.int .i64 k.view), (.int .i64 k.normal), (.int .i64 r.number), (.string (tx k.image)), (.slice (dropA A c ((r.number - k.base).toNat) 11) (n - ((r.number - k.base).toNat)) (c - ((r.number - k.base).toNat)))]) Tryz.sizeOf3 (H380.ob (i := 1) rfl) rfl rfl rfl rfl rfl rfl ?_
         intro w382 hz383 g384 o385
         have H386 : Sp [BlkA b2 33 [(.int .i64 r.kind), (.int .i64 r.view), (.int .i64 r.from_), (.int .i64 r.number), (.string (tx r.image)), (.int .i64 r.entry.num), (.int .i64 r.entry.view), (.int .i64 r.entry.client), (.int .i64 r.entry.seq), (.int .i64 r.entry.op.kind), (.int .i64 r.entry.op.h), (.int .i64 r.entry.op.i), (.int .i64 r.entry.op.n), (.int .i64 r.entry.op.k), (.int .i64 r.entry.op.v), (.int .i64 r.entry.op.t), (.slice A2 n2 c2)], BlkA p 141 [(.int .i64 k.view), (.int .i64 k.normal), (.int .i64 r.number), (.string (tx k.image)), (.slice (dropA A c ((r.number - k.base).toNat) 11) (n - ((r.number - k.base).toNat)) (c - ((r.number - k.base).toNat)))], RowA 31 11 (dropA A c ((r.number - k.base).toNat) 11) (n - ((r.number - k.base).toNat)) (c - ((r.number - k.base).toNat)) (ents ((k.ents).drop ((r.number - k.base).toNat))), Fix w S] w382 := H380.setB (i := 1) rfl g384 o385 rfl
         have z387 := g384.size
         refine RL.nil ?_
         refine ⟨(H386.sel [0, 2, 3] (by decide) rfl), ?_⟩
         refine RA.tk 10 1023 2047 rfl rfl rfl (by kernel_rfl) (fun wq hq => Ex.nck rfl) (H386.sel [0, 2, 3] (by decide) rfl) ?_
         refine RA.tk 11 2047 4095 rfl rfl rfl (by kernel_rfl) (fun wq hq => fa141_0 (b := ⟨p, 0, none⟩) rfl rfl) (H386.sel [0, 2, 3] (by decide) rfl) ?_
         refine RA.tk 12 4095 8191 rfl rfl rfl (by kernel_rfl) (fun wq hq => fa24_3 (b := ⟨p, 3, none⟩) rfl rfl) (H386.sel [0, 2, 3] (by decide) rfl) ?_
         refine RA.one (i := 13) (by kernel_rfl) ?_
         refine ⟨_, 16383, rfl, by kernel_rfl, ?_⟩
         refine RL.st (vs := [(.string (tx r.image))]) (cs' := [(.int .i64 k.view), (.int .i64 k.normal), (.int .i64 r.number), (.string (tx r.image)), (.slice (dropA A c ((r.number - k.base).toNat) 11) (n - ((r.number - k.base).toNat)) (c - ((r.number - k.base).toNat)))]) Tryz.sizeOf9 (H386.ob (i := 1) rfl) rfl rfl rfl rfl rfl rfl ?_
         intro w388 hz389 g390 o391
         have H392 : Sp [BlkA b2 33 [(.int .i64 r.kind), (.int .i64 r.view), (.int .i64 r.from_), (.int .i64 r.number), (.string (tx r.image)), (.int .i64 r.entry.num), (.int .i64 r.entry.view), (.int .i64 r.entry.client), (.int .i64 r.entry.seq), (.int .i64 r.entry.op.kind), (.int .i64 r.entry.op.h), (.int .i64 r.entry.op.i), (.int .i64 r.entry.op.n), (.int .i64 r.entry.op.k), (.int .i64 r.entry.op.v), (.int .i64 r.entry.op.t), (.slice A2 n2 c2)], BlkA p 141 [(.int .i64 k.view), (.int .i64 k.normal), (.int .i64 r.number), (.string (tx r.image)), (.slice (dropA A c ((r.number - k.base).toNat) 11) (n - ((r.number - k.base).toNat)) (c - ((r.number - k.base).toNat)))], RowA 31 11 (dropA A c ((r.number - k.base).toNat) 11) (n - ((r.number - k.base).toNat)) (c - ((r.number - k.base).toNat)) (ents ((k.ents).drop ((r.number - k.base).toNat))), Fix w S] w388 := H386.setB (i := 1) rfl g390 o391 rfl
         have z393 := g390.size
         refine RL.nil ?_
         refine ⟨(H392.sel [0, 2, 3] (by decide) rfl), ?_⟩
         refine RA.done (by kernel_rfl) ?_
         refine inB.n (thn.n (CW.seq (CW.block (CW.seq (CW.region ?_)))))
         refine RL.go rfl rfl rfl (Ex.mv (v := (.pointer (some ⟨p, 0, none⟩))) rfl) ?_
         refine RL.go rfl rfl rfl (Ex.nck rfl) ?_
         refine RL.go rfl rfl rfl (fa141_0 (b := ⟨p, 0, none⟩) rfl rfl) ?_
         refine RL.go rfl rfl rfl (fa24_4 (b := ⟨p, 4, none⟩) rfl rfl) ?_
         refine RL.go rfl rfl rfl (Ex.ldv rfl (loadC1 lo22 (Ob.cell (v := (.slice (dropA A c ((r.number - k.base).toNat) 11) (n - ((r.number - k.base).toNat)) (c - ((r.number - k.base).toNat)))) (H392.ob (i := 1) rfl) rfl))) ?_
         have hmk394 : madeK k r = (0, (⟨k.view, k.normal, r.number, r.image, (k.ents).drop ((r.number - k.base).toNat)⟩ : Kept)) := by
                  unfold madeK lastK
                  simp [h9, h36, h172, h223, h349, h350, h355]
         have hln := H392.len (i := 2) rfl
         have hcn := H392.cap (i := 2) rfl
         simp only [bcs_length, ics_length, rows_length, blks_length, robjs_length, ents_length, List.length_append, List.length_cons, List.length_nil, List.length_take, List.length_drop, List.length_map, enc4, enc8, encN_len, encW_len] at hln
         refine RL.go rfl rfl rfl (Ex.len Tryz.underlying22 rfl) ?_
         refine RL.br (p := (4000 : Int) < ((n - ((r.number - k.base).toNat) : Nat) : Int)) rfl rfl rfl (fun r hr => Ex.gt rfl rfl hr) (fun h395 => ?_) (fun h395 => ?_)
         ·skip
          refine RL.go rfl rfl rfl (Ex.as (v := (.bool true)) rfl) ?_
          refine RL.nil (thn.n (CW.condT rfl (CW.seq (CW.region ?_))))
          refine RL.go rfl rfl rfl (Ex.as (v := (.int .i64 2)) rfl) ?_
          refine RL.nil (thn.n (CW.ret (inB.r (thn.r ?_))))
          refine finQ.r (v := (.int .i64 2)) (res1 rfl rfl) ?_
          have hx : (seenK (madeK k r)).1 = 2 := by
            rw [hmk394]; unfold seenK
            rw [if_pos rfl, if_pos (by show 4000 < (List.length _); simp only [bcs_length, ics_length, rows_length, blks_length, robjs_length, ents_length, List.length_append, List.length_cons, List.length_nil, List.length_take, List.length_drop, List.length_map, enc4, enc8, encN_len, encW_len]; omega)]
          exact ⟨(⟨k.view, k.normal, r.number, r.image, (k.ents).drop ((r.number - k.base).toNat)⟩ : Kept), _, _, _, ret_int hx.symm, (H392.sel [1, 2, 3] (by decide) rfl), fun h0 => by rw [hx] at h0; cases h0⟩
         ·skip
          refine RL.go rfl rfl rfl (Ex.as (v := (.bool false)) rfl) ?_
          refine RL.nil (thn.n (CW.condF rfl (CW.seq (CW.region ?_))))
          refine RL.go rfl rfl rfl (Ex.mv (v := (.pointer (some ⟨p, 0, none⟩))) rfl) ?_
          refine RL.go rfl rfl rfl (Ex.nck rfl) ?_
          refine RL.go rfl rfl rfl (fa141_0 (b := ⟨p, 0, none⟩) rfl rfl) ?_
          refine RL.go rfl rfl rfl (Ex.ldv rfl (loadCN (cs := [(.int .i64 k.view), (.int .i64 k.normal), (.int .i64 r.number), (.string (tx r.image)), (.slice (dropA A c ((r.number - k.base).toNat) 11) (n - ((r.number - k.base).toNat)) (c - ((r.number - k.base).toNat)))]) wh24 (H392.ob (i := 1) rfl).cl)) ?_
          refine RL.call Tryz.call57 (opCheck_ _ _ _ (⟨k.view, k.normal, r.number, r.image, (k.ents).drop ((r.number - k.base).toNat)⟩ : Kept) (KeptR.of (k := (⟨k.view, k.normal, r.number, r.image, (k.ents).drop ((r.number - k.base).toNat)⟩ : Kept)) (n := n - ((r.number - k.base).toNat)) (c := c - ((r.number - k.base).toNat)) (H392.rowrd (i := 2) rfl) (by show n - ((r.number - k.base).toNat) = ((k.ents).drop ((r.number - k.base).toNat)).length; (try simp only [List.length_append, List.length_cons, List.length_nil, List.length_take, List.length_drop]); all_goals omega) (by omega) (by omega) (by first | assumption | (show List.length _ ≤ _; first | assumption | decide | omega))) (Nat.le_refl _)) rfl rfl rfl ?_
          rintro _ w396 ⟨rfl, g397⟩
          have H398 := H392.grow g397
          have z399 := g397.size
          refine RL.br (p := ((if keptB (⟨k.view, k.normal, r.number, r.image, (k.ents).drop ((r.number - k.base).toNat)⟩ : Kept) then 0 else 1) : Int) ≠ (0 : Int)) rfl rfl rfl (fun r hr => Ex.neD rfl rfl hr) (fun h400 => ?_) (fun h400 => ?_)
          ·skip
           refine RL.go rfl rfl rfl (Ex.as (v := (.bool true)) rfl) ?_
           refine RL.nil (thn.n (CW.condT rfl (CW.seq (CW.region ?_))))
           refine RL.go rfl rfl rfl (Ex.as (v := (.int .i64 141)) rfl) ?_
           refine RL.nil (thn.n (CW.ret (inB.r (thn.r ?_))))
           refine finQ.r (v := (.int .i64 141)) (res1 rfl rfl) ?_
           have hx : (seenK (madeK k r)).1 = 141 := by
             rw [hmk394]; unfold seenK
             rw [if_pos rfl, if_neg (by show ¬ 4000 < (List.length _); simp only [bcs_length, ics_length, rows_length, blks_length, robjs_length, ents_length, List.length_append, List.length_cons, List.length_nil, List.length_take, List.length_drop, List.length_map, enc4, enc8, encN_len, encW_len]; omega), if_neg (by have := ite_ne0 h400; intro h0; rw [h0] at this; cases this)]
           exact ⟨(⟨k.view, k.normal, r.number, r.image, (k.ents).drop ((r.number - k.base).toNat)⟩ : Kept), _, _, _, ret_int hx.symm, (H398.sel [1, 2, 3] (by decide) rfl), fun h0 => by rw [hx] at h0; cases h0⟩
          ·skip
           refine RL.go rfl rfl rfl (Ex.as (v := (.bool false)) rfl) ?_
           refine RL.nil (thn.n (CW.condF rfl (CW.skip (inB.n (thn.n (CW.seq (CW.region ?_)))))))
           refine RL.go rfl rfl rfl (Ex.as (v := (.int .i64 0)) rfl) ?_
           refine RL.nil (thn.n (CW.ret ?_))
           refine finQ.r (v := (.int .i64 0)) (res1 rfl rfl) ?_
           have hx : seenK (madeK k r) = (0, (⟨k.view, k.normal, r.number, r.image, (k.ents).drop ((r.number - k.base).toNat)⟩ : Kept)) := by
             rw [hmk394]; unfold seenK
             rw [if_pos rfl, if_neg (by show ¬ 4000 < (List.length _); simp only [bcs_length, ics_length, rows_length, blks_length, robjs_length, ents_length, List.length_append, List.length_cons, List.length_nil, List.length_take, List.length_drop, List.length_map, enc4, enc8, encN_len, encW_len]; omega), if_pos (by exact ite_eq0 h400)]
           exact ⟨(⟨k.view, k.normal, r.number, r.image, (k.ents).drop ((r.number - k.base).toNat)⟩ : Kept), _, _, _, by rw [hx], (H398.sel [1, 2, 3] (by decide) rfl), fun _ => by rw [hx]⟩
      ·skip
       refine RL.go rfl rfl rfl (Ex.as (v := (.bool false)) rfl) ?_
       refine RL.nil (thn.n (CW.condF rfl (CW.seq (CW.region ?_))))
       refine RL.go rfl rfl rfl (Ex.eqD (r := false) rfl rfl (decide_eq_false (by omega))) ?_
       refine RL.go rfl rfl rfl (Ex.as (v := (.bool false)) rfl) ?_
       refine RL.nil (thn.n (CW.condF rfl (CW.seq (CW.region ?_))))
       refine RL.go rfl rfl rfl (Ex.as (v := (.int .i64 141)) rfl) ?_
       refine RL.nil (thn.n (CW.ret (inB.r (thn.r ?_))))
       refine finQ.r (v := (.int .i64 141)) (res1 rfl rfl) ?_
       have hx : (seenK (madeK k r)).1 = 141 := by
         unfold madeK lastK
         simp [seenK, h9, h36, h172, h223, h349]
       exact ⟨k, _, _, _, ret_int hx.symm, (H221.sel [1, 2, 3] (by decide) rfl), fun h0 => by rw [hx] at h0; cases h0⟩
set_option maxHeartbeats 1000000 in
set_option maxRecDepth 20000 in
theorem Fold_ (w : World) (B : Nat) (k : Kept) (A : Option Addr) (n c : Nat) (hr : Rd w B 11 A (ents k.ents)) (hB : B ≤ w.heap.size) (hn : n = k.ents.length) (hm : n ≤ 1099511627776) (hc : n ≤ c) (hi : k.image.length ≤ 140737488351232) (r : Rec) (A2 : Option Addr) (n2 c2 : Nat) (hr2 : Rd w B 11 A2 (ents r.ents)) (hn2 : n2 = r.ents.length) (hm2 : n2 ≤ 1099511627776) (hc2 : n2 ≤ c2) (hi2 : r.image.length ≤ 140737488351232) : Ret Tryz.prog 40 [(.agg ([(.int .i64 k.view), (.int .i64 k.normal), (.int .i64 k.base), (.string (tx k.image)), (.slice A n c)]).toArray), (.agg ([(.int .i64 r.kind), (.int .i64 r.view), (.int .i64 r.from_), (.int .i64 r.number), (.string (tx r.image)), (.int .i64 r.entry.num), (.int .i64 r.entry.view), (.int .i64 r.entry.client), (.int .i64 r.entry.seq), (.int .i64 r.entry.op.kind), (.int .i64 r.entry.op.h), (.int .i64 r.entry.op.i), (.int .i64 r.entry.op.n), (.int .i64 r.entry.op.k), (.int .i64 r.entry.op.v), (.int .i64 r.entry.op.t), (.slice A2 n2 c2)]).toArray)] w (fun v w' => ∃ (A' : Option Addr) (n' c' : Nat), v = .tuple #[.agg [.int .i64 (foldK k r).2.view, .int .i64 (foldK k r).2.normal, .int .i64 (foldK k r).2.base, .string (tx (foldK k r).2.image), .slice A' n' c'].toArray, .int .i64 (foldK k r).1] ∧ Sp ([RowA 31 11 A' n' c' (ents (foldK k r).2.ents)] ++ [Fix w NoB]) w') := by
  have H0 : Sp [Fix w NoB] w := Sp.start w
  refine Ret.body Tryz.func40 rfl rfl rfl ?_
  refine CW.seq (CW.region ?_)
  refine RL.bx (cs := [(.int .i64 k.view), (.int .i64 k.normal), (.int .i64 k.base), (.string (tx k.image)), (.slice A n c)]) rfl rfl rfl ?_
  intro w1 b2 hb3 hz4 g5 o6
  have H7 := H0.newB g5 o6 (by omega)
  have z8 := g5.size
  refine RL.bx (cs := [(.int .i64 r.kind), (.int .i64 r.view), (.int .i64 r.from_), (.int .i64 r.number), (.string (tx r.image)), (.int .i64 r.entry.num), (.int .i64 r.entry.view), (.int .i64 r.entry.client), (.int .i64 r.entry.seq), (.int .i64 r.entry.op.kind), (.int .i64 r.entry.op.h), (.int .i64 r.entry.op.i), (.int .i64 r.entry.op.n), (.int .i64 r.entry.op.k), (.int .i64 r.entry.op.v), (.int .i64 r.entry.op.t), (.slice A2 n2 c2)]) rfl rfl rfl ?_
  intro w9 b10 hb11 hz12 g13 o14
  have H15 := H7.newB g13 o14 (by omega)
  have z16 := g13.size
  refine RL.al (cs := [(.int .i64 0), (.int .i64 0), (.int .i64 0), (.string (⟨#[]⟩)), (.slice none 0 0)]) Tryz.zeroValue24 rfl rfl rfl ?_
  intro w17 b18 hb19 hz20 g21 o22
  have H23 := H15.newB g21 o22 (by omega)
  have z24 := g21.size
  refine RL.go rfl rfl rfl (Ex.as (v := (.int .i64 0)) rfl) ?_
  refine RL.nil (thn.n (CW.seq (CW.seq (CW.region ?_))))
  refine RL.go rfl rfl rfl (Ex.ldv rfl (loadCN (cs := [(.int .i64 k.view), (.int .i64 k.normal), (.int .i64 k.base), (.string (tx k.image)), (.slice A n c)]) wh24 (H23.ob (i := 2) rfl).cl)) ?_
  refine RL.call Tryz.call57 (opCheck_ _ _ _ k (KeptR.of (k := k) (n := n) (c := c) (hr.st0 (H23.fix (i := 3) rfl)) (by show n = (k.ents).length; (try simp only [List.length_append, List.length_cons, List.length_nil, List.length_take, List.length_drop]); all_goals omega) (by omega) (by omega) (by first | assumption | (show List.length _ ≤ _; first | assumption | decide | omega))) (by omega)) rfl rfl rfl ?_
  rintro _ w25 ⟨rfl, g26⟩
  have H27 := H23.grow g26
  have z28 := g26.size
  refine RL.go rfl rfl rfl (Ex.as (v := (.int .i64 (if keptB k then 0 else 1))) rfl) ?_
  refine RL.nil (thn.n (CW.seq (CW.region ?_)))
  refine RL.go rfl rfl rfl (Ex.mv (v := (.int .i64 (if keptB k then 0 else 1))) rfl) ?_
  refine RL.br (p := ((if keptB k then 0 else 1) : Int) ≠ (0 : Int)) rfl rfl rfl (fun r hr => Ex.neD rfl rfl hr) (fun h29 => ?_) (fun h29 => ?_)
  ·skip
   refine RL.nil (thn.n (CW.condT rfl (CW.seq (CW.region ?_))))
   refine RL.go rfl rfl rfl (Ex.bd (cs := [(.int .i64 0), (.int .i64 0), (.int .i64 0), (.string (⟨#[]⟩)), (.slice none 0 0)]) bd24 rfl) ?_
   refine RL.go rfl rfl rfl (Ex.mv (v := (.int .i64 (if keptB k then 0 else 1))) rfl) ?_
   refine RL.st (vs := [(.int .i64 0), (.int .i64 0), (.int .i64 0), (.string (⟨#[]⟩)), (.slice none 0 0)]) (cs' := [(.int .i64 0), (.int .i64 0), (.int .i64 0), (.string (⟨#[]⟩)), (.slice none 0 0)]) Tryz.sizeOf24 (H27.ob (i := 0) rfl) rfl rfl rfl rfl rfl rfl ?_
   intro w30 hz31 g32 o33
   have H34 : Sp [BlkA b18 24 [(.int .i64 0), (.int .i64 0), (.int .i64 0), (.string (⟨#[]⟩)), (.slice none 0 0)], BlkA b10 33 [(.int .i64 r.kind), (.int .i64 r.view), (.int .i64 r.from_), (.int .i64 r.number), (.string (tx r.image)), (.int .i64 r.entry.num), (.int .i64 r.entry.view), (.int .i64 r.entry.client), (.int .i64 r.entry.seq), (.int .i64 r.entry.op.kind), (.int .i64 r.entry.op.h), (.int .i64 r.entry.op.i), (.int .i64 r.entry.op.n), (.int .i64 r.entry.op.k), (.int .i64 r.entry.op.v), (.int .i64 r.entry.op.t), (.slice A2 n2 c2)], BlkA b2 24 [(.int .i64 k.view), (.int .i64 k.normal), (.int .i64 k.base), (.string (tx k.image)), (.slice A n c)], Fix w NoB] w30 := H27.setB (i := 0) rfl g32 o33 rfl
   have z35 := g32.size
   refine RL.go rfl rfl rfl (Ex.as (v := (.int .i64 (if keptB k then 0 else 1))) rfl) ?_
   refine RL.nil (thn.n (CW.ret (thn.r ?_)))
   refine finQ.r (v := (.tuple #[(.agg ([(.int .i64 0), (.int .i64 0), (.int .i64 0), (.string (⟨#[]⟩)), (.slice none 0 0)]).toArray), (.int .i64 (if keptB k then 0 else 1))])) (resv2 rfl (Rv.cell rfl (loadCN (cs := [(.int .i64 0), (.int .i64 0), (.int .i64 0), (.string (⟨#[]⟩)), (.slice none 0 0)]) wh24 (H34.ob (i := 0) rfl).cl)) (Rv.tmp rfl)) ?_
   have H36 := H34.nil_ 31 11
   have hkk : keptB k = false := by
     cases hkb : keptB k with
     | false => rfl
     | true => rw [hkb] at h29; exact absurd rfl h29
   have hx : foldK k r = (1, zKept) := by unfold foldK; rw [if_neg (by rw [hkk]; decide)]
   exact ⟨none, 0, 0, by rw [hx, hkk]; rfl, by rw [hx]; exact (H36.sel [0, 4] (by decide) rfl)⟩
  ·skip
   refine RL.nil (thn.n (CW.condF rfl (CW.skip (thn.n (CW.seq (CW.region ?_))))))
   have hkk : keptB k = true := by
      cases hkb : keptB k with
      | true => rfl
      | false => rw [hkb] at h29; exact absurd h29 (by decide)
   refine RL.go rfl rfl rfl (fa24_4 (b := ⟨b2, 4, none⟩) rfl rfl) ?_
   refine RL.go rfl rfl rfl (Ex.ldv rfl (loadC1 lo22 (Ob.cell (v := (.slice A n c)) (H27.ob (i := 2) rfl) rfl))) ?_
   refine RL.call Tryz.call89 (cloneEnt _ k.ents _ _ _ _ (hr.st0 (H27.fix (i := 3) rfl)) (by (try simp only [List.length_append, List.length_cons, List.length_nil, List.length_take, List.length_drop]); all_goals omega) (by omega)) rfl rfl rfl ?_
   rintro _ w40 ⟨A37, c38, rfl, g41, ow39⟩
   have H42 : Sp [RowA 31 11 A37 n c38 (ents k.ents), BlkA b18 24 [(.int .i64 0), (.int .i64 0), (.int .i64 0), (.string (⟨#[]⟩)), (.slice none 0 0)], BlkA b10 33 [(.int .i64 r.kind), (.int .i64 r.view), (.int .i64 r.from_), (.int .i64 r.number), (.string (tx r.image)), (.int .i64 r.entry.num), (.int .i64 r.entry.view), (.int .i64 r.entry.client), (.int .i64 r.entry.seq), (.int .i64 r.entry.op.kind), (.int .i64 r.entry.op.h), (.int .i64 r.entry.op.i), (.int .i64 r.entry.op.n), (.int .i64 r.entry.op.k), (.int .i64 r.entry.op.v), (.int .i64 r.entry.op.t), (.slice A2 n2 c2)], BlkA b2 24 [(.int .i64 k.view), (.int .i64 k.normal), (.int .i64 k.base), (.string (tx k.image)), (.slice A n c)], Fix w NoB] w40 := H27.newO g41 ow39 (by simp only [bcs_length, ics_length, rows_length, blks_length, robjs_length, ents_length, List.length_append, List.length_cons, List.length_nil, List.length_take, List.length_drop, List.length_map, enc4, enc8, encN_len, encW_len]; omega) (Nat.le_refl _)
   have z43 := g41.size
   refine RL.go rfl rfl rfl (fa24_4 (b := ⟨b2, 4, none⟩) rfl rfl) ?_
   refine RL.st (vs := [(.slice A37 n c38)]) (cs' := [(.int .i64 k.view), (.int .i64 k.normal), (.int .i64 k.base), (.string (tx k.image)), (.slice A37 n c38)]) Tryz.sizeOf22 (H42.ob (i := 3) rfl) rfl rfl rfl rfl rfl rfl ?_
   intro w44 hz45 g46 o47
   have H48 : Sp [RowA 31 11 A37 n c38 (ents k.ents), BlkA b18 24 [(.int .i64 0), (.int .i64 0), (.int .i64 0), (.string (⟨#[]⟩)), (.slice none 0 0)], BlkA b10 33 [(.int .i64 r.kind), (.int .i64 r.view), (.int .i64 r.from_), (.int .i64 r.number), (.string (tx r.image)), (.int .i64 r.entry.num), (.int .i64 r.entry.view), (.int .i64 r.entry.client), (.int .i64 r.entry.seq), (.int .i64 r.entry.op.kind), (.int .i64 r.entry.op.h), (.int .i64 r.entry.op.i), (.int .i64 r.entry.op.n), (.int .i64 r.entry.op.k), (.int .i64 r.entry.op.v), (.int .i64 r.entry.op.t), (.slice A2 n2 c2)], BlkA b2 24 [(.int .i64 k.view), (.int .i64 k.normal), (.int .i64 k.base), (.string (tx k.image)), (.slice A37 n c38)], Fix w NoB] w44 := H42.setB (i := 3) rfl g46 o47 rfl
   have z49 := g46.size
   refine RL.nil (thn.n (CW.seq (CW.region ?_)))
   refine RL.go rfl rfl rfl (Ex.ldv rfl (loadCN (cs := [(.int .i64 k.view), (.int .i64 k.normal), (.int .i64 k.base), (.string (tx k.image)), (.slice A37 n c38)]) wh24 (H48.ob (i := 3) rfl).cl)) ?_
   refine RL.go rfl rfl rfl (Ex.bd (cs := [(.int .i64 k.view), (.int .i64 k.normal), (.int .i64 k.base), (.string (tx k.image)), (.slice A37 n c38)]) bd141 rfl) ?_
   refine RL.bx (cs := [(.int .i64 k.view), (.int .i64 k.normal), (.int .i64 k.base), (.string (tx k.image)), (.slice A37 n c38)]) rfl rfl rfl ?_
   intro w50 b51 hb52 hz53 g54 o55
   have H56 := H48.newB g54 o55 (by omega)
   have z57 := g54.size
   refine RL.go rfl rfl rfl (Ex.as (v := (.pointer (some ⟨b51, 0, none⟩))) rfl) ?_
   refine RL.nil (thn.n (CW.seq (CW.seq (CW.region ?_))))
   refine RL.go rfl rfl rfl (Ex.mv (v := (.pointer (some ⟨b51, 0, none⟩))) rfl) ?_
   refine RL.go rfl rfl rfl (Ex.ldv rfl (loadCN (cs := [(.int .i64 r.kind), (.int .i64 r.view), (.int .i64 r.from_), (.int .i64 r.number), (.string (tx r.image)), (.int .i64 r.entry.num), (.int .i64 r.entry.view), (.int .i64 r.entry.client), (.int .i64 r.entry.seq), (.int .i64 r.entry.op.kind), (.int .i64 r.entry.op.h), (.int .i64 r.entry.op.i), (.int .i64 r.entry.op.n), (.int .i64 r.entry.op.k), (.int .i64 r.entry.op.v), (.int .i64 r.entry.op.t), (.slice A2 n2 c2)]) wh33 (H56.ob (i := 3) rfl).cl)) ?_
   obtain ⟨S63, hS65, hO66, K67⟩ := Sp.takeL (l1 := [BlkA b51 141 [(.int .i64 k.view), (.int .i64 k.normal), (.int .i64 k.base), (.string (tx k.image)), (.slice A37 n c38)], RowA 31 11 A37 n c38 (ents k.ents)]) (l2 := [BlkA b18 24 [(.int .i64 0), (.int .i64 0), (.int .i64 0), (.string (⟨#[]⟩)), (.slice none 0 0)], BlkA b10 33 [(.int .i64 r.kind), (.int .i64 r.view), (.int .i64 r.from_), (.int .i64 r.number), (.string (tx r.image)), (.int .i64 r.entry.num), (.int .i64 r.entry.view), (.int .i64 r.entry.client), (.int .i64 r.entry.seq), (.int .i64 r.entry.op.kind), (.int .i64 r.entry.op.h), (.int .i64 r.entry.op.i), (.int .i64 r.entry.op.n), (.int .i64 r.entry.op.k), (.int .i64 r.entry.op.v), (.int .i64 r.entry.op.t), (.slice A2 n2 c2)], BlkA b2 24 [(.int .i64 k.view), (.int .i64 k.normal), (.int .i64 k.base), (.string (tx k.image)), (.slice A37 n c38)], Fix w NoB]) (w := w50) H56
   refine RL.call Tryz.call109 (fold_ _ S63 b51 k _ _ _ hS65 hkk (by first | assumption | omega) r A2 n2 c2 (RdN.of_fix hO66 (j := 3) rfl hr2 (by omega)) (by first | assumption | omega) (by first | assumption | omega) (by first | assumption | omega) (by first | assumption | omega)) rfl rfl rfl ?_
   rintro _ w68 ⟨k58, A59, n60, c61, rfl, g69, hk62⟩
   have H70 : Sp [BlkA b51 141 [(.int .i64 k58.view), (.int .i64 k58.normal), (.int .i64 k58.base), (.string (tx k58.image)), (.slice A59 n60 c61)], RowA 31 11 A59 n60 c61 (ents k58.ents), BlkA b18 24 [(.int .i64 0), (.int .i64 0), (.int .i64 0), (.string (⟨#[]⟩)), (.slice none 0 0)], BlkA b10 33 [(.int .i64 r.kind), (.int .i64 r.view), (.int .i64 r.from_), (.int .i64 r.number), (.string (tx r.image)), (.int .i64 r.entry.num), (.int .i64 r.entry.view), (.int .i64 r.entry.client), (.int .i64 r.entry.seq), (.int .i64 r.entry.op.kind), (.int .i64 r.entry.op.h), (.int .i64 r.entry.op.i), (.int .i64 r.entry.op.n), (.int .i64 r.entry.op.k), (.int .i64 r.entry.op.v), (.int .i64 r.entry.op.t), (.slice A2 n2 c2)], BlkA b2 24 [(.int .i64 k.view), (.int .i64 k.normal), (.int .i64 k.base), (.string (tx k.image)), (.slice A37 n c38)], Fix w NoB] w68 := K67 _ _ g69
   have z71 := (H70.fix (i := 5) rfl).size
   refine RL.go rfl rfl rfl (Ex.as (v := (.int .i64 ((seenK (madeK k r)).1))) rfl) ?_
   refine RL.nil (thn.n (CW.seq (CW.region ?_)))
   refine RL.go rfl rfl rfl (Ex.mv (v := (.int .i64 ((seenK (madeK k r)).1))) rfl) ?_
   refine RL.br (p := ((seenK (madeK k r)).1 : Int) ≠ (0 : Int)) rfl rfl rfl (fun r hr => Ex.neD rfl rfl hr) (fun h72 => ?_) (fun h72 => ?_)
   ·skip
    refine RL.nil (thn.n (CW.condT rfl (CW.seq (CW.region ?_))))
    refine RL.go rfl rfl rfl (Ex.bd (cs := [(.int .i64 0), (.int .i64 0), (.int .i64 0), (.string (⟨#[]⟩)), (.slice none 0 0)]) bd24 rfl) ?_
    refine RL.go rfl rfl rfl (Ex.mv (v := (.int .i64 ((seenK (madeK k r)).1))) rfl) ?_
    refine RL.st (vs := [(.int .i64 0), (.int .i64 0), (.int .i64 0), (.string (⟨#[]⟩)), (.slice none 0 0)]) (cs' := [(.int .i64 0), (.int .i64 0), (.int .i64 0), (.string (⟨#[]⟩)), (.slice none 0 0)]) Tryz.sizeOf24 (H70.ob (i := 2) rfl) rfl rfl rfl rfl rfl rfl ?_
    intro w73 hz74 g75 o76
    have H77 : Sp [BlkA b51 141 [(.int .i64 k58.view), (.int .i64 k58.normal), (.int .i64 k58.base), (.string (tx k58.image)), (.slice A59 n60 c61)], RowA 31 11 A59 n60 c61 (ents k58.ents), BlkA b18 24 [(.int .i64 0), (.int .i64 0), (.int .i64 0), (.string (⟨#[]⟩)), (.slice none 0 0)], BlkA b10 33 [(.int .i64 r.kind), (.int .i64 r.view), (.int .i64 r.from_), (.int .i64 r.number), (.string (tx r.image)), (.int .i64 r.entry.num), (.int .i64 r.entry.view), (.int .i64 r.entry.client), (.int .i64 r.entry.seq), (.int .i64 r.entry.op.kind), (.int .i64 r.entry.op.h), (.int .i64 r.entry.op.i), (.int .i64 r.entry.op.n), (.int .i64 r.entry.op.k), (.int .i64 r.entry.op.v), (.int .i64 r.entry.op.t), (.slice A2 n2 c2)], BlkA b2 24 [(.int .i64 k.view), (.int .i64 k.normal), (.int .i64 k.base), (.string (tx k.image)), (.slice A37 n c38)], Fix w NoB] w73 := H70.setB (i := 2) rfl g75 o76 rfl
    have z78 := g75.size
    refine RL.go rfl rfl rfl (Ex.as (v := (.int .i64 ((seenK (madeK k r)).1))) rfl) ?_
    refine RL.nil (thn.n (CW.ret (thn.r ?_)))
    refine finQ.r (v := (.tuple #[(.agg ([(.int .i64 0), (.int .i64 0), (.int .i64 0), (.string (⟨#[]⟩)), (.slice none 0 0)]).toArray), (.int .i64 ((seenK (madeK k r)).1))])) (resv2 rfl (Rv.cell rfl (loadCN (cs := [(.int .i64 0), (.int .i64 0), (.int .i64 0), (.string (⟨#[]⟩)), (.slice none 0 0)]) wh24 (H77.ob (i := 2) rfl).cl)) (Rv.tmp rfl)) ?_
    have H79 := H77.nil_ 31 11
    have hx : foldK k r = (seenK (madeK k r)) := by unfold foldK; rw [if_pos hkk]
    have hz := seenK_err (x := madeK k r) h72
    exact ⟨none, 0, 0, by rw [hx, hz]; rfl, by rw [hx, hz]; exact (H79.sel [0, 6] (by decide) rfl)⟩
   ·skip
    refine RL.nil (thn.n (CW.condF rfl (CW.skip (thn.n (CW.seq (CW.region ?_))))))
    refine RL.go rfl rfl rfl (Ex.mv (v := (.pointer (some ⟨b51, 0, none⟩))) rfl) ?_
    refine RL.go rfl rfl rfl (Ex.nck rfl) ?_
    refine RL.go rfl rfl rfl (fa141_0 (b := ⟨b51, 0, none⟩) rfl rfl) ?_
    refine RL.go rfl rfl rfl (Ex.ldv rfl (loadCN (cs := [(.int .i64 k58.view), (.int .i64 k58.normal), (.int .i64 k58.base), (.string (tx k58.image)), (.slice A59 n60 c61)]) wh24 (H70.ob (i := 0) rfl).cl)) ?_
    refine RL.st (vs := [(.int .i64 k58.view), (.int .i64 k58.normal), (.int .i64 k58.base), (.string (tx k58.image)), (.slice A59 n60 c61)]) (cs' := [(.int .i64 k58.view), (.int .i64 k58.normal), (.int .i64 k58.base), (.string (tx k58.image)), (.slice A59 n60 c61)]) Tryz.sizeOf24 (H70.ob (i := 2) rfl) rfl rfl rfl rfl rfl rfl ?_
    intro w80 hz81 g82 o83
    have H84 : Sp [BlkA b51 141 [(.int .i64 k58.view), (.int .i64 k58.normal), (.int .i64 k58.base), (.string (tx k58.image)), (.slice A59 n60 c61)], RowA 31 11 A59 n60 c61 (ents k58.ents), BlkA b18 24 [(.int .i64 k58.view), (.int .i64 k58.normal), (.int .i64 k58.base), (.string (tx k58.image)), (.slice A59 n60 c61)], BlkA b10 33 [(.int .i64 r.kind), (.int .i64 r.view), (.int .i64 r.from_), (.int .i64 r.number), (.string (tx r.image)), (.int .i64 r.entry.num), (.int .i64 r.entry.view), (.int .i64 r.entry.client), (.int .i64 r.entry.seq), (.int .i64 r.entry.op.kind), (.int .i64 r.entry.op.h), (.int .i64 r.entry.op.i), (.int .i64 r.entry.op.n), (.int .i64 r.entry.op.k), (.int .i64 r.entry.op.v), (.int .i64 r.entry.op.t), (.slice A2 n2 c2)], BlkA b2 24 [(.int .i64 k.view), (.int .i64 k.normal), (.int .i64 k.base), (.string (tx k.image)), (.slice A37 n c38)], Fix w NoB] w80 := H70.setB (i := 2) rfl g82 o83 rfl
    have z85 := g82.size
    refine RL.go rfl rfl rfl (Ex.as (v := (.int .i64 0)) rfl) ?_
    refine RL.nil (thn.n (CW.ret ?_))
    refine finQ.r (v := (.tuple #[(.agg ([(.int .i64 k58.view), (.int .i64 k58.normal), (.int .i64 k58.base), (.string (tx k58.image)), (.slice A59 n60 c61)]).toArray), (.int .i64 0)])) (resv2 rfl (Rv.cell rfl (loadCN (cs := [(.int .i64 k58.view), (.int .i64 k58.normal), (.int .i64 k58.base), (.string (tx k58.image)), (.slice A59 n60 c61)]) wh24 (H84.ob (i := 2) rfl).cl)) (Rv.tmp rfl)) ?_
    have hx : foldK k r = (seenK (madeK k r)) := by unfold foldK; rw [if_pos hkk]
    have h0 : (seenK (madeK k r)).1 = 0 := by omega
    have hk3 := hk62 h0
    exact ⟨_, _, _, by rw [hx, ← hk3, h0], by rw [hx, ← hk3]; exact (H84.sel [1, 5] (by decide) rfl)⟩
end Go.Proofs.YtfokljnhllflbaaGreat
namespace Go.Proofs.YtfokljnhllflbaaGreat
open Go Go.Eng Go.RowKit
set_option maxHeartbeats 1000000 in
set_option maxRecDepth 20000 in
theorem outN2 (w : World) (S : Nat → Prop) (p n0 c : Nat) (A : Option Addr) (l : List UInt8) (hS : (AllA [BlkA p 166 [.slice A n0 c], RowA 5 1 A n0 c (bcs l)]).ok S w) (xs : List Int) (A2 : Option Addr) (m c2 : Nat) (hr : RdN w S 1 A2 (ics xs)) (hm : m = xs.length) (hx : ∀ x ∈ xs, 0 ≤ x ∧ x ≤ 2147483647) (hlen : l.length + 4 * xs.length ≤ 1099511627000) : Ret Tryz.prog 145 [(.pointer (some ⟨p, 0, none⟩)), (.slice A2 m c2)] w (fun v w' => ∃ (A' : Option Addr) (n' c' : Nat), v = .tuple #[] ∧ Sp ([BlkA p 166 [.slice A' n' c'], RowA 5 1 A' n' c' (bcs (l ++ encN xs))] ++ [Fix w S]) w' ∧ n' = (l ++ encN xs).length) := by
  have H0 := Sp.startL hS
  have hnl := H0.len (i := 1) rfl
  simp only [bcs_length] at hnl
  have H0 : Sp [BlkA p 166 [.slice A n0 c], RowA 5 1 A n0 c (bcs l), Fix w S] w := H0
  refine Ret.body Tryz.func145 rfl rfl rfl ?_
  refine CW.seq (CW.region ?_)
  refine RL.go rfl rfl rfl (Ex.mv (v := (.slice A2 m c2)) rfl) ?_
  refine RL.go rfl rfl rfl (Ex.len Tryz.underlying134 rfl) ?_
  refine RL.go rfl rfl rfl (Ex.mv (v := (.int .i64 0)) rfl) ?_
  refine RL.nil (thn.n (CW.block ?_))
  refine CW.loop (fun t => Nat.beq t 5 || (Nat.ble 8 t && Nat.ble t 24)) (fun nL ρ wl => ∃ (k n1 c1 : Nat) (A1 : Option Addr), ρ 8 = (.int .i64 (k : Int)) ∧ nL = xs.length - k ∧ Sp [BlkA p 166 [.slice A1 n1 c1], RowA 5 1 A1 n1 c1 (bcs (l ++ encN (xs.take k))), Fix w S] wl ∧ k ≤ xs.length ∧ n1 = l.length + 4 * k) (xs.length) ?aa0 ?bb0
  case aa0 =>
   have H0 : Sp [BlkA p 166 [.slice A n0 c], RowA 5 1 A n0 c (bcs (l ++ encN (xs.take 0))), Fix w S] w := (by simpa [encN] using H0)
   exact ⟨0, n0, c, A, rfl, rfl, H0, Nat.zero_le _, by omega⟩
  case bb0 =>
   rintro n2 ρ0 w1 ho3 ⟨k, n1, c1, A1, hs0_8, hn0, H4, hk, hn1⟩
   obtain ⟨j0, rfl⟩ := ho3.shape1 hs0_8
   clear ho3 hs0_8
   subst hn0
   have z5 := (H4.chg (i := 2) rfl).size
   have hel : (l ++ encN (xs.take k)).length = l.length + 4 * k := by rw [List.length_append, encN_len, List.length_take]; omega
   refine CW.seq (CW.region ?_)
   refine RL.br (p := ((k : Int) : Int) < ((m : Nat) : Int)) rfl rfl rfl (fun r hr => Ex.lt rfl rfl hr) (fun h6 => ?_) (fun h6 => ?_)
   ·skip
    refine RL.nil (thn.n (CW.seq (CW.condT rfl (CW.skip (thn.n (CW.seq (CW.block (CW.seq (CW.region ?_)))))))))
    obtain ⟨e7, he8⟩ : ∃ e, (xs)[k]? = some e := ⟨_, List.getElem?_eq_getElem (by omega)⟩
    obtain ⟨ad9, hA10⟩ := Rd.sm ((hr.st (H4.chg (i := 2) rfl)).rd) (ics_get he8)
    have hl11 := Eng.lt_len (ics_get he8)
    refine RL.go rfl rfl rfl (Ex.ix (b := (ad9.add (k * 1))) (i := k) Tryz.underlying134 Tryz.sizeOf3 (by rw [← hA10]; rfl) rfl (by omega) (by omega) rfl) ?_
    refine RL.go rfl rfl rfl (Ex.ldv rfl (loadC1 lo3 (Cl.at_ (v := (.int .i64 e7)) (Rd.cl ((hr.st (H4.chg (i := 2) rfl)).rd) hA10 (ics_get he8)) (i := 0) rfl))) ?_
    refine RL.go rfl rfl rfl (Ex.as (v := (.int .i64 e7)) rfl) ?_
    refine RL.nil (thn.n (CW.region ?_))
    refine RL.go rfl rfl rfl (Ex.mv (v := (.pointer (some ⟨p, 0, none⟩))) rfl) ?_
    refine RL.go rfl rfl rfl (Ex.mv (v := (.pointer (some ⟨p, 0, none⟩))) rfl) ?_
    refine RL.go rfl rfl rfl (Ex.nck rfl) ?_
    refine RL.go rfl rfl rfl (fa166_0 (b := ⟨p, 0, none⟩) rfl rfl) ?_
    refine RL.go rfl rfl rfl (Ex.ldv rfl (loadC1 lo97 (Ob.cell (v := (.slice A1 n1 c1)) (H4.ob (i := 0) rfl) rfl))) ?_
    refine RL.go rfl rfl rfl (Ex.mv (v := (.int .i64 e7)) rfl) ?_
    refine RL.call Tryz.call215 (putNumberI _ _ n1 c1 _ (l ++ encN (xs.take k)) (H4.rowrd (i := 1) rfl) (by first | assumption | omega) (by omega) e7 (by have := hx e7 (List.mem_of_getElem? he8); omega)) rfl rfl rfl ?_
    rintro _ w17 ⟨A12, m13, c14, rfl, g18, hm15, ow16⟩
    have H19 : Sp [RowA 5 1 A12 m13 c14 (bcs ((l ++ encN (xs.take k)) ++ enc4 e7.toNat)), BlkA p 166 [.slice A1 n1 c1], RowA 5 1 A1 n1 c1 (bcs (l ++ encN (xs.take k))), Fix w S] w17 := H4.newO g18 ow16 (by simp only [bcs_length, ics_length, rows_length, blks_length, robjs_length, ents_length, List.length_append, List.length_cons, List.length_nil, List.length_take, List.length_drop, List.length_map, enc4, enc8, encN_len, encW_len]; omega) (Nat.le_refl _)
    have z20 := g18.size
    refine RL.go rfl rfl rfl (Ex.mv (v := (.tuple #[(.slice A12 m13 c14), (.int .i64 0)])) rfl) ?_
    refine RL.go rfl rfl rfl (Ex.ext (vs := [(.slice A12 m13 c14), (.int .i64 0)]) (v := (.slice A12 m13 c14)) rfl rfl) ?_
    refine RL.go rfl rfl rfl (Ex.ext (vs := [(.slice A12 m13 c14), (.int .i64 0)]) (v := (.int .i64 0)) rfl rfl) ?_
    refine RL.go rfl rfl rfl (Ex.nck rfl) ?_
    refine RL.go rfl rfl rfl (fa166_0 (b := ⟨p, 0, none⟩) rfl rfl) ?_
    refine RL.st (vs := [(.slice A12 m13 c14)]) (cs' := [(.slice A12 m13 c14)]) Tryz.sizeOf97 (H19.ob (i := 1) rfl) rfl rfl rfl rfl rfl rfl ?_
    intro w21 hz22 g23 o24
    have H25 : Sp [RowA 5 1 A12 m13 c14 (bcs ((l ++ encN (xs.take k)) ++ enc4 e7.toNat)), BlkA p 166 [(.slice A12 m13 c14)], RowA 5 1 A1 n1 c1 (bcs (l ++ encN (xs.take k))), Fix w S] w21 := H19.setB (i := 1) rfl g23 o24 rfl
    have z26 := g23.size
    refine RL.nil (inB.n (thn.n (CW.region ?_)))
    refine RL.go rfl rfl rfl (Ex.add (r := (k : Int) + 1) rfl rfl (w64 (by omega) (by omega))) ?_
    refine RL.go rfl rfl rfl (Ex.mv (v := (.int .i64 ((k : Int) + 1))) rfl) ?_
    refine RL.nil (thn.n ?_)
    have H27 : Sp [RowA 5 1 A12 m13 c14 (bcs (l ++ encN (xs.take (k + 1)))), BlkA p 166 [(.slice A12 m13 c14)], RowA 5 1 A1 n1 c1 (bcs (l ++ encN (xs.take k))), Fix w S] w21 := H25.eqR (i := 0) rfl rfl (by rw [take_snoc he8, encN_snoc, ← List.append_assoc]) rfl
    refine ⟨(by repeat (first | exact Out.mix _ _ | exact Out.refl _ _ | refine Out.up ?_ rfl _)), _, ?_, k + 1, m13, c14, A12, rfl, rfl, (H27.sel [1, 0, 3] (by decide) rfl), by omega, by omega⟩
    omega
   ·skip
    refine RL.nil (thn.n (CW.seq (CW.condF rfl (CW.exit (thn.x (thn.x (inB.hit ?_)))))))
    refine finQ.n (v := (.tuple #[])) (res0 rfl) ?_
    have hkk : xs.take k = xs := List.take_of_length_le (by omega)
    rw [hkk] at hel H4
    exact ⟨_, _, _, rfl, (H4.sel [0, 1, 2] (by decide) rfl), by omega⟩
set_option maxHeartbeats 1000000 in
set_option maxRecDepth 20000 in
theorem outI2 (w : World) (S : Nat → Prop) (p n0 c : Nat) (A : Option Addr) (l : List UInt8) (hS : (AllA [BlkA p 166 [.slice A n0 c], RowA 5 1 A n0 c (bcs l)]).ok S w) (xs : List Int) (A2 : Option Addr) (m c2 : Nat) (hr : RdN w S 1 A2 (ics xs)) (hm : m = xs.length) (hlen : l.length + 8 * xs.length ≤ 1099511627000) : Ret Tryz.prog 146 [(.pointer (some ⟨p, 0, none⟩)), (.slice A2 m c2)] w (fun v w' => ∃ (A' : Option Addr) (n' c' : Nat), v = .tuple #[] ∧ Sp ([BlkA p 166 [.slice A' n' c'], RowA 5 1 A' n' c' (bcs (l ++ encW xs))] ++ [Fix w S]) w' ∧ n' = (l ++ encW xs).length) := by
  have H0 := Sp.startL hS
  have hnl := H0.len (i := 1) rfl
  simp only [bcs_length] at hnl
  have H0 : Sp [BlkA p 166 [.slice A n0 c], RowA 5 1 A n0 c (bcs l), Fix w S] w := H0
  refine Ret.body Tryz.func146 rfl rfl rfl ?_
  refine CW.seq (CW.region ?_)
  refine RL.go rfl rfl rfl (Ex.mv (v := (.slice A2 m c2)) rfl) ?_
  refine RL.go rfl rfl rfl (Ex.len Tryz.underlying134 rfl) ?_
  refine RL.go rfl rfl rfl (Ex.mv (v := (.int .i64 0)) rfl) ?_
  refine RL.nil (thn.n (CW.block ?_))
  refine CW.loop (fun t => Nat.beq t 5 || (Nat.ble 8 t && Nat.ble t 21)) (fun nL ρ wl => ∃ (k n1 c1 : Nat) (A1 : Option Addr), ρ 8 = (.int .i64 (k : Int)) ∧ nL = xs.length - k ∧ Sp [BlkA p 166 [.slice A1 n1 c1], RowA 5 1 A1 n1 c1 (bcs (l ++ encW (xs.take k))), Fix w S] wl ∧ k ≤ xs.length ∧ n1 = l.length + 8 * k) (xs.length) ?aa0 ?bb0
  case aa0 =>
   have H0 : Sp [BlkA p 166 [.slice A n0 c], RowA 5 1 A n0 c (bcs (l ++ encW (xs.take 0))), Fix w S] w := (by simpa [encW] using H0)
   exact ⟨0, n0, c, A, rfl, rfl, H0, Nat.zero_le _, by omega⟩
  case bb0 =>
   rintro n2 ρ0 w1 ho3 ⟨k, n1, c1, A1, hs0_8, hn0, H4, hk, hn1⟩
   obtain ⟨j0, rfl⟩ := ho3.shape1 hs0_8
   clear ho3 hs0_8
   subst hn0
   have z5 := (H4.chg (i := 2) rfl).size
   have hel : (l ++ encW (xs.take k)).length = l.length + 8 * k := by rw [List.length_append, encW_len, List.length_take]; omega
   refine CW.seq (CW.region ?_)
   refine RL.br (p := ((k : Int) : Int) < ((m : Nat) : Int)) rfl rfl rfl (fun r hr => Ex.lt rfl rfl hr) (fun h6 => ?_) (fun h6 => ?_)
   ·skip
    refine RL.nil (thn.n (CW.seq (CW.condT rfl (CW.skip (thn.n (CW.seq (CW.block (CW.seq (CW.region ?_)))))))))
    obtain ⟨e7, he8⟩ : ∃ e, (xs)[k]? = some e := ⟨_, List.getElem?_eq_getElem (by omega)⟩
    obtain ⟨ad9, hA10⟩ := Rd.sm ((hr.st (H4.chg (i := 2) rfl)).rd) (ics_get he8)
    have hl11 := Eng.lt_len (ics_get he8)
    refine RL.go rfl rfl rfl (Ex.ix (b := (ad9.add (k * 1))) (i := k) Tryz.underlying134 Tryz.sizeOf3 (by rw [← hA10]; rfl) rfl (by omega) (by omega) rfl) ?_
    refine RL.go rfl rfl rfl (Ex.ldv rfl (loadC1 lo3 (Cl.at_ (v := (.int .i64 e7)) (Rd.cl ((hr.st (H4.chg (i := 2) rfl)).rd) hA10 (ics_get he8)) (i := 0) rfl))) ?_
    refine RL.go rfl rfl rfl (Ex.as (v := (.int .i64 e7)) rfl) ?_
    refine RL.nil (thn.n (CW.region ?_))
    refine RL.go rfl rfl rfl (Ex.mv (v := (.pointer (some ⟨p, 0, none⟩))) rfl) ?_
    refine RL.go rfl rfl rfl (Ex.mv (v := (.pointer (some ⟨p, 0, none⟩))) rfl) ?_
    refine RL.go rfl rfl rfl (Ex.nck rfl) ?_
    refine RL.go rfl rfl rfl (fa166_0 (b := ⟨p, 0, none⟩) rfl rfl) ?_
    refine RL.go rfl rfl rfl (Ex.ldv rfl (loadC1 lo97 (Ob.cell (v := (.slice A1 n1 c1)) (H4.ob (i := 0) rfl) rfl))) ?_
    refine RL.go rfl rfl rfl (Ex.mv (v := (.int .i64 e7)) rfl) ?_
    refine RL.call Tryz.call216 (putInt_ _ _ n1 c1 _ (l ++ encW (xs.take k)) (H4.rowrd (i := 1) rfl) (by first | assumption | omega) (by omega) e7) rfl rfl rfl ?_
    rintro _ w17 ⟨A12, m13, c14, rfl, g18, hm15, ow16⟩
    have H19 : Sp [RowA 5 1 A12 m13 c14 (bcs (((l ++ encW (xs.take k)) ++ enc8 (u64of e7)))), BlkA p 166 [.slice A1 n1 c1], RowA 5 1 A1 n1 c1 (bcs (l ++ encW (xs.take k))), Fix w S] w17 := H4.newO g18 ow16 (by simp only [bcs_length, ics_length, rows_length, blks_length, robjs_length, ents_length, List.length_append, List.length_cons, List.length_nil, List.length_take, List.length_drop, List.length_map, enc4, enc8, encN_len, encW_len]; omega) (Nat.le_refl _)
    have z20 := g18.size
    refine RL.go rfl rfl rfl (Ex.nck rfl) ?_
    refine RL.go rfl rfl rfl (fa166_0 (b := ⟨p, 0, none⟩) rfl rfl) ?_
    refine RL.st (vs := [(.slice A12 m13 c14)]) (cs' := [(.slice A12 m13 c14)]) Tryz.sizeOf97 (H19.ob (i := 1) rfl) rfl rfl rfl rfl rfl rfl ?_
    intro w21 hz22 g23 o24
    have H25 : Sp [RowA 5 1 A12 m13 c14 (bcs (((l ++ encW (xs.take k)) ++ enc8 (u64of e7)))), BlkA p 166 [(.slice A12 m13 c14)], RowA 5 1 A1 n1 c1 (bcs (l ++ encW (xs.take k))), Fix w S] w21 := H19.setB (i := 1) rfl g23 o24 rfl
    have z26 := g23.size
    refine RL.nil (inB.n (thn.n (CW.region ?_)))
    refine RL.go rfl rfl rfl (Ex.add (r := (k : Int) + 1) rfl rfl (w64 (by omega) (by omega))) ?_
    refine RL.go rfl rfl rfl (Ex.mv (v := (.int .i64 ((k : Int) + 1))) rfl) ?_
    refine RL.nil (thn.n ?_)
    have H27 : Sp [RowA 5 1 A12 m13 c14 (bcs (l ++ encW (xs.take (k + 1)))), BlkA p 166 [(.slice A12 m13 c14)], RowA 5 1 A1 n1 c1 (bcs (l ++ encW (xs.take k))), Fix w S] w21 := H25.eqR (i := 0) rfl rfl (by rw [take_snoc he8, encW_snoc, ← List.append_assoc]) rfl
    refine ⟨(by repeat (first | exact Out.mix _ _ | exact Out.refl _ _ | refine Out.up ?_ rfl _)), _, ?_, k + 1, m13, c14, A12, rfl, rfl, (H27.sel [1, 0, 3] (by decide) rfl), by omega, by omega⟩
    omega
   ·skip
    refine RL.nil (thn.n (CW.seq (CW.condF rfl (CW.exit (thn.x (thn.x (inB.hit ?_)))))))
    refine finQ.n (v := (.tuple #[])) (res0 rfl) ?_
    have hkk : xs.take k = xs := List.take_of_length_le (by omega)
    rw [hkk] at hel H4
    exact ⟨_, _, _, rfl, (H4.sel [0, 1, 2] (by decide) rfl), by omega⟩
set_option maxHeartbeats 1000000 in
set_option maxRecDepth 20000 in
theorem putHeap_ (w : World) (B : Nat) (rh : RHeap) (ros : List RObj) (h : Heap) (H : HeapR w B rh ros h) (hB : B ≤ w.heap.size) : Ret Tryz.prog 77 [(.agg (rh.cells).toArray)] w (fun v w' => ∃ (A' : Option Addr) (n' c' : Nat), v = .tuple #[.slice A' n' c', .int .i64 (putHeapX h).2] ∧ Sp ([RowA 5 1 A' n' c' (bcs (putHeapX h).1)] ++ [Fix w NoB]) w') := by
  have hord := H.order
  have hnx := H.next
  have hfn := H.fn
  have hfm := H.fm
  have hon := H.objs.n
  have hom := H.objs.m
  have hol := H.objs.len
  have H0 : Sp [Fix w NoB] w := Sp.start w
  refine Ret.body Tryz.func77 rfl rfl rfl ?_
  refine CW.seq (CW.region ?_)
  refine RL.bx (cs := rh.cells) rfl rfl rfl ?_
  intro w1 b2 hb3 hz4 g5 o6
  have H7 := H0.newB g5 o6 (by omega)
  have z8 := g5.size
  refine RL.go rfl rfl rfl (Ex.as (v := (.slice none 0 0)) rfl) ?_
  refine RL.go rfl rfl rfl (Ex.as (v := (.int .i64 0)) rfl) ?_
  refine RL.nil (thn.n (CW.seq (CW.seq (CW.region ?_))))
  refine RL.go rfl rfl rfl (Ex.ldv rfl (loadCN (cs := rh.cells) wh47 (H7.ob (i := 0) rfl).cl)) ?_
  refine RL.call Tryz.call140 (heapCheck_ _ _ rh _ _ (H.st0 (H7.fix (i := 1) rfl)) (by omega)) rfl rfl rfl ?_
  rintro _ w9 ⟨rfl, g10⟩
  have H11 := H7.grow g10
  have z12 := g10.size
  refine RL.br (p := ((if heapB h then 0 else 1) : Int) ≠ (0 : Int)) rfl rfl rfl (fun r hr => Ex.neD rfl rfl hr) (fun h13 => ?_) (fun h13 => ?_)
  ·skip
   refine RL.nil (thn.n (CW.condT rfl (CW.seq (CW.region ?_))))
   refine RL.go rfl rfl rfl (Ex.as (v := (.slice none 0 0)) rfl) ?_
   refine RL.go rfl rfl rfl (Ex.as (v := (.int .i64 60)) rfl) ?_
   refine RL.nil (thn.n (CW.ret (thn.r ?_)))
   refine finQ.r (v := (.tuple #[(.slice none 0 0), (.int .i64 60)])) (res2 rfl rfl rfl) ?_
   have H14 := H11.nil_ 5 1
   have hbb : heapB h = false := by
     cases hkb : heapB h with
     | false => rfl
     | true => rw [hkb] at h13; exact absurd rfl h13
   exact ⟨none, 0, 0, by unfold putHeapX; rw [hbb]; rfl, by unfold putHeapX; rw [hbb]; exact (H14.sel [0, 2] (by decide) rfl)⟩
  ·skip
   refine RL.nil (thn.n (CW.condF rfl (CW.skip (thn.n (CW.seq (CW.region ?_))))))
   have hbb : heapB h = true := by
      cases hkb : heapB h with
      | true => rfl
      | false => rw [hkb] at h13; exact absurd h13 (by decide)
   have hrg := heapB_rng hbb
   obtain ⟨hr1, hr2, hr3, hr4, hr5⟩ := hrg
   have htp := H.tops
   rw [← htp] at hr4
   have hq1 : (encN [rh.order, rh.next]).length = 8 := rfl
   refine RL.go rfl rfl rfl (Ex.bd (cs := [(.slice none 0 0)]) bd166 rfl) ?_
   refine RL.bx (cs := [(.slice none 0 0)]) rfl rfl rfl ?_
   intro w15 b16 hb17 hz18 g19 o20
   have H21 := H11.newB g19 o20 (by omega)
   have z22 := g19.size
   refine RL.go rfl rfl rfl (Ex.as (v := (.pointer (some ⟨b16, 0, none⟩))) rfl) ?_
   refine RL.nil (thn.n (CW.seq (CW.region ?_)))
   refine RL.go rfl rfl rfl (Ex.mv (v := (.pointer (some ⟨b16, 0, none⟩))) rfl) ?_
   refine RL.go rfl rfl rfl (fa47_0 (b := ⟨b2, 0, none⟩) rfl rfl) ?_
   refine RL.go rfl rfl rfl (Ex.ldv rfl (loadC1 lo3 (Ob.cell (v := (.int .i64 rh.order)) (H21.ob (i := 1) rfl) rfl))) ?_
   refine RL.go rfl rfl rfl (fa47_2 (b := ⟨b2, 2, none⟩) rfl rfl) ?_
   refine RL.go rfl rfl rfl (Ex.ldv rfl (loadC1 lo3 (Ob.cell (v := (.int .i64 rh.next)) (H21.ob (i := 1) rfl) rfl))) ?_
   refine RL.bs (cs := [(.int .i64 rh.order), (.int .i64 rh.next)]) Tryz.underlying134 Tryz.sizeOf3 ze134 rfl rfl rfl (by decide) rfl rfl rfl ?_
   intro w23 b24 hb25 hz26 g27 o28
   have H29 := H21.newB g27 o28 (by omega)
   have z30 := g27.size
   have H31 := H29.nil_ 5 1
   obtain ⟨S36, hS37, hO38, K39⟩ := Sp.takeL (l1 := [BlkA b16 166 [(.slice none 0 0)], RowA 5 1 none 0 0 (bcs ([]))]) (l2 := [BlkA b24 3 [(.int .i64 rh.order), (.int .i64 rh.next)], BlkA b2 47 rh.cells, Fix w NoB]) (w := w23) (H31.sel [2, 0, 1, 3, 4] (by decide) rfl)
   refine RL.call Tryz.call145 (outN2 _ S36 b16 0 0 none ([]) hS37 ([rh.order, rh.next]) _ 2 2 (RdN.of_blk hO38 (j := 0) rfl (Ob.rdI (l := [rh.order, rh.next]) (H31.ob (i := 1) rfl) rfl)) (by first | rfl | assumption | omega) (by intro x hx; simp only [List.mem_cons, List.not_mem_nil, or_false] at hx; omega) (by simp only [bcs_length, ics_length, rows_length, blks_length, robjs_length, ents_length, List.length_append, List.length_cons, List.length_nil, List.length_take, List.length_drop, List.length_map, enc4, enc8, encN_len, encW_len] at *; omega)) rfl rfl rfl ?_
   rintro _ w40 ⟨A32, n33, c34, rfl, g41, hn35⟩
   have H42 : Sp [BlkA b16 166 [.slice A32 n33 c34], RowA 5 1 A32 n33 c34 (bcs ([] ++ encN ([rh.order, rh.next]))), BlkA b24 3 [(.int .i64 rh.order), (.int .i64 rh.next)], BlkA b2 47 rh.cells, Fix w NoB] w40 := K39 _ _ g41
   have z43 := (H42.fix (i := 4) rfl).size
   refine RL.nil (thn.n (CW.seq (CW.region ?_)))
   refine RL.go rfl rfl rfl (Ex.mv (v := (.pointer (some ⟨b16, 0, none⟩))) rfl) ?_
   refine RL.go rfl rfl rfl (fa47_3 (b := ⟨b2, 3, none⟩) rfl rfl) ?_
   refine RL.go rfl rfl rfl (Ex.slA Tryz.underlying44 Tryz.sizeOf3 rfl rfl) ?_
   obtain ⟨S48, hS49, hO50, K51⟩ := Sp.takeL (l1 := [BlkA b16 166 [.slice A32 n33 c34], RowA 5 1 A32 n33 c34 (bcs ([] ++ encN ([rh.order, rh.next])))]) (l2 := [BlkA b24 3 [(.int .i64 rh.order), (.int .i64 rh.next)], BlkA b2 47 rh.cells, Fix w NoB]) (w := w40) H42
   refine RL.call Tryz.call145 (outN2 _ S48 b16 n33 c34 A32 ([] ++ encN ([rh.order, rh.next])) hS49 ([rh.t0, rh.t1, rh.t2, rh.t3]) _ 4 4 (RdN.of_blk hO50 (j := 1) rfl (Ob.rdI (l := [rh.t0, rh.t1, rh.t2, rh.t3]) (H42.ob (i := 3) rfl) rfl)) (by first | rfl | assumption | omega) (hr4) (by simp only [bcs_length, ics_length, rows_length, blks_length, robjs_length, ents_length, List.length_append, List.length_cons, List.length_nil, List.length_take, List.length_drop, List.length_map, enc4, enc8, encN_len, encW_len] at *; omega)) rfl rfl rfl ?_
   rintro _ w52 ⟨A44, n45, c46, rfl, g53, hn47⟩
   have H54 : Sp [BlkA b16 166 [.slice A44 n45 c46], RowA 5 1 A44 n45 c46 (bcs ((([] ++ encN ([rh.order, rh.next])) ++ encN ([rh.t0, rh.t1, rh.t2, rh.t3])))), BlkA b24 3 [(.int .i64 rh.order), (.int .i64 rh.next)], BlkA b2 47 rh.cells, Fix w NoB] w52 := K51 _ _ g53
   have z55 := (H54.fix (i := 4) rfl).size
   refine RL.nil (thn.n (CW.seq (CW.region ?_)))
   refine RL.go rfl rfl rfl (Ex.mv (v := (.pointer (some ⟨b16, 0, none⟩))) rfl) ?_
   refine RL.go rfl rfl rfl (fa47_1 (b := ⟨b2, 1, none⟩) rfl rfl) ?_
   refine RL.go rfl rfl rfl (Ex.ldv rfl (loadC1 lo43 (Ob.cell (v := (.slice rh.objs.a rh.objs.n rh.objs.c)) (H54.ob (i := 3) rfl) rfl))) ?_
   refine RL.go rfl rfl rfl (Ex.len Tryz.underlying43 rfl) ?_
   refine RL.bs (cs := [(.int .i64 (rh.objs.n : Nat))]) Tryz.underlying134 Tryz.sizeOf3 ze134 rfl rfl rfl (by decide) rfl rfl rfl ?_
   intro w56 b57 hb58 hz59 g60 o61
   have H62 := H54.newB g60 o61 (by omega)
   have z63 := g60.size
   obtain ⟨S69, hS70, hO71, K72⟩ := Sp.takeL (l1 := [BlkA b16 166 [.slice A44 n45 c46], RowA 5 1 A44 n45 c46 (bcs ((([] ++ encN ([rh.order, rh.next])) ++ encN ([rh.t0, rh.t1, rh.t2, rh.t3]))))]) (l2 := [BlkA b57 3 [(.int .i64 (rh.objs.n : Nat))], BlkA b24 3 [(.int .i64 rh.order), (.int .i64 rh.next)], BlkA b2 47 rh.cells, Fix w NoB]) (w := w56) (H62.sel [1, 2, 0, 3, 4, 5] (by decide) rfl)
   refine RL.call Tryz.call145 (outN2 _ S69 b16 n45 c46 A44 ((([] ++ encN ([rh.order, rh.next])) ++ encN ([rh.t0, rh.t1, rh.t2, rh.t3]))) hS70 ([(rh.objs.n : Nat)]) _ 1 1 (RdN.of_blk hO71 (j := 0) rfl (Ob.rdI (l := [(rh.objs.n : Nat)]) (H62.ob (i := 0) rfl) rfl)) (by first | rfl | assumption | omega) (by intro x hx; simp only [List.mem_cons, List.not_mem_nil, or_false] at hx; omega) (by simp only [bcs_length, ics_length, rows_length, blks_length, robjs_length, ents_length, List.length_append, List.length_cons, List.length_nil, List.length_take, List.length_drop, List.length_map, enc4, enc8, encN_len, encW_len] at *; omega)) rfl rfl rfl ?_
   rintro _ w73 ⟨A65, n66, c67, rfl, g74, hn68⟩
   have H75 : Sp [BlkA b16 166 [.slice A65 n66 c67], RowA 5 1 A65 n66 c67 (bcs (((([] ++ encN ([rh.order, rh.next])) ++ encN ([rh.t0, rh.t1, rh.t2, rh.t3])) ++ encN ([(rh.objs.n : Nat)])))), BlkA b57 3 [(.int .i64 (rh.objs.n : Nat))], BlkA b24 3 [(.int .i64 rh.order), (.int .i64 rh.next)], BlkA b2 47 rh.cells, Fix w NoB] w73 := K72 _ _ g74
   have z76 := (H75.fix (i := 5) rfl).size
   refine RL.nil (thn.n (CW.seq (CW.seq (CW.region ?_))))
   refine RL.go rfl rfl rfl (fa47_1 (b := ⟨b2, 1, none⟩) rfl rfl) ?_
   refine RL.go rfl rfl rfl (Ex.ldv rfl (loadC1 lo43 (Ob.cell (v := (.slice rh.objs.a rh.objs.n rh.objs.c)) (H75.ob (i := 4) rfl) rfl))) ?_
   refine RL.go rfl rfl rfl (Ex.len Tryz.underlying43 rfl) ?_
   refine RL.go rfl rfl rfl (Ex.mv (v := (.int .i64 0)) rfl) ?_
   refine RL.nil (thn.n (CW.block ?_))
   have hz0 : ((([] ++ encN ([rh.order, rh.next])) ++ encN ([rh.t0, rh.t1, rh.t2, rh.t3])) ++ encN ([(rh.objs.n : Nat)])) = (((encN [rh.order, rh.next] ++ encN [rh.t0, rh.t1, rh.t2, rh.t3]) ++ encN [((rh.objs.n : Nat) : Int)]) ++ putObjs (h.objs.take 0)) := by simp [putObjs]
   refine CW.loop (fun t => Nat.beq t 6 || (Nat.ble 32 t && Nat.ble t 58)) (fun nL ρ wl => ∃ (k n1 c1 : Nat) (A1 : Option Addr), ρ 32 = (.int .i64 (k : Int)) ∧ nL = rh.objs.n - k ∧ Sp [BlkA b16 166 [.slice A1 n1 c1], RowA 5 1 A1 n1 c1 (bcs ((((encN [rh.order, rh.next] ++ encN [rh.t0, rh.t1, rh.t2, rh.t3]) ++ encN [((rh.objs.n : Nat) : Int)]) ++ putObjs (h.objs.take k)))), BlkA b2 47 rh.cells, Fix w NoB] wl ∧ k ≤ rh.objs.n ∧ n1 ≤ 28 + 336 * k) (rh.objs.n) ?aa0 ?bb0
   case aa0 =>
    have H77 : Sp [BlkA b16 166 [.slice A65 n66 c67], RowA 5 1 A65 n66 c67 (bcs ((((encN [rh.order, rh.next] ++ encN [rh.t0, rh.t1, rh.t2, rh.t3]) ++ encN [((rh.objs.n : Nat) : Int)]) ++ putObjs (h.objs.take 0)))), BlkA b57 3 [(.int .i64 (rh.objs.n : Nat))], BlkA b24 3 [(.int .i64 rh.order), (.int .i64 rh.next)], BlkA b2 47 rh.cells, Fix w NoB] w73 := H75.eqR (i := 1) rfl rfl (congrArg bcs hz0) rfl
    exact ⟨0, n66, c67, A65, rfl, rfl, (H77.sel [0, 1, 4, 5] (by decide) rfl), Nat.zero_le _, by simp only [bcs_length, ics_length, rows_length, blks_length, robjs_length, ents_length, List.length_append, List.length_cons, List.length_nil, List.length_take, List.length_drop, List.length_map, enc4, enc8, encN_len, encW_len] at *; omega⟩
   case bb0 =>
    rintro n79 ρ0 w78 ho80 ⟨k, n1, c1, A1, hs0_32, hn0, H81, hk, hn1⟩
    obtain ⟨j0, rfl⟩ := ho80.shape1 hs0_32
    clear ho80 hs0_32
    subst hn0
    have z82 := (H81.fix (i := 3) rfl).size
    have hlen := (H81.len (i := 1) rfl)
    rw [bcs_length] at hlen
    refine CW.seq (CW.region ?_)
    refine RL.br (p := ((k : Int) : Int) < ((rh.objs.n : Nat) : Int)) rfl rfl rfl (fun r hr => Ex.lt rfl rfl hr) (fun h83 => ?_) (fun h83 => ?_)
    ·skip
     refine RL.nil (thn.n (CW.seq (CW.condT rfl (CW.skip (thn.n (CW.seq (CW.block (CW.seq (CW.region ?_)))))))))
     obtain ⟨e84, he85⟩ : ∃ e, ros[k]? = some e := ⟨_, List.getElem?_eq_getElem (by omega)⟩
     obtain ⟨o86, ho87⟩ : ∃ e, h.objs[k]? = some e := ⟨_, List.getElem?_eq_getElem (by omega)⟩
     have oR88 := H.objs.all k e84 o86 he85 ho87
     have e89 := oR88.wl
     have e90 := oR88.ll
     have e91 := oR88.b
     have e92 := oR88.wm
     have e93 := oR88.lm
     have e94 := oR88.h
     obtain ⟨ad95, hA96⟩ := Rd.sm (H.objs.rd.st0 (H81.fix (i := 3) rfl)) (robjs_get he85)
     have hl97 := Eng.lt_len (robjs_get he85)
     refine RL.go rfl rfl rfl (Ex.ix (b := (ad95.add (k * 5))) (i := k) Tryz.underlying43 Tryz.sizeOf136 (by rw [← hA96]; rfl) rfl (by omega) (by omega) rfl) ?_
     refine RL.go rfl rfl rfl (Ex.ldv rfl (loadCN (cs := e84.cells) wh136 (Rd.cl (H.objs.rd.st0 (H81.fix (i := 3) rfl)) hA96 (robjs_get he85)))) ?_
     refine RL.al (cs := [(.int .i64 0), (.int .i64 0), (.int .i64 0), (.slice none 0 0), (.slice none 0 0)]) Tryz.zeroValue136 rfl rfl rfl ?_
     intro w98 b99 hb100 hz101 g102 o103
     have H104 := H81.newB g102 o103 (by omega)
     have z105 := g102.size
     refine RL.st (vs := e84.cells) (cs' := e84.cells) Tryz.sizeOf136 (H104.ob (i := 0) rfl) rfl rfl rfl rfl rfl rfl ?_
     intro w106 hz107 g108 o109
     have H110 : Sp [BlkA b99 136 e84.cells, BlkA b16 166 [.slice A1 n1 c1], RowA 5 1 A1 n1 c1 (bcs ((((encN [rh.order, rh.next] ++ encN [rh.t0, rh.t1, rh.t2, rh.t3]) ++ encN [((rh.objs.n : Nat) : Int)]) ++ putObjs (h.objs.take k)))), BlkA b2 47 rh.cells, Fix w NoB] w106 := H104.setB (i := 0) rfl g108 o109 rfl
     have z111 := g108.size
     refine RL.nil (thn.n (CW.seq (CW.region ?_)))
     have hob := hr5 o86 (List.mem_of_getElem? ho87)
     obtain ⟨ho1, ho2, ho3, ho4, ho5⟩ := hob
     rw [← oR88.h] at ho1
     rw [← oR88.b] at ho2
     refine RL.go rfl rfl rfl (Ex.mv (v := (.pointer (some ⟨b16, 0, none⟩))) rfl) ?_
     refine RL.go rfl rfl rfl (fa136_0 (b := ⟨b99, 0, none⟩) rfl rfl) ?_
     refine RL.go rfl rfl rfl (Ex.ldv rfl (loadC1 lo3 (Ob.cell (v := (.int .i64 e84.handle)) (H110.ob (i := 0) rfl) rfl))) ?_
     refine RL.go rfl rfl rfl (fa136_1 (b := ⟨b99, 1, none⟩) rfl rfl) ?_
     refine RL.go rfl rfl rfl (fa133_0 (b := ⟨b99, 1, none⟩) rfl rfl) ?_
     refine RL.go rfl rfl rfl (Ex.ldv rfl (loadC1 lo3 (Ob.cell (v := (.int .i64 e84.blk.at_)) (H110.ob (i := 0) rfl) rfl))) ?_
     refine RL.go rfl rfl rfl (fa136_2 (b := ⟨b99, 3, none⟩) rfl rfl) ?_
     refine RL.go rfl rfl rfl (Ex.ldv rfl (loadC1 lo134 (Ob.cell (v := (.slice e84.words.a e84.words.n e84.words.c)) (H110.ob (i := 0) rfl) rfl))) ?_
     refine RL.go rfl rfl rfl (Ex.len Tryz.underlying134 rfl) ?_
     refine RL.go rfl rfl rfl (fa136_3 (b := ⟨b99, 4, none⟩) rfl rfl) ?_
     refine RL.go rfl rfl rfl (Ex.ldv rfl (loadC1 lo134 (Ob.cell (v := (.slice e84.links.a e84.links.n e84.links.c)) (H110.ob (i := 0) rfl) rfl))) ?_
     refine RL.go rfl rfl rfl (Ex.len Tryz.underlying134 rfl) ?_
     refine RL.bs (cs := [(.int .i64 e84.handle), (.int .i64 e84.blk.at_), (.int .i64 (e84.words.n : Nat)), (.int .i64 (e84.links.n : Nat))]) Tryz.underlying134 Tryz.sizeOf3 ze134 rfl rfl rfl (by decide) rfl rfl rfl ?_
     intro w112 b113 hb114 hz115 g116 o117
     have H118 := H110.newB g116 o117 (by omega)
     have z119 := g116.size
     obtain ⟨S124, hS125, hO126, K127⟩ := Sp.takeL (l1 := [BlkA b16 166 [.slice A1 n1 c1], RowA 5 1 A1 n1 c1 (bcs ((((encN [rh.order, rh.next] ++ encN [rh.t0, rh.t1, rh.t2, rh.t3]) ++ encN [((rh.objs.n : Nat) : Int)]) ++ putObjs (h.objs.take k))))]) (l2 := [BlkA b113 3 [(.int .i64 e84.handle), (.int .i64 e84.blk.at_), (.int .i64 (e84.words.n : Nat)), (.int .i64 (e84.links.n : Nat))], BlkA b99 136 e84.cells, BlkA b2 47 rh.cells, Fix w NoB]) (w := w112) (H118.sel [2, 3, 0, 1, 4, 5] (by decide) rfl)
     refine RL.call Tryz.call145 (outN2 _ S124 b16 n1 c1 A1 ((((encN [rh.order, rh.next] ++ encN [rh.t0, rh.t1, rh.t2, rh.t3]) ++ encN [((rh.objs.n : Nat) : Int)]) ++ putObjs (h.objs.take k))) hS125 ([e84.handle, e84.blk.at_, (e84.words.n : Nat), (e84.links.n : Nat)]) _ 4 4 (RdN.of_blk hO126 (j := 0) rfl (Ob.rdI (l := [e84.handle, e84.blk.at_, (e84.words.n : Nat), (e84.links.n : Nat)]) (H118.ob (i := 0) rfl) rfl)) (by first | rfl | assumption | omega) (by intro x hx; simp only [List.mem_cons, List.not_mem_nil, or_false] at hx; omega) (by simp only [bcs_length, ics_length, rows_length, blks_length, robjs_length, ents_length, List.length_append, List.length_cons, List.length_nil, List.length_take, List.length_drop, List.length_map, enc4, enc8, encN_len, encW_len] at *; omega)) rfl rfl rfl ?_
     rintro _ w128 ⟨A120, n121, c122, rfl, g129, hn123⟩
     have H130 : Sp [BlkA b16 166 [.slice A120 n121 c122], RowA 5 1 A120 n121 c122 (bcs (((((encN [rh.order, rh.next] ++ encN [rh.t0, rh.t1, rh.t2, rh.t3]) ++ encN [((rh.objs.n : Nat) : Int)]) ++ putObjs (h.objs.take k)) ++ encN ([e84.handle, e84.blk.at_, (e84.words.n : Nat), (e84.links.n : Nat)])))), BlkA b113 3 [(.int .i64 e84.handle), (.int .i64 e84.blk.at_), (.int .i64 (e84.words.n : Nat)), (.int .i64 (e84.links.n : Nat))], BlkA b99 136 e84.cells, BlkA b2 47 rh.cells, Fix w NoB] w128 := K127 _ _ g129
     have z131 := (H130.fix (i := 5) rfl).size
     refine RL.nil (thn.n (CW.seq (CW.region ?_)))
     refine RL.go rfl rfl rfl (Ex.mv (v := (.pointer (some ⟨b16, 0, none⟩))) rfl) ?_
     refine RL.go rfl rfl rfl (fa136_2 (b := ⟨b99, 3, none⟩) rfl rfl) ?_
     refine RL.go rfl rfl rfl (Ex.ldv rfl (loadC1 lo134 (Ob.cell (v := (.slice e84.words.a e84.words.n e84.words.c)) (H130.ob (i := 3) rfl) rfl))) ?_
     obtain ⟨S136, hS137, hO138, K139⟩ := Sp.takeL (l1 := [BlkA b16 166 [.slice A120 n121 c122], RowA 5 1 A120 n121 c122 (bcs (((((encN [rh.order, rh.next] ++ encN [rh.t0, rh.t1, rh.t2, rh.t3]) ++ encN [((rh.objs.n : Nat) : Int)]) ++ putObjs (h.objs.take k)) ++ encN ([e84.handle, e84.blk.at_, (e84.words.n : Nat), (e84.links.n : Nat)]))))]) (l2 := [BlkA b113 3 [(.int .i64 e84.handle), (.int .i64 e84.blk.at_), (.int .i64 (e84.words.n : Nat)), (.int .i64 (e84.links.n : Nat))], BlkA b99 136 e84.cells, BlkA b2 47 rh.cells, Fix w NoB]) (w := w128) H130
     refine RL.call Tryz.call146 (outI2 _ S136 b16 n121 c122 A120 (((((encN [rh.order, rh.next] ++ encN [rh.t0, rh.t1, rh.t2, rh.t3]) ++ encN [((rh.objs.n : Nat) : Int)]) ++ putObjs (h.objs.take k)) ++ encN ([e84.handle, e84.blk.at_, (e84.words.n : Nat), (e84.links.n : Nat)]))) hS137 o86.words _ e84.words.n e84.words.c (RdN.of_fix hO138 (j := 3) rfl oR88.rw_ (by omega)) (by first | rfl | assumption | omega) (by simp only [bcs_length, ics_length, rows_length, blks_length, robjs_length, ents_length, List.length_append, List.length_cons, List.length_nil, List.length_take, List.length_drop, List.length_map, enc4, enc8, encN_len, encW_len] at *; omega)) rfl rfl rfl ?_
     rintro _ w140 ⟨A132, n133, c134, rfl, g141, hn135⟩
     have H142 : Sp [BlkA b16 166 [.slice A132 n133 c134], RowA 5 1 A132 n133 c134 (bcs ((((((encN [rh.order, rh.next] ++ encN [rh.t0, rh.t1, rh.t2, rh.t3]) ++ encN [((rh.objs.n : Nat) : Int)]) ++ putObjs (h.objs.take k)) ++ encN ([e84.handle, e84.blk.at_, (e84.words.n : Nat), (e84.links.n : Nat)])) ++ encW o86.words))), BlkA b113 3 [(.int .i64 e84.handle), (.int .i64 e84.blk.at_), (.int .i64 (e84.words.n : Nat)), (.int .i64 (e84.links.n : Nat))], BlkA b99 136 e84.cells, BlkA b2 47 rh.cells, Fix w NoB] w140 := K139 _ _ g141
     have z143 := (H142.fix (i := 5) rfl).size
     refine RL.nil (thn.n (CW.region ?_))
     refine RL.go rfl rfl rfl (Ex.mv (v := (.pointer (some ⟨b16, 0, none⟩))) rfl) ?_
     refine RL.go rfl rfl rfl (fa136_3 (b := ⟨b99, 4, none⟩) rfl rfl) ?_
     refine RL.go rfl rfl rfl (Ex.ldv rfl (loadC1 lo134 (Ob.cell (v := (.slice e84.links.a e84.links.n e84.links.c)) (H142.ob (i := 3) rfl) rfl))) ?_
     obtain ⟨S148, hS149, hO150, K151⟩ := Sp.takeL (l1 := [BlkA b16 166 [.slice A132 n133 c134], RowA 5 1 A132 n133 c134 (bcs ((((((encN [rh.order, rh.next] ++ encN [rh.t0, rh.t1, rh.t2, rh.t3]) ++ encN [((rh.objs.n : Nat) : Int)]) ++ putObjs (h.objs.take k)) ++ encN ([e84.handle, e84.blk.at_, (e84.words.n : Nat), (e84.links.n : Nat)])) ++ encW o86.words)))]) (l2 := [BlkA b113 3 [(.int .i64 e84.handle), (.int .i64 e84.blk.at_), (.int .i64 (e84.words.n : Nat)), (.int .i64 (e84.links.n : Nat))], BlkA b99 136 e84.cells, BlkA b2 47 rh.cells, Fix w NoB]) (w := w140) H142
     refine RL.call Tryz.call145 (outN2 _ S148 b16 n133 c134 A132 ((((((encN [rh.order, rh.next] ++ encN [rh.t0, rh.t1, rh.t2, rh.t3]) ++ encN [((rh.objs.n : Nat) : Int)]) ++ putObjs (h.objs.take k)) ++ encN ([e84.handle, e84.blk.at_, (e84.words.n : Nat), (e84.links.n : Nat)])) ++ encW o86.words)) hS149 o86.links _ e84.links.n e84.links.c (RdN.of_fix hO150 (j := 3) rfl oR88.rl (by omega)) (by first | rfl | assumption | omega) (ho5) (by simp only [bcs_length, ics_length, rows_length, blks_length, robjs_length, ents_length, List.length_append, List.length_cons, List.length_nil, List.length_take, List.length_drop, List.length_map, enc4, enc8, encN_len, encW_len] at *; omega)) rfl rfl rfl ?_
     rintro _ w152 ⟨A144, n145, c146, rfl, g153, hn147⟩
     have H154 : Sp [BlkA b16 166 [.slice A144 n145 c146], RowA 5 1 A144 n145 c146 (bcs (((((((encN [rh.order, rh.next] ++ encN [rh.t0, rh.t1, rh.t2, rh.t3]) ++ encN [((rh.objs.n : Nat) : Int)]) ++ putObjs (h.objs.take k)) ++ encN ([e84.handle, e84.blk.at_, (e84.words.n : Nat), (e84.links.n : Nat)])) ++ encW o86.words) ++ encN o86.links))), BlkA b113 3 [(.int .i64 e84.handle), (.int .i64 e84.blk.at_), (.int .i64 (e84.words.n : Nat)), (.int .i64 (e84.links.n : Nat))], BlkA b99 136 e84.cells, BlkA b2 47 rh.cells, Fix w NoB] w152 := K151 _ _ g153
     have z155 := (H154.fix (i := 5) rfl).size
     refine RL.nil (inB.n (thn.n (CW.region ?_)))
     refine RL.go rfl rfl rfl (Ex.add (r := (k : Int) + 1) rfl rfl (w64 (by omega) (by omega))) ?_
     refine RL.go rfl rfl rfl (Ex.mv (v := (.int .i64 ((k : Int) + 1))) rfl) ?_
     refine RL.nil (thn.n ?_)
     have H156 : Sp [BlkA b16 166 [.slice A144 n145 c146], RowA 5 1 A144 n145 c146 (bcs ((((encN [rh.order, rh.next] ++ encN [rh.t0, rh.t1, rh.t2, rh.t3]) ++ encN [((rh.objs.n : Nat) : Int)]) ++ putObjs (h.objs.take (k + 1))))), BlkA b113 3 [(.int .i64 e84.handle), (.int .i64 e84.blk.at_), (.int .i64 (e84.words.n : Nat)), (.int .i64 (e84.links.n : Nat))], BlkA b99 136 e84.cells, BlkA b2 47 rh.cells, Fix w NoB] w152 := H154.eqR (i := 1) rfl rfl (by rw [take_snoc ho87, putObjs_snoc, putObj, ← oR88.wl, ← oR88.ll, ← oR88.h, ← oR88.b]; simp only [List.append_assoc]) rfl
     refine ⟨(by repeat (first | exact Out.mix _ _ | exact Out.refl _ _ | refine Out.up ?_ rfl _)), _, ?_, k + 1, n145, c146, A144, rfl, rfl, (H156.sel [0, 1, 4, 5] (by decide) rfl), by omega, by simp only [bcs_length, ics_length, rows_length, blks_length, robjs_length, ents_length, List.length_append, List.length_cons, List.length_nil, List.length_take, List.length_drop, List.length_map, enc4, enc8, encN_len, encW_len] at *; omega⟩
     omega
    ·skip
     refine RL.nil (thn.n (CW.seq (CW.condF rfl (CW.exit (thn.x (thn.x (inB.hit (thn.n (CW.seq (CW.region ?_))))))))))
     refine RL.go rfl rfl rfl (Ex.mv (v := (.pointer (some ⟨b16, 0, none⟩))) rfl) ?_
     refine RL.go rfl rfl rfl (Ex.nck rfl) ?_
     refine RL.go rfl rfl rfl (fa166_0 (b := ⟨b16, 0, none⟩) rfl rfl) ?_
     refine RL.go rfl rfl rfl (Ex.ldv rfl (loadC1 lo97 (Ob.cell (v := (.slice A1 n1 c1)) (H81.ob (i := 0) rfl) rfl))) ?_
     refine RL.go rfl rfl rfl (Ex.as (v := (.slice A1 n1 c1)) rfl) ?_
     refine RL.go rfl rfl rfl (Ex.as (v := (.int .i64 0)) rfl) ?_
     refine RL.nil (thn.n (CW.ret ?_))
     refine finQ.r (v := (.tuple #[(.slice A1 n1 c1), (.int .i64 0)])) (res2 rfl rfl rfl) ?_
     have hkk : h.objs.take k = h.objs := List.take_of_length_le (by omega)
     have hx : (((encN [rh.order, rh.next] ++ encN [rh.t0, rh.t1, rh.t2, rh.t3]) ++ encN [((rh.objs.n : Nat) : Int)]) ++ putObjs (h.objs.take k)) = putHeapL h := by rw [hkk]; unfold putHeapL; rw [← H.order, ← H.next, ← H.tops, ← hol, ← hon]
     rw [hx] at H81
     exact ⟨_, _, _, by unfold putHeapX; rw [hbb]; rfl, by unfold putHeapX; rw [hbb]; exact (H81.sel [1, 3] (by decide) rfl)⟩
set_option maxHeartbeats 1000000 in
set_option maxRecDepth 20000 in
theorem putState_ (w : World) (B : Nat) (rs : RState) (ros : List RObj) (s : State) (H : StateR w B rs ros s) (hB : B ≤ w.heap.size) : Ret Tryz.prog 74 [(.agg (rs.cells).toArray)] w (fun v w' => ∃ (A' : Option Addr) (n' c' : Nat), v = .tuple #[.slice A' n' c', .int .i64 (putStateX s).2] ∧ Sp ([RowA 5 1 A' n' c' (bcs (putStateX s).1)] ++ [Fix w NoB]) w') := by
  have hrn := H.rn
  have hrm := H.rm
  have H0 : Sp [Fix w NoB] w := Sp.start w
  refine Ret.body Tryz.func74 rfl rfl rfl ?_
  refine CW.seq (CW.region ?_)
  refine RL.bx (cs := rs.cells) rfl rfl rfl ?_
  intro w1 b2 hb3 hz4 g5 o6
  have H7 := H0.newB g5 o6 (by omega)
  have z8 := g5.size
  refine RL.go rfl rfl rfl (Ex.as (v := (.slice none 0 0)) rfl) ?_
  refine RL.go rfl rfl rfl (Ex.as (v := (.int .i64 0)) rfl) ?_
  refine RL.nil (thn.n (CW.seq (CW.seq (CW.region ?_))))
  refine RL.go rfl rfl rfl (Ex.ldv rfl (loadCN (cs := rs.cells) wh50 (H7.ob (i := 0) rfl).cl)) ?_
  refine RL.call Tryz.call96 (imgCheck_ _ _ rs _ _ (H.st0 (H7.fix (i := 1) rfl)) (by omega)) rfl rfl rfl ?_
  rintro _ w9 ⟨rfl, g10⟩
  have H11 := H7.grow g10
  have z12 := g10.size
  refine RL.go rfl rfl rfl (Ex.as (v := (.int .i64 (if stateB s then 0 else 60))) rfl) ?_
  refine RL.nil (thn.n (CW.seq (CW.region ?_)))
  refine RL.go rfl rfl rfl (Ex.mv (v := (.int .i64 (if stateB s then 0 else 60))) rfl) ?_
  refine RL.br (p := ((if stateB s then 0 else 60) : Int) ≠ (0 : Int)) rfl rfl rfl (fun r hr => Ex.neD rfl rfl hr) (fun h13 => ?_) (fun h13 => ?_)
  ·skip
   refine RL.nil (thn.n (CW.condT rfl (CW.seq (CW.region ?_))))
   refine RL.go rfl rfl rfl (Ex.mv (v := (.int .i64 (if stateB s then 0 else 60))) rfl) ?_
   refine RL.go rfl rfl rfl (Ex.as (v := (.slice none 0 0)) rfl) ?_
   refine RL.go rfl rfl rfl (Ex.as (v := (.int .i64 (if stateB s then 0 else 60))) rfl) ?_
   refine RL.nil (thn.n (CW.ret (thn.r ?_)))
   refine finQ.r (v := (.tuple #[(.slice none 0 0), (.int .i64 (if stateB s then 0 else 60))])) (res2 rfl rfl rfl) ?_
   have H14 := H11.nil_ 5 1
   have hbb : stateB s = false := by
     cases hkb : stateB s with
     | false => rfl
     | true => rw [hkb] at h13; exact absurd rfl h13
   exact ⟨none, 0, 0, by unfold putStateX; rw [hbb]; rfl, by unfold putStateX; rw [hbb]; exact (H14.sel [0, 2] (by decide) rfl)⟩
  ·skip
   refine RL.nil (thn.n (CW.condF rfl (CW.skip (thn.n (CW.seq (CW.region ?_))))))
   refine RL.go rfl rfl rfl (fa50_0 (b := ⟨b2, 0, none⟩) rfl rfl) ?_
   refine RL.go rfl rfl rfl (Ex.ldv rfl (loadCN (cs := [(.int .i64 rs.heap.order), (.slice rs.heap.objs.a rs.heap.objs.n rs.heap.objs.c), (.int .i64 rs.heap.next), (.int .i64 rs.heap.t0), (.int .i64 rs.heap.t1), (.int .i64 rs.heap.t2), (.int .i64 rs.heap.t3), (.slice rs.heap.free.a rs.heap.free.n rs.heap.free.c)]) wh47 ((H11.ob (i := 0) rfl).sub 0 8))) ?_
   refine RL.call Tryz.call77 (putHeap_ _ _ rs.heap _ _ (H.heap.st0 (H11.fix (i := 1) rfl)) (by omega)) rfl rfl rfl ?_
   rintro _ w18 ⟨A15, n16, c17, rfl, g19⟩
   have g20 := g19.fix (i := 1) rfl
   have H21 : Sp [RowA 5 1 A15 n16 c17 (bcs ((putHeapX s.heap).1)), BlkA b2 50 rs.cells, Fix w NoB] w18 := H11.join (m := [RowA 5 1 A15 n16 c17 (bcs ((putHeapX s.heap).1))]) g19
   have z22 := g20.size
   refine RL.go rfl rfl rfl (Ex.mv (v := (.tuple #[(.slice A15 n16 c17), (.int .i64 ((putHeapX s.heap).2))])) rfl) ?_
   refine RL.go rfl rfl rfl (Ex.ext (vs := [(.slice A15 n16 c17), (.int .i64 ((putHeapX s.heap).2))]) (v := (.slice A15 n16 c17)) rfl rfl) ?_
   refine RL.go rfl rfl rfl (Ex.ext (vs := [(.slice A15 n16 c17), (.int .i64 ((putHeapX s.heap).2))]) (v := (.int .i64 ((putHeapX s.heap).2))) rfl rfl) ?_
   refine RL.go rfl rfl rfl (Ex.as (v := (.slice A15 n16 c17)) rfl) ?_
   refine RL.go rfl rfl rfl (Ex.as (v := (.int .i64 ((putHeapX s.heap).2))) rfl) ?_
   refine RL.nil (thn.n (CW.seq (CW.region ?_)))
   refine RL.go rfl rfl rfl (Ex.bd (cs := [(.slice none 0 0)]) bd166 rfl) ?_
   refine RL.bx (cs := [(.slice none 0 0)]) rfl rfl rfl ?_
   intro w23 b24 hb25 hz26 g27 o28
   have H29 := H21.newB g27 o28 (by omega)
   have z30 := g27.size
   refine RL.go rfl rfl rfl (Ex.as (v := (.pointer (some ⟨b24, 0, none⟩))) rfl) ?_
   refine RL.nil (thn.n (CW.seq (CW.region ?_)))
   refine RL.go rfl rfl rfl (Ex.mv (v := (.pointer (some ⟨b24, 0, none⟩))) rfl) ?_
   refine RL.go rfl rfl rfl (Ex.mv (v := (.slice A15 n16 c17)) rfl) ?_
   have hln := H29.len (i := 1) rfl
   rw [bcs_length] at hln
   have hsb : stateB s = true := by
      cases hkb : stateB s with
      | true => rfl
      | false => rw [hkb] at h13; exact absurd h13 (by decide)
   have hsb2 := stateB_t hsb
   have hph : (putHeapX s.heap).1 = putHeapL s.heap := by unfold putHeapX; rw [if_pos hsb2.1]
   have hpl := putHeapL_len hsb2.1
   have hrl := rowsB_len (by omega) hsb2.2
   have hrr := rowsB_rng (Int.le_refl 0) hsb2.2
   rw [hph] at hln H29
   refine RL.go rfl rfl rfl (Ex.b2s (bs := putHeapL s.heap) Tryz.underlying97 Tryz.underlying5 Tryz.underlying9 rfl (H29.rowrd (i := 1) rfl) (by omega)) ?_
   have htk : (putHeapL s.heap).take n16 = putHeapL s.heap := List.take_of_length_le (by omega)
   rw [htk]
   refine RL.call Tryz.call144 (putText_ _ 0 0 0 _ ([]) (Rd.nil_ _ 0 1 none) (by first | rfl | omega) (by omega) (putHeapL s.heap) (by omega)) rfl rfl rfl ?_
   rintro _ w36 ⟨A31, m32, c33, rfl, g37, hm34, ow35⟩
   have H38 := H29.newR g37 ow35 (Nat.le_refl _)
   have z39 := g37.size
   refine RL.go rfl rfl rfl (Ex.mv (v := (.tuple #[(.slice A31 m32 c33), (.int .i64 0)])) rfl) ?_
   refine RL.go rfl rfl rfl (Ex.ext (vs := [(.slice A31 m32 c33), (.int .i64 0)]) (v := (.slice A31 m32 c33)) rfl rfl) ?_
   refine RL.go rfl rfl rfl (Ex.ext (vs := [(.slice A31 m32 c33), (.int .i64 0)]) (v := (.int .i64 0)) rfl rfl) ?_
   refine RL.go rfl rfl rfl (Ex.nck rfl) ?_
   refine RL.go rfl rfl rfl (fa166_0 (b := ⟨b24, 0, none⟩) rfl rfl) ?_
   refine RL.st (vs := [(.slice A31 m32 c33)]) (cs' := [(.slice A31 m32 c33)]) Tryz.sizeOf97 (H38.ob (i := 1) rfl) rfl rfl rfl rfl rfl rfl ?_
   intro w40 hz41 g42 o43
   have H44 : Sp [RowA 5 1 A31 m32 c33 (bcs (([] ++ enc4 (putHeapL s.heap).length ++ (putHeapL s.heap)))), BlkA b24 166 [(.slice A31 m32 c33)], RowA 5 1 A15 n16 c17 (bcs (putHeapL s.heap)), BlkA b2 50 rs.cells, Fix w NoB] w40 := H38.setB (i := 1) rfl g42 o43 rfl
   have z45 := g42.size
   refine RL.nil (thn.n (CW.seq (CW.region ?_)))
   refine RL.go rfl rfl rfl (Ex.mv (v := (.pointer (some ⟨b24, 0, none⟩))) rfl) ?_
   refine RL.go rfl rfl rfl (fa50_1 (b := ⟨b2, 8, none⟩) rfl rfl) ?_
   refine RL.go rfl rfl rfl (Ex.ldv rfl (loadC1 lo48 (Ob.cell (v := (.slice rs.rows.a rs.rows.n rs.rows.c)) (H44.ob (i := 3) rfl) rfl))) ?_
   refine RL.go rfl rfl rfl (Ex.len Tryz.underlying48 rfl) ?_
   refine RL.bs (cs := [(.int .i64 (rs.rows.n : Nat))]) Tryz.underlying134 Tryz.sizeOf3 ze134 rfl rfl rfl (by decide) rfl rfl rfl ?_
   intro w46 b47 hb48 hz49 g50 o51
   have H52 := H44.newB g50 o51 (by omega)
   have z53 := g50.size
   obtain ⟨S58, hS59, hO60, K61⟩ := Sp.takeL (l1 := [BlkA b24 166 [(.slice A31 m32 c33)], RowA 5 1 A31 m32 c33 (bcs (([] ++ enc4 (putHeapL s.heap).length ++ (putHeapL s.heap))))]) (l2 := [BlkA b47 3 [(.int .i64 (rs.rows.n : Nat))], RowA 5 1 A15 n16 c17 (bcs (putHeapL s.heap)), BlkA b2 50 rs.cells, Fix w NoB]) (w := w46) (H52.sel [2, 1, 0, 3, 4, 5] (by decide) rfl)
   refine RL.call Tryz.call145 (outN2 _ S58 b24 m32 c33 A31 (([] ++ enc4 (putHeapL s.heap).length ++ (putHeapL s.heap))) hS59 ([(rs.rows.n : Nat)]) _ 1 1 (RdN.of_blk hO60 (j := 0) rfl (Ob.rdI (l := [(rs.rows.n : Nat)]) (H52.ob (i := 0) rfl) rfl)) (by first | rfl | assumption | omega) (by intro x hx; simp only [List.mem_cons, List.not_mem_nil, or_false] at hx; omega) (by simp only [bcs_length, ics_length, rows_length, blks_length, robjs_length, ents_length, List.length_append, List.length_cons, List.length_nil, List.length_take, List.length_drop, List.length_map, enc4, enc8, encN_len, encW_len] at *; omega)) rfl rfl rfl ?_
   rintro _ w62 ⟨A54, n55, c56, rfl, g63, hn57⟩
   have H65 : Sp [BlkA b24 166 [.slice A54 n55 c56], RowA 5 1 A54 n55 c56 (bcs ((([] ++ enc4 (putHeapL s.heap).length ++ (putHeapL s.heap)) ++ encN ([(rs.rows.n : Nat)])))), BlkA b47 3 [(.int .i64 (rs.rows.n : Nat))], RowA 5 1 A15 n16 c17 (bcs (putHeapL s.heap)), BlkA b2 50 rs.cells, Fix w NoB] w62 := K61 _ _ g63
   have z66 := (H65.fix (i := 5) rfl).size
   refine RL.nil (thn.n (CW.seq (CW.seq (CW.region ?_))))
   refine RL.go rfl rfl rfl (fa50_1 (b := ⟨b2, 8, none⟩) rfl rfl) ?_
   refine RL.go rfl rfl rfl (Ex.ldv rfl (loadC1 lo48 (Ob.cell (v := (.slice rs.rows.a rs.rows.n rs.rows.c)) (H65.ob (i := 4) rfl) rfl))) ?_
   refine RL.go rfl rfl rfl (Ex.len Tryz.underlying48 rfl) ?_
   refine RL.go rfl rfl rfl (Ex.mv (v := (.int .i64 0)) rfl) ?_
   refine RL.nil (thn.n (CW.block ?_))
   have hz0 : (([] ++ enc4 (putHeapL s.heap).length ++ (putHeapL s.heap)) ++ encN ([(rs.rows.n : Nat)])) = ((([] ++ enc4 (putHeapL s.heap).length ++ putHeapL s.heap) ++ encN [((rs.rows.n : Nat) : Int)]) ++ putRows (s.rows.take 0)) := by simp [putRows]
   refine CW.loop (fun t => Nat.beq t 9 || (Nat.ble 41 t && Nat.ble t 61)) (fun nL ρ wl => ∃ (k n1 c1 : Nat) (A1 : Option Addr), ρ 41 = (.int .i64 (k : Int)) ∧ nL = rs.rows.n - k ∧ Sp [BlkA b24 166 [.slice A1 n1 c1], RowA 5 1 A1 n1 c1 (bcs (((([] ++ enc4 (putHeapL s.heap).length ++ putHeapL s.heap) ++ encN [((rs.rows.n : Nat) : Int)]) ++ putRows (s.rows.take k)))), BlkA b2 50 rs.cells, Fix w NoB] wl ∧ k ≤ rs.rows.n ∧ n1 ≤ 4132 + 20 * k) (rs.rows.n) ?aa0 ?bb0
   case aa0 =>
    have H67 : Sp [BlkA b24 166 [.slice A54 n55 c56], RowA 5 1 A54 n55 c56 (bcs (((([] ++ enc4 (putHeapL s.heap).length ++ putHeapL s.heap) ++ encN [((rs.rows.n : Nat) : Int)]) ++ putRows (s.rows.take 0)))), BlkA b47 3 [(.int .i64 (rs.rows.n : Nat))], RowA 5 1 A15 n16 c17 (bcs (putHeapL s.heap)), BlkA b2 50 rs.cells, Fix w NoB] w62 := H65.eqR (i := 1) rfl rfl (congrArg bcs hz0) rfl
    exact ⟨0, n55, c56, A54, rfl, rfl, (H67.sel [0, 1, 4, 5] (by decide) rfl), Nat.zero_le _, by simp only [bcs_length, ics_length, rows_length, blks_length, robjs_length, ents_length, List.length_append, List.length_cons, List.length_nil, List.length_take, List.length_drop, List.length_map, enc4, enc8, encN_len, encW_len] at *; omega⟩
   case bb0 =>
    rintro n69 ρ0 w68 ho70 ⟨k, n1, c1, A1, hs0_41, hn0, H71, hk, hn1⟩
    obtain ⟨j0, rfl⟩ := ho70.shape1 hs0_41
    clear ho70 hs0_41
    subst hn0
    have z72 := (H71.fix (i := 3) rfl).size
    have hlen := (H71.len (i := 1) rfl)
    rw [bcs_length] at hlen
    refine CW.seq (CW.region ?_)
    refine RL.br (p := ((k : Int) : Int) < ((rs.rows.n : Nat) : Int)) rfl rfl rfl (fun r hr => Ex.lt rfl rfl hr) (fun h73 => ?_) (fun h73 => ?_)
    ·skip
     refine RL.nil (thn.n (CW.seq (CW.condT rfl (CW.skip (thn.n (CW.seq (CW.block (CW.seq (CW.region ?_)))))))))
     obtain ⟨e74, he75⟩ : ∃ e, (s.rows)[k]? = some e := ⟨_, List.getElem?_eq_getElem (by omega)⟩
     obtain ⟨ad76, hA77⟩ := Rd.sm (H.rr.st0 (H71.fix (i := 3) rfl)) (rows_get he75)
     have hl78 := Eng.lt_len (rows_get he75)
     refine RL.go rfl rfl rfl (Ex.ix (b := (ad76.add (k * 4))) (i := k) Tryz.underlying48 Tryz.sizeOf123 (by rw [← hA77]; rfl) rfl (by omega) (by omega) rfl) ?_
     refine RL.go rfl rfl rfl (Ex.ldv rfl (loadCN (cs := e74.cells) wh123 (Rd.cl (H.rr.st0 (H71.fix (i := 3) rfl)) hA77 (rows_get he75)))) ?_
     refine RL.al (cs := [(.int .i64 0), (.int .i64 0), (.int .i64 0), (.int .i64 0)]) Tryz.zeroValue123 rfl rfl rfl ?_
     intro w79 b80 hb81 hz82 g83 o84
     have H85 := H71.newB g83 o84 (by omega)
     have z86 := g83.size
     refine RL.st (vs := e74.cells) (cs' := e74.cells) Tryz.sizeOf123 (H85.ob (i := 0) rfl) rfl rfl rfl rfl rfl rfl ?_
     intro w87 hz88 g89 o90
     have H91 : Sp [BlkA b80 123 e74.cells, BlkA b24 166 [.slice A1 n1 c1], RowA 5 1 A1 n1 c1 (bcs (((([] ++ enc4 (putHeapL s.heap).length ++ putHeapL s.heap) ++ encN [((rs.rows.n : Nat) : Int)]) ++ putRows (s.rows.take k)))), BlkA b2 50 rs.cells, Fix w NoB] w87 := H85.setB (i := 0) rfl g89 o90 rfl
     have z92 := g89.size
     refine RL.nil (thn.n (CW.seq (CW.region ?_)))
     have hob := hrr e74 (List.mem_of_getElem? he75)
     refine RL.go rfl rfl rfl (Ex.mv (v := (.pointer (some ⟨b24, 0, none⟩))) rfl) ?_
     refine RL.go rfl rfl rfl (fa123_0 (b := ⟨b80, 0, none⟩) rfl rfl) ?_
     refine RL.go rfl rfl rfl (Ex.ldv rfl (loadC1 lo3 (Ob.cell (v := (.int .i64 e74.client)) (H91.ob (i := 0) rfl) rfl))) ?_
     refine RL.go rfl rfl rfl (fa123_1 (b := ⟨b80, 1, none⟩) rfl rfl) ?_
     refine RL.go rfl rfl rfl (Ex.ldv rfl (loadC1 lo3 (Ob.cell (v := (.int .i64 e74.seq)) (H91.ob (i := 0) rfl) rfl))) ?_
     refine RL.go rfl rfl rfl (fa123_2 (b := ⟨b80, 2, none⟩) rfl rfl) ?_
     refine RL.go rfl rfl rfl (fa55_0 (b := ⟨b80, 2, none⟩) rfl rfl) ?_
     refine RL.go rfl rfl rfl (Ex.ldv rfl (loadC1 lo53 (Ob.cell (v := (.int .i64 e74.code)) (H91.ob (i := 0) rfl) rfl))) ?_
     refine RL.bs (cs := [(.int .i64 e74.client), (.int .i64 e74.seq), (.int .i64 e74.code)]) Tryz.underlying134 Tryz.sizeOf3 ze134 rfl rfl rfl (by decide) rfl rfl rfl ?_
     intro w93 b94 hb95 hz96 g97 o98
     have H99 := H91.newB g97 o98 (by omega)
     have z100 := g97.size
     obtain ⟨S105, hS106, hO107, K108⟩ := Sp.takeL (l1 := [BlkA b24 166 [.slice A1 n1 c1], RowA 5 1 A1 n1 c1 (bcs (((([] ++ enc4 (putHeapL s.heap).length ++ putHeapL s.heap) ++ encN [((rs.rows.n : Nat) : Int)]) ++ putRows (s.rows.take k))))]) (l2 := [BlkA b94 3 [(.int .i64 e74.client), (.int .i64 e74.seq), (.int .i64 e74.code)], BlkA b80 123 e74.cells, BlkA b2 50 rs.cells, Fix w NoB]) (w := w93) (H99.sel [2, 3, 0, 1, 4, 5] (by decide) rfl)
     refine RL.call Tryz.call145 (outN2 _ S105 b24 n1 c1 A1 (((([] ++ enc4 (putHeapL s.heap).length ++ putHeapL s.heap) ++ encN [((rs.rows.n : Nat) : Int)]) ++ putRows (s.rows.take k))) hS106 ([e74.client, e74.seq, e74.code]) _ 3 3 (RdN.of_blk hO107 (j := 0) rfl (Ob.rdI (l := [e74.client, e74.seq, e74.code]) (H99.ob (i := 0) rfl) rfl)) (by first | rfl | assumption | omega) (by intro x hx; simp only [List.mem_cons, List.not_mem_nil, or_false] at hx; omega) (by simp only [bcs_length, ics_length, rows_length, blks_length, robjs_length, ents_length, List.length_append, List.length_cons, List.length_nil, List.length_take, List.length_drop, List.length_map, enc4, enc8, encN_len, encW_len] at *; omega)) rfl rfl rfl ?_
     rintro _ w109 ⟨A101, n102, c103, rfl, g110, hn104⟩
     have H111 : Sp [BlkA b24 166 [.slice A101 n102 c103], RowA 5 1 A101 n102 c103 (bcs ((((([] ++ enc4 (putHeapL s.heap).length ++ putHeapL s.heap) ++ encN [((rs.rows.n : Nat) : Int)]) ++ putRows (s.rows.take k)) ++ encN ([e74.client, e74.seq, e74.code])))), BlkA b94 3 [(.int .i64 e74.client), (.int .i64 e74.seq), (.int .i64 e74.code)], BlkA b80 123 e74.cells, BlkA b2 50 rs.cells, Fix w NoB] w109 := K108 _ _ g110
     have z112 := (H111.fix (i := 5) rfl).size
     refine RL.nil (thn.n (CW.region ?_))
     refine RL.go rfl rfl rfl (Ex.mv (v := (.pointer (some ⟨b24, 0, none⟩))) rfl) ?_
     refine RL.go rfl rfl rfl (fa123_2 (b := ⟨b80, 2, none⟩) rfl rfl) ?_
     refine RL.go rfl rfl rfl (fa55_1 (b := ⟨b80, 3, none⟩) rfl rfl) ?_
     refine RL.go rfl rfl rfl (Ex.ldv rfl (loadC1 lo3 (Ob.cell (v := (.int .i64 e74.value)) (H111.ob (i := 3) rfl) rfl))) ?_
     refine RL.bs (cs := [(.int .i64 e74.value)]) Tryz.underlying134 Tryz.sizeOf3 ze134 rfl rfl rfl (by decide) rfl rfl rfl ?_
     intro w113 b114 hb115 hz116 g117 o118
     have H119 := H111.newB g117 o118 (by omega)
     have z120 := g117.size
     obtain ⟨S125, hS126, hO127, K128⟩ := Sp.takeL (l1 := [BlkA b24 166 [.slice A101 n102 c103], RowA 5 1 A101 n102 c103 (bcs ((((([] ++ enc4 (putHeapL s.heap).length ++ putHeapL s.heap) ++ encN [((rs.rows.n : Nat) : Int)]) ++ putRows (s.rows.take k)) ++ encN ([e74.client, e74.seq, e74.code]))))]) (l2 := [BlkA b114 3 [(.int .i64 e74.value)], BlkA b94 3 [(.int .i64 e74.client), (.int .i64 e74.seq), (.int .i64 e74.code)], BlkA b80 123 e74.cells, BlkA b2 50 rs.cells, Fix w NoB]) (w := w113) (H119.sel [1, 2, 0, 3, 4, 5, 6] (by decide) rfl)
     refine RL.call Tryz.call146 (outI2 _ S125 b24 n102 c103 A101 ((((([] ++ enc4 (putHeapL s.heap).length ++ putHeapL s.heap) ++ encN [((rs.rows.n : Nat) : Int)]) ++ putRows (s.rows.take k)) ++ encN ([e74.client, e74.seq, e74.code]))) hS126 ([e74.value]) _ 1 1 (RdN.of_blk hO127 (j := 0) rfl (Ob.rdI (l := [e74.value]) (H119.ob (i := 0) rfl) rfl)) (by first | rfl | assumption | omega) (by simp only [bcs_length, ics_length, rows_length, blks_length, robjs_length, ents_length, List.length_append, List.length_cons, List.length_nil, List.length_take, List.length_drop, List.length_map, enc4, enc8, encN_len, encW_len] at *; omega)) rfl rfl rfl ?_
     rintro _ w129 ⟨A121, n122, c123, rfl, g130, hn124⟩
     have H131 : Sp [BlkA b24 166 [.slice A121 n122 c123], RowA 5 1 A121 n122 c123 (bcs (((((([] ++ enc4 (putHeapL s.heap).length ++ putHeapL s.heap) ++ encN [((rs.rows.n : Nat) : Int)]) ++ putRows (s.rows.take k)) ++ encN ([e74.client, e74.seq, e74.code])) ++ encW ([e74.value])))), BlkA b114 3 [(.int .i64 e74.value)], BlkA b94 3 [(.int .i64 e74.client), (.int .i64 e74.seq), (.int .i64 e74.code)], BlkA b80 123 e74.cells, BlkA b2 50 rs.cells, Fix w NoB] w129 := K128 _ _ g130
     have z132 := (H131.fix (i := 6) rfl).size
     refine RL.nil (inB.n (thn.n (CW.region ?_)))
     refine RL.go rfl rfl rfl (Ex.add (r := (k : Int) + 1) rfl rfl (w64 (by omega) (by omega))) ?_
     refine RL.go rfl rfl rfl (Ex.mv (v := (.int .i64 ((k : Int) + 1))) rfl) ?_
     refine RL.nil (thn.n ?_)
     have H133 : Sp [BlkA b24 166 [.slice A121 n122 c123], RowA 5 1 A121 n122 c123 (bcs (((([] ++ enc4 (putHeapL s.heap).length ++ putHeapL s.heap) ++ encN [((rs.rows.n : Nat) : Int)]) ++ putRows (s.rows.take (k + 1))))), BlkA b114 3 [(.int .i64 e74.value)], BlkA b94 3 [(.int .i64 e74.client), (.int .i64 e74.seq), (.int .i64 e74.code)], BlkA b80 123 e74.cells, BlkA b2 50 rs.cells, Fix w NoB] w129 := H131.eqR (i := 1) rfl rfl (by rw [take_snoc he75, putRows_snoc, putRow]; simp only [List.append_assoc]) rfl
     refine ⟨(by repeat (first | exact Out.mix _ _ | exact Out.refl _ _ | refine Out.up ?_ rfl _)), _, ?_, k + 1, n122, c123, A121, rfl, rfl, (H133.sel [0, 1, 5, 6] (by decide) rfl), by omega, by simp only [bcs_length, ics_length, rows_length, blks_length, robjs_length, ents_length, List.length_append, List.length_cons, List.length_nil, List.length_take, List.length_drop, List.length_map, enc4, enc8, encN_len, encW_len] at *; omega⟩
     omega
    ·skip
     refine RL.nil (thn.n (CW.seq (CW.condF rfl (CW.exit (thn.x (thn.x (inB.hit (thn.n (CW.seq (CW.region ?_))))))))))
     refine RL.go rfl rfl rfl (Ex.mv (v := (.pointer (some ⟨b24, 0, none⟩))) rfl) ?_
     refine RL.go rfl rfl rfl (Ex.nck rfl) ?_
     refine RL.go rfl rfl rfl (fa166_0 (b := ⟨b24, 0, none⟩) rfl rfl) ?_
     refine RL.go rfl rfl rfl (Ex.ldv rfl (loadC1 lo97 (Ob.cell (v := (.slice A1 n1 c1)) (H71.ob (i := 0) rfl) rfl))) ?_
     refine RL.go rfl rfl rfl (Ex.as (v := (.slice A1 n1 c1)) rfl) ?_
     refine RL.go rfl rfl rfl (Ex.as (v := (.int .i64 0)) rfl) ?_
     refine RL.nil (thn.n (CW.ret ?_))
     refine finQ.r (v := (.tuple #[(.slice A1 n1 c1), (.int .i64 0)])) (res2 rfl rfl rfl) ?_
     have hkk : s.rows.take k = s.rows := List.take_of_length_le (by omega)
     have hx : ((([] ++ enc4 (putHeapL s.heap).length ++ putHeapL s.heap) ++ encN [((rs.rows.n : Nat) : Int)]) ++ putRows (s.rows.take k)) = putStateL s := by rw [hkk]; unfold putStateL; rw [H.rn]; rfl
     rw [hx] at H71
     exact ⟨_, _, _, by unfold putStateX; rw [hsb]; rfl, by unfold putStateX; rw [hsb]; exact (H71.sel [1, 3] (by decide) rfl)⟩
set_option maxHeartbeats 400000 in
set_option maxRecDepth 20000 in
theorem oplogNew_ (w : World) (o : Int) : Ret Tryz.prog 55 [(.int .i64 o)] w (fun v w' => v = .tuple #[.agg [.int .i64 (newK o).2.view, .int .i64 (newK o).2.normal, .int .i64 (newK o).2.base, .string (tx (newK o).2.image), .slice none 0 0].toArray, .int .i64 (newK o).1] ∧ w.grownBy w' none) := by
  have H0 : Sp [Fix w NoB] w := Sp.start w
  refine Ret.body Tryz.func55 rfl rfl rfl ?_
  refine CW.seq (CW.region ?_)
  refine RL.al (cs := [(.int .i64 0), (.int .i64 0), (.int .i64 0), (.string (⟨#[]⟩)), (.slice none 0 0)]) Tryz.zeroValue24 rfl rfl rfl ?_
  intro w1 b2 hb3 hz4 g5 o6
  have H7 := H0.newB g5 o6 (by omega)
  have z8 := g5.size
  refine RL.go rfl rfl rfl (Ex.as (v := (.int .i64 0)) rfl) ?_
  refine RL.nil (thn.n (CW.seq (CW.region ?_)))
  refine RL.go rfl rfl rfl (Ex.mv (v := (.int .i64 o)) rfl) ?_
  refine RL.call Tryz.call107 (tableNew_ _ o) rfl rfl rfl ?_
  rintro _ w13 (⟨rs9, rfl, g14, hw10, S11⟩ | ⟨rfl, g15, hw12⟩)
  ·skip
   have H16 := H7.newS g14 S11 (Nat.le_refl _)
   have z17 := g14.size
   refine RL.go rfl rfl rfl (Ex.mv (v := (.tuple #[(.agg (rs9.cells).toArray), (.int .i64 0)])) rfl) ?_
   refine RL.go rfl rfl rfl (Ex.ext (vs := [(.agg (rs9.cells).toArray), (.int .i64 0)]) (v := (.agg (rs9.cells).toArray)) rfl rfl) ?_
   refine RL.go rfl rfl rfl (Ex.ext (vs := [(.agg (rs9.cells).toArray), (.int .i64 0)]) (v := (.int .i64 0)) rfl rfl) ?_
   refine RL.al (cs := [(.int .i64 0), (.slice none 0 0), (.int .i64 0), (.int .i64 0), (.int .i64 0), (.int .i64 0), (.int .i64 0), (.slice none 0 0), (.slice none 0 0)]) Tryz.zeroValue50 rfl rfl rfl ?_
   intro w18 b19 hb20 hz21 g22 o23
   have H24 := H16.newB g22 o23 (by omega)
   have z25 := g22.size
   refine RL.st (vs := rs9.cells) (cs' := rs9.cells) Tryz.sizeOf50 (H24.ob (i := 0) rfl) rfl rfl rfl rfl rfl rfl ?_
   intro w26 hz27 g28 o29
   have H30 : Sp [BlkA b19 50 rs9.cells, StA rs9 [] (⟨newHeap o, []⟩), BlkA b2 24 [(.int .i64 0), (.int .i64 0), (.int .i64 0), (.string (⟨#[]⟩)), (.slice none 0 0)], Fix w NoB] w26 := H24.setB (i := 0) rfl g28 o29 rfl
   have z31 := g28.size
   refine RL.go rfl rfl rfl (Ex.as (v := (.int .i64 0)) rfl) ?_
   refine RL.nil (thn.n (CW.seq (CW.seq (CW.region ?_))))
   refine RL.go rfl rfl rfl (Ex.mv (v := (.int .i64 0)) rfl) ?_
   refine RL.go rfl rfl rfl (Ex.neD (r := false) rfl rfl (by decide)) ?_
   refine RL.nil (thn.n (CW.condF rfl (CW.skip (thn.n (CW.seq (CW.region ?_))))))
   refine RL.go rfl rfl rfl (Ex.ldv rfl (loadCN (cs := rs9.cells) wh50 (H30.ob (i := 0) rfl).cl)) ?_
   refine RL.call Tryz.call74 (putState_ _ _ rs9 _ _ (H30.stR (i := 1) rfl) (Nat.le_refl _)) rfl rfl rfl ?_
   rintro _ w35 ⟨A32, n33, c34, rfl, g36⟩
   have g37 := g36.fix (i := 1) rfl
   have H38 : Sp [RowA 5 1 A32 n33 c34 (bcs ((putStateX (⟨newHeap o, []⟩)).1)), BlkA b19 50 rs9.cells, StA rs9 [] (⟨newHeap o, []⟩), BlkA b2 24 [(.int .i64 0), (.int .i64 0), (.int .i64 0), (.string (⟨#[]⟩)), (.slice none 0 0)], Fix w NoB] w35 := H30.join (m := [RowA 5 1 A32 n33 c34 (bcs ((putStateX (⟨newHeap o, []⟩)).1))]) g36
   have z39 := g37.size
   refine RL.go rfl rfl rfl (Ex.mv (v := (.tuple #[(.slice A32 n33 c34), (.int .i64 ((putStateX (⟨newHeap o, []⟩)).2))])) rfl) ?_
   refine RL.go rfl rfl rfl (Ex.ext (vs := [(.slice A32 n33 c34), (.int .i64 ((putStateX (⟨newHeap o, []⟩)).2))]) (v := (.slice A32 n33 c34)) rfl rfl) ?_
   refine RL.go rfl rfl rfl (Ex.ext (vs := [(.slice A32 n33 c34), (.int .i64 ((putStateX (⟨newHeap o, []⟩)).2))]) (v := (.int .i64 ((putStateX (⟨newHeap o, []⟩)).2))) rfl rfl) ?_
   refine RL.go rfl rfl rfl (Ex.as (v := (.slice A32 n33 c34)) rfl) ?_
   refine RL.go rfl rfl rfl (Ex.as (v := (.int .i64 ((putStateX (⟨newHeap o, []⟩)).2))) rfl) ?_
   refine RL.nil (thn.n (CW.seq (CW.region ?_)))
   refine RL.go rfl rfl rfl (Ex.mv (v := (.slice A32 n33 c34)) rfl) ?_
   have hln := H38.len (i := 0) rfl
   rw [bcs_length] at hln
   have hsm := newBytes_len o
   refine RL.go rfl rfl rfl (Ex.b2s (bs := (putStateX (⟨newHeap o, []⟩)).1) Tryz.underlying97 Tryz.underlying5 Tryz.underlying9 rfl (H38.rowrd (i := 0) rfl) (by omega)) ?_
   have htk : ((putStateX (⟨newHeap o, []⟩)).1).take n33 = newBytes o := List.take_of_length_le (by unfold newBytes at *; omega)
   rw [htk]
   refine RL.go rfl rfl rfl (Ex.bd (cs := [(.int .i64 0), (.int .i64 0), (.int .i64 0), (.string (tx (newBytes o))), (.slice none 0 0)]) bd24 rfl) ?_
   refine RL.st (vs := [(.int .i64 0), (.int .i64 0), (.int .i64 0), (.string (tx (newBytes o))), (.slice none 0 0)]) (cs' := [(.int .i64 0), (.int .i64 0), (.int .i64 0), (.string (tx (newBytes o))), (.slice none 0 0)]) Tryz.sizeOf24 (H38.ob (i := 3) rfl) rfl rfl rfl rfl rfl rfl ?_
   intro w40 hz41 g42 o43
   have H44 : Sp [RowA 5 1 A32 n33 c34 (bcs ((putStateX (⟨newHeap o, []⟩)).1)), BlkA b19 50 rs9.cells, StA rs9 [] (⟨newHeap o, []⟩), BlkA b2 24 [(.int .i64 0), (.int .i64 0), (.int .i64 0), (.string (tx (newBytes o))), (.slice none 0 0)], Fix w NoB] w40 := H38.setB (i := 3) rfl g42 o43 rfl
   have z45 := g42.size
   refine RL.go rfl rfl rfl (Ex.as (v := (.int .i64 0)) rfl) ?_
   refine RL.nil (thn.n (CW.ret ?_))
   refine finQ.r (v := (.tuple #[(.agg ([(.int .i64 0), (.int .i64 0), (.int .i64 0), (.string (tx (newBytes o))), (.slice none 0 0)]).toArray), (.int .i64 0)])) (resv2 rfl (Rv.cell rfl (loadCN (cs := [(.int .i64 0), (.int .i64 0), (.int .i64 0), (.string (tx (newBytes o))), (.slice none 0 0)]) wh24 (H44.ob (i := 3) rfl).cl)) (Rv.tmp rfl)) ?_
   exact ⟨by unfold newK newBytes putStateX; rw [if_pos hw10, if_pos (newState_ok hw10)], (H44.fix (i := 4) rfl)⟩
  ·skip
   have H46 := H7.grow g15
   have z47 := g15.size
   refine RL.go rfl rfl rfl (Ex.mv (v := (.tuple #[(.agg (zState).toArray), (.int .i64 1)])) rfl) ?_
   refine RL.go rfl rfl rfl (Ex.ext (vs := [(.agg (zState).toArray), (.int .i64 1)]) (v := (.agg (zState).toArray)) rfl rfl) ?_
   refine RL.go rfl rfl rfl (Ex.ext (vs := [(.agg (zState).toArray), (.int .i64 1)]) (v := (.int .i64 1)) rfl rfl) ?_
   refine RL.al (cs := [(.int .i64 0), (.slice none 0 0), (.int .i64 0), (.int .i64 0), (.int .i64 0), (.int .i64 0), (.int .i64 0), (.slice none 0 0), (.slice none 0 0)]) Tryz.zeroValue50 rfl rfl rfl ?_
   intro w48 b49 hb50 hz51 g52 o53
   have H54 := H46.newB g52 o53 (by omega)
   have z55 := g52.size
   refine RL.st (vs := zState) (cs' := zState) Tryz.sizeOf50 (H54.ob (i := 0) rfl) rfl rfl rfl rfl rfl rfl ?_
   intro w56 hz57 g58 o59
   have H60 : Sp [BlkA b49 50 zState, BlkA b2 24 [(.int .i64 0), (.int .i64 0), (.int .i64 0), (.string (⟨#[]⟩)), (.slice none 0 0)], Fix w NoB] w56 := H54.setB (i := 0) rfl g58 o59 rfl
   have z61 := g58.size
   refine RL.go rfl rfl rfl (Ex.as (v := (.int .i64 1)) rfl) ?_
   refine RL.nil (thn.n (CW.seq (CW.seq (CW.region ?_))))
   refine RL.go rfl rfl rfl (Ex.mv (v := (.int .i64 1)) rfl) ?_
   refine RL.go rfl rfl rfl (Ex.neD (r := true) rfl rfl (by decide)) ?_
   refine RL.nil (thn.n (CW.condT rfl (CW.seq (CW.region ?_))))
   refine RL.go rfl rfl rfl (Ex.bd (cs := [(.int .i64 0), (.int .i64 0), (.int .i64 0), (.string (⟨#[]⟩)), (.slice none 0 0)]) bd24 rfl) ?_
   refine RL.go rfl rfl rfl (Ex.mv (v := (.int .i64 1)) rfl) ?_
   refine RL.st (vs := [(.int .i64 0), (.int .i64 0), (.int .i64 0), (.string (⟨#[]⟩)), (.slice none 0 0)]) (cs' := [(.int .i64 0), (.int .i64 0), (.int .i64 0), (.string (⟨#[]⟩)), (.slice none 0 0)]) Tryz.sizeOf24 (H60.ob (i := 1) rfl) rfl rfl rfl rfl rfl rfl ?_
   intro w62 hz63 g65 o66
   have H67 : Sp [BlkA b49 50 zState, BlkA b2 24 [(.int .i64 0), (.int .i64 0), (.int .i64 0), (.string (⟨#[]⟩)), (.slice none 0 0)], Fix w NoB] w62 := H60.setB (i := 1) rfl g65 o66 rfl
   have z68 := g65.size
   refine RL.go rfl rfl rfl (Ex.as (v := (.int .i64 1)) rfl) ?_
   refine RL.nil (thn.n (CW.ret (thn.r ?_)))
   refine finQ.r (v := (.tuple #[(.agg ([(.int .i64 0), (.int .i64 0), (.int .i64 0), (.string (⟨#[]⟩)), (.slice none 0 0)]).toArray), (.int .i64 1)])) (resv2 rfl (Rv.cell rfl (loadCN (cs := [(.int .i64 0), (.int .i64 0), (.int .i64 0), (.string (⟨#[]⟩)), (.slice none 0 0)]) wh24 (H67.ob (i := 1) rfl).cl)) (Rv.tmp rfl)) ?_
   exact ⟨by unfold newK; rw [hw12]; rfl, (H67.fix (i := 2) rfl)⟩
end Go.Proofs.YtfokljnhllflbaaGreat
namespace Go.Proofs.YtfokljnhllflbaaGreat
open Go Go.Eng Go.RowKit
theorem oplogNew3 {w : World} : Ret Tryz.prog 55 [.int .i64 3] w (fun v w' => v = .tuple #[.agg [.int .i64 fk0.view, .int .i64 fk0.normal, .int .i64 fk0.base, .string (tx fk0.image), .slice none 0 0].toArray, .int .i64 0] ∧ w.grownBy w' none) := by
  have h := oplogNew_ w 3
  rw [newK3] at h
  exact h
set_option maxHeartbeats 400000 in
set_option maxRecDepth 20000 in
theorem big15 (w : World) (k : Kept) (A : Option Addr) (n c : Nat) (hn : n = k.ents.length) (r : Rec) (A2 : Option Addr) (n2 c2 : Nat) (hn2 : n2 = r.ents.length) : Ret Tryz.prog 23 [(.agg ([(.int .i64 k.view), (.int .i64 k.normal), (.int .i64 k.base), (.string (tx k.image)), (.slice A n c)]).toArray), (.agg ([(.int .i64 r.kind), (.int .i64 r.view), (.int .i64 r.from_), (.int .i64 r.number), (.string (tx r.image)), (.int .i64 r.entry.num), (.int .i64 r.entry.view), (.int .i64 r.entry.client), (.int .i64 r.entry.seq), (.int .i64 r.entry.op.kind), (.int .i64 r.entry.op.h), (.int .i64 r.entry.op.i), (.int .i64 r.entry.op.n), (.int .i64 r.entry.op.k), (.int .i64 r.entry.op.v), (.int .i64 r.entry.op.t), (.slice A2 n2 c2)]).toArray)] w (fun v w' => v = .bool (bigK k r) ∧ w.grownBy w' none) := by
  have hti : (tx k.image).size = k.image.length := tx_size _
  have hti2 : (tx r.image).size = r.image.length := tx_size _
  have H0 : Sp [Fix w NoB] w := Sp.start w
  refine Ret.body Tryz.func23 rfl rfl rfl ?_
  refine CW.seq (CW.region ?_)
  refine RL.bx (cs := [(.int .i64 k.view), (.int .i64 k.normal), (.int .i64 k.base), (.string (tx k.image)), (.slice A n c)]) rfl rfl rfl ?_
  intro w1 b2 hb3 hz4 g5 o6
  have H7 := H0.newB g5 o6 (by omega)
  have z8 := g5.size
  refine RL.bx (cs := [(.int .i64 r.kind), (.int .i64 r.view), (.int .i64 r.from_), (.int .i64 r.number), (.string (tx r.image)), (.int .i64 r.entry.num), (.int .i64 r.entry.view), (.int .i64 r.entry.client), (.int .i64 r.entry.seq), (.int .i64 r.entry.op.kind), (.int .i64 r.entry.op.h), (.int .i64 r.entry.op.i), (.int .i64 r.entry.op.n), (.int .i64 r.entry.op.k), (.int .i64 r.entry.op.v), (.int .i64 r.entry.op.t), (.slice A2 n2 c2)]) rfl rfl rfl ?_
  intro w9 b10 hb11 hz12 g13 o14
  have H15 := H7.newB g13 o14 (by omega)
  have z16 := g13.size
  refine RL.go rfl rfl rfl (Ex.as (v := (.bool false)) rfl) ?_
  refine RL.nil (thn.n (CW.seq (CW.region ?_)))
  refine RL.go rfl rfl rfl (fa24_4 (b := ⟨b2, 4, none⟩) rfl rfl) ?_
  refine RL.go rfl rfl rfl (Ex.ldv rfl (loadC1 lo22 (Ob.cell (v := (.slice A n c)) (H15.ob (i := 1) rfl) rfl))) ?_
  refine RL.go rfl rfl rfl (Ex.len Tryz.underlying22 rfl) ?_
  refine RL.br (p := (300 : Int) < ((n : Nat) : Int)) rfl rfl rfl (fun r hr => Ex.gt rfl rfl hr) (fun h17 => ?_) (fun h17 => ?_)
  ·skip
   refine RL.go rfl rfl rfl (Ex.mv (v := (.bool true)) rfl) ?_
   refine RL.out rfl rfl rfl ?_
   refine RL.out rfl rfl rfl ?_
   refine RL.out rfl rfl rfl ?_
   refine RL.out rfl rfl rfl ?_
   refine RL.go rfl rfl rfl (Ex.pkT (v := (.bool true)) rfl rfl) ?_
   refine RL.go rfl rfl rfl (Ex.mv (v := (.bool true)) rfl) ?_
   refine RL.out rfl rfl rfl ?_
   refine RL.out rfl rfl rfl ?_
   refine RL.out rfl rfl rfl ?_
   refine RL.out rfl rfl rfl ?_
   refine RL.go rfl rfl rfl (Ex.pkT (v := (.bool true)) rfl rfl) ?_
   refine RL.go rfl rfl rfl (Ex.mv (v := (.bool true)) rfl) ?_
   refine RL.out rfl rfl rfl ?_
   refine RL.out rfl rfl rfl ?_
   refine RL.out rfl rfl rfl ?_
   refine RL.out rfl rfl rfl ?_
   refine RL.go rfl rfl rfl (Ex.pkT (v := (.bool true)) rfl rfl) ?_
   refine RL.go rfl rfl rfl (Ex.as (v := (.bool true)) rfl) ?_
   refine RL.nil (thn.n (CW.ret ?_))
   refine finQ.r (v := (.bool true)) (res1 rfl rfl) ?_
   exact ⟨ret_bool (by unfold bigK; first | (simp; omega) | (simp only [Bool.true_eq, Bool.or_eq_true, decide_eq_true_eq]; omega) | (simp only [Bool.false_eq, Bool.or_eq_false_iff, decide_eq_false_iff_not]; omega)), (H15.fix (i := 2) rfl)⟩
  ·skip
   refine RL.go rfl rfl rfl (Ex.mv (v := (.bool false)) rfl) ?_
   refine RL.go rfl rfl rfl (fa33_6 (b := ⟨b10, 16, none⟩) rfl rfl) ?_
   refine RL.go rfl rfl rfl (Ex.ldv rfl (loadC1 lo22 (Ob.cell (v := (.slice A2 n2 c2)) (H15.ob (i := 0) rfl) rfl))) ?_
   refine RL.go rfl rfl rfl (Ex.len Tryz.underlying22 rfl) ?_
   refine RL.br (p := (300 : Int) < ((n2 : Nat) : Int)) rfl rfl rfl (fun r hr => Ex.gt rfl rfl hr) (fun h18 => ?_) (fun h18 => ?_)
   ·skip
    refine RL.go rfl rfl rfl (Ex.pkF (v := (.bool true)) rfl rfl) ?_
    refine RL.go rfl rfl rfl (Ex.mv (v := (.bool true)) rfl) ?_
    refine RL.out rfl rfl rfl ?_
    refine RL.out rfl rfl rfl ?_
    refine RL.out rfl rfl rfl ?_
    refine RL.out rfl rfl rfl ?_
    refine RL.go rfl rfl rfl (Ex.pkT (v := (.bool true)) rfl rfl) ?_
    refine RL.go rfl rfl rfl (Ex.mv (v := (.bool true)) rfl) ?_
    refine RL.out rfl rfl rfl ?_
    refine RL.out rfl rfl rfl ?_
    refine RL.out rfl rfl rfl ?_
    refine RL.out rfl rfl rfl ?_
    refine RL.go rfl rfl rfl (Ex.pkT (v := (.bool true)) rfl rfl) ?_
    refine RL.go rfl rfl rfl (Ex.as (v := (.bool true)) rfl) ?_
    refine RL.nil (thn.n (CW.ret ?_))
    refine finQ.r (v := (.bool true)) (res1 rfl rfl) ?_
    exact ⟨ret_bool (by unfold bigK; first | (simp; omega) | (simp only [Bool.true_eq, Bool.or_eq_true, decide_eq_true_eq]; omega) | (simp only [Bool.false_eq, Bool.or_eq_false_iff, decide_eq_false_iff_not]; omega)), (H15.fix (i := 2) rfl)⟩
   ·skip
    refine RL.go rfl rfl rfl (Ex.pkF (v := (.bool false)) rfl rfl) ?_
    refine RL.go rfl rfl rfl (Ex.mv (v := (.bool false)) rfl) ?_
    refine RL.go rfl rfl rfl (fa24_3 (b := ⟨b2, 3, none⟩) rfl rfl) ?_
    refine RL.go rfl rfl rfl (Ex.ldv rfl (loadC1 lo9 (Ob.cell (v := (.string (tx k.image))) (H15.ob (i := 1) rfl) rfl))) ?_
    refine RL.go rfl rfl rfl (Ex.lenS Tryz.underlying9 rfl) ?_
    refine RL.br (p := (100000 : Int) < (((tx k.image).size : Nat) : Int)) rfl rfl rfl (fun r hr => Ex.gt rfl rfl hr) (fun h19 => ?_) (fun h19 => ?_)
    ·skip
     refine RL.go rfl rfl rfl (Ex.pkF (v := (.bool true)) rfl rfl) ?_
     refine RL.go rfl rfl rfl (Ex.mv (v := (.bool true)) rfl) ?_
     refine RL.out rfl rfl rfl ?_
     refine RL.out rfl rfl rfl ?_
     refine RL.out rfl rfl rfl ?_
     refine RL.out rfl rfl rfl ?_
     refine RL.go rfl rfl rfl (Ex.pkT (v := (.bool true)) rfl rfl) ?_
     refine RL.go rfl rfl rfl (Ex.as (v := (.bool true)) rfl) ?_
     refine RL.nil (thn.n (CW.ret ?_))
     refine finQ.r (v := (.bool true)) (res1 rfl rfl) ?_
     exact ⟨ret_bool (by unfold bigK; first | (simp; omega) | (simp only [Bool.true_eq, Bool.or_eq_true, decide_eq_true_eq]; omega) | (simp only [Bool.false_eq, Bool.or_eq_false_iff, decide_eq_false_iff_not]; omega)), (H15.fix (i := 2) rfl)⟩
    ·skip
     refine RL.go rfl rfl rfl (Ex.pkF (v := (.bool false)) rfl rfl) ?_
     refine RL.go rfl rfl rfl (Ex.mv (v := (.bool false)) rfl) ?_
     refine RL.go rfl rfl rfl (fa33_4 (b := ⟨b10, 4, none⟩) rfl rfl) ?_
     refine RL.go rfl rfl rfl (Ex.ldv rfl (loadC1 lo9 (Ob.cell (v := (.string (tx r.image))) (H15.ob (i := 0) rfl) rfl))) ?_
     refine RL.go rfl rfl rfl (Ex.lenS Tryz.underlying9 rfl) ?_
     refine RL.br (p := (100000 : Int) < (((tx r.image).size : Nat) : Int)) rfl rfl rfl (fun r hr => Ex.gt rfl rfl hr) (fun h20 => ?_) (fun h20 => ?_)
     ·skip
      refine RL.go rfl rfl rfl (Ex.pkF (v := (.bool true)) rfl rfl) ?_
      refine RL.go rfl rfl rfl (Ex.as (v := (.bool true)) rfl) ?_
      refine RL.nil (thn.n (CW.ret ?_))
      refine finQ.r (v := (.bool true)) (res1 rfl rfl) ?_
      exact ⟨ret_bool (by unfold bigK; first | (simp; omega) | (simp only [Bool.true_eq, Bool.or_eq_true, decide_eq_true_eq]; omega) | (simp only [Bool.false_eq, Bool.or_eq_false_iff, decide_eq_false_iff_not]; omega)), (H15.fix (i := 2) rfl)⟩
     ·skip
      refine RL.go rfl rfl rfl (Ex.pkF (v := (.bool false)) rfl rfl) ?_
      refine RL.go rfl rfl rfl (Ex.as (v := (.bool false)) rfl) ?_
      refine RL.nil (thn.n (CW.ret ?_))
      refine finQ.r (v := (.bool false)) (res1 rfl rfl) ?_
      exact ⟨ret_bool (by unfold bigK; first | (simp; omega) | (simp only [Bool.true_eq, Bool.or_eq_true, decide_eq_true_eq]; omega) | (simp only [Bool.false_eq, Bool.or_eq_false_iff, decide_eq_false_iff_not]; omega)), (H15.fix (i := 2) rfl)⟩
end Go.Proofs.YtfokljnhllflbaaGreat
namespace Go.Eng
open Go Go.RowKit
def laidC (e : Entry) : List Value := [.int .i64 2, .int .i64 0, .int .i64 0, .int .i64 0, .string ⟨#[]⟩, .int .i64 e.num, .int .i64 e.view, .int .i64 e.client, .int .i64 e.seq, .int .i64 e.op.kind, .int .i64 e.op.h, .int .i64 e.op.i, .int .i64 e.op.n, .int .i64 e.op.k, .int .i64 e.op.v, .int .i64 e.op.t, .slice none 0 0]
def recsE (l : List Entry) : List (List Value) := l.map laidC
theorem recsE_length (l : List Entry) : (recsE l).length = l.length := by simp [recsE]
end Go.Eng
namespace Go.Eng
end Go.Eng
namespace Go.Proofs.YtfokljnhllflbaaGreat
open Go Go.Eng Go.RowKit
set_option maxHeartbeats 400000 in
set_option maxRecDepth 20000 in
theorem crow (w : World) (B : Nat) (l : List Entry) (A : Option Addr) (n c : Nat) (fr : Int) (hr : Rd w B 11 A (ents l)) (hB : B ≤ w.heap.size) (hn : n = l.length) (hm : n ≤ 1099511627776) : Ret Tryz.prog 88 [(.slice A n c), (.int .i64 fr)] w (fun v w' => v = .bool (follB l fr) ∧ w.grownBy w' none) := by
  have H0 : Sp [Fix w NoB] w := Sp.start w
  refine Ret.body Tryz.func88 rfl rfl rfl ?_
  refine CW.seq (CW.region ?_)
  refine RL.go rfl rfl rfl (Ex.as (v := (.bool false)) rfl) ?_
  refine RL.nil (thn.n (CW.seq (CW.seq (CW.region ?_))))
  refine RL.go rfl rfl rfl (Ex.mv (v := (.slice A n c)) rfl) ?_
  refine RL.go rfl rfl rfl (Ex.len Tryz.underlying22 rfl) ?_
  refine RL.go rfl rfl rfl (Ex.mv (v := (.int .i64 0)) rfl) ?_
  refine RL.nil (thn.n (CW.block ?_))
  refine CW.loop (fun t => (Nat.ble 4 t && Nat.ble t 6) || (Nat.ble 9 t && Nat.ble t 21)) (fun nL ρ wl => ∃ (k : Nat), ρ 9 = (.int .i64 (k : Int)) ∧ nL = n - k ∧ Sp [Fix w NoB] wl ∧ k ≤ n ∧ follB (l.take k) fr = true) (n) ?aa0 ?bb0
  case aa0 =>
   exact ⟨0, rfl, rfl, H0, Nat.zero_le _, rfl⟩
  case bb0 =>
   rintro n2 ρ0 w1 ho3 ⟨k, hs0_9, hn0, H4, hk, hf⟩
   obtain ⟨j0, rfl⟩ := ho3.shape1 hs0_9
   clear ho3 hs0_9
   subst hn0
   have z5 := (H4.fix (i := 0) rfl).size
   refine CW.seq (CW.region ?_)
   refine RL.br (p := ((k : Int) : Int) < ((n : Nat) : Int)) rfl rfl rfl (fun r hr => Ex.lt rfl rfl hr) (fun h6 => ?_) (fun h6 => ?_)
   ·skip
    refine RL.nil (thn.n (CW.seq (CW.condT rfl (CW.skip (thn.n (CW.seq (CW.block (CW.seq (CW.region ?_)))))))))
    refine RL.go rfl rfl rfl (Ex.mv (v := (.int .i64 (k : Int))) rfl) ?_
    obtain ⟨e7, he8⟩ : ∃ e, (l)[k]? = some e := ⟨_, List.getElem?_eq_getElem (by omega)⟩
    obtain ⟨ad9, hA10⟩ := Rd.sm (hr.st0 (H4.fix (i := 0) rfl)) (ents_get he8)
    have hl11 := Eng.lt_len (ents_get he8)
    refine RL.go rfl rfl rfl (Ex.ix (b := (ad9.add (k * 11))) (i := k) Tryz.underlying22 Tryz.sizeOf31 (by rw [← hA10]; rfl) rfl (by omega) (by omega) rfl) ?_
    refine RL.go rfl rfl rfl (Ex.ldv rfl (loadCN (cs := e7.cells) wh31 (Rd.cl (hr.st0 (H4.fix (i := 0) rfl)) hA10 (ents_get he8)))) ?_
    refine RL.al (cs := [(.int .i64 0), (.int .i64 0), (.int .i64 0), (.int .i64 0), (.int .i64 0), (.int .i64 0), (.int .i64 0), (.int .i64 0), (.int .i64 0), (.int .i64 0), (.int .i64 0)]) Tryz.zeroValue31 rfl rfl rfl ?_
    intro w12 b13 hb14 hz15 g16 o17
    have H18 := H4.newB g16 o17 (by omega)
    have z19 := g16.size
    refine RL.go rfl rfl rfl (Ex.as (v := (.int .i64 (k : Int))) rfl) ?_
    refine RL.st (vs := e7.cells) (cs' := e7.cells) Tryz.sizeOf31 (H18.ob (i := 0) rfl) rfl rfl rfl rfl rfl rfl ?_
    intro w20 hz21 g22 o23
    have H24 : Sp [BlkA b13 31 e7.cells, Fix w NoB] w20 := H18.setB (i := 0) rfl g22 o23 rfl
    have z25 := g22.size
    refine RL.nil (thn.n (CW.seq (CW.region ?_)))
    refine RL.go rfl rfl rfl (fa31_0 (b := ⟨b13, 0, none⟩) rfl rfl) ?_
    refine RL.go rfl rfl rfl (Ex.ldv rfl (loadC1 lo3 (Ob.cell (v := (.int .i64 e7.num)) (H24.ob (i := 0) rfl) rfl))) ?_
    refine RL.go rfl rfl rfl (Ex.sub_ (r := IntKind.i64.wrap (e7.num - 1)) rfl rfl rfl) ?_
    refine RL.go rfl rfl rfl (Ex.mv (v := (.int .i64 (k : Int))) rfl) ?_
    refine RL.go rfl rfl rfl (Ex.sub_ (r := IntKind.i64.wrap ((IntKind.i64.wrap (e7.num - 1)) - (k : Int))) rfl rfl rfl) ?_
    refine RL.go rfl rfl rfl (Ex.mv (v := (.int .i64 fr)) rfl) ?_
    refine RL.br (p := (IntKind.i64.wrap ((IntKind.i64.wrap (e7.num - 1)) - (k : Int)) : Int) ≠ (fr : Int)) rfl rfl rfl (fun r hr => Ex.neD rfl rfl hr) (fun h26 => ?_) (fun h26 => ?_)
    ·skip
     refine RL.nil (thn.n (CW.condT rfl (CW.seq (CW.region ?_))))
     refine RL.go rfl rfl rfl (Ex.as (v := (.bool false)) rfl) ?_
     refine RL.nil (thn.n (CW.ret (inB.r (thn.r (thn.r (inB.r (thn.r ?_)))))))
     refine finQ.r (v := (.bool false)) (res1 rfl rfl) ?_
     exact ⟨ret_bool (by unfold follB; rw [allI_stop he8 0]; simpa using h26), (H24.fix (i := 1) rfl)⟩
    ·skip
     refine RL.nil (thn.n (CW.condF rfl (CW.skip (inB.n (thn.n (CW.region ?_))))))
     refine RL.go rfl rfl rfl (Ex.add (r := (k : Int) + 1) rfl rfl (w64 (by omega) (by omega))) ?_
     refine RL.go rfl rfl rfl (Ex.mv (v := (.int .i64 ((k : Int) + 1))) rfl) ?_
     refine RL.nil (thn.n ?_)
     refine ⟨(by repeat (first | exact Out.mix _ _ | exact Out.refl _ _ | refine Out.up ?_ rfl _)), _, ?_, k + 1, rfl, rfl, (H24.sel [1] (by decide) rfl), by omega, by unfold follB at *; rw [allI_take he8 0, hf]; simp only [Nat.zero_add, Bool.true_and, decide_eq_true_eq]; exact Decidable.not_not.1 h26⟩
     omega
   ·skip
    refine RL.nil (thn.n (CW.seq (CW.condF rfl (CW.exit (thn.x (thn.x (inB.hit (thn.n (CW.seq (CW.region ?_))))))))))
    refine RL.go rfl rfl rfl (Ex.as (v := (.bool true)) rfl) ?_
    refine RL.nil (thn.n (CW.ret ?_))
    refine finQ.r (v := (.bool true)) (res1 rfl rfl) ?_
    exact ⟨ret_bool (by rw [← hf, List.take_of_length_le (by omega)]), (H4.fix (i := 0) rfl)⟩
end Go.Proofs.YtfokljnhllflbaaGreat
namespace Go.Eng
open Go Go.RowKit
theorem wrapEq {a : Int} (h : rng a) {j f : Int} (hj : 0 ≤ j ∧ j ≤ 1000000) (hf : 0 ≤ f ∧ f ≤ 2000000000) (e : IntKind.i64.wrap (IntKind.i64.wrap (a - 1) - j) = f) : a = f + 1 + j := by
  unfold rng at h
  rw [IntKind.wrap_i64, IntKind.wrap_i64] at e
  omega
theorem foll_nums {l : List Entry} {f : Int} (h : follB l f = true) (hf : 0 ≤ f ∧ f ≤ 2000000000) (hl : l.length ≤ 1000000) (hr : ∀ e ∈ l, rng e.num) {j : Nat} {e : Entry} (he : l[j]? = some e) : e.num = f + 1 + j := by
  unfold follB at h
  have h2 := allI_get h he
  simp only [Nat.zero_add, decide_eq_true_eq] at h2
  have := lt_len he
  exact wrapEq (hr e (List.mem_of_getElem? he)) (by omega) hf h2
end Go.Eng
namespace Go.Eng
open Go
def adoptB (k : Kept) (commit view base : Int) (l : List Entry) : Bool :=
  keptB k && withinB commit k.base (lastOf k) && withinB view k.view 900000000 && withinB base 0 commit && follB l base && decide (commit - base ≤ l.length)
def adoptR (k : Kept) (commit view base : Int) (l : List Entry) : Rec :=
  if adoptB k commit view base l = true then ⟨3, view, commit, 0, [], ⟨0, 0, 0, 0, ⟨0, 0, 0, 0, 0, 0, 0⟩⟩, l.drop (commit - base).toNat⟩ else ⟨0, 0, 0, 0, [], ⟨0, 0, 0, 0, ⟨0, 0, 0, 0, 0, 0, 0⟩⟩, []⟩
def tl1 : List Entry := [entR 1]
def tl3 : List Entry := [entR 1, entR 2, entR 3]
def tl4 : List Entry := [entR 1, entR 2, entR 3, entR 4]
def tk3 : Kept := ⟨0, 0, 0, newBytes 3, tl3⟩
theorem ad_y : adoptB tk3 2 4 0 tl4 = true := by decide +kernel
theorem ad_n1 : adoptB tk3 2 4 3 [] = false := by decide +kernel
theorem ad_n2 : adoptB tk3 2 4 0 tl1 = false := by decide +kernel
def ad3 : Rec := ⟨3, 4, 2, 0, [], ⟨0, 0, 0, 0, ⟨0, 0, 0, 0, 0, 0, 0⟩⟩, [entR 3, entR 4]⟩
theorem ad_r : adoptR tk3 2 4 0 tl4 = ad3 := by unfold adoptR; rw [if_pos ad_y]; rfl
theorem allI_of {α : Type} {p : Nat → α → Bool} : ∀ {l : List α} {i : Nat}, (∀ (j : Nat) (x : α), l[j]? = some x → p (i + j) x = true) → allI p i l = true
  | [], _, _ => rfl
  | y :: l, i, h => by
    unfold allI
    rw [Bool.and_eq_true]
    refine ⟨by have := h 0 y rfl; simpa using this, allI_of fun j x hx => ?_⟩
    have := h (j + 1) x (by simpa using hx)
    rwa [show i + 1 + j = i + (j + 1) by omega]
theorem adoptB_t {k : Kept} {c v b : Int} {l : List Entry} (h : adoptB k c v b l = true) (hl : l.length ≤ 1000000) (hr : ∀ e ∈ l, rng e.num) :
    keptB k = true ∧ (k.base ≤ c ∧ c ≤ lastK k) ∧ (k.view ≤ v ∧ v ≤ 900000000) ∧ (0 ≤ b ∧ b ≤ c) ∧ c - b ≤ l.length ∧ (∀ (j : Nat) (e : Entry), l[j]? = some e → e.num = b + 1 + j) := by
  unfold adoptB at h
  simp only [Bool.and_eq_true, decide_eq_true_eq] at h
  obtain ⟨⟨⟨⟨⟨h1, h2⟩, h3⟩, h4⟩, h5⟩, h6⟩ := h
  have a2 := withinB_t h2
  unfold lastOf at a2
  rw [if_pos h1] at a2
  have a4 := withinB_t h4
  have hkt := keptB_t h1
  have hlk : lastK k = k.base + k.ents.length := rfl
  exact ⟨h1, a2, withinB_t h3, a4, h6, fun j e he => foll_nums h5 (by omega) hl hr he⟩
theorem adoptR_t {k : Kept} {c v b : Int} {l : List Entry} (h : adoptB k c v b l = true) : adoptR k c v b l = ⟨3, v, c, 0, [], ⟨0, 0, 0, 0, ⟨0, 0, 0, 0, 0, 0, 0⟩⟩, l.drop (c - b).toNat⟩ := by unfold adoptR; rw [if_pos h]
theorem adoptR_f {k : Kept} {c v b : Int} {l : List Entry} (h : adoptB k c v b l = false) : (adoptR k c v b l).ents = [] := by unfold adoptR; rw [if_neg (by rw [h]; decide)]
def adoptX (k : Kept) (c v b : Int) (l : List Entry) : Kept := { k with view := v, normal := v, ents := k.ents.take (c - k.base).toNat ++ l.drop (c - b).toNat }
theorem adopt_made {k : Kept} {c v b : Int} {l : List Entry} (h : adoptB k c v b l = true) (hl : l.length ≤ 1000000) (hr : ∀ e ∈ l, rng e.num) : madeK k (adoptR k c v b l) = (0, adoptX k c v b l) := by
  obtain ⟨h1, h2, h3, h4, h5, h6⟩ := adoptB_t h hl hr
  have hkt := keptB_t h1
  have hlk : lastK k = k.base + k.ents.length := rfl
  rw [adoptR_t h]
  unfold madeK
  rw [if_neg (by rintro ⟨_, q⟩; have : v < k.view := q; omega), if_neg (by show ¬ (3 : Int) = 1; decide), if_neg (by show ¬ (3 : Int) = 2; decide), if_pos rfl, if_pos]
  · rfl
  · refine ⟨by show withinB c k.base (lastK k) = true; simp [withinB]; omega, ?_⟩
    show follB (l.drop (c - b).toNat) c = true
    unfold follB
    refine allI_of fun j e he => ?_
    rw [List.getElem?_drop] at he
    have hn := h6 _ _ he
    have hj := lt_len he
    simp only [Nat.zero_add, decide_eq_true_eq]
    rw [w64 (r := e.num - 1) (by omega) (by omega), w64 (by omega) (by omega)]
    omega
theorem adopt_fold {k : Kept} {c v b : Int} {l : List Entry} (h : adoptB k c v b l = true) (hl : l.length ≤ 1000000) (hr : ∀ e ∈ l, rng e.num) (h0 : (foldK k (adoptR k c v b l)).1 = 0) : (foldK k (adoptR k c v b l)).2 = adoptX k c v b l ∧ keptB (adoptX k c v b l) = true := by
  obtain ⟨g1, g2, g3, g4⟩ := foldK_ok h0
  rw [g2, adopt_made h hl hr] at g4 ⊢
  exact ⟨rfl, g4⟩
theorem adopt_err {k : Kept} {c v b : Int} {l : List Entry} (h : adoptB k c v b l = true) (hl : l.length ≤ 1000000) (hr : ∀ e ∈ l, rng e.num) (h0 : (foldK k (adoptR k c v b l)).1 ≠ 0) : (foldK k (adoptR k c v b l)).1 = 141 ∨ (foldK k (adoptR k c v b l)).1 = 2 := by
  have h1 := (adoptB_t h hl hr).1
  unfold foldK at *
  rw [if_pos h1, adopt_made h hl hr] at *
  unfold seenK at *
  rw [if_pos rfl] at *
  split
  · exact .inr rfl
  · split
    · rename_i q1 q2; rw [if_neg q1, if_pos q2] at h0; exact absurd rfl h0
    · exact .inl rfl
theorem adopt_len {k : Kept} {c v b : Int} {l : List Entry} (h : adoptB k c v b l = true) (hl : l.length ≤ 1000000) (hr : ∀ e ∈ l, rng e.num) : ((k.ents.take (c - k.base).toNat).length : Int) = c - k.base ∧ ((adoptX k c v b l).ents.length : Int) = b + l.length - k.base := by
  obtain ⟨h1, h2, h3, h4, h5, h6⟩ := adoptB_t h hl hr
  have hlk : lastK k = k.base + k.ents.length := rfl
  refine ⟨by rw [List.length_take]; omega, ?_⟩
  show (((k.ents.take (c - k.base).toNat ++ l.drop (c - b).toNat).length : Nat) : Int) = _
  rw [List.length_append, List.length_take, List.length_drop]; omega
theorem adopt_keep {k : Kept} {c v b : Int} {l : List Entry} (h : adoptB k c v b l = true) (hl : l.length ≤ 1000000) (hr : ∀ e ∈ l, rng e.num) {i : Nat} {e : Entry} (he : k.ents[i]? = some e) (hc : e.num ≤ c) : (adoptX k c v b l).ents[i]? = some e := by
  obtain ⟨h1, h2, h3, h4, h5, h6⟩ := adoptB_t h hl hr
  have hn := kept_num h1 he
  have hi := lt_len he
  show (k.ents.take (c - k.base).toNat ++ l.drop (c - b).toNat)[i]? = some e
  rw [List.getElem?_append_left (by rw [List.length_take]; omega), List.getElem?_take_of_lt (by omega)]
  exact he
theorem adopt_above {k : Kept} {c v b : Int} {l : List Entry} (h : adoptB k c v b l = true) (hl : l.length ≤ 1000000) (hr : ∀ e ∈ l, rng e.num) (hx : keptB (adoptX k c v b l) = true) : aboveK (adoptX k c v b l) c 4000 = l.drop (c - b).toNat := by
  obtain ⟨h1, h2, h3, h4, h5, h6⟩ := adoptB_t h hl hr
  obtain ⟨g1, g2⟩ := adopt_len h hl hr
  have hxt := keptB_t hx
  have hlk : lastK (adoptX k c v b l) = k.base + (adoptX k c v b l).ents.length := rfl
  have hd : (adoptX k c v b l).ents.drop (c - k.base).toNat = l.drop (c - b).toNat := by
    show (k.ents.take (c - k.base).toNat ++ l.drop (c - b).toNat).drop (c - k.base).toNat = _
    rw [List.drop_append_of_le_length (by omega), List.drop_of_length_le (by omega), List.nil_append]
  unfold aboveK
  split
  · rename_i q
    rcases q with q | q | q
    · rw [hx] at q; cases q
    · omega
    · rw [List.drop_of_length_le (by omega)]
  · show ((adoptX k c v b l).ents.drop (c - k.base).toNat).take 4000 = _
    rw [List.take_of_length_le (by rw [List.length_drop]; omega), hd]
theorem adopt_get {k : Kept} {c v b : Int} {l : List Entry} (h : adoptB k c v b l = true) (hl : l.length ≤ 1000000) (hr : ∀ e ∈ l, rng e.num) (hx : keptB (adoptX k c v b l) = true) {i : Nat} {e : Entry} (he : l[i]? = some e) (h0 : 0 ≤ e.num - c - 1) :
    (aboveK (adoptX k c v b l) c 4000)[(e.num - c - 1).toNat]? = some e := by
  obtain ⟨h1, h2, h3, h4, h5, h6⟩ := adoptB_t h hl hr
  have hn := h6 _ _ he
  rw [adopt_above h hl hr hx, List.getElem?_drop, ← he]
  congr 1
  omega
theorem adopt_last {k : Kept} {c v b : Int} {l : List Entry} (h : adoptB k c v b l = true) (hl : l.length ≤ 1000000) (hr : ∀ e ∈ l, rng e.num) (hx : keptB (adoptX k c v b l) = true) : lastOf (adoptX k c v b l) = b + l.length := by
  have g2 := (adopt_len h hl hr).2
  unfold lastOf
  rw [if_pos hx]
  have hlk : lastK (adoptX k c v b l) = k.base + (adoptX k c v b l).ents.length := rfl
  omega
end Go.Eng
