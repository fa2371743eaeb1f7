/- Another log that is adopted and saved makes a log of that view that ends where the other does, and what was sure stays: for every input, with no condition. -/
import Derived.Deep.Quiet
import Derived.Ground.NamesProg
import Derived.Ground.SlgcProg
import Derived.Ground.SlsfProg
import Derived.JoinedOf
import Derived.Laws.BytesString
import Derived.Laws.MakeOwn
import Derived.Laws.Strings
import Derived.Lib.AppendZeros
import Derived.Lib.ConvBytes
import Derived.Lib.Overlaps
import Derived.Maps.AppendAt
import Derived.OrdersHeld
import Derived.ProofKit
import Derived.Recover
import Derived.ScopeJumps
import Derived.Shelf.SlSortCmp.NoneTotal
import Derived.Shelf.SlSortCmp.WholeK
import Derived.Shelf.SlicesG.Cmp
import Derived.Shelf.Small.Bits
import Derived.Sort.OwnSortedInts
import Derived.StillTail
import Derived.Test.YtfokljnhllflbaaGreatProg
import Derived.Test.YtfokljnhllflbaaGreatRows
import Derived.WalkKit
import Derived.WalkLawsBesides
import Derived.WalkSpells
import Derived.Test.YtfokljnhllflbaaGreatPChangeSaved4
set_option linter.unusedSimpArgs false
set_option linter.unusedVariables false
namespace Go.Proofs.YtfokljnhllflbaaGreat
open Go Go.Eng Go.RowKit
set_option maxHeartbeats 1000000 in
set_option maxRecDepth 20000 in
theorem adopt_ (w : World) (B : Nat) (k : Kept) (A : Option Addr) (n c : Nat) (hr : Rd w B 11 A (ents k.ents)) (hB : B ≤ w.heap.size) (hn : n = k.ents.length) (hm : n ≤ 1099511627776) (hc : n ≤ c) (hi : k.image.length ≤ 140737488351232) (commit view base : Int) (hcr : rng commit) (l : List Entry) (A2 : Option Addr) (n2 c2 : Nat) (hr2 : Rd w B 11 A2 (ents l)) (hn2 : n2 = l.length) (hm2 : n2 ≤ 1000000) (hc2 : n2 ≤ c2) : Ret Tryz.prog 25 [(.agg ([(.int .i64 k.view), (.int .i64 k.normal), (.int .i64 k.base), (.string (tx k.image)), (.slice A n c)]).toArray), (.int .i64 commit), (.int .i64 view), (.int .i64 base), (.slice A2 n2 c2)] w (fun v w' => ∃ (A' : Option Addr) (n' c' : Nat), v = .tuple #[.agg #[(.int .i64 ((adoptR k commit view base l).kind)), (.int .i64 ((adoptR k commit view base l).view)), (.int .i64 ((adoptR k commit view base l).from_)), (.int .i64 ((adoptR k commit view base l).number)), (.string (tx (adoptR k commit view base l).image)), (.int .i64 ((adoptR k commit view base l).entry.num)), (.int .i64 ((adoptR k commit view base l).entry.view)), (.int .i64 ((adoptR k commit view base l).entry.client)), (.int .i64 ((adoptR k commit view base l).entry.seq)), (.int .i64 ((adoptR k commit view base l).entry.op.kind)), (.int .i64 ((adoptR k commit view base l).entry.op.h)), (.int .i64 ((adoptR k commit view base l).entry.op.i)), (.int .i64 ((adoptR k commit view base l).entry.op.n)), (.int .i64 ((adoptR k commit view base l).entry.op.k)), (.int .i64 ((adoptR k commit view base l).entry.op.v)), (.int .i64 ((adoptR k commit view base l).entry.op.t)), (.slice A' n' c')], .bool (adoptB k commit view base l)] ∧ Sp ([RowA 31 11 A' n' c' (ents (adoptR k commit view base l).ents)] ++ [Fix w NoB]) w') := by
  unfold rng at hcr
  have H0 : Sp [Fix w NoB] w := Sp.start w
  refine Ret.body Tryz.func25 rfl rfl rfl ?_
  refine CW.seq (CW.region ?_)
  refine RL.bx (cs := [(.int .i64 k.view), (.int .i64 k.normal), (.int .i64 k.base), (.string (tx k.image)), (.slice A n c)]) rfl rfl rfl ?_
  intro w1 b2 hb3 hz4 g5 o6
  have H7 := H0.newB g5 o6 (by omega)
  have z8 := g5.size
  refine RL.al (cs := [(.int .i64 0), (.int .i64 0), (.int .i64 0), (.int .i64 0), (.string (⟨#[]⟩)), (.int .i64 0), (.int .i64 0), (.int .i64 0), (.int .i64 0), (.int .i64 0), (.int .i64 0), (.int .i64 0), (.int .i64 0), (.int .i64 0), (.int .i64 0), (.int .i64 0), (.slice none 0 0)]) Tryz.zeroValue33 rfl rfl rfl ?_
  intro w9 b10 hb11 hz12 g13 o14
  have H15 := H7.newB g13 o14 (by omega)
  have z16 := g13.size
  refine RL.go rfl rfl rfl (Ex.as (v := (.bool false)) rfl) ?_
  refine RL.nil (thn.n (CW.seq (CW.block (CW.seq ?_))))
  refine CW.held (fun wq => Sp [BlkA b10 33 [(.int .i64 0), (.int .i64 0), (.int .i64 0), (.int .i64 0), (.string (⟨#[]⟩)), (.int .i64 0), (.int .i64 0), (.int .i64 0), (.int .i64 0), (.int .i64 0), (.int .i64 0), (.int .i64 0), (.int .i64 0), (.int .i64 0), (.int .i64 0), (.int .i64 0), (.slice none 0 0)], BlkA b2 24 [(.int .i64 k.view), (.int .i64 k.normal), (.int .i64 k.base), (.string (tx k.image)), (.slice A n c)], Fix w NoB] wq) Tryz.mixed rfl ?_
  intro w17 g18
  have H19 := H15.grow g18
  have z20 := g18.size
  refine RA.tk 0 0 1 rfl rfl rfl (by kernel_rfl) (fun wq hq => Ex.ldv rfl (loadCN (cs := [(.int .i64 k.view), (.int .i64 k.normal), (.int .i64 k.base), (.string (tx k.image)), (.slice A n c)]) wh24 (hq.ob (i := 1) rfl).cl)) H19 ?_
  refine RA.one (i := 1) (by kernel_rfl) ?_
  refine ⟨_, 3, rfl, by kernel_rfl, ?_⟩
  refine RL.call Tryz.call57 (opCheck_ _ _ _ k (KeptR.of (k := k) (n := n) (c := c) (hr.st0 (H19.fix (i := 2) rfl)) (by show n = (k.ents).length; (try simp only [List.length_append, List.length_cons, List.length_nil, List.length_take, List.length_drop]); all_goals omega) (by omega) (by omega) (by first | assumption | (show List.length _ ≤ _; first | assumption | decide | omega))) (by omega)) rfl rfl rfl ?_
  rintro _ w21 ⟨rfl, g22⟩
  have H23 := H19.grow g22
  have z24 := g22.size
  refine RL.nil ?_
  refine ⟨H23, ?_⟩
  refine RA.br (i := 2) (m := 3) (m' := 7) (p := ((if keptB k then 0 else 1) : Int) ≠ (0 : Int)) rfl rfl rfl (by kernel_rfl) (fun _ _ _ _ h => h) rfl (fun r hr wq hq => Ex.neD rfl rfl hr) H23 (fun h25 => ?_) (fun h25 => ?_)
  ·skip
   refine RA.tk 3 7 15 rfl rfl rfl (by kernel_rfl) (fun wq hq => Ex.mv (v := (.bool true)) rfl) H23 ?_
   refine RA.out (i := 4) (m := 15) (m' := 31) rfl rfl rfl (by kernel_rfl) (fun _ _ _ _ h => h) rfl H23 ?_
   refine RA.out (i := 5) (m := 31) (m' := 63) rfl rfl rfl (by kernel_rfl) (fun _ _ _ _ h => h) rfl H23 ?_
   refine RA.out (i := 6) (m := 63) (m' := 127) rfl rfl rfl (by kernel_rfl) (fun _ _ _ _ h => h) rfl H23 ?_
   refine RA.out (i := 7) (m := 127) (m' := 255) rfl rfl rfl (by kernel_rfl) (fun _ _ _ _ h => h) rfl H23 ?_
   refine RA.out (i := 8) (m := 255) (m' := 511) rfl rfl rfl (by kernel_rfl) (fun _ _ _ _ h => h) rfl H23 ?_
   refine RA.out (i := 9) (m := 511) (m' := 1023) rfl rfl rfl (by kernel_rfl) (fun _ _ _ _ h => h) rfl H23 ?_
   refine RA.out (i := 10) (m := 1023) (m' := 2047) rfl rfl rfl (by kernel_rfl) (fun _ _ _ _ h => h) rfl H23 ?_
   refine RA.tk 11 2047 4095 rfl rfl rfl (by kernel_rfl) (fun wq hq => Ex.pkT (v := (.bool true)) rfl rfl) H23 ?_
   refine RA.tk 12 4095 8191 rfl rfl rfl (by kernel_rfl) (fun wq hq => Ex.mv (v := (.bool true)) rfl) H23 ?_
   refine RA.out (i := 13) (m := 8191) (m' := 16383) rfl rfl rfl (by kernel_rfl) (fun _ _ _ _ h => h) rfl H23 ?_
   refine RA.out (i := 14) (m := 16383) (m' := 32767) rfl rfl rfl (by kernel_rfl) (fun _ _ _ _ h => h) rfl H23 ?_
   refine RA.out (i := 15) (m := 32767) (m' := 65535) rfl rfl rfl (by kernel_rfl) (fun _ _ _ _ h => h) rfl H23 ?_
   refine RA.out (i := 16) (m := 65535) (m' := 131071) rfl rfl rfl (by kernel_rfl) (fun _ _ _ _ h => h) rfl H23 ?_
   refine RA.out (i := 17) (m := 131071) (m' := 262143) rfl rfl rfl (by kernel_rfl) (fun _ _ _ _ h => h) rfl H23 ?_
   refine RA.tk 18 262143 524287 rfl rfl rfl (by kernel_rfl) (fun wq hq => Ex.pkT (v := (.bool true)) rfl rfl) H23 ?_
   refine RA.tk 19 524287 1048575 rfl rfl rfl (by kernel_rfl) (fun wq hq => Ex.as (v := (.bool true)) rfl) H23 ?_
   refine RA.done (by kernel_rfl) ?_
   refine thn.n (CW.condT rfl ?_)
   refine CW.seq (CW.region ?_)
   refine RL.go rfl rfl rfl (Ex.ldv rfl (loadCN (cs := [(.int .i64 0), (.int .i64 0), (.int .i64 0), (.int .i64 0), (.string (⟨#[]⟩)), (.int .i64 0), (.int .i64 0), (.int .i64 0), (.int .i64 0), (.int .i64 0), (.int .i64 0), (.int .i64 0), (.int .i64 0), (.int .i64 0), (.int .i64 0), (.int .i64 0), (.slice none 0 0)]) wh33 (H23.ob (i := 0) rfl).cl)) ?_
   refine RL.st (vs := [(.int .i64 0), (.int .i64 0), (.int .i64 0), (.int .i64 0), (.string (⟨#[]⟩)), (.int .i64 0), (.int .i64 0), (.int .i64 0), (.int .i64 0), (.int .i64 0), (.int .i64 0), (.int .i64 0), (.int .i64 0), (.int .i64 0), (.int .i64 0), (.int .i64 0), (.slice none 0 0)]) (cs' := [(.int .i64 0), (.int .i64 0), (.int .i64 0), (.int .i64 0), (.string (⟨#[]⟩)), (.int .i64 0), (.int .i64 0), (.int .i64 0), (.int .i64 0), (.int .i64 0), (.int .i64 0), (.int .i64 0), (.int .i64 0), (.int .i64 0), (.int .i64 0), (.int .i64 0), (.slice none 0 0)]) Tryz.sizeOf33 (H23.ob (i := 0) rfl) rfl rfl rfl rfl rfl rfl ?_
   intro w26 hz27 g28 o29
   have H30 : Sp [BlkA b10 33 [(.int .i64 0), (.int .i64 0), (.int .i64 0), (.int .i64 0), (.string (⟨#[]⟩)), (.int .i64 0), (.int .i64 0), (.int .i64 0), (.int .i64 0), (.int .i64 0), (.int .i64 0), (.int .i64 0), (.int .i64 0), (.int .i64 0), (.int .i64 0), (.int .i64 0), (.slice none 0 0)], BlkA b2 24 [(.int .i64 k.view), (.int .i64 k.normal), (.int .i64 k.base), (.string (tx k.image)), (.slice A n c)], Fix w NoB] w26 := H23.setB (i := 0) rfl g28 o29 rfl
   have z31 := g28.size
   refine RL.go rfl rfl rfl (Ex.as (v := (.bool false)) rfl) ?_
   refine RL.nil (thn.n (CW.ret (inB.r (thn.r ?_))))
   refine finQ.r (v := (.tuple #[(.agg ([(.int .i64 0), (.int .i64 0), (.int .i64 0), (.int .i64 0), (.string (⟨#[]⟩)), (.int .i64 0), (.int .i64 0), (.int .i64 0), (.int .i64 0), (.int .i64 0), (.int .i64 0), (.int .i64 0), (.int .i64 0), (.int .i64 0), (.int .i64 0), (.int .i64 0), (.slice none 0 0)]).toArray), (.bool false)])) (resv2 rfl (Rv.cell rfl (loadCN (cs := [(.int .i64 0), (.int .i64 0), (.int .i64 0), (.int .i64 0), (.string (⟨#[]⟩)), (.int .i64 0), (.int .i64 0), (.int .i64 0), (.int .i64 0), (.int .i64 0), (.int .i64 0), (.int .i64 0), (.int .i64 0), (.int .i64 0), (.int .i64 0), (.int .i64 0), (.slice none 0 0)]) wh33 (H30.ob (i := 0) rfl).cl)) (Rv.tmp rfl)) ?_
   have H32 := H30.nil_ 31 11
   have hx : adoptB k commit view base l = false := by
     unfold adoptB withinB at *
     simp_all
     try omega
   have hy : adoptR k commit view base l = ⟨0, 0, 0, 0, [], ⟨0, 0, 0, 0, ⟨0, 0, 0, 0, 0, 0, 0⟩⟩, []⟩ := by unfold adoptR; rw [hx]; rfl
   exact ⟨none, 0, 0, by rw [hx, hy]; rfl, by rw [hy]; exact (H32.sel [0, 3] (by decide) rfl)⟩
  ·skip
   refine RA.tk 3 7 15 rfl rfl rfl (by kernel_rfl) (fun wq hq => Ex.mv (v := (.bool false)) rfl) H23 ?_
   refine RA.tk 4 15 31 rfl rfl rfl (by kernel_rfl) (fun wq hq => Ex.mv (v := (.int .i64 commit)) rfl) H23 ?_
   refine RA.tk 5 31 63 rfl rfl rfl (by kernel_rfl) (fun wq hq => fa24_2 (b := ⟨b2, 2, none⟩) rfl rfl) H23 ?_
   refine RA.tk 6 63 127 rfl rfl rfl (by kernel_rfl) (fun wq hq => Ex.ldv rfl (loadC1 lo3 (Ob.cell (v := (.int .i64 k.base)) (hq.ob (i := 1) rfl) rfl))) H23 ?_
   refine RA.tk 7 127 255 rfl rfl rfl (by kernel_rfl) (fun wq hq => Ex.ldv rfl (loadCN (cs := [(.int .i64 k.view), (.int .i64 k.normal), (.int .i64 k.base), (.string (tx k.image)), (.slice A n c)]) wh24 (hq.ob (i := 1) rfl).cl)) H23 ?_
   refine RA.one (i := 8) (by kernel_rfl) ?_
   refine ⟨_, 511, rfl, by kernel_rfl, ?_⟩
   refine RL.call Tryz.call62 (Last_ _ _ _ k (KeptR.of (k := k) (n := n) (c := c) (hr.st0 (H23.fix (i := 2) rfl)) (by show n = (k.ents).length; (try simp only [List.length_append, List.length_cons, List.length_nil, List.length_take, List.length_drop]); all_goals omega) (by omega) (by omega) (by first | assumption | (show List.length _ ≤ _; first | assumption | decide | omega))) (by omega)) rfl rfl rfl ?_
   rintro _ w33 ⟨rfl, g34⟩
   have H35 := H23.grow g34
   have z36 := g34.size
   refine RL.nil ?_
   refine ⟨H35, ?_⟩
   refine RA.one (i := 9) (by kernel_rfl) ?_
   refine ⟨_, 1023, rfl, by kernel_rfl, ?_⟩
   refine RL.call Tryz.call87 (within_change _ commit k.base (lastOf k)) rfl rfl rfl ?_
   rintro _ _ ⟨rfl, rfl⟩
   rcases hb40 : (withinB commit k.base (lastOf k)) with _ | _
   ·skip
    refine RL.nil ?_
    refine ⟨H35, ?_⟩
    refine RA.tk 10 1023 2047 rfl rfl rfl (by kernel_rfl) (fun wq hq => Ex.not (b := false) rfl) H35 ?_
    refine RA.tk 11 2047 4095 rfl rfl rfl (by kernel_rfl) (fun wq hq => Ex.pkF (v := (.bool true)) rfl rfl) H35 ?_
    refine RA.tk 12 4095 8191 rfl rfl rfl (by kernel_rfl) (fun wq hq => Ex.mv (v := (.bool true)) rfl) H35 ?_
    refine RA.out (i := 13) (m := 8191) (m' := 16383) rfl rfl rfl (by kernel_rfl) (fun _ _ _ _ h => h) rfl H35 ?_
    refine RA.out (i := 14) (m := 16383) (m' := 32767) rfl rfl rfl (by kernel_rfl) (fun _ _ _ _ h => h) rfl H35 ?_
    refine RA.out (i := 15) (m := 32767) (m' := 65535) rfl rfl rfl (by kernel_rfl) (fun _ _ _ _ h => h) rfl H35 ?_
    refine RA.out (i := 16) (m := 65535) (m' := 131071) rfl rfl rfl (by kernel_rfl) (fun _ _ _ _ h => h) rfl H35 ?_
    refine RA.out (i := 17) (m := 131071) (m' := 262143) rfl rfl rfl (by kernel_rfl) (fun _ _ _ _ h => h) rfl H35 ?_
    refine RA.tk 18 262143 524287 rfl rfl rfl (by kernel_rfl) (fun wq hq => Ex.pkT (v := (.bool true)) rfl rfl) H35 ?_
    refine RA.tk 19 524287 1048575 rfl rfl rfl (by kernel_rfl) (fun wq hq => Ex.as (v := (.bool true)) rfl) H35 ?_
    refine RA.done (by kernel_rfl) ?_
    refine thn.n (CW.condT rfl ?_)
    refine CW.seq (CW.region ?_)
    refine RL.go rfl rfl rfl (Ex.ldv rfl (loadCN (cs := [(.int .i64 0), (.int .i64 0), (.int .i64 0), (.int .i64 0), (.string (⟨#[]⟩)), (.int .i64 0), (.int .i64 0), (.int .i64 0), (.int .i64 0), (.int .i64 0), (.int .i64 0), (.int .i64 0), (.int .i64 0), (.int .i64 0), (.int .i64 0), (.int .i64 0), (.slice none 0 0)]) wh33 (H35.ob (i := 0) rfl).cl)) ?_
    refine RL.st (vs := [(.int .i64 0), (.int .i64 0), (.int .i64 0), (.int .i64 0), (.string (⟨#[]⟩)), (.int .i64 0), (.int .i64 0), (.int .i64 0), (.int .i64 0), (.int .i64 0), (.int .i64 0), (.int .i64 0), (.int .i64 0), (.int .i64 0), (.int .i64 0), (.int .i64 0), (.slice none 0 0)]) (cs' := [(.int .i64 0), (.int .i64 0), (.int .i64 0), (.int .i64 0), (.string (⟨#[]⟩)), (.int .i64 0), (.int .i64 0), (.int .i64 0), (.int .i64 0), (.int .i64 0), (.int .i64 0), (.int .i64 0), (.int .i64 0), (.int .i64 0), (.int .i64 0), (.int .i64 0), (.slice none 0 0)]) Tryz.sizeOf33 (H35.ob (i := 0) rfl) rfl rfl rfl rfl rfl rfl ?_
    intro w41 hz42 g43 o44
    have H45 : Sp [BlkA b10 33 [(.int .i64 0), (.int .i64 0), (.int .i64 0), (.int .i64 0), (.string (⟨#[]⟩)), (.int .i64 0), (.int .i64 0), (.int .i64 0), (.int .i64 0), (.int .i64 0), (.int .i64 0), (.int .i64 0), (.int .i64 0), (.int .i64 0), (.int .i64 0), (.int .i64 0), (.slice none 0 0)], BlkA b2 24 [(.int .i64 k.view), (.int .i64 k.normal), (.int .i64 k.base), (.string (tx k.image)), (.slice A n c)], Fix w NoB] w41 := H35.setB (i := 0) rfl g43 o44 rfl
    have z46 := g43.size
    refine RL.go rfl rfl rfl (Ex.as (v := (.bool false)) rfl) ?_
    refine RL.nil (thn.n (CW.ret (inB.r (thn.r ?_))))
    refine finQ.r (v := (.tuple #[(.agg ([(.int .i64 0), (.int .i64 0), (.int .i64 0), (.int .i64 0), (.string (⟨#[]⟩)), (.int .i64 0), (.int .i64 0), (.int .i64 0), (.int .i64 0), (.int .i64 0), (.int .i64 0), (.int .i64 0), (.int .i64 0), (.int .i64 0), (.int .i64 0), (.int .i64 0), (.slice none 0 0)]).toArray), (.bool false)])) (resv2 rfl (Rv.cell rfl (loadCN (cs := [(.int .i64 0), (.int .i64 0), (.int .i64 0), (.int .i64 0), (.string (⟨#[]⟩)), (.int .i64 0), (.int .i64 0), (.int .i64 0), (.int .i64 0), (.int .i64 0), (.int .i64 0), (.int .i64 0), (.int .i64 0), (.int .i64 0), (.int .i64 0), (.int .i64 0), (.slice none 0 0)]) wh33 (H45.ob (i := 0) rfl).cl)) (Rv.tmp rfl)) ?_
    have H47 := H45.nil_ 31 11
    have hx : adoptB k commit view base l = false := by
      unfold adoptB withinB at *
      simp_all
      try omega
    have hy : adoptR k commit view base l = ⟨0, 0, 0, 0, [], ⟨0, 0, 0, 0, ⟨0, 0, 0, 0, 0, 0, 0⟩⟩, []⟩ := by unfold adoptR; rw [hx]; rfl
    exact ⟨none, 0, 0, by rw [hx, hy]; rfl, by rw [hy]; exact (H47.sel [0, 3] (by decide) rfl)⟩
   ·have hw37 := withinB_t hb40
    refine RL.nil ?_
    refine ⟨H35, ?_⟩
    refine RA.tk 10 1023 2047 rfl rfl rfl (by kernel_rfl) (fun wq hq => Ex.not (b := true) rfl) H35 ?_
    refine RA.tk 11 2047 4095 rfl rfl rfl (by kernel_rfl) (fun wq hq => Ex.pkF (v := (.bool false)) rfl rfl) H35 ?_
    refine RA.tk 12 4095 8191 rfl rfl rfl (by kernel_rfl) (fun wq hq => Ex.mv (v := (.bool false)) rfl) H35 ?_
    refine RA.tk 13 8191 16383 rfl rfl rfl (by kernel_rfl) (fun wq hq => Ex.mv (v := (.int .i64 view)) rfl) H35 ?_
    refine RA.tk 14 16383 32767 rfl rfl rfl (by kernel_rfl) (fun wq hq => fa24_0 (b := ⟨b2, 0, none⟩) rfl rfl) H35 ?_
    refine RA.tk 15 32767 65535 rfl rfl rfl (by kernel_rfl) (fun wq hq => Ex.ldv rfl (loadC1 lo3 (Ob.cell (v := (.int .i64 k.view)) (hq.ob (i := 1) rfl) rfl))) H35 ?_
    refine RA.one (i := 16) (by kernel_rfl) ?_
    refine ⟨_, 131071, rfl, by kernel_rfl, ?_⟩
    refine RL.call Tryz.call87 (within_change _ view k.view 900000000) rfl rfl rfl ?_
    rintro _ _ ⟨rfl, rfl⟩
    rcases hb51 : (withinB view k.view 900000000) with _ | _
    ·skip
     refine RL.nil ?_
     refine ⟨H35, ?_⟩
     refine RA.tk 17 131071 262143 rfl rfl rfl (by kernel_rfl) (fun wq hq => Ex.not (b := false) rfl) H35 ?_
     refine RA.tk 18 262143 524287 rfl rfl rfl (by kernel_rfl) (fun wq hq => Ex.pkF (v := (.bool true)) rfl rfl) H35 ?_
     refine RA.tk 19 524287 1048575 rfl rfl rfl (by kernel_rfl) (fun wq hq => Ex.as (v := (.bool true)) rfl) H35 ?_
     refine RA.done (by kernel_rfl) ?_
     refine thn.n (CW.condT rfl ?_)
     refine CW.seq (CW.region ?_)
     refine RL.go rfl rfl rfl (Ex.ldv rfl (loadCN (cs := [(.int .i64 0), (.int .i64 0), (.int .i64 0), (.int .i64 0), (.string (⟨#[]⟩)), (.int .i64 0), (.int .i64 0), (.int .i64 0), (.int .i64 0), (.int .i64 0), (.int .i64 0), (.int .i64 0), (.int .i64 0), (.int .i64 0), (.int .i64 0), (.int .i64 0), (.slice none 0 0)]) wh33 (H35.ob (i := 0) rfl).cl)) ?_
     refine RL.st (vs := [(.int .i64 0), (.int .i64 0), (.int .i64 0), (.int .i64 0), (.string (⟨#[]⟩)), (.int .i64 0), (.int .i64 0), (.int .i64 0), (.int .i64 0), (.int .i64 0), (.int .i64 0), (.int .i64 0), (.int .i64 0), (.int .i64 0), (.int .i64 0), (.int .i64 0), (.slice none 0 0)]) (cs' := [(.int .i64 0), (.int .i64 0), (.int .i64 0), (.int .i64 0), (.string (⟨#[]⟩)), (.int .i64 0), (.int .i64 0), (.int .i64 0), (.int .i64 0), (.int .i64 0), (.int .i64 0), (.int .i64 0), (.int .i64 0), (.int .i64 0), (.int .i64 0), (.int .i64 0), (.slice none 0 0)]) Tryz.sizeOf33 (H35.ob (i := 0) rfl) rfl rfl rfl rfl rfl rfl ?_
     intro w52 hz53 g54 o55
     have H56 : Sp [BlkA b10 33 [(.int .i64 0), (.int .i64 0), (.int .i64 0), (.int .i64 0), (.string (⟨#[]⟩)), (.int .i64 0), (.int .i64 0), (.int .i64 0), (.int .i64 0), (.int .i64 0), (.int .i64 0), (.int .i64 0), (.int .i64 0), (.int .i64 0), (.int .i64 0), (.int .i64 0), (.slice none 0 0)], BlkA b2 24 [(.int .i64 k.view), (.int .i64 k.normal), (.int .i64 k.base), (.string (tx k.image)), (.slice A n c)], Fix w NoB] w52 := H35.setB (i := 0) rfl g54 o55 rfl
     have z57 := g54.size
     refine RL.go rfl rfl rfl (Ex.as (v := (.bool false)) rfl) ?_
     refine RL.nil (thn.n (CW.ret (inB.r (thn.r ?_))))
     refine finQ.r (v := (.tuple #[(.agg ([(.int .i64 0), (.int .i64 0), (.int .i64 0), (.int .i64 0), (.string (⟨#[]⟩)), (.int .i64 0), (.int .i64 0), (.int .i64 0), (.int .i64 0), (.int .i64 0), (.int .i64 0), (.int .i64 0), (.int .i64 0), (.int .i64 0), (.int .i64 0), (.int .i64 0), (.slice none 0 0)]).toArray), (.bool false)])) (resv2 rfl (Rv.cell rfl (loadCN (cs := [(.int .i64 0), (.int .i64 0), (.int .i64 0), (.int .i64 0), (.string (⟨#[]⟩)), (.int .i64 0), (.int .i64 0), (.int .i64 0), (.int .i64 0), (.int .i64 0), (.int .i64 0), (.int .i64 0), (.int .i64 0), (.int .i64 0), (.int .i64 0), (.int .i64 0), (.slice none 0 0)]) wh33 (H56.ob (i := 0) rfl).cl)) (Rv.tmp rfl)) ?_
     have H58 := H56.nil_ 31 11
     have hx : adoptB k commit view base l = false := by
       unfold adoptB withinB at *
       simp_all
       try omega
     have hy : adoptR k commit view base l = ⟨0, 0, 0, 0, [], ⟨0, 0, 0, 0, ⟨0, 0, 0, 0, 0, 0, 0⟩⟩, []⟩ := by unfold adoptR; rw [hx]; rfl
     exact ⟨none, 0, 0, by rw [hx, hy]; rfl, by rw [hy]; exact (H58.sel [0, 3] (by decide) rfl)⟩
    ·have hw48 := withinB_t hb51
     refine RL.nil ?_
     refine ⟨H35, ?_⟩
     refine RA.tk 17 131071 262143 rfl rfl rfl (by kernel_rfl) (fun wq hq => Ex.not (b := true) rfl) H35 ?_
     refine RA.tk 18 262143 524287 rfl rfl rfl (by kernel_rfl) (fun wq hq => Ex.pkF (v := (.bool false)) rfl rfl) H35 ?_
     refine RA.tk 19 524287 1048575 rfl rfl rfl (by kernel_rfl) (fun wq hq => Ex.as (v := (.bool false)) rfl) H35 ?_
     refine RA.done (by kernel_rfl) ?_
     refine thn.n (CW.condF rfl ?_)
     refine CW.seq (CW.region ?_)
     refine RL.go rfl rfl rfl (Ex.mv (v := (.int .i64 base)) rfl) ?_
     refine RL.go rfl rfl rfl (Ex.mv (v := (.int .i64 commit)) rfl) ?_
     refine RL.call Tryz.call87 (within_change _ base 0 commit) rfl rfl rfl ?_
     rintro _ _ ⟨rfl, rfl⟩
     rcases hb62 : (withinB base 0 commit) with _ | _
     ·skip
      refine RL.go rfl rfl rfl (Ex.not (b := false) rfl) ?_
      refine RL.go rfl rfl rfl (Ex.mv (v := (.bool true)) rfl) ?_
      refine RL.out rfl rfl rfl ?_
      refine RL.out rfl rfl rfl ?_
      refine RL.out rfl rfl rfl ?_
      refine RL.out rfl rfl rfl ?_
      refine RL.go rfl rfl rfl (Ex.pkT (v := (.bool true)) rfl rfl) ?_
      refine RL.go rfl rfl rfl (Ex.mv (v := (.bool true)) rfl) ?_
      refine RL.out rfl rfl rfl ?_
      refine RL.out rfl rfl rfl ?_
      refine RL.out rfl rfl rfl ?_
      refine RL.out rfl rfl rfl ?_
      refine RL.out rfl rfl rfl ?_
      refine RL.out rfl rfl rfl ?_
      refine RL.go rfl rfl rfl (Ex.pkT (v := (.bool true)) rfl rfl) ?_
      refine RL.go rfl rfl rfl (Ex.as (v := (.bool true)) rfl) ?_
      refine RL.nil (thn.n (CW.condT rfl (CW.seq (CW.region ?_))))
      refine RL.go rfl rfl rfl (Ex.ldv rfl (loadCN (cs := [(.int .i64 0), (.int .i64 0), (.int .i64 0), (.int .i64 0), (.string (⟨#[]⟩)), (.int .i64 0), (.int .i64 0), (.int .i64 0), (.int .i64 0), (.int .i64 0), (.int .i64 0), (.int .i64 0), (.int .i64 0), (.int .i64 0), (.int .i64 0), (.int .i64 0), (.slice none 0 0)]) wh33 (H35.ob (i := 0) rfl).cl)) ?_
      refine RL.st (vs := [(.int .i64 0), (.int .i64 0), (.int .i64 0), (.int .i64 0), (.string (⟨#[]⟩)), (.int .i64 0), (.int .i64 0), (.int .i64 0), (.int .i64 0), (.int .i64 0), (.int .i64 0), (.int .i64 0), (.int .i64 0), (.int .i64 0), (.int .i64 0), (.int .i64 0), (.slice none 0 0)]) (cs' := [(.int .i64 0), (.int .i64 0), (.int .i64 0), (.int .i64 0), (.string (⟨#[]⟩)), (.int .i64 0), (.int .i64 0), (.int .i64 0), (.int .i64 0), (.int .i64 0), (.int .i64 0), (.int .i64 0), (.int .i64 0), (.int .i64 0), (.int .i64 0), (.int .i64 0), (.slice none 0 0)]) Tryz.sizeOf33 (H35.ob (i := 0) rfl) rfl rfl rfl rfl rfl rfl ?_
      intro w63 hz65 g66 o67
      have H68 : Sp [BlkA b10 33 [(.int .i64 0), (.int .i64 0), (.int .i64 0), (.int .i64 0), (.string (⟨#[]⟩)), (.int .i64 0), (.int .i64 0), (.int .i64 0), (.int .i64 0), (.int .i64 0), (.int .i64 0), (.int .i64 0), (.int .i64 0), (.int .i64 0), (.int .i64 0), (.int .i64 0), (.slice none 0 0)], BlkA b2 24 [(.int .i64 k.view), (.int .i64 k.normal), (.int .i64 k.base), (.string (tx k.image)), (.slice A n c)], Fix w NoB] w63 := H35.setB (i := 0) rfl g66 o67 rfl
      have z69 := g66.size
      refine RL.go rfl rfl rfl (Ex.as (v := (.bool false)) rfl) ?_
      refine RL.nil (thn.n (CW.ret (inB.r (thn.r ?_))))
      refine finQ.r (v := (.tuple #[(.agg ([(.int .i64 0), (.int .i64 0), (.int .i64 0), (.int .i64 0), (.string (⟨#[]⟩)), (.int .i64 0), (.int .i64 0), (.int .i64 0), (.int .i64 0), (.int .i64 0), (.int .i64 0), (.int .i64 0), (.int .i64 0), (.int .i64 0), (.int .i64 0), (.int .i64 0), (.slice none 0 0)]).toArray), (.bool false)])) (resv2 rfl (Rv.cell rfl (loadCN (cs := [(.int .i64 0), (.int .i64 0), (.int .i64 0), (.int .i64 0), (.string (⟨#[]⟩)), (.int .i64 0), (.int .i64 0), (.int .i64 0), (.int .i64 0), (.int .i64 0), (.int .i64 0), (.int .i64 0), (.int .i64 0), (.int .i64 0), (.int .i64 0), (.int .i64 0), (.slice none 0 0)]) wh33 (H68.ob (i := 0) rfl).cl)) (Rv.tmp rfl)) ?_
      have H70 := H68.nil_ 31 11
      have hx : adoptB k commit view base l = false := by
        unfold adoptB withinB at *
        simp_all
        try omega
      have hy : adoptR k commit view base l = ⟨0, 0, 0, 0, [], ⟨0, 0, 0, 0, ⟨0, 0, 0, 0, 0, 0, 0⟩⟩, []⟩ := by unfold adoptR; rw [hx]; rfl
      exact ⟨none, 0, 0, by rw [hx, hy]; rfl, by rw [hy]; exact (H70.sel [0, 3] (by decide) rfl)⟩
     ·have hw59 := withinB_t hb62
      refine RL.go rfl rfl rfl (Ex.not (b := true) rfl) ?_
      refine RL.go rfl rfl rfl (Ex.mv (v := (.bool false)) rfl) ?_
      refine RL.go rfl rfl rfl (Ex.mv (v := (.slice A2 n2 c2)) rfl) ?_
      refine RL.go rfl rfl rfl (Ex.mv (v := (.int .i64 base)) rfl) ?_
      refine RL.call Tryz.call88 (crow _ _ l A2 n2 c2 base (hr2.st0 (H35.fix (i := 2) rfl)) (by omega) (by first | rfl | assumption | omega) (by omega)) rfl rfl rfl ?_
      rintro _ w71 ⟨rfl, g72⟩
      have H73 := H35.grow g72
      have z74 := g72.size
      rcases hb75 : (follB l base) with _ | _
      ·skip
       refine RL.go rfl rfl rfl (Ex.not (b := false) rfl) ?_
       refine RL.go rfl rfl rfl (Ex.pkF (v := (.bool true)) rfl rfl) ?_
       refine RL.go rfl rfl rfl (Ex.mv (v := (.bool true)) rfl) ?_
       refine RL.out rfl rfl rfl ?_
       refine RL.out rfl rfl rfl ?_
       refine RL.out rfl rfl rfl ?_
       refine RL.out rfl rfl rfl ?_
       refine RL.out rfl rfl rfl ?_
       refine RL.out rfl rfl rfl ?_
       refine RL.go rfl rfl rfl (Ex.pkT (v := (.bool true)) rfl rfl) ?_
       refine RL.go rfl rfl rfl (Ex.as (v := (.bool true)) rfl) ?_
       refine RL.nil (thn.n (CW.condT rfl (CW.seq (CW.region ?_))))
       refine RL.go rfl rfl rfl (Ex.ldv rfl (loadCN (cs := [(.int .i64 0), (.int .i64 0), (.int .i64 0), (.int .i64 0), (.string (⟨#[]⟩)), (.int .i64 0), (.int .i64 0), (.int .i64 0), (.int .i64 0), (.int .i64 0), (.int .i64 0), (.int .i64 0), (.int .i64 0), (.int .i64 0), (.int .i64 0), (.int .i64 0), (.slice none 0 0)]) wh33 (H73.ob (i := 0) rfl).cl)) ?_
       refine RL.st (vs := [(.int .i64 0), (.int .i64 0), (.int .i64 0), (.int .i64 0), (.string (⟨#[]⟩)), (.int .i64 0), (.int .i64 0), (.int .i64 0), (.int .i64 0), (.int .i64 0), (.int .i64 0), (.int .i64 0), (.int .i64 0), (.int .i64 0), (.int .i64 0), (.int .i64 0), (.slice none 0 0)]) (cs' := [(.int .i64 0), (.int .i64 0), (.int .i64 0), (.int .i64 0), (.string (⟨#[]⟩)), (.int .i64 0), (.int .i64 0), (.int .i64 0), (.int .i64 0), (.int .i64 0), (.int .i64 0), (.int .i64 0), (.int .i64 0), (.int .i64 0), (.int .i64 0), (.int .i64 0), (.slice none 0 0)]) Tryz.sizeOf33 (H73.ob (i := 0) rfl) rfl rfl rfl rfl rfl rfl ?_
       intro w76 hz77 g78 o79
       have H80 : Sp [BlkA b10 33 [(.int .i64 0), (.int .i64 0), (.int .i64 0), (.int .i64 0), (.string (⟨#[]⟩)), (.int .i64 0), (.int .i64 0), (.int .i64 0), (.int .i64 0), (.int .i64 0), (.int .i64 0), (.int .i64 0), (.int .i64 0), (.int .i64 0), (.int .i64 0), (.int .i64 0), (.slice none 0 0)], BlkA b2 24 [(.int .i64 k.view), (.int .i64 k.normal), (.int .i64 k.base), (.string (tx k.image)), (.slice A n c)], Fix w NoB] w76 := H73.setB (i := 0) rfl g78 o79 rfl
       have z81 := g78.size
       refine RL.go rfl rfl rfl (Ex.as (v := (.bool false)) rfl) ?_
       refine RL.nil (thn.n (CW.ret (inB.r (thn.r ?_))))
       refine finQ.r (v := (.tuple #[(.agg ([(.int .i64 0), (.int .i64 0), (.int .i64 0), (.int .i64 0), (.string (⟨#[]⟩)), (.int .i64 0), (.int .i64 0), (.int .i64 0), (.int .i64 0), (.int .i64 0), (.int .i64 0), (.int .i64 0), (.int .i64 0), (.int .i64 0), (.int .i64 0), (.int .i64 0), (.slice none 0 0)]).toArray), (.bool false)])) (resv2 rfl (Rv.cell rfl (loadCN (cs := [(.int .i64 0), (.int .i64 0), (.int .i64 0), (.int .i64 0), (.string (⟨#[]⟩)), (.int .i64 0), (.int .i64 0), (.int .i64 0), (.int .i64 0), (.int .i64 0), (.int .i64 0), (.int .i64 0), (.int .i64 0), (.int .i64 0), (.int .i64 0), (.int .i64 0), (.slice none 0 0)]) wh33 (H80.ob (i := 0) rfl).cl)) (Rv.tmp rfl)) ?_
       have H82 := H80.nil_ 31 11
       have hx : adoptB k commit view base l = false := by
         unfold adoptB withinB at *
         simp_all
         try omega
       have hy : adoptR k commit view base l = ⟨0, 0, 0, 0, [], ⟨0, 0, 0, 0, ⟨0, 0, 0, 0, 0, 0, 0⟩⟩, []⟩ := by unfold adoptR; rw [hx]; rfl
       exact ⟨none, 0, 0, by rw [hx, hy]; rfl, by rw [hy]; exact (H82.sel [0, 3] (by decide) rfl)⟩
      ·skip
       refine RL.go rfl rfl rfl (Ex.not (b := true) rfl) ?_
       refine RL.go rfl rfl rfl (Ex.pkF (v := (.bool false)) rfl rfl) ?_
       refine RL.go rfl rfl rfl (Ex.mv (v := (.bool false)) rfl) ?_
       refine RL.go rfl rfl rfl (Ex.mv (v := (.slice A2 n2 c2)) rfl) ?_
       refine RL.go rfl rfl rfl (Ex.len Tryz.underlying22 rfl) ?_
       refine RL.go rfl rfl rfl (Ex.mv (v := (.int .i64 commit)) rfl) ?_
       refine RL.go rfl rfl rfl (Ex.mv (v := (.int .i64 base)) rfl) ?_
       have hwb83 : 0 ≤ base ∧ base ≤ commit := withinB_t (by assumption)
       refine RL.go rfl rfl rfl (Ex.sub_ (r := commit - base) rfl rfl (w64 (by omega) (by omega))) ?_
       refine RL.br (p := ((n2 : Nat) : Int) < (commit - base : Int)) rfl rfl rfl (fun r hr => Ex.lt rfl rfl hr) (fun h84 => ?_) (fun h84 => ?_)
       ·skip
        refine RL.go rfl rfl rfl (Ex.pkF (v := (.bool true)) rfl rfl) ?_
        refine RL.go rfl rfl rfl (Ex.as (v := (.bool true)) rfl) ?_
        refine RL.nil (thn.n (CW.condT rfl (CW.seq (CW.region ?_))))
        refine RL.go rfl rfl rfl (Ex.ldv rfl (loadCN (cs := [(.int .i64 0), (.int .i64 0), (.int .i64 0), (.int .i64 0), (.string (⟨#[]⟩)), (.int .i64 0), (.int .i64 0), (.int .i64 0), (.int .i64 0), (.int .i64 0), (.int .i64 0), (.int .i64 0), (.int .i64 0), (.int .i64 0), (.int .i64 0), (.int .i64 0), (.slice none 0 0)]) wh33 (H73.ob (i := 0) rfl).cl)) ?_
        refine RL.st (vs := [(.int .i64 0), (.int .i64 0), (.int .i64 0), (.int .i64 0), (.string (⟨#[]⟩)), (.int .i64 0), (.int .i64 0), (.int .i64 0), (.int .i64 0), (.int .i64 0), (.int .i64 0), (.int .i64 0), (.int .i64 0), (.int .i64 0), (.int .i64 0), (.int .i64 0), (.slice none 0 0)]) (cs' := [(.int .i64 0), (.int .i64 0), (.int .i64 0), (.int .i64 0), (.string (⟨#[]⟩)), (.int .i64 0), (.int .i64 0), (.int .i64 0), (.int .i64 0), (.int .i64 0), (.int .i64 0), (.int .i64 0), (.int .i64 0), (.int .i64 0), (.int .i64 0), (.int .i64 0), (.slice none 0 0)]) Tryz.sizeOf33 (H73.ob (i := 0) rfl) rfl rfl rfl rfl rfl rfl ?_
        intro w85 hz86 g87 o88
        have H89 : Sp [BlkA b10 33 [(.int .i64 0), (.int .i64 0), (.int .i64 0), (.int .i64 0), (.string (⟨#[]⟩)), (.int .i64 0), (.int .i64 0), (.int .i64 0), (.int .i64 0), (.int .i64 0), (.int .i64 0), (.int .i64 0), (.int .i64 0), (.int .i64 0), (.int .i64 0), (.int .i64 0), (.slice none 0 0)], BlkA b2 24 [(.int .i64 k.view), (.int .i64 k.normal), (.int .i64 k.base), (.string (tx k.image)), (.slice A n c)], Fix w NoB] w85 := H73.setB (i := 0) rfl g87 o88 rfl
        have z90 := g87.size
        refine RL.go rfl rfl rfl (Ex.as (v := (.bool false)) rfl) ?_
        refine RL.nil (thn.n (CW.ret (inB.r (thn.r ?_))))
        refine finQ.r (v := (.tuple #[(.agg ([(.int .i64 0), (.int .i64 0), (.int .i64 0), (.int .i64 0), (.string (⟨#[]⟩)), (.int .i64 0), (.int .i64 0), (.int .i64 0), (.int .i64 0), (.int .i64 0), (.int .i64 0), (.int .i64 0), (.int .i64 0), (.int .i64 0), (.int .i64 0), (.int .i64 0), (.slice none 0 0)]).toArray), (.bool false)])) (resv2 rfl (Rv.cell rfl (loadCN (cs := [(.int .i64 0), (.int .i64 0), (.int .i64 0), (.int .i64 0), (.string (⟨#[]⟩)), (.int .i64 0), (.int .i64 0), (.int .i64 0), (.int .i64 0), (.int .i64 0), (.int .i64 0), (.int .i64 0), (.int .i64 0), (.int .i64 0), (.int .i64 0), (.int .i64 0), (.slice none 0 0)]) wh33 (H89.ob (i := 0) rfl).cl)) (Rv.tmp rfl)) ?_
        have H91 := H89.nil_ 31 11
        have hx : adoptB k commit view base l = false := by
          unfold adoptB withinB at *
          simp_all
          try omega
        have hy : adoptR k commit view base l = ⟨0, 0, 0, 0, [], ⟨0, 0, 0, 0, ⟨0, 0, 0, 0, 0, 0, 0⟩⟩, []⟩ := by unfold adoptR; rw [hx]; rfl
        exact ⟨none, 0, 0, by rw [hx, hy]; rfl, by rw [hy]; exact (H91.sel [0, 3] (by decide) rfl)⟩
       ·skip
        refine RL.go rfl rfl rfl (Ex.pkF (v := (.bool false)) rfl rfl) ?_
        refine RL.go rfl rfl rfl (Ex.as (v := (.bool false)) rfl) ?_
        refine RL.nil (thn.n (CW.condF rfl (CW.skip (inB.n (thn.n (CW.seq (CW.region ?_)))))))
        have hwb92 : 0 ≤ base ∧ base ≤ commit := withinB_t (by assumption)
        refine RL.go rfl rfl rfl (Ex.mv (v := (.int .i64 view)) rfl) ?_
        refine RL.go rfl rfl rfl (Ex.mv (v := (.int .i64 commit)) rfl) ?_
        refine RL.go rfl rfl rfl (Ex.mv (v := (.slice A2 n2 c2)) rfl) ?_
        refine RL.go rfl rfl rfl (Ex.mv (v := (.int .i64 commit)) rfl) ?_
        refine RL.go rfl rfl rfl (Ex.mv (v := (.int .i64 base)) rfl) ?_
        refine RL.go rfl rfl rfl (Ex.sub_ (r := commit - base) rfl rfl (w64 (by omega) (by omega))) ?_
        refine RL.slR (i := (commit - base).toNat) Tryz.underlying22 Tryz.sizeOf31 (hr2.st0 (H73.fix (i := 2) rfl)) rfl rfl (by omega) (by omega) (by simp only [bcs_length, ics_length, rows_length, blks_length, robjs_length, ents_length, List.length_append, List.length_cons, List.length_nil, List.length_take, List.length_drop, List.length_map, enc4, enc8, encN_len, encW_len, recsE_length]; omega) rfl rfl ?_
        intro A93 r94
        refine RL.call Tryz.call89 (cloneEnt _ ((l).drop ((commit - base).toNat)) _ _ _ _ (ents_drop _ _ ▸ r94) (by (try simp only [List.length_append, List.length_cons, List.length_nil, List.length_take, List.length_drop]); all_goals omega) (by omega)) rfl rfl rfl ?_
        rintro _ w98 ⟨A95, c96, rfl, g99, ow97⟩
        have H100 : Sp [RowA 31 11 A95 (n2 - ((commit - base).toNat)) c96 (ents ((l).drop ((commit - base).toNat))), BlkA b10 33 [(.int .i64 0), (.int .i64 0), (.int .i64 0), (.int .i64 0), (.string (⟨#[]⟩)), (.int .i64 0), (.int .i64 0), (.int .i64 0), (.int .i64 0), (.int .i64 0), (.int .i64 0), (.int .i64 0), (.int .i64 0), (.int .i64 0), (.int .i64 0), (.int .i64 0), (.slice none 0 0)], BlkA b2 24 [(.int .i64 k.view), (.int .i64 k.normal), (.int .i64 k.base), (.string (tx k.image)), (.slice A n c)], Fix w NoB] w98 := H73.newO g99 ow97 (by simp only [bcs_length, ics_length, rows_length, blks_length, robjs_length, ents_length, List.length_append, List.length_cons, List.length_nil, List.length_take, List.length_drop, List.length_map, enc4, enc8, encN_len, encW_len, recsE_length]; omega) (Nat.le_refl _)
        have z101 := g99.size
        refine RL.go rfl rfl rfl (Ex.bd (cs := [(.int .i64 3), (.int .i64 view), (.int .i64 commit), (.int .i64 0), (.string (⟨#[]⟩)), (.int .i64 0), (.int .i64 0), (.int .i64 0), (.int .i64 0), (.int .i64 0), (.int .i64 0), (.int .i64 0), (.int .i64 0), (.int .i64 0), (.int .i64 0), (.int .i64 0), (.slice A95 (n2 - ((commit - base).toNat)) c96)]) bd33 rfl) ?_
        refine RL.st (vs := [(.int .i64 3), (.int .i64 view), (.int .i64 commit), (.int .i64 0), (.string (⟨#[]⟩)), (.int .i64 0), (.int .i64 0), (.int .i64 0), (.int .i64 0), (.int .i64 0), (.int .i64 0), (.int .i64 0), (.int .i64 0), (.int .i64 0), (.int .i64 0), (.int .i64 0), (.slice A95 (n2 - ((commit - base).toNat)) c96)]) (cs' := [(.int .i64 3), (.int .i64 view), (.int .i64 commit), (.int .i64 0), (.string (⟨#[]⟩)), (.int .i64 0), (.int .i64 0), (.int .i64 0), (.int .i64 0), (.int .i64 0), (.int .i64 0), (.int .i64 0), (.int .i64 0), (.int .i64 0), (.int .i64 0), (.int .i64 0), (.slice A95 (n2 - ((commit - base).toNat)) c96)]) Tryz.sizeOf33 (H100.ob (i := 1) rfl) rfl rfl rfl rfl rfl rfl ?_
        intro w102 hz103 g104 o105
        have H106 : Sp [RowA 31 11 A95 (n2 - ((commit - base).toNat)) c96 (ents ((l).drop ((commit - base).toNat))), BlkA b10 33 [(.int .i64 3), (.int .i64 view), (.int .i64 commit), (.int .i64 0), (.string (⟨#[]⟩)), (.int .i64 0), (.int .i64 0), (.int .i64 0), (.int .i64 0), (.int .i64 0), (.int .i64 0), (.int .i64 0), (.int .i64 0), (.int .i64 0), (.int .i64 0), (.int .i64 0), (.slice A95 (n2 - ((commit - base).toNat)) c96)], BlkA b2 24 [(.int .i64 k.view), (.int .i64 k.normal), (.int .i64 k.base), (.string (tx k.image)), (.slice A n c)], Fix w NoB] w102 := H100.setB (i := 1) rfl g104 o105 rfl
        have z107 := g104.size
        refine RL.go rfl rfl rfl (Ex.as (v := (.bool true)) rfl) ?_
        refine RL.nil (thn.n (CW.ret ?_))
        refine finQ.r (v := (.tuple #[(.agg ([(.int .i64 3), (.int .i64 view), (.int .i64 commit), (.int .i64 0), (.string (⟨#[]⟩)), (.int .i64 0), (.int .i64 0), (.int .i64 0), (.int .i64 0), (.int .i64 0), (.int .i64 0), (.int .i64 0), (.int .i64 0), (.int .i64 0), (.int .i64 0), (.int .i64 0), (.slice A95 (n2 - ((commit - base).toNat)) c96)]).toArray), (.bool true)])) (resv2 rfl (Rv.cell rfl (loadCN (cs := [(.int .i64 3), (.int .i64 view), (.int .i64 commit), (.int .i64 0), (.string (⟨#[]⟩)), (.int .i64 0), (.int .i64 0), (.int .i64 0), (.int .i64 0), (.int .i64 0), (.int .i64 0), (.int .i64 0), (.int .i64 0), (.int .i64 0), (.int .i64 0), (.int .i64 0), (.slice A95 (n2 - ((commit - base).toNat)) c96)]) wh33 (H106.ob (i := 1) rfl).cl)) (Rv.tmp rfl)) ?_
        have hx : adoptB k commit view base l = true := by
          unfold adoptB withinB at *
          simp_all
          try omega
        have hy : adoptR k commit view base l = ⟨3, view, commit, 0, [], ⟨0, 0, 0, 0, ⟨0, 0, 0, 0, 0, 0, 0⟩⟩, l.drop (commit - base).toNat⟩ := by unfold adoptR; rw [if_pos hx]
        exact ⟨_, _, _, by rw [hx, hy]; rfl, by rw [hy]; exact (H106.sel [0, 3] (by decide) rfl)⟩
set_option maxHeartbeats 1000000 in
set_option maxRecDepth 20000 in
theorem row17_1 (w : World)  : Ret Tryz.prog 93 [(.int .i64 1)] w (fun v w' => ∃ (A' : Option Addr) (c' : Nat), v = .slice A' 1 c' ∧ Sp ([RowA 31 11 A' 1 c' (ents tl1)] ++ [Fix w NoB]) w') := by
  have H0 : Sp [Fix w NoB] w := Sp.start w
  refine Ret.body Tryz.func93 rfl rfl rfl ?_
  refine CW.seq (CW.region ?_)
  refine RL.go rfl rfl rfl (Ex.as (v := (.slice none 0 0)) rfl) ?_
  refine RL.nil (thn.n (CW.seq (CW.region ?_)))
  refine RL.go rfl rfl rfl (Ex.as (v := (.slice none 0 0)) rfl) ?_
  refine RL.nil (thn.n (CW.seq (CW.seq (CW.region ?_))))
  refine RL.go rfl rfl rfl (Ex.as (v := (.int .i64 1)) rfl) ?_
  refine RL.nil (thn.n (CW.block ?_))
  refine CW.unroll ?_
  refine CL.step ?_
  refine CW.seq (CW.seq ?_)
  refine CW.region ?_
  refine RL.go rfl rfl rfl (Ex.mv (v := (.int .i64 1)) rfl) ?_
  refine RL.go rfl rfl rfl (Ex.mv (v := (.int .i64 1)) rfl) ?_
  refine RL.go rfl rfl rfl (Ex.le (r := true) rfl rfl (by decide)) ?_
  refine RL.nil (thn.n (CW.condT rfl (CW.skip (thn.n (CW.seq (CW.block (CW.region ?_)))))))
  refine RL.go rfl rfl rfl (Ex.mv (v := (.slice none 0 0)) rfl) ?_
  refine RL.go rfl rfl rfl (Ex.mv (v := (.int .i64 1)) rfl) ?_
  refine RL.go rfl rfl rfl (Ex.bd (cs := [(.int .i64 1), (.int .i64 0), (.int .i64 0), (.int .i64 0), (.int .i64 0), (.int .i64 0), (.int .i64 0), (.int .i64 0), (.int .i64 0), (.int .i64 0), (.int .i64 0)]) bd31 rfl) ?_
  refine RL.bs (cs := [(.int .i64 1), (.int .i64 0), (.int .i64 0), (.int .i64 0), (.int .i64 0), (.int .i64 0), (.int .i64 0), (.int .i64 0), (.int .i64 0), (.int .i64 0), (.int .i64 0)]) Tryz.underlying22 Tryz.sizeOf31 ze22 rfl rfl rfl (by decide) rfl rfl rfl ?_
  intro w1 b2 hb3 hz4 g5 o6
  have H7 := H0.newB g5 o6 (by omega)
  have z8 := g5.size
  have H9 := H7.nil_ 31 11
  refine RL.apW (base := 0) (xss := (ents [])) (yss := (ents ([(⟨1, 0, 0, 0, ⟨0, 0, 0, 0, 0, 0, 0⟩⟩ : Entry)]))) el22 (H9.wr (i := 0) rfl) rfl (Ob.rd1 (H9.ob (i := 1) rfl) rfl) rfl (by simp only [bcs_length, ics_length, rows_length, blks_length, robjs_length, ents_length, List.length_append, List.length_cons, List.length_nil, List.length_take, List.length_drop, List.length_map, enc4, enc8, encN_len, encW_len, recsE_length]; try omega) (ents_one _) (by omega) (by omega) (by omega) rfl rfl ?_
  intro w10 A11 c12 g13 ow14 nx15
  have H16 : Sp [RowA 31 11 A11 (0 + 1) c12 (ents ([(⟨1, 0, 0, 0, ⟨0, 0, 0, 0, 0, 0, 0⟩⟩ : Entry)])), BlkA b2 31 [(.int .i64 1), (.int .i64 0), (.int .i64 0), (.int .i64 0), (.int .i64 0), (.int .i64 0), (.int .i64 0), (.int .i64 0), (.int .i64 0), (.int .i64 0), (.int .i64 0)], Fix w NoB] w10 := H9.setR (i := 0) rfl g13 ((List.nil_append _) ▸ ow14) nx15 rfl
  have z17 := g13.size
  refine RL.go rfl rfl rfl (Ex.as (v := (.slice A11 (0 + 1) c12)) rfl) ?_
  refine RL.nil (inB.n (thn.n (CW.region ?_)))
  refine RL.go rfl rfl rfl (Ex.mv (v := (.int .i64 1)) rfl) ?_
  refine RL.go rfl rfl rfl (Ex.add (r := 2) rfl rfl rfl) ?_
  refine RL.go rfl rfl rfl (Ex.as (v := (.int .i64 2)) rfl) ?_
  refine RL.nil (thn.n ?_)
  refine CL.step ?_
  refine CW.seq (CW.seq ?_)
  refine CW.region ?_
  refine RL.go rfl rfl rfl (Ex.mv (v := (.int .i64 2)) rfl) ?_
  refine RL.go rfl rfl rfl (Ex.mv (v := (.int .i64 1)) rfl) ?_
  refine RL.go rfl rfl rfl (Ex.le (r := false) rfl rfl (by decide)) ?_
  refine RL.nil (thn.n (CW.condF rfl (CW.exit (thn.x (thn.x (inB.hit (thn.n (CW.seq (CW.region ?_)))))))))
  refine RL.go rfl rfl rfl (Ex.mv (v := (.slice A11 (0 + 1) c12)) rfl) ?_
  refine RL.go rfl rfl rfl (Ex.as (v := (.slice A11 (0 + 1) c12)) rfl) ?_
  refine RL.nil (thn.n (CW.ret ?_))
  refine finQ.r (v := (.slice A11 (0 + 1) c12)) (res1 rfl rfl) ?_
  exact ⟨_, _, rfl, (H16.sel [0, 2] (by decide) rfl)⟩
set_option maxHeartbeats 1000000 in
set_option maxRecDepth 20000 in
theorem row17_3 (w : World)  : Ret Tryz.prog 93 [(.int .i64 3)] w (fun v w' => ∃ (A' : Option Addr) (c' : Nat), v = .slice A' 3 c' ∧ Sp ([RowA 31 11 A' 3 c' (ents tl3)] ++ [Fix w NoB]) w') := by
  have H0 : Sp [Fix w NoB] w := Sp.start w
  refine Ret.body Tryz.func93 rfl rfl rfl ?_
  refine CW.seq (CW.region ?_)
  refine RL.go rfl rfl rfl (Ex.as (v := (.slice none 0 0)) rfl) ?_
  refine RL.nil (thn.n (CW.seq (CW.region ?_)))
  refine RL.go rfl rfl rfl (Ex.as (v := (.slice none 0 0)) rfl) ?_
  refine RL.nil (thn.n (CW.seq (CW.seq (CW.region ?_))))
  refine RL.go rfl rfl rfl (Ex.as (v := (.int .i64 1)) rfl) ?_
  refine RL.nil (thn.n (CW.block ?_))
  refine CW.unroll ?_
  refine CL.step ?_
  refine CW.seq (CW.seq ?_)
  refine CW.region ?_
  refine RL.go rfl rfl rfl (Ex.mv (v := (.int .i64 1)) rfl) ?_
  refine RL.go rfl rfl rfl (Ex.mv (v := (.int .i64 3)) rfl) ?_
  refine RL.go rfl rfl rfl (Ex.le (r := true) rfl rfl (by decide)) ?_
  refine RL.nil (thn.n (CW.condT rfl (CW.skip (thn.n (CW.seq (CW.block (CW.region ?_)))))))
  refine RL.go rfl rfl rfl (Ex.mv (v := (.slice none 0 0)) rfl) ?_
  refine RL.go rfl rfl rfl (Ex.mv (v := (.int .i64 1)) rfl) ?_
  refine RL.go rfl rfl rfl (Ex.bd (cs := [(.int .i64 1), (.int .i64 0), (.int .i64 0), (.int .i64 0), (.int .i64 0), (.int .i64 0), (.int .i64 0), (.int .i64 0), (.int .i64 0), (.int .i64 0), (.int .i64 0)]) bd31 rfl) ?_
  refine RL.bs (cs := [(.int .i64 1), (.int .i64 0), (.int .i64 0), (.int .i64 0), (.int .i64 0), (.int .i64 0), (.int .i64 0), (.int .i64 0), (.int .i64 0), (.int .i64 0), (.int .i64 0)]) Tryz.underlying22 Tryz.sizeOf31 ze22 rfl rfl rfl (by decide) rfl rfl rfl ?_
  intro w1 b2 hb3 hz4 g5 o6
  have H7 := H0.newB g5 o6 (by omega)
  have z8 := g5.size
  have H9 := H7.nil_ 31 11
  refine RL.apW (base := 0) (xss := (ents [])) (yss := (ents ([(⟨1, 0, 0, 0, ⟨0, 0, 0, 0, 0, 0, 0⟩⟩ : Entry)]))) el22 (H9.wr (i := 0) rfl) rfl (Ob.rd1 (H9.ob (i := 1) rfl) rfl) rfl (by simp only [bcs_length, ics_length, rows_length, blks_length, robjs_length, ents_length, List.length_append, List.length_cons, List.length_nil, List.length_take, List.length_drop, List.length_map, enc4, enc8, encN_len, encW_len, recsE_length]; try omega) (ents_one _) (by omega) (by omega) (by omega) rfl rfl ?_
  intro w10 A11 c12 g13 ow14 nx15
  have H16 : Sp [RowA 31 11 A11 (0 + 1) c12 (ents ([(⟨1, 0, 0, 0, ⟨0, 0, 0, 0, 0, 0, 0⟩⟩ : Entry)])), BlkA b2 31 [(.int .i64 1), (.int .i64 0), (.int .i64 0), (.int .i64 0), (.int .i64 0), (.int .i64 0), (.int .i64 0), (.int .i64 0), (.int .i64 0), (.int .i64 0), (.int .i64 0)], Fix w NoB] w10 := H9.setR (i := 0) rfl g13 ((List.nil_append _) ▸ ow14) nx15 rfl
  have z17 := g13.size
  refine RL.go rfl rfl rfl (Ex.as (v := (.slice A11 (0 + 1) c12)) rfl) ?_
  refine RL.nil (inB.n (thn.n (CW.region ?_)))
  refine RL.go rfl rfl rfl (Ex.mv (v := (.int .i64 1)) rfl) ?_
  refine RL.go rfl rfl rfl (Ex.add (r := 2) rfl rfl rfl) ?_
  refine RL.go rfl rfl rfl (Ex.as (v := (.int .i64 2)) rfl) ?_
  refine RL.nil (thn.n ?_)
  refine CL.step ?_
  refine CW.seq (CW.seq ?_)
  refine CW.region ?_
  refine RL.go rfl rfl rfl (Ex.mv (v := (.int .i64 2)) rfl) ?_
  refine RL.go rfl rfl rfl (Ex.mv (v := (.int .i64 3)) rfl) ?_
  refine RL.go rfl rfl rfl (Ex.le (r := true) rfl rfl (by decide)) ?_
  refine RL.nil (thn.n (CW.condT rfl (CW.skip (thn.n (CW.seq (CW.block (CW.region ?_)))))))
  refine RL.go rfl rfl rfl (Ex.mv (v := (.slice A11 (0 + 1) c12)) rfl) ?_
  refine RL.go rfl rfl rfl (Ex.mv (v := (.int .i64 2)) rfl) ?_
  refine RL.go rfl rfl rfl (Ex.bd (cs := [(.int .i64 2), (.int .i64 0), (.int .i64 0), (.int .i64 0), (.int .i64 0), (.int .i64 0), (.int .i64 0), (.int .i64 0), (.int .i64 0), (.int .i64 0), (.int .i64 0)]) bd31 rfl) ?_
  refine RL.bs (cs := [(.int .i64 2), (.int .i64 0), (.int .i64 0), (.int .i64 0), (.int .i64 0), (.int .i64 0), (.int .i64 0), (.int .i64 0), (.int .i64 0), (.int .i64 0), (.int .i64 0)]) Tryz.underlying22 Tryz.sizeOf31 ze22 rfl rfl rfl (by decide) rfl rfl rfl ?_
  intro w18 b19 hb20 hz21 g22 o23
  have H24 := H16.newB g22 o23 (by omega)
  have z25 := g22.size
  refine RL.apW (base := 0) (xss := (ents ([(⟨1, 0, 0, 0, ⟨0, 0, 0, 0, 0, 0, 0⟩⟩ : Entry)]))) (yss := (ents ([(⟨2, 0, 0, 0, ⟨0, 0, 0, 0, 0, 0, 0⟩⟩ : Entry)]))) el22 (H24.wr (i := 1) rfl) rfl (Ob.rd1 (H24.ob (i := 0) rfl) rfl) rfl (by simp only [bcs_length, ics_length, rows_length, blks_length, robjs_length, ents_length, List.length_append, List.length_cons, List.length_nil, List.length_take, List.length_drop, List.length_map, enc4, enc8, encN_len, encW_len, recsE_length]; try omega) (ents_one _) (by omega) (by omega) (by omega) rfl rfl ?_
  intro w26 A27 c28 g29 ow30 nx31
  have H32 : Sp [BlkA b19 31 [(.int .i64 2), (.int .i64 0), (.int .i64 0), (.int .i64 0), (.int .i64 0), (.int .i64 0), (.int .i64 0), (.int .i64 0), (.int .i64 0), (.int .i64 0), (.int .i64 0)], RowA 31 11 A27 ((0 + 1) + 1) c28 (ents ([(⟨1, 0, 0, 0, ⟨0, 0, 0, 0, 0, 0, 0⟩⟩ : Entry)] ++ [(⟨2, 0, 0, 0, ⟨0, 0, 0, 0, 0, 0, 0⟩⟩ : Entry)])), BlkA b2 31 [(.int .i64 1), (.int .i64 0), (.int .i64 0), (.int .i64 0), (.int .i64 0), (.int .i64 0), (.int .i64 0), (.int .i64 0), (.int .i64 0), (.int .i64 0), (.int .i64 0)], Fix w NoB] w26 := H24.setR (i := 1) rfl g29 ((ents_app _ _).symm ▸ ow30) nx31 rfl
  have z33 := g29.size
  refine RL.go rfl rfl rfl (Ex.as (v := (.slice A27 ((0 + 1) + 1) c28)) rfl) ?_
  refine RL.nil (inB.n (thn.n (CW.region ?_)))
  refine RL.go rfl rfl rfl (Ex.mv (v := (.int .i64 2)) rfl) ?_
  refine RL.go rfl rfl rfl (Ex.add (r := 3) rfl rfl rfl) ?_
  refine RL.go rfl rfl rfl (Ex.as (v := (.int .i64 3)) rfl) ?_
  refine RL.nil (thn.n ?_)
  refine CL.step ?_
  refine CW.seq (CW.seq ?_)
  refine CW.region ?_
  refine RL.go rfl rfl rfl (Ex.mv (v := (.int .i64 3)) rfl) ?_
  refine RL.go rfl rfl rfl (Ex.mv (v := (.int .i64 3)) rfl) ?_
  refine RL.go rfl rfl rfl (Ex.le (r := true) rfl rfl (by decide)) ?_
  refine RL.nil (thn.n (CW.condT rfl (CW.skip (thn.n (CW.seq (CW.block (CW.region ?_)))))))
  refine RL.go rfl rfl rfl (Ex.mv (v := (.slice A27 ((0 + 1) + 1) c28)) rfl) ?_
  refine RL.go rfl rfl rfl (Ex.mv (v := (.int .i64 3)) rfl) ?_
  refine RL.go rfl rfl rfl (Ex.bd (cs := [(.int .i64 3), (.int .i64 0), (.int .i64 0), (.int .i64 0), (.int .i64 0), (.int .i64 0), (.int .i64 0), (.int .i64 0), (.int .i64 0), (.int .i64 0), (.int .i64 0)]) bd31 rfl) ?_
  refine RL.bs (cs := [(.int .i64 3), (.int .i64 0), (.int .i64 0), (.int .i64 0), (.int .i64 0), (.int .i64 0), (.int .i64 0), (.int .i64 0), (.int .i64 0), (.int .i64 0), (.int .i64 0)]) Tryz.underlying22 Tryz.sizeOf31 ze22 rfl rfl rfl (by decide) rfl rfl rfl ?_
  intro w34 b35 hb36 hz37 g38 o39
  have H40 := H32.newB g38 o39 (by omega)
  have z41 := g38.size
  refine RL.apW (base := 0) (xss := (ents ([(⟨1, 0, 0, 0, ⟨0, 0, 0, 0, 0, 0, 0⟩⟩ : Entry)] ++ [(⟨2, 0, 0, 0, ⟨0, 0, 0, 0, 0, 0, 0⟩⟩ : Entry)]))) (yss := (ents ([(⟨3, 0, 0, 0, ⟨0, 0, 0, 0, 0, 0, 0⟩⟩ : Entry)]))) el22 (H40.wr (i := 2) rfl) rfl (Ob.rd1 (H40.ob (i := 0) rfl) rfl) rfl (by simp only [bcs_length, ics_length, rows_length, blks_length, robjs_length, ents_length, List.length_append, List.length_cons, List.length_nil, List.length_take, List.length_drop, List.length_map, enc4, enc8, encN_len, encW_len, recsE_length]; try omega) (ents_one _) (by omega) (by omega) (by omega) rfl rfl ?_
  intro w42 A43 c44 g45 ow46 nx47
  have H48 : Sp [BlkA b35 31 [(.int .i64 3), (.int .i64 0), (.int .i64 0), (.int .i64 0), (.int .i64 0), (.int .i64 0), (.int .i64 0), (.int .i64 0), (.int .i64 0), (.int .i64 0), (.int .i64 0)], BlkA b19 31 [(.int .i64 2), (.int .i64 0), (.int .i64 0), (.int .i64 0), (.int .i64 0), (.int .i64 0), (.int .i64 0), (.int .i64 0), (.int .i64 0), (.int .i64 0), (.int .i64 0)], RowA 31 11 A43 (((0 + 1) + 1) + 1) c44 (ents ([(⟨1, 0, 0, 0, ⟨0, 0, 0, 0, 0, 0, 0⟩⟩ : Entry)] ++ [(⟨2, 0, 0, 0, ⟨0, 0, 0, 0, 0, 0, 0⟩⟩ : Entry)] ++ [(⟨3, 0, 0, 0, ⟨0, 0, 0, 0, 0, 0, 0⟩⟩ : Entry)])), BlkA b2 31 [(.int .i64 1), (.int .i64 0), (.int .i64 0), (.int .i64 0), (.int .i64 0), (.int .i64 0), (.int .i64 0), (.int .i64 0), (.int .i64 0), (.int .i64 0), (.int .i64 0)], Fix w NoB] w42 := H40.setR (i := 2) rfl g45 ((ents_app _ _).symm ▸ ow46) nx47 rfl
  have z49 := g45.size
  refine RL.go rfl rfl rfl (Ex.as (v := (.slice A43 (((0 + 1) + 1) + 1) c44)) rfl) ?_
  refine RL.nil (inB.n (thn.n (CW.region ?_)))
  refine RL.go rfl rfl rfl (Ex.mv (v := (.int .i64 3)) rfl) ?_
  refine RL.go rfl rfl rfl (Ex.add (r := 4) rfl rfl rfl) ?_
  refine RL.go rfl rfl rfl (Ex.as (v := (.int .i64 4)) rfl) ?_
  refine RL.nil (thn.n ?_)
  refine CL.step ?_
  refine CW.seq (CW.seq ?_)
  refine CW.region ?_
  refine RL.go rfl rfl rfl (Ex.mv (v := (.int .i64 4)) rfl) ?_
  refine RL.go rfl rfl rfl (Ex.mv (v := (.int .i64 3)) rfl) ?_
  refine RL.go rfl rfl rfl (Ex.le (r := false) rfl rfl (by decide)) ?_
  refine RL.nil (thn.n (CW.condF rfl (CW.exit (thn.x (thn.x (inB.hit (thn.n (CW.seq (CW.region ?_)))))))))
  refine RL.go rfl rfl rfl (Ex.mv (v := (.slice A43 (((0 + 1) + 1) + 1) c44)) rfl) ?_
  refine RL.go rfl rfl rfl (Ex.as (v := (.slice A43 (((0 + 1) + 1) + 1) c44)) rfl) ?_
  refine RL.nil (thn.n (CW.ret ?_))
  refine finQ.r (v := (.slice A43 (((0 + 1) + 1) + 1) c44)) (res1 rfl rfl) ?_
  exact ⟨_, _, rfl, (H48.sel [2, 4] (by decide) rfl)⟩
set_option maxHeartbeats 1000000 in
set_option maxRecDepth 20000 in
theorem row17_4 (w : World)  : Ret Tryz.prog 93 [(.int .i64 4)] w (fun v w' => ∃ (A' : Option Addr) (c' : Nat), v = .slice A' 4 c' ∧ Sp ([RowA 31 11 A' 4 c' (ents tl4)] ++ [Fix w NoB]) w') := by
  have H0 : Sp [Fix w NoB] w := Sp.start w
  refine Ret.body Tryz.func93 rfl rfl rfl ?_
  refine CW.seq (CW.region ?_)
  refine RL.go rfl rfl rfl (Ex.as (v := (.slice none 0 0)) rfl) ?_
  refine RL.nil (thn.n (CW.seq (CW.region ?_)))
  refine RL.go rfl rfl rfl (Ex.as (v := (.slice none 0 0)) rfl) ?_
  refine RL.nil (thn.n (CW.seq (CW.seq (CW.region ?_))))
  refine RL.go rfl rfl rfl (Ex.as (v := (.int .i64 1)) rfl) ?_
  refine RL.nil (thn.n (CW.block ?_))
  refine CW.unroll ?_
  refine CL.step ?_
  refine CW.seq (CW.seq ?_)
  refine CW.region ?_
  refine RL.go rfl rfl rfl (Ex.mv (v := (.int .i64 1)) rfl) ?_
  refine RL.go rfl rfl rfl (Ex.mv (v := (.int .i64 4)) rfl) ?_
  refine RL.go rfl rfl rfl (Ex.le (r := true) rfl rfl (by decide)) ?_
  refine RL.nil (thn.n (CW.condT rfl (CW.skip (thn.n (CW.seq (CW.block (CW.region ?_)))))))
  refine RL.go rfl rfl rfl (Ex.mv (v := (.slice none 0 0)) rfl) ?_
  refine RL.go rfl rfl rfl (Ex.mv (v := (.int .i64 1)) rfl) ?_
  refine RL.go rfl rfl rfl (Ex.bd (cs := [(.int .i64 1), (.int .i64 0), (.int .i64 0), (.int .i64 0), (.int .i64 0), (.int .i64 0), (.int .i64 0), (.int .i64 0), (.int .i64 0), (.int .i64 0), (.int .i64 0)]) bd31 rfl) ?_
  refine RL.bs (cs := [(.int .i64 1), (.int .i64 0), (.int .i64 0), (.int .i64 0), (.int .i64 0), (.int .i64 0), (.int .i64 0), (.int .i64 0), (.int .i64 0), (.int .i64 0), (.int .i64 0)]) Tryz.underlying22 Tryz.sizeOf31 ze22 rfl rfl rfl (by decide) rfl rfl rfl ?_
  intro w1 b2 hb3 hz4 g5 o6
  have H7 := H0.newB g5 o6 (by omega)
  have z8 := g5.size
  have H9 := H7.nil_ 31 11
  refine RL.apW (base := 0) (xss := (ents [])) (yss := (ents ([(⟨1, 0, 0, 0, ⟨0, 0, 0, 0, 0, 0, 0⟩⟩ : Entry)]))) el22 (H9.wr (i := 0) rfl) rfl (Ob.rd1 (H9.ob (i := 1) rfl) rfl) rfl (by simp only [bcs_length, ics_length, rows_length, blks_length, robjs_length, ents_length, List.length_append, List.length_cons, List.length_nil, List.length_take, List.length_drop, List.length_map, enc4, enc8, encN_len, encW_len, recsE_length]; try omega) (ents_one _) (by omega) (by omega) (by omega) rfl rfl ?_
  intro w10 A11 c12 g13 ow14 nx15
  have H16 : Sp [RowA 31 11 A11 (0 + 1) c12 (ents ([(⟨1, 0, 0, 0, ⟨0, 0, 0, 0, 0, 0, 0⟩⟩ : Entry)])), BlkA b2 31 [(.int .i64 1), (.int .i64 0), (.int .i64 0), (.int .i64 0), (.int .i64 0), (.int .i64 0), (.int .i64 0), (.int .i64 0), (.int .i64 0), (.int .i64 0), (.int .i64 0)], Fix w NoB] w10 := H9.setR (i := 0) rfl g13 ((List.nil_append _) ▸ ow14) nx15 rfl
  have z17 := g13.size
  refine RL.go rfl rfl rfl (Ex.as (v := (.slice A11 (0 + 1) c12)) rfl) ?_
  refine RL.nil (inB.n (thn.n (CW.region ?_)))
  refine RL.go rfl rfl rfl (Ex.mv (v := (.int .i64 1)) rfl) ?_
  refine RL.go rfl rfl rfl (Ex.add (r := 2) rfl rfl rfl) ?_
  refine RL.go rfl rfl rfl (Ex.as (v := (.int .i64 2)) rfl) ?_
  refine RL.nil (thn.n ?_)
  refine CL.step ?_
  refine CW.seq (CW.seq ?_)
  refine CW.region ?_
  refine RL.go rfl rfl rfl (Ex.mv (v := (.int .i64 2)) rfl) ?_
  refine RL.go rfl rfl rfl (Ex.mv (v := (.int .i64 4)) rfl) ?_
  refine RL.go rfl rfl rfl (Ex.le (r := true) rfl rfl (by decide)) ?_
  refine RL.nil (thn.n (CW.condT rfl (CW.skip (thn.n (CW.seq (CW.block (CW.region ?_)))))))
  refine RL.go rfl rfl rfl (Ex.mv (v := (.slice A11 (0 + 1) c12)) rfl) ?_
  refine RL.go rfl rfl rfl (Ex.mv (v := (.int .i64 2)) rfl) ?_
  refine RL.go rfl rfl rfl (Ex.bd (cs := [(.int .i64 2), (.int .i64 0), (.int .i64 0), (.int .i64 0), (.int .i64 0), (.int .i64 0), (.int .i64 0), (.int .i64 0), (.int .i64 0), (.int .i64 0), (.int .i64 0)]) bd31 rfl) ?_
  refine RL.bs (cs := [(.int .i64 2), (.int .i64 0), (.int .i64 0), (.int .i64 0), (.int .i64 0), (.int .i64 0), (.int .i64 0), (.int .i64 0), (.int .i64 0), (.int .i64 0), (.int .i64 0)]) Tryz.underlying22 Tryz.sizeOf31 ze22 rfl rfl rfl (by decide) rfl rfl rfl ?_
  intro w18 b19 hb20 hz21 g22 o23
  have H24 := H16.newB g22 o23 (by omega)
  have z25 := g22.size
  refine RL.apW (base := 0) (xss := (ents ([(⟨1, 0, 0, 0, ⟨0, 0, 0, 0, 0, 0, 0⟩⟩ : Entry)]))) (yss := (ents ([(⟨2, 0, 0, 0, ⟨0, 0, 0, 0, 0, 0, 0⟩⟩ : Entry)]))) el22 (H24.wr (i := 1) rfl) rfl (Ob.rd1 (H24.ob (i := 0) rfl) rfl) rfl (by simp only [bcs_length, ics_length, rows_length, blks_length, robjs_length, ents_length, List.length_append, List.length_cons, List.length_nil, List.length_take, List.length_drop, List.length_map, enc4, enc8, encN_len, encW_len, recsE_length]; try omega) (ents_one _) (by omega) (by omega) (by omega) rfl rfl ?_
  intro w26 A27 c28 g29 ow30 nx31
  have H32 : Sp [BlkA b19 31 [(.int .i64 2), (.int .i64 0), (.int .i64 0), (.int .i64 0), (.int .i64 0), (.int .i64 0), (.int .i64 0), (.int .i64 0), (.int .i64 0), (.int .i64 0), (.int .i64 0)], RowA 31 11 A27 ((0 + 1) + 1) c28 (ents ([(⟨1, 0, 0, 0, ⟨0, 0, 0, 0, 0, 0, 0⟩⟩ : Entry)] ++ [(⟨2, 0, 0, 0, ⟨0, 0, 0, 0, 0, 0, 0⟩⟩ : Entry)])), BlkA b2 31 [(.int .i64 1), (.int .i64 0), (.int .i64 0), (.int .i64 0), (.int .i64 0), (.int .i64 0), (.int .i64 0), (.int .i64 0), (.int .i64 0), (.int .i64 0), (.int .i64 0)], Fix w NoB] w26 := H24.setR (i := 1) rfl g29 ((ents_app _ _).symm ▸ ow30) nx31 rfl
  have z33 := g29.size
  refine RL.go rfl rfl rfl (Ex.as (v := (.slice A27 ((0 + 1) + 1) c28)) rfl) ?_
  refine RL.nil (inB.n (thn.n (CW.region ?_)))
  refine RL.go rfl rfl rfl (Ex.mv (v := (.int .i64 2)) rfl) ?_
  refine RL.go rfl rfl rfl (Ex.add (r := 3) rfl rfl rfl) ?_
  refine RL.go rfl rfl rfl (Ex.as (v := (.int .i64 3)) rfl) ?_
  refine RL.nil (thn.n ?_)
  refine CL.step ?_
  refine CW.seq (CW.seq ?_)
  refine CW.region ?_
  refine RL.go rfl rfl rfl (Ex.mv (v := (.int .i64 3)) rfl) ?_
  refine RL.go rfl rfl rfl (Ex.mv (v := (.int .i64 4)) rfl) ?_
  refine RL.go rfl rfl rfl (Ex.le (r := true) rfl rfl (by decide)) ?_
  refine RL.nil (thn.n (CW.condT rfl (CW.skip (thn.n (CW.seq (CW.block (CW.region ?_)))))))
  refine RL.go rfl rfl rfl (Ex.mv (v := (.slice A27 ((0 + 1) + 1) c28)) rfl) ?_
  refine RL.go rfl rfl rfl (Ex.mv (v := (.int .i64 3)) rfl) ?_
  refine RL.go rfl rfl rfl (Ex.bd (cs := [(.int .i64 3), (.int .i64 0), (.int .i64 0), (.int .i64 0), (.int .i64 0), (.int .i64 0), (.int .i64 0), (.int .i64 0), (.int .i64 0), (.int .i64 0), (.int .i64 0)]) bd31 rfl) ?_
  refine RL.bs (cs := [(.int .i64 3), (.int .i64 0), (.int .i64 0), (.int .i64 0), (.int .i64 0), (.int .i64 0), (.int .i64 0), (.int .i64 0), (.int .i64 0), (.int .i64 0), (.int .i64 0)]) Tryz.underlying22 Tryz.sizeOf31 ze22 rfl rfl rfl (by decide) rfl rfl rfl ?_
  intro w34 b35 hb36 hz37 g38 o39
  have H40 := H32.newB g38 o39 (by omega)
  have z41 := g38.size
  refine RL.apW (base := 0) (xss := (ents ([(⟨1, 0, 0, 0, ⟨0, 0, 0, 0, 0, 0, 0⟩⟩ : Entry)] ++ [(⟨2, 0, 0, 0, ⟨0, 0, 0, 0, 0, 0, 0⟩⟩ : Entry)]))) (yss := (ents ([(⟨3, 0, 0, 0, ⟨0, 0, 0, 0, 0, 0, 0⟩⟩ : Entry)]))) el22 (H40.wr (i := 2) rfl) rfl (Ob.rd1 (H40.ob (i := 0) rfl) rfl) rfl (by simp only [bcs_length, ics_length, rows_length, blks_length, robjs_length, ents_length, List.length_append, List.length_cons, List.length_nil, List.length_take, List.length_drop, List.length_map, enc4, enc8, encN_len, encW_len, recsE_length]; try omega) (ents_one _) (by omega) (by omega) (by omega) rfl rfl ?_
  intro w42 A43 c44 g45 ow46 nx47
  have H48 : Sp [BlkA b35 31 [(.int .i64 3), (.int .i64 0), (.int .i64 0), (.int .i64 0), (.int .i64 0), (.int .i64 0), (.int .i64 0), (.int .i64 0), (.int .i64 0), (.int .i64 0), (.int .i64 0)], BlkA b19 31 [(.int .i64 2), (.int .i64 0), (.int .i64 0), (.int .i64 0), (.int .i64 0), (.int .i64 0), (.int .i64 0), (.int .i64 0), (.int .i64 0), (.int .i64 0), (.int .i64 0)], RowA 31 11 A43 (((0 + 1) + 1) + 1) c44 (ents ([(⟨1, 0, 0, 0, ⟨0, 0, 0, 0, 0, 0, 0⟩⟩ : Entry)] ++ [(⟨2, 0, 0, 0, ⟨0, 0, 0, 0, 0, 0, 0⟩⟩ : Entry)] ++ [(⟨3, 0, 0, 0, ⟨0, 0, 0, 0, 0, 0, 0⟩⟩ : Entry)])), BlkA b2 31 [(.int .i64 1), (.int .i64 0), (.int .i64 0), (.int .i64 0), (.int .i64 0), (.int .i64 0), (.int .i64 0), (.int .i64 0), (.int .i64 0), (.int .i64 0), (.int .i64 0)], Fix w NoB] w42 := H40.setR (i := 2) rfl g45 ((ents_app _ _).symm ▸ ow46) nx47 rfl
  have z49 := g45.size
  refine RL.go rfl rfl rfl (Ex.as (v := (.slice A43 (((0 + 1) + 1) + 1) c44)) rfl) ?_
  refine RL.nil (inB.n (thn.n (CW.region ?_)))
  refine RL.go rfl rfl rfl (Ex.mv (v := (.int .i64 3)) rfl) ?_
  refine RL.go rfl rfl rfl (Ex.add (r := 4) rfl rfl rfl) ?_
  refine RL.go rfl rfl rfl (Ex.as (v := (.int .i64 4)) rfl) ?_
  refine RL.nil (thn.n ?_)
  refine CL.step ?_
  refine CW.seq (CW.seq ?_)
  refine CW.region ?_
  refine RL.go rfl rfl rfl (Ex.mv (v := (.int .i64 4)) rfl) ?_
  refine RL.go rfl rfl rfl (Ex.mv (v := (.int .i64 4)) rfl) ?_
  refine RL.go rfl rfl rfl (Ex.le (r := true) rfl rfl (by decide)) ?_
  refine RL.nil (thn.n (CW.condT rfl (CW.skip (thn.n (CW.seq (CW.block (CW.region ?_)))))))
  refine RL.go rfl rfl rfl (Ex.mv (v := (.slice A43 (((0 + 1) + 1) + 1) c44)) rfl) ?_
  refine RL.go rfl rfl rfl (Ex.mv (v := (.int .i64 4)) rfl) ?_
  refine RL.go rfl rfl rfl (Ex.bd (cs := [(.int .i64 4), (.int .i64 0), (.int .i64 0), (.int .i64 0), (.int .i64 0), (.int .i64 0), (.int .i64 0), (.int .i64 0), (.int .i64 0), (.int .i64 0), (.int .i64 0)]) bd31 rfl) ?_
  refine RL.bs (cs := [(.int .i64 4), (.int .i64 0), (.int .i64 0), (.int .i64 0), (.int .i64 0), (.int .i64 0), (.int .i64 0), (.int .i64 0), (.int .i64 0), (.int .i64 0), (.int .i64 0)]) Tryz.underlying22 Tryz.sizeOf31 ze22 rfl rfl rfl (by decide) rfl rfl rfl ?_
  intro w50 b51 hb52 hz53 g54 o55
  have H56 := H48.newB g54 o55 (by omega)
  have z57 := g54.size
  refine RL.apW (base := 0) (xss := (ents ([(⟨1, 0, 0, 0, ⟨0, 0, 0, 0, 0, 0, 0⟩⟩ : Entry)] ++ [(⟨2, 0, 0, 0, ⟨0, 0, 0, 0, 0, 0, 0⟩⟩ : Entry)] ++ [(⟨3, 0, 0, 0, ⟨0, 0, 0, 0, 0, 0, 0⟩⟩ : Entry)]))) (yss := (ents ([(⟨4, 0, 0, 0, ⟨0, 0, 0, 0, 0, 0, 0⟩⟩ : Entry)]))) el22 (H56.wr (i := 3) rfl) rfl (Ob.rd1 (H56.ob (i := 0) rfl) rfl) rfl (by simp only [bcs_length, ics_length, rows_length, blks_length, robjs_length, ents_length, List.length_append, List.length_cons, List.length_nil, List.length_take, List.length_drop, List.length_map, enc4, enc8, encN_len, encW_len, recsE_length]; try omega) (ents_one _) (by omega) (by omega) (by omega) rfl rfl ?_
  intro w58 A59 c60 g61 ow62 nx63
  have H65 : Sp [BlkA b51 31 [(.int .i64 4), (.int .i64 0), (.int .i64 0), (.int .i64 0), (.int .i64 0), (.int .i64 0), (.int .i64 0), (.int .i64 0), (.int .i64 0), (.int .i64 0), (.int .i64 0)], BlkA b35 31 [(.int .i64 3), (.int .i64 0), (.int .i64 0), (.int .i64 0), (.int .i64 0), (.int .i64 0), (.int .i64 0), (.int .i64 0), (.int .i64 0), (.int .i64 0), (.int .i64 0)], BlkA b19 31 [(.int .i64 2), (.int .i64 0), (.int .i64 0), (.int .i64 0), (.int .i64 0), (.int .i64 0), (.int .i64 0), (.int .i64 0), (.int .i64 0), (.int .i64 0), (.int .i64 0)], RowA 31 11 A59 ((((0 + 1) + 1) + 1) + 1) c60 (ents ([(⟨1, 0, 0, 0, ⟨0, 0, 0, 0, 0, 0, 0⟩⟩ : Entry)] ++ [(⟨2, 0, 0, 0, ⟨0, 0, 0, 0, 0, 0, 0⟩⟩ : Entry)] ++ [(⟨3, 0, 0, 0, ⟨0, 0, 0, 0, 0, 0, 0⟩⟩ : Entry)] ++ [(⟨4, 0, 0, 0, ⟨0, 0, 0, 0, 0, 0, 0⟩⟩ : Entry)])), BlkA b2 31 [(.int .i64 1), (.int .i64 0), (.int .i64 0), (.int .i64 0), (.int .i64 0), (.int .i64 0), (.int .i64 0), (.int .i64 0), (.int .i64 0), (.int .i64 0), (.int .i64 0)], Fix w NoB] w58 := H56.setR (i := 3) rfl g61 ((ents_app _ _).symm ▸ ow62) nx63 rfl
  have z66 := g61.size
  refine RL.go rfl rfl rfl (Ex.as (v := (.slice A59 ((((0 + 1) + 1) + 1) + 1) c60)) rfl) ?_
  refine RL.nil (inB.n (thn.n (CW.region ?_)))
  refine RL.go rfl rfl rfl (Ex.mv (v := (.int .i64 4)) rfl) ?_
  refine RL.go rfl rfl rfl (Ex.add (r := 5) rfl rfl rfl) ?_
  refine RL.go rfl rfl rfl (Ex.as (v := (.int .i64 5)) rfl) ?_
  refine RL.nil (thn.n ?_)
  refine CL.step ?_
  refine CW.seq (CW.seq ?_)
  refine CW.region ?_
  refine RL.go rfl rfl rfl (Ex.mv (v := (.int .i64 5)) rfl) ?_
  refine RL.go rfl rfl rfl (Ex.mv (v := (.int .i64 4)) rfl) ?_
  refine RL.go rfl rfl rfl (Ex.le (r := false) rfl rfl (by decide)) ?_
  refine RL.nil (thn.n (CW.condF rfl (CW.exit (thn.x (thn.x (inB.hit (thn.n (CW.seq (CW.region ?_)))))))))
  refine RL.go rfl rfl rfl (Ex.mv (v := (.slice A59 ((((0 + 1) + 1) + 1) + 1) c60)) rfl) ?_
  refine RL.go rfl rfl rfl (Ex.as (v := (.slice A59 ((((0 + 1) + 1) + 1) + 1) c60)) rfl) ?_
  refine RL.nil (thn.n (CW.ret ?_))
  refine finQ.r (v := (.slice A59 ((((0 + 1) + 1) + 1) + 1) c60)) (res1 rfl rfl) ?_
  exact ⟨_, _, rfl, (H65.sel [3, 5] (by decide) rfl)⟩
set_option maxHeartbeats 1000000 in
set_option maxRecDepth 20000 in
theorem three17 (w : World)  : Ret Tryz.prog 92 [] w (fun v w' => ∃ (A' : Option Addr) (c' : Nat), v = .agg [.int .i64 tk3.view, .int .i64 tk3.normal, .int .i64 tk3.base, .string (tx tk3.image), .slice A' 3 c'].toArray ∧ Sp ([RowA 31 11 A' 3 c' (ents tk3.ents)] ++ [Fix w NoB]) w') := by
  have H0 : Sp [Fix w NoB] w := Sp.start w
  refine Ret.body Tryz.func92 rfl rfl rfl ?_
  refine CW.seq (CW.region ?_)
  refine RL.al (cs := [(.int .i64 0), (.int .i64 0), (.int .i64 0), (.string (⟨#[]⟩)), (.slice none 0 0)]) Tryz.zeroValue24 rfl rfl rfl ?_
  intro w1 b2 hb3 hz4 g5 o6
  have H7 := H0.newB g5 o6 (by omega)
  have z8 := g5.size
  refine RL.nil (thn.n (CW.seq (CW.region ?_)))
  refine RL.call Tryz.call55 (oplogNew3) rfl rfl rfl ?_
  rintro _ w9 ⟨rfl, g10⟩
  have H11 := H7.grow g10
  have z12 := g10.size
  refine RL.go rfl rfl rfl (Ex.mv (v := (.tuple #[(.agg ([(.int .i64 fk0.view), (.int .i64 fk0.normal), (.int .i64 fk0.base), (.string (tx fk0.image)), (.slice none 0 0)]).toArray), (.int .i64 0)])) rfl) ?_
  refine RL.go rfl rfl rfl (Ex.ext (vs := [(.agg ([(.int .i64 fk0.view), (.int .i64 fk0.normal), (.int .i64 fk0.base), (.string (tx fk0.image)), (.slice none 0 0)]).toArray), (.int .i64 0)]) (v := (.agg ([(.int .i64 fk0.view), (.int .i64 fk0.normal), (.int .i64 fk0.base), (.string (tx fk0.image)), (.slice none 0 0)]).toArray)) rfl rfl) ?_
  refine RL.go rfl rfl rfl (Ex.ext (vs := [(.agg ([(.int .i64 fk0.view), (.int .i64 fk0.normal), (.int .i64 fk0.base), (.string (tx fk0.image)), (.slice none 0 0)]).toArray), (.int .i64 0)]) (v := (.int .i64 0)) rfl rfl) ?_
  refine RL.al (cs := [(.int .i64 0), (.int .i64 0), (.int .i64 0), (.string (⟨#[]⟩)), (.slice none 0 0)]) Tryz.zeroValue24 rfl rfl rfl ?_
  intro w13 b14 hb15 hz16 g17 o18
  have H19 := H11.newB g17 o18 (by omega)
  have z20 := g17.size
  refine RL.st (vs := [(.int .i64 fk0.view), (.int .i64 fk0.normal), (.int .i64 fk0.base), (.string (tx fk0.image)), (.slice none 0 0)]) (cs' := [(.int .i64 fk0.view), (.int .i64 fk0.normal), (.int .i64 fk0.base), (.string (tx fk0.image)), (.slice none 0 0)]) Tryz.sizeOf24 (H19.ob (i := 0) rfl) rfl rfl rfl rfl rfl rfl ?_
  intro w21 hz22 g23 o24
  have H25 : Sp [BlkA b14 24 [(.int .i64 fk0.view), (.int .i64 fk0.normal), (.int .i64 fk0.base), (.string (tx fk0.image)), (.slice none 0 0)], BlkA b2 24 [(.int .i64 0), (.int .i64 0), (.int .i64 0), (.string (⟨#[]⟩)), (.slice none 0 0)], Fix w NoB] w21 := H19.setB (i := 0) rfl g23 o24 rfl
  have z26 := g23.size
  refine RL.go rfl rfl rfl (Ex.as (v := (.int .i64 0)) rfl) ?_
  refine RL.nil (thn.n (CW.seq (CW.region ?_)))
  refine RL.call Tryz.call93 (row17_3 _) rfl rfl rfl ?_
  rintro _ w29 ⟨A27, c28, rfl, g30⟩
  have g31 := g30.fix (i := 1) rfl
  have H32 : Sp [RowA 31 11 A27 3 c28 (ents tl3), BlkA b14 24 [(.int .i64 fk0.view), (.int .i64 fk0.normal), (.int .i64 fk0.base), (.string (tx fk0.image)), (.slice none 0 0)], BlkA b2 24 [(.int .i64 0), (.int .i64 0), (.int .i64 0), (.string (⟨#[]⟩)), (.slice none 0 0)], Fix w NoB] w29 := H25.join (m := [RowA 31 11 A27 3 c28 (ents tl3)]) g30
  have z33 := g31.size
  refine RL.go rfl rfl rfl (fa24_4 (b := ⟨b14, 4, none⟩) rfl rfl) ?_
  refine RL.st (vs := [(.slice A27 3 c28)]) (cs' := [(.int .i64 fk0.view), (.int .i64 fk0.normal), (.int .i64 fk0.base), (.string (tx fk0.image)), (.slice A27 3 c28)]) Tryz.sizeOf22 (H32.ob (i := 1) rfl) rfl rfl rfl rfl rfl rfl ?_
  intro w34 hz35 g36 o37
  have H38 : Sp [RowA 31 11 A27 3 c28 (ents tl3), BlkA b14 24 [(.int .i64 fk0.view), (.int .i64 fk0.normal), (.int .i64 fk0.base), (.string (tx fk0.image)), (.slice A27 3 c28)], BlkA b2 24 [(.int .i64 0), (.int .i64 0), (.int .i64 0), (.string (⟨#[]⟩)), (.slice none 0 0)], Fix w NoB] w34 := H32.setB (i := 1) rfl g36 o37 rfl
  have z39 := g36.size
  refine RL.nil (thn.n (CW.seq (CW.region ?_)))
  refine RL.go rfl rfl rfl (Ex.ldv rfl (loadCN (cs := [(.int .i64 fk0.view), (.int .i64 fk0.normal), (.int .i64 fk0.base), (.string (tx fk0.image)), (.slice A27 3 c28)]) wh24 (H38.ob (i := 1) rfl).cl)) ?_
  refine RL.st (vs := [(.int .i64 fk0.view), (.int .i64 fk0.normal), (.int .i64 fk0.base), (.string (tx fk0.image)), (.slice A27 3 c28)]) (cs' := [(.int .i64 fk0.view), (.int .i64 fk0.normal), (.int .i64 fk0.base), (.string (tx fk0.image)), (.slice A27 3 c28)]) Tryz.sizeOf24 (H38.ob (i := 2) rfl) rfl rfl rfl rfl rfl rfl ?_
  intro w40 hz41 g42 o43
  have H44 : Sp [RowA 31 11 A27 3 c28 (ents tl3), BlkA b14 24 [(.int .i64 fk0.view), (.int .i64 fk0.normal), (.int .i64 fk0.base), (.string (tx fk0.image)), (.slice A27 3 c28)], BlkA b2 24 [(.int .i64 fk0.view), (.int .i64 fk0.normal), (.int .i64 fk0.base), (.string (tx fk0.image)), (.slice A27 3 c28)], Fix w NoB] w40 := H38.setB (i := 2) rfl g42 o43 rfl
  have z45 := g42.size
  refine RL.nil (thn.n (CW.ret ?_))
  refine finQ.r (v := (.agg ([(.int .i64 fk0.view), (.int .i64 fk0.normal), (.int .i64 fk0.base), (.string (tx fk0.image)), (.slice A27 3 c28)]).toArray)) (resv1 rfl (Rv.cell rfl (loadCN (cs := [(.int .i64 fk0.view), (.int .i64 fk0.normal), (.int .i64 fk0.base), (.string (tx fk0.image)), (.slice A27 3 c28)]) wh24 (H44.ob (i := 2) rfl).cl))) ?_
  exact ⟨_, _, rfl, (H44.sel [0, 3] (by decide) rfl)⟩
set_option maxHeartbeats 1000000 in
set_option maxRecDepth 20000 in
theorem adopts17 (w : World)  : Ret Tryz.prog 29 [] w (fun v w' => v = .bool true ∧ w.grownBy w' none) := by
  have H0 : Sp [Fix w NoB] w := Sp.start w
  refine Ret.body Tryz.func29 rfl rfl rfl ?_
  refine CW.seq (CW.region ?_)
  refine RL.go rfl rfl rfl (Ex.as (v := (.bool false)) rfl) ?_
  refine RL.nil (thn.n (CW.seq (CW.region ?_)))
  refine RL.call Tryz.call92 (three17 _) rfl rfl rfl ?_
  rintro _ w3 ⟨A1, c2, rfl, g4⟩
  have g5 := g4.fix (i := 1) rfl
  have H6 : Sp [RowA 31 11 A1 3 c2 (ents tk3.ents), Fix w NoB] w3 := H0.join (m := [RowA 31 11 A1 3 c2 (ents tk3.ents)]) g4
  have z7 := g5.size
  refine RL.call Tryz.call93 (row17_4 _) rfl rfl rfl ?_
  rintro _ w10 ⟨A8, c9, rfl, g11⟩
  have g12 := g11.fix (i := 1) rfl
  have H13 : Sp [RowA 31 11 A8 4 c9 (ents tl4), RowA 31 11 A1 3 c2 (ents tk3.ents), Fix w NoB] w10 := H6.join (m := [RowA 31 11 A8 4 c9 (ents tl4)]) g11
  have z14 := g12.size
  have hfl15 : tk3.ents.length ≤ 4000 := (by decide)
  have hfi16 : tk3.image.length ≤ 4136 := (by decide +kernel)
  have hl17 := H13.len (i := 1) rfl
  rw [ents_length] at hl17
  have hc18 := H13.cap (i := 1) rfl
  have hl19 := H13.len (i := 0) rfl
  rw [ents_length] at hl19
  have hc20 := H13.cap (i := 0) rfl
  refine RL.call Tryz.call25 (adopt_ _ w10.heap.size tk3 A1 3 c2 (H13.rowrd (i := 1) rfl) (Nat.le_refl _) (by first | assumption | rfl | omega | decide +kernel) (by first | assumption | rfl | omega | decide +kernel) (by first | assumption | rfl | omega | decide +kernel) (by first | assumption | rfl | omega | decide +kernel) 2 4 0 (by first | assumption | decide | (unfold rng; omega)) tl4 A8 4 c9 ((H13.rowrd (i := 0) rfl).more (Nat.le_refl _)) (by first | assumption | rfl | omega | decide +kernel) (by first | assumption | rfl | omega | decide +kernel) (by first | assumption | rfl | omega | decide +kernel)) rfl rfl rfl ?_
  rintro _ w24 ⟨A21, n22, c23, rfl, g25⟩
  have g26 := g25.fix (i := 1) rfl
  have H27 : Sp [RowA 31 11 A21 n22 c23 (ents ((adoptR tk3 2 4 0 tl4).ents)), RowA 31 11 A8 4 c9 (ents tl4), RowA 31 11 A1 3 c2 (ents tk3.ents), Fix w NoB] w24 := H13.join (m := [RowA 31 11 A21 n22 c23 (ents ((adoptR tk3 2 4 0 tl4).ents))]) g25
  have z28 := g26.size
  refine RL.go rfl rfl rfl (Ex.mv (v := (.tuple #[(.agg ([(.int .i64 ((adoptR tk3 2 4 0 tl4).kind)), (.int .i64 ((adoptR tk3 2 4 0 tl4).view)), (.int .i64 ((adoptR tk3 2 4 0 tl4).from_)), (.int .i64 ((adoptR tk3 2 4 0 tl4).number)), (.string (tx (adoptR tk3 2 4 0 tl4).image)), (.int .i64 ((adoptR tk3 2 4 0 tl4).entry.num)), (.int .i64 ((adoptR tk3 2 4 0 tl4).entry.view)), (.int .i64 ((adoptR tk3 2 4 0 tl4).entry.client)), (.int .i64 ((adoptR tk3 2 4 0 tl4).entry.seq)), (.int .i64 ((adoptR tk3 2 4 0 tl4).entry.op.kind)), (.int .i64 ((adoptR tk3 2 4 0 tl4).entry.op.h)), (.int .i64 ((adoptR tk3 2 4 0 tl4).entry.op.i)), (.int .i64 ((adoptR tk3 2 4 0 tl4).entry.op.n)), (.int .i64 ((adoptR tk3 2 4 0 tl4).entry.op.k)), (.int .i64 ((adoptR tk3 2 4 0 tl4).entry.op.v)), (.int .i64 ((adoptR tk3 2 4 0 tl4).entry.op.t)), (.slice A21 n22 c23)]).toArray), (.bool (adoptB tk3 2 4 0 tl4))])) rfl) ?_
  refine RL.go rfl rfl rfl (Ex.ext (vs := [(.agg ([(.int .i64 ((adoptR tk3 2 4 0 tl4).kind)), (.int .i64 ((adoptR tk3 2 4 0 tl4).view)), (.int .i64 ((adoptR tk3 2 4 0 tl4).from_)), (.int .i64 ((adoptR tk3 2 4 0 tl4).number)), (.string (tx (adoptR tk3 2 4 0 tl4).image)), (.int .i64 ((adoptR tk3 2 4 0 tl4).entry.num)), (.int .i64 ((adoptR tk3 2 4 0 tl4).entry.view)), (.int .i64 ((adoptR tk3 2 4 0 tl4).entry.client)), (.int .i64 ((adoptR tk3 2 4 0 tl4).entry.seq)), (.int .i64 ((adoptR tk3 2 4 0 tl4).entry.op.kind)), (.int .i64 ((adoptR tk3 2 4 0 tl4).entry.op.h)), (.int .i64 ((adoptR tk3 2 4 0 tl4).entry.op.i)), (.int .i64 ((adoptR tk3 2 4 0 tl4).entry.op.n)), (.int .i64 ((adoptR tk3 2 4 0 tl4).entry.op.k)), (.int .i64 ((adoptR tk3 2 4 0 tl4).entry.op.v)), (.int .i64 ((adoptR tk3 2 4 0 tl4).entry.op.t)), (.slice A21 n22 c23)]).toArray), (.bool (adoptB tk3 2 4 0 tl4))]) (v := (.agg ([(.int .i64 ((adoptR tk3 2 4 0 tl4).kind)), (.int .i64 ((adoptR tk3 2 4 0 tl4).view)), (.int .i64 ((adoptR tk3 2 4 0 tl4).from_)), (.int .i64 ((adoptR tk3 2 4 0 tl4).number)), (.string (tx (adoptR tk3 2 4 0 tl4).image)), (.int .i64 ((adoptR tk3 2 4 0 tl4).entry.num)), (.int .i64 ((adoptR tk3 2 4 0 tl4).entry.view)), (.int .i64 ((adoptR tk3 2 4 0 tl4).entry.client)), (.int .i64 ((adoptR tk3 2 4 0 tl4).entry.seq)), (.int .i64 ((adoptR tk3 2 4 0 tl4).entry.op.kind)), (.int .i64 ((adoptR tk3 2 4 0 tl4).entry.op.h)), (.int .i64 ((adoptR tk3 2 4 0 tl4).entry.op.i)), (.int .i64 ((adoptR tk3 2 4 0 tl4).entry.op.n)), (.int .i64 ((adoptR tk3 2 4 0 tl4).entry.op.k)), (.int .i64 ((adoptR tk3 2 4 0 tl4).entry.op.v)), (.int .i64 ((adoptR tk3 2 4 0 tl4).entry.op.t)), (.slice A21 n22 c23)]).toArray)) rfl rfl) ?_
  refine RL.go rfl rfl rfl (Ex.ext (vs := [(.agg ([(.int .i64 ((adoptR tk3 2 4 0 tl4).kind)), (.int .i64 ((adoptR tk3 2 4 0 tl4).view)), (.int .i64 ((adoptR tk3 2 4 0 tl4).from_)), (.int .i64 ((adoptR tk3 2 4 0 tl4).number)), (.string (tx (adoptR tk3 2 4 0 tl4).image)), (.int .i64 ((adoptR tk3 2 4 0 tl4).entry.num)), (.int .i64 ((adoptR tk3 2 4 0 tl4).entry.view)), (.int .i64 ((adoptR tk3 2 4 0 tl4).entry.client)), (.int .i64 ((adoptR tk3 2 4 0 tl4).entry.seq)), (.int .i64 ((adoptR tk3 2 4 0 tl4).entry.op.kind)), (.int .i64 ((adoptR tk3 2 4 0 tl4).entry.op.h)), (.int .i64 ((adoptR tk3 2 4 0 tl4).entry.op.i)), (.int .i64 ((adoptR tk3 2 4 0 tl4).entry.op.n)), (.int .i64 ((adoptR tk3 2 4 0 tl4).entry.op.k)), (.int .i64 ((adoptR tk3 2 4 0 tl4).entry.op.v)), (.int .i64 ((adoptR tk3 2 4 0 tl4).entry.op.t)), (.slice A21 n22 c23)]).toArray), (.bool (adoptB tk3 2 4 0 tl4))]) (v := (.bool (adoptB tk3 2 4 0 tl4))) rfl rfl) ?_
  refine RL.al (cs := [(.int .i64 0), (.int .i64 0), (.int .i64 0), (.int .i64 0), (.string (⟨#[]⟩)), (.int .i64 0), (.int .i64 0), (.int .i64 0), (.int .i64 0), (.int .i64 0), (.int .i64 0), (.int .i64 0), (.int .i64 0), (.int .i64 0), (.int .i64 0), (.int .i64 0), (.slice none 0 0)]) Tryz.zeroValue33 rfl rfl rfl ?_
  intro w29 b30 hb31 hz32 g33 o34
  have H35 := H27.newB g33 o34 (by omega)
  have z36 := g33.size
  refine RL.st (vs := [(.int .i64 ((adoptR tk3 2 4 0 tl4).kind)), (.int .i64 ((adoptR tk3 2 4 0 tl4).view)), (.int .i64 ((adoptR tk3 2 4 0 tl4).from_)), (.int .i64 ((adoptR tk3 2 4 0 tl4).number)), (.string (tx (adoptR tk3 2 4 0 tl4).image)), (.int .i64 ((adoptR tk3 2 4 0 tl4).entry.num)), (.int .i64 ((adoptR tk3 2 4 0 tl4).entry.view)), (.int .i64 ((adoptR tk3 2 4 0 tl4).entry.client)), (.int .i64 ((adoptR tk3 2 4 0 tl4).entry.seq)), (.int .i64 ((adoptR tk3 2 4 0 tl4).entry.op.kind)), (.int .i64 ((adoptR tk3 2 4 0 tl4).entry.op.h)), (.int .i64 ((adoptR tk3 2 4 0 tl4).entry.op.i)), (.int .i64 ((adoptR tk3 2 4 0 tl4).entry.op.n)), (.int .i64 ((adoptR tk3 2 4 0 tl4).entry.op.k)), (.int .i64 ((adoptR tk3 2 4 0 tl4).entry.op.v)), (.int .i64 ((adoptR tk3 2 4 0 tl4).entry.op.t)), (.slice A21 n22 c23)]) (cs' := [(.int .i64 ((adoptR tk3 2 4 0 tl4).kind)), (.int .i64 ((adoptR tk3 2 4 0 tl4).view)), (.int .i64 ((adoptR tk3 2 4 0 tl4).from_)), (.int .i64 ((adoptR tk3 2 4 0 tl4).number)), (.string (tx (adoptR tk3 2 4 0 tl4).image)), (.int .i64 ((adoptR tk3 2 4 0 tl4).entry.num)), (.int .i64 ((adoptR tk3 2 4 0 tl4).entry.view)), (.int .i64 ((adoptR tk3 2 4 0 tl4).entry.client)), (.int .i64 ((adoptR tk3 2 4 0 tl4).entry.seq)), (.int .i64 ((adoptR tk3 2 4 0 tl4).entry.op.kind)), (.int .i64 ((adoptR tk3 2 4 0 tl4).entry.op.h)), (.int .i64 ((adoptR tk3 2 4 0 tl4).entry.op.i)), (.int .i64 ((adoptR tk3 2 4 0 tl4).entry.op.n)), (.int .i64 ((adoptR tk3 2 4 0 tl4).entry.op.k)), (.int .i64 ((adoptR tk3 2 4 0 tl4).entry.op.v)), (.int .i64 ((adoptR tk3 2 4 0 tl4).entry.op.t)), (.slice A21 n22 c23)]) Tryz.sizeOf33 (H35.ob (i := 0) rfl) rfl rfl rfl rfl rfl rfl ?_
  intro w37 hz38 g39 o40
  have H41 : Sp [BlkA b30 33 [(.int .i64 ((adoptR tk3 2 4 0 tl4).kind)), (.int .i64 ((adoptR tk3 2 4 0 tl4).view)), (.int .i64 ((adoptR tk3 2 4 0 tl4).from_)), (.int .i64 ((adoptR tk3 2 4 0 tl4).number)), (.string (tx (adoptR tk3 2 4 0 tl4).image)), (.int .i64 ((adoptR tk3 2 4 0 tl4).entry.num)), (.int .i64 ((adoptR tk3 2 4 0 tl4).entry.view)), (.int .i64 ((adoptR tk3 2 4 0 tl4).entry.client)), (.int .i64 ((adoptR tk3 2 4 0 tl4).entry.seq)), (.int .i64 ((adoptR tk3 2 4 0 tl4).entry.op.kind)), (.int .i64 ((adoptR tk3 2 4 0 tl4).entry.op.h)), (.int .i64 ((adoptR tk3 2 4 0 tl4).entry.op.i)), (.int .i64 ((adoptR tk3 2 4 0 tl4).entry.op.n)), (.int .i64 ((adoptR tk3 2 4 0 tl4).entry.op.k)), (.int .i64 ((adoptR tk3 2 4 0 tl4).entry.op.v)), (.int .i64 ((adoptR tk3 2 4 0 tl4).entry.op.t)), (.slice A21 n22 c23)], RowA 31 11 A21 n22 c23 (ents ((adoptR tk3 2 4 0 tl4).ents)), RowA 31 11 A8 4 c9 (ents tl4), RowA 31 11 A1 3 c2 (ents tk3.ents), Fix w NoB] w37 := H35.setB (i := 0) rfl g39 o40 rfl
  have z42 := g39.size
  refine RL.go rfl rfl rfl (Ex.as (v := (.bool (adoptB tk3 2 4 0 tl4))) rfl) ?_
  refine RL.nil (thn.n (CW.seq (CW.region ?_)))
  refine RL.call Tryz.call92 (three17 _) rfl rfl rfl ?_
  rintro _ w45 ⟨A43, c44, rfl, g46⟩
  have g47 := g46.fix (i := 1) rfl
  have H48 : Sp [RowA 31 11 A43 3 c44 (ents tk3.ents), BlkA b30 33 [(.int .i64 ((adoptR tk3 2 4 0 tl4).kind)), (.int .i64 ((adoptR tk3 2 4 0 tl4).view)), (.int .i64 ((adoptR tk3 2 4 0 tl4).from_)), (.int .i64 ((adoptR tk3 2 4 0 tl4).number)), (.string (tx (adoptR tk3 2 4 0 tl4).image)), (.int .i64 ((adoptR tk3 2 4 0 tl4).entry.num)), (.int .i64 ((adoptR tk3 2 4 0 tl4).entry.view)), (.int .i64 ((adoptR tk3 2 4 0 tl4).entry.client)), (.int .i64 ((adoptR tk3 2 4 0 tl4).entry.seq)), (.int .i64 ((adoptR tk3 2 4 0 tl4).entry.op.kind)), (.int .i64 ((adoptR tk3 2 4 0 tl4).entry.op.h)), (.int .i64 ((adoptR tk3 2 4 0 tl4).entry.op.i)), (.int .i64 ((adoptR tk3 2 4 0 tl4).entry.op.n)), (.int .i64 ((adoptR tk3 2 4 0 tl4).entry.op.k)), (.int .i64 ((adoptR tk3 2 4 0 tl4).entry.op.v)), (.int .i64 ((adoptR tk3 2 4 0 tl4).entry.op.t)), (.slice A21 n22 c23)], RowA 31 11 A21 n22 c23 (ents ((adoptR tk3 2 4 0 tl4).ents)), RowA 31 11 A8 4 c9 (ents tl4), RowA 31 11 A1 3 c2 (ents tk3.ents), Fix w NoB] w45 := H41.join (m := [RowA 31 11 A43 3 c44 (ents tk3.ents)]) g46
  have z49 := g47.size
  have hfl50 : tk3.ents.length ≤ 4000 := (by decide)
  have hfi51 : tk3.image.length ≤ 4136 := (by decide +kernel)
  have hl52 := H48.len (i := 0) rfl
  rw [ents_length] at hl52
  have hc53 := H48.cap (i := 0) rfl
  refine RL.call Tryz.call25 (adopt_ _ w45.heap.size tk3 A43 3 c44 (H48.rowrd (i := 0) rfl) (Nat.le_refl _) (by first | assumption | rfl | omega | decide +kernel) (by first | assumption | rfl | omega | decide +kernel) (by first | assumption | rfl | omega | decide +kernel) (by first | assumption | rfl | omega | decide +kernel) 2 4 3 (by first | assumption | decide | (unfold rng; omega)) ([]) none 0 0 (Rd.nil_ _ _ 11 none) (by first | assumption | rfl | omega | decide +kernel) (by first | assumption | rfl | omega | decide +kernel) (by first | assumption | rfl | omega | decide +kernel)) rfl rfl rfl ?_
  rintro _ w57 ⟨A54, n55, c56, rfl, g58⟩
  have g59 := g58.fix (i := 1) rfl
  have H60 : Sp [RowA 31 11 A54 n55 c56 (ents ((adoptR tk3 2 4 3 ([])).ents)), RowA 31 11 A43 3 c44 (ents tk3.ents), BlkA b30 33 [(.int .i64 ((adoptR tk3 2 4 0 tl4).kind)), (.int .i64 ((adoptR tk3 2 4 0 tl4).view)), (.int .i64 ((adoptR tk3 2 4 0 tl4).from_)), (.int .i64 ((adoptR tk3 2 4 0 tl4).number)), (.string (tx (adoptR tk3 2 4 0 tl4).image)), (.int .i64 ((adoptR tk3 2 4 0 tl4).entry.num)), (.int .i64 ((adoptR tk3 2 4 0 tl4).entry.view)), (.int .i64 ((adoptR tk3 2 4 0 tl4).entry.client)), (.int .i64 ((adoptR tk3 2 4 0 tl4).entry.seq)), (.int .i64 ((adoptR tk3 2 4 0 tl4).entry.op.kind)), (.int .i64 ((adoptR tk3 2 4 0 tl4).entry.op.h)), (.int .i64 ((adoptR tk3 2 4 0 tl4).entry.op.i)), (.int .i64 ((adoptR tk3 2 4 0 tl4).entry.op.n)), (.int .i64 ((adoptR tk3 2 4 0 tl4).entry.op.k)), (.int .i64 ((adoptR tk3 2 4 0 tl4).entry.op.v)), (.int .i64 ((adoptR tk3 2 4 0 tl4).entry.op.t)), (.slice A21 n22 c23)], RowA 31 11 A21 n22 c23 (ents ((adoptR tk3 2 4 0 tl4).ents)), RowA 31 11 A8 4 c9 (ents tl4), RowA 31 11 A1 3 c2 (ents tk3.ents), Fix w NoB] w57 := H48.join (m := [RowA 31 11 A54 n55 c56 (ents ((adoptR tk3 2 4 3 ([])).ents))]) g58
  have z61 := g59.size
  refine RL.go rfl rfl rfl (Ex.mv (v := (.tuple #[(.agg ([(.int .i64 ((adoptR tk3 2 4 3 ([])).kind)), (.int .i64 ((adoptR tk3 2 4 3 ([])).view)), (.int .i64 ((adoptR tk3 2 4 3 ([])).from_)), (.int .i64 ((adoptR tk3 2 4 3 ([])).number)), (.string (tx (adoptR tk3 2 4 3 ([])).image)), (.int .i64 ((adoptR tk3 2 4 3 ([])).entry.num)), (.int .i64 ((adoptR tk3 2 4 3 ([])).entry.view)), (.int .i64 ((adoptR tk3 2 4 3 ([])).entry.client)), (.int .i64 ((adoptR tk3 2 4 3 ([])).entry.seq)), (.int .i64 ((adoptR tk3 2 4 3 ([])).entry.op.kind)), (.int .i64 ((adoptR tk3 2 4 3 ([])).entry.op.h)), (.int .i64 ((adoptR tk3 2 4 3 ([])).entry.op.i)), (.int .i64 ((adoptR tk3 2 4 3 ([])).entry.op.n)), (.int .i64 ((adoptR tk3 2 4 3 ([])).entry.op.k)), (.int .i64 ((adoptR tk3 2 4 3 ([])).entry.op.v)), (.int .i64 ((adoptR tk3 2 4 3 ([])).entry.op.t)), (.slice A54 n55 c56)]).toArray), (.bool (adoptB tk3 2 4 3 ([])))])) rfl) ?_
  refine RL.go rfl rfl rfl (Ex.ext (vs := [(.agg ([(.int .i64 ((adoptR tk3 2 4 3 ([])).kind)), (.int .i64 ((adoptR tk3 2 4 3 ([])).view)), (.int .i64 ((adoptR tk3 2 4 3 ([])).from_)), (.int .i64 ((adoptR tk3 2 4 3 ([])).number)), (.string (tx (adoptR tk3 2 4 3 ([])).image)), (.int .i64 ((adoptR tk3 2 4 3 ([])).entry.num)), (.int .i64 ((adoptR tk3 2 4 3 ([])).entry.view)), (.int .i64 ((adoptR tk3 2 4 3 ([])).entry.client)), (.int .i64 ((adoptR tk3 2 4 3 ([])).entry.seq)), (.int .i64 ((adoptR tk3 2 4 3 ([])).entry.op.kind)), (.int .i64 ((adoptR tk3 2 4 3 ([])).entry.op.h)), (.int .i64 ((adoptR tk3 2 4 3 ([])).entry.op.i)), (.int .i64 ((adoptR tk3 2 4 3 ([])).entry.op.n)), (.int .i64 ((adoptR tk3 2 4 3 ([])).entry.op.k)), (.int .i64 ((adoptR tk3 2 4 3 ([])).entry.op.v)), (.int .i64 ((adoptR tk3 2 4 3 ([])).entry.op.t)), (.slice A54 n55 c56)]).toArray), (.bool (adoptB tk3 2 4 3 ([])))]) (v := (.agg ([(.int .i64 ((adoptR tk3 2 4 3 ([])).kind)), (.int .i64 ((adoptR tk3 2 4 3 ([])).view)), (.int .i64 ((adoptR tk3 2 4 3 ([])).from_)), (.int .i64 ((adoptR tk3 2 4 3 ([])).number)), (.string (tx (adoptR tk3 2 4 3 ([])).image)), (.int .i64 ((adoptR tk3 2 4 3 ([])).entry.num)), (.int .i64 ((adoptR tk3 2 4 3 ([])).entry.view)), (.int .i64 ((adoptR tk3 2 4 3 ([])).entry.client)), (.int .i64 ((adoptR tk3 2 4 3 ([])).entry.seq)), (.int .i64 ((adoptR tk3 2 4 3 ([])).entry.op.kind)), (.int .i64 ((adoptR tk3 2 4 3 ([])).entry.op.h)), (.int .i64 ((adoptR tk3 2 4 3 ([])).entry.op.i)), (.int .i64 ((adoptR tk3 2 4 3 ([])).entry.op.n)), (.int .i64 ((adoptR tk3 2 4 3 ([])).entry.op.k)), (.int .i64 ((adoptR tk3 2 4 3 ([])).entry.op.v)), (.int .i64 ((adoptR tk3 2 4 3 ([])).entry.op.t)), (.slice A54 n55 c56)]).toArray)) rfl rfl) ?_
  refine RL.go rfl rfl rfl (Ex.ext (vs := [(.agg ([(.int .i64 ((adoptR tk3 2 4 3 ([])).kind)), (.int .i64 ((adoptR tk3 2 4 3 ([])).view)), (.int .i64 ((adoptR tk3 2 4 3 ([])).from_)), (.int .i64 ((adoptR tk3 2 4 3 ([])).number)), (.string (tx (adoptR tk3 2 4 3 ([])).image)), (.int .i64 ((adoptR tk3 2 4 3 ([])).entry.num)), (.int .i64 ((adoptR tk3 2 4 3 ([])).entry.view)), (.int .i64 ((adoptR tk3 2 4 3 ([])).entry.client)), (.int .i64 ((adoptR tk3 2 4 3 ([])).entry.seq)), (.int .i64 ((adoptR tk3 2 4 3 ([])).entry.op.kind)), (.int .i64 ((adoptR tk3 2 4 3 ([])).entry.op.h)), (.int .i64 ((adoptR tk3 2 4 3 ([])).entry.op.i)), (.int .i64 ((adoptR tk3 2 4 3 ([])).entry.op.n)), (.int .i64 ((adoptR tk3 2 4 3 ([])).entry.op.k)), (.int .i64 ((adoptR tk3 2 4 3 ([])).entry.op.v)), (.int .i64 ((adoptR tk3 2 4 3 ([])).entry.op.t)), (.slice A54 n55 c56)]).toArray), (.bool (adoptB tk3 2 4 3 ([])))]) (v := (.bool (adoptB tk3 2 4 3 ([])))) rfl rfl) ?_
  refine RL.al (cs := [(.int .i64 0), (.int .i64 0), (.int .i64 0), (.int .i64 0), (.string (⟨#[]⟩)), (.int .i64 0), (.int .i64 0), (.int .i64 0), (.int .i64 0), (.int .i64 0), (.int .i64 0), (.int .i64 0), (.int .i64 0), (.int .i64 0), (.int .i64 0), (.int .i64 0), (.slice none 0 0)]) Tryz.zeroValue33 rfl rfl rfl ?_
  intro w62 b63 hb65 hz66 g67 o68
  have H69 := H60.newB g67 o68 (by omega)
  have z70 := g67.size
  refine RL.st (vs := [(.int .i64 ((adoptR tk3 2 4 3 ([])).kind)), (.int .i64 ((adoptR tk3 2 4 3 ([])).view)), (.int .i64 ((adoptR tk3 2 4 3 ([])).from_)), (.int .i64 ((adoptR tk3 2 4 3 ([])).number)), (.string (tx (adoptR tk3 2 4 3 ([])).image)), (.int .i64 ((adoptR tk3 2 4 3 ([])).entry.num)), (.int .i64 ((adoptR tk3 2 4 3 ([])).entry.view)), (.int .i64 ((adoptR tk3 2 4 3 ([])).entry.client)), (.int .i64 ((adoptR tk3 2 4 3 ([])).entry.seq)), (.int .i64 ((adoptR tk3 2 4 3 ([])).entry.op.kind)), (.int .i64 ((adoptR tk3 2 4 3 ([])).entry.op.h)), (.int .i64 ((adoptR tk3 2 4 3 ([])).entry.op.i)), (.int .i64 ((adoptR tk3 2 4 3 ([])).entry.op.n)), (.int .i64 ((adoptR tk3 2 4 3 ([])).entry.op.k)), (.int .i64 ((adoptR tk3 2 4 3 ([])).entry.op.v)), (.int .i64 ((adoptR tk3 2 4 3 ([])).entry.op.t)), (.slice A54 n55 c56)]) (cs' := [(.int .i64 ((adoptR tk3 2 4 3 ([])).kind)), (.int .i64 ((adoptR tk3 2 4 3 ([])).view)), (.int .i64 ((adoptR tk3 2 4 3 ([])).from_)), (.int .i64 ((adoptR tk3 2 4 3 ([])).number)), (.string (tx (adoptR tk3 2 4 3 ([])).image)), (.int .i64 ((adoptR tk3 2 4 3 ([])).entry.num)), (.int .i64 ((adoptR tk3 2 4 3 ([])).entry.view)), (.int .i64 ((adoptR tk3 2 4 3 ([])).entry.client)), (.int .i64 ((adoptR tk3 2 4 3 ([])).entry.seq)), (.int .i64 ((adoptR tk3 2 4 3 ([])).entry.op.kind)), (.int .i64 ((adoptR tk3 2 4 3 ([])).entry.op.h)), (.int .i64 ((adoptR tk3 2 4 3 ([])).entry.op.i)), (.int .i64 ((adoptR tk3 2 4 3 ([])).entry.op.n)), (.int .i64 ((adoptR tk3 2 4 3 ([])).entry.op.k)), (.int .i64 ((adoptR tk3 2 4 3 ([])).entry.op.v)), (.int .i64 ((adoptR tk3 2 4 3 ([])).entry.op.t)), (.slice A54 n55 c56)]) Tryz.sizeOf33 (H69.ob (i := 0) rfl) rfl rfl rfl rfl rfl rfl ?_
  intro w71 hz72 g73 o74
  have H75 : Sp [BlkA b63 33 [(.int .i64 ((adoptR tk3 2 4 3 ([])).kind)), (.int .i64 ((adoptR tk3 2 4 3 ([])).view)), (.int .i64 ((adoptR tk3 2 4 3 ([])).from_)), (.int .i64 ((adoptR tk3 2 4 3 ([])).number)), (.string (tx (adoptR tk3 2 4 3 ([])).image)), (.int .i64 ((adoptR tk3 2 4 3 ([])).entry.num)), (.int .i64 ((adoptR tk3 2 4 3 ([])).entry.view)), (.int .i64 ((adoptR tk3 2 4 3 ([])).entry.client)), (.int .i64 ((adoptR tk3 2 4 3 ([])).entry.seq)), (.int .i64 ((adoptR tk3 2 4 3 ([])).entry.op.kind)), (.int .i64 ((adoptR tk3 2 4 3 ([])).entry.op.h)), (.int .i64 ((adoptR tk3 2 4 3 ([])).entry.op.i)), (.int .i64 ((adoptR tk3 2 4 3 ([])).entry.op.n)), (.int .i64 ((adoptR tk3 2 4 3 ([])).entry.op.k)), (.int .i64 ((adoptR tk3 2 4 3 ([])).entry.op.v)), (.int .i64 ((adoptR tk3 2 4 3 ([])).entry.op.t)), (.slice A54 n55 c56)], RowA 31 11 A54 n55 c56 (ents ((adoptR tk3 2 4 3 ([])).ents)), RowA 31 11 A43 3 c44 (ents tk3.ents), BlkA b30 33 [(.int .i64 ((adoptR tk3 2 4 0 tl4).kind)), (.int .i64 ((adoptR tk3 2 4 0 tl4).view)), (.int .i64 ((adoptR tk3 2 4 0 tl4).from_)), (.int .i64 ((adoptR tk3 2 4 0 tl4).number)), (.string (tx (adoptR tk3 2 4 0 tl4).image)), (.int .i64 ((adoptR tk3 2 4 0 tl4).entry.num)), (.int .i64 ((adoptR tk3 2 4 0 tl4).entry.view)), (.int .i64 ((adoptR tk3 2 4 0 tl4).entry.client)), (.int .i64 ((adoptR tk3 2 4 0 tl4).entry.seq)), (.int .i64 ((adoptR tk3 2 4 0 tl4).entry.op.kind)), (.int .i64 ((adoptR tk3 2 4 0 tl4).entry.op.h)), (.int .i64 ((adoptR tk3 2 4 0 tl4).entry.op.i)), (.int .i64 ((adoptR tk3 2 4 0 tl4).entry.op.n)), (.int .i64 ((adoptR tk3 2 4 0 tl4).entry.op.k)), (.int .i64 ((adoptR tk3 2 4 0 tl4).entry.op.v)), (.int .i64 ((adoptR tk3 2 4 0 tl4).entry.op.t)), (.slice A21 n22 c23)], RowA 31 11 A21 n22 c23 (ents ((adoptR tk3 2 4 0 tl4).ents)), RowA 31 11 A8 4 c9 (ents tl4), RowA 31 11 A1 3 c2 (ents tk3.ents), Fix w NoB] w71 := H69.setB (i := 0) rfl g73 o74 rfl
  have z76 := g73.size
  refine RL.go rfl rfl rfl (Ex.as (v := (.bool (adoptB tk3 2 4 3 ([])))) rfl) ?_
  refine RL.nil (thn.n (CW.seq (CW.region ?_)))
  refine RL.call Tryz.call92 (three17 _) rfl rfl rfl ?_
  rintro _ w79 ⟨A77, c78, rfl, g80⟩
  have g81 := g80.fix (i := 1) rfl
  have H82 : Sp [RowA 31 11 A77 3 c78 (ents tk3.ents), BlkA b63 33 [(.int .i64 ((adoptR tk3 2 4 3 ([])).kind)), (.int .i64 ((adoptR tk3 2 4 3 ([])).view)), (.int .i64 ((adoptR tk3 2 4 3 ([])).from_)), (.int .i64 ((adoptR tk3 2 4 3 ([])).number)), (.string (tx (adoptR tk3 2 4 3 ([])).image)), (.int .i64 ((adoptR tk3 2 4 3 ([])).entry.num)), (.int .i64 ((adoptR tk3 2 4 3 ([])).entry.view)), (.int .i64 ((adoptR tk3 2 4 3 ([])).entry.client)), (.int .i64 ((adoptR tk3 2 4 3 ([])).entry.seq)), (.int .i64 ((adoptR tk3 2 4 3 ([])).entry.op.kind)), (.int .i64 ((adoptR tk3 2 4 3 ([])).entry.op.h)), (.int .i64 ((adoptR tk3 2 4 3 ([])).entry.op.i)), (.int .i64 ((adoptR tk3 2 4 3 ([])).entry.op.n)), (.int .i64 ((adoptR tk3 2 4 3 ([])).entry.op.k)), (.int .i64 ((adoptR tk3 2 4 3 ([])).entry.op.v)), (.int .i64 ((adoptR tk3 2 4 3 ([])).entry.op.t)), (.slice A54 n55 c56)], RowA 31 11 A54 n55 c56 (ents ((adoptR tk3 2 4 3 ([])).ents)), RowA 31 11 A43 3 c44 (ents tk3.ents), BlkA b30 33 [(.int .i64 ((adoptR tk3 2 4 0 tl4).kind)), (.int .i64 ((adoptR tk3 2 4 0 tl4).view)), (.int .i64 ((adoptR tk3 2 4 0 tl4).from_)), (.int .i64 ((adoptR tk3 2 4 0 tl4).number)), (.string (tx (adoptR tk3 2 4 0 tl4).image)), (.int .i64 ((adoptR tk3 2 4 0 tl4).entry.num)), (.int .i64 ((adoptR tk3 2 4 0 tl4).entry.view)), (.int .i64 ((adoptR tk3 2 4 0 tl4).entry.client)), (.int .i64 ((adoptR tk3 2 4 0 tl4).entry.seq)), (.int .i64 ((adoptR tk3 2 4 0 tl4).entry.op.kind)), (.int .i64 ((adoptR tk3 2 4 0 tl4).entry.op.h)), (.int .i64 ((adoptR tk3 2 4 0 tl4).entry.op.i)), (.int .i64 ((adoptR tk3 2 4 0 tl4).entry.op.n)), (.int .i64 ((adoptR tk3 2 4 0 tl4).entry.op.k)), (.int .i64 ((adoptR tk3 2 4 0 tl4).entry.op.v)), (.int .i64 ((adoptR tk3 2 4 0 tl4).entry.op.t)), (.slice A21 n22 c23)], RowA 31 11 A21 n22 c23 (ents ((adoptR tk3 2 4 0 tl4).ents)), RowA 31 11 A8 4 c9 (ents tl4), RowA 31 11 A1 3 c2 (ents tk3.ents), Fix w NoB] w79 := H75.join (m := [RowA 31 11 A77 3 c78 (ents tk3.ents)]) g80
  have z83 := g81.size
  refine RL.call Tryz.call93 (row17_1 _) rfl rfl rfl ?_
  rintro _ w86 ⟨A84, c85, rfl, g87⟩
  have g88 := g87.fix (i := 1) rfl
  have H89 : Sp [RowA 31 11 A84 1 c85 (ents tl1), RowA 31 11 A77 3 c78 (ents tk3.ents), BlkA b63 33 [(.int .i64 ((adoptR tk3 2 4 3 ([])).kind)), (.int .i64 ((adoptR tk3 2 4 3 ([])).view)), (.int .i64 ((adoptR tk3 2 4 3 ([])).from_)), (.int .i64 ((adoptR tk3 2 4 3 ([])).number)), (.string (tx (adoptR tk3 2 4 3 ([])).image)), (.int .i64 ((adoptR tk3 2 4 3 ([])).entry.num)), (.int .i64 ((adoptR tk3 2 4 3 ([])).entry.view)), (.int .i64 ((adoptR tk3 2 4 3 ([])).entry.client)), (.int .i64 ((adoptR tk3 2 4 3 ([])).entry.seq)), (.int .i64 ((adoptR tk3 2 4 3 ([])).entry.op.kind)), (.int .i64 ((adoptR tk3 2 4 3 ([])).entry.op.h)), (.int .i64 ((adoptR tk3 2 4 3 ([])).entry.op.i)), (.int .i64 ((adoptR tk3 2 4 3 ([])).entry.op.n)), (.int .i64 ((adoptR tk3 2 4 3 ([])).entry.op.k)), (.int .i64 ((adoptR tk3 2 4 3 ([])).entry.op.v)), (.int .i64 ((adoptR tk3 2 4 3 ([])).entry.op.t)), (.slice A54 n55 c56)], RowA 31 11 A54 n55 c56 (ents ((adoptR tk3 2 4 3 ([])).ents)), RowA 31 11 A43 3 c44 (ents tk3.ents), BlkA b30 33 [(.int .i64 ((adoptR tk3 2 4 0 tl4).kind)), (.int .i64 ((adoptR tk3 2 4 0 tl4).view)), (.int .i64 ((adoptR tk3 2 4 0 tl4).from_)), (.int .i64 ((adoptR tk3 2 4 0 tl4).number)), (.string (tx (adoptR tk3 2 4 0 tl4).image)), (.int .i64 ((adoptR tk3 2 4 0 tl4).entry.num)), (.int .i64 ((adoptR tk3 2 4 0 tl4).entry.view)), (.int .i64 ((adoptR tk3 2 4 0 tl4).entry.client)), (.int .i64 ((adoptR tk3 2 4 0 tl4).entry.seq)), (.int .i64 ((adoptR tk3 2 4 0 tl4).entry.op.kind)), (.int .i64 ((adoptR tk3 2 4 0 tl4).entry.op.h)), (.int .i64 ((adoptR tk3 2 4 0 tl4).entry.op.i)), (.int .i64 ((adoptR tk3 2 4 0 tl4).entry.op.n)), (.int .i64 ((adoptR tk3 2 4 0 tl4).entry.op.k)), (.int .i64 ((adoptR tk3 2 4 0 tl4).entry.op.v)), (.int .i64 ((adoptR tk3 2 4 0 tl4).entry.op.t)), (.slice A21 n22 c23)], RowA 31 11 A21 n22 c23 (ents ((adoptR tk3 2 4 0 tl4).ents)), RowA 31 11 A8 4 c9 (ents tl4), RowA 31 11 A1 3 c2 (ents tk3.ents), Fix w NoB] w86 := H82.join (m := [RowA 31 11 A84 1 c85 (ents tl1)]) g87
  have z90 := g88.size
  have hfl91 : tk3.ents.length ≤ 4000 := (by decide)
  have hfi92 : tk3.image.length ≤ 4136 := (by decide +kernel)
  have hl93 := H89.len (i := 1) rfl
  rw [ents_length] at hl93
  have hc94 := H89.cap (i := 1) rfl
  have hl95 := H89.len (i := 0) rfl
  rw [ents_length] at hl95
  have hc96 := H89.cap (i := 0) rfl
  refine RL.call Tryz.call25 (adopt_ _ w86.heap.size tk3 A77 3 c78 (H89.rowrd (i := 1) rfl) (Nat.le_refl _) (by first | assumption | rfl | omega | decide +kernel) (by first | assumption | rfl | omega | decide +kernel) (by first | assumption | rfl | omega | decide +kernel) (by first | assumption | rfl | omega | decide +kernel) 2 4 0 (by first | assumption | decide | (unfold rng; omega)) tl1 A84 1 c85 ((H89.rowrd (i := 0) rfl).more (Nat.le_refl _)) (by first | assumption | rfl | omega | decide +kernel) (by first | assumption | rfl | omega | decide +kernel) (by first | assumption | rfl | omega | decide +kernel)) rfl rfl rfl ?_
  rintro _ w100 ⟨A97, n98, c99, rfl, g101⟩
  have g102 := g101.fix (i := 1) rfl
  have H103 : Sp [RowA 31 11 A97 n98 c99 (ents ((adoptR tk3 2 4 0 tl1).ents)), RowA 31 11 A84 1 c85 (ents tl1), RowA 31 11 A77 3 c78 (ents tk3.ents), BlkA b63 33 [(.int .i64 ((adoptR tk3 2 4 3 ([])).kind)), (.int .i64 ((adoptR tk3 2 4 3 ([])).view)), (.int .i64 ((adoptR tk3 2 4 3 ([])).from_)), (.int .i64 ((adoptR tk3 2 4 3 ([])).number)), (.string (tx (adoptR tk3 2 4 3 ([])).image)), (.int .i64 ((adoptR tk3 2 4 3 ([])).entry.num)), (.int .i64 ((adoptR tk3 2 4 3 ([])).entry.view)), (.int .i64 ((adoptR tk3 2 4 3 ([])).entry.client)), (.int .i64 ((adoptR tk3 2 4 3 ([])).entry.seq)), (.int .i64 ((adoptR tk3 2 4 3 ([])).entry.op.kind)), (.int .i64 ((adoptR tk3 2 4 3 ([])).entry.op.h)), (.int .i64 ((adoptR tk3 2 4 3 ([])).entry.op.i)), (.int .i64 ((adoptR tk3 2 4 3 ([])).entry.op.n)), (.int .i64 ((adoptR tk3 2 4 3 ([])).entry.op.k)), (.int .i64 ((adoptR tk3 2 4 3 ([])).entry.op.v)), (.int .i64 ((adoptR tk3 2 4 3 ([])).entry.op.t)), (.slice A54 n55 c56)], RowA 31 11 A54 n55 c56 (ents ((adoptR tk3 2 4 3 ([])).ents)), RowA 31 11 A43 3 c44 (ents tk3.ents), BlkA b30 33 [(.int .i64 ((adoptR tk3 2 4 0 tl4).kind)), (.int .i64 ((adoptR tk3 2 4 0 tl4).view)), (.int .i64 ((adoptR tk3 2 4 0 tl4).from_)), (.int .i64 ((adoptR tk3 2 4 0 tl4).number)), (.string (tx (adoptR tk3 2 4 0 tl4).image)), (.int .i64 ((adoptR tk3 2 4 0 tl4).entry.num)), (.int .i64 ((adoptR tk3 2 4 0 tl4).entry.view)), (.int .i64 ((adoptR tk3 2 4 0 tl4).entry.client)), (.int .i64 ((adoptR tk3 2 4 0 tl4).entry.seq)), (.int .i64 ((adoptR tk3 2 4 0 tl4).entry.op.kind)), (.int .i64 ((adoptR tk3 2 4 0 tl4).entry.op.h)), (.int .i64 ((adoptR tk3 2 4 0 tl4).entry.op.i)), (.int .i64 ((adoptR tk3 2 4 0 tl4).entry.op.n)), (.int .i64 ((adoptR tk3 2 4 0 tl4).entry.op.k)), (.int .i64 ((adoptR tk3 2 4 0 tl4).entry.op.v)), (.int .i64 ((adoptR tk3 2 4 0 tl4).entry.op.t)), (.slice A21 n22 c23)], RowA 31 11 A21 n22 c23 (ents ((adoptR tk3 2 4 0 tl4).ents)), RowA 31 11 A8 4 c9 (ents tl4), RowA 31 11 A1 3 c2 (ents tk3.ents), Fix w NoB] w100 := H89.join (m := [RowA 31 11 A97 n98 c99 (ents ((adoptR tk3 2 4 0 tl1).ents))]) g101
  have z104 := g102.size
  refine RL.go rfl rfl rfl (Ex.mv (v := (.tuple #[(.agg ([(.int .i64 ((adoptR tk3 2 4 0 tl1).kind)), (.int .i64 ((adoptR tk3 2 4 0 tl1).view)), (.int .i64 ((adoptR tk3 2 4 0 tl1).from_)), (.int .i64 ((adoptR tk3 2 4 0 tl1).number)), (.string (tx (adoptR tk3 2 4 0 tl1).image)), (.int .i64 ((adoptR tk3 2 4 0 tl1).entry.num)), (.int .i64 ((adoptR tk3 2 4 0 tl1).entry.view)), (.int .i64 ((adoptR tk3 2 4 0 tl1).entry.client)), (.int .i64 ((adoptR tk3 2 4 0 tl1).entry.seq)), (.int .i64 ((adoptR tk3 2 4 0 tl1).entry.op.kind)), (.int .i64 ((adoptR tk3 2 4 0 tl1).entry.op.h)), (.int .i64 ((adoptR tk3 2 4 0 tl1).entry.op.i)), (.int .i64 ((adoptR tk3 2 4 0 tl1).entry.op.n)), (.int .i64 ((adoptR tk3 2 4 0 tl1).entry.op.k)), (.int .i64 ((adoptR tk3 2 4 0 tl1).entry.op.v)), (.int .i64 ((adoptR tk3 2 4 0 tl1).entry.op.t)), (.slice A97 n98 c99)]).toArray), (.bool (adoptB tk3 2 4 0 tl1))])) rfl) ?_
  refine RL.go rfl rfl rfl (Ex.ext (vs := [(.agg ([(.int .i64 ((adoptR tk3 2 4 0 tl1).kind)), (.int .i64 ((adoptR tk3 2 4 0 tl1).view)), (.int .i64 ((adoptR tk3 2 4 0 tl1).from_)), (.int .i64 ((adoptR tk3 2 4 0 tl1).number)), (.string (tx (adoptR tk3 2 4 0 tl1).image)), (.int .i64 ((adoptR tk3 2 4 0 tl1).entry.num)), (.int .i64 ((adoptR tk3 2 4 0 tl1).entry.view)), (.int .i64 ((adoptR tk3 2 4 0 tl1).entry.client)), (.int .i64 ((adoptR tk3 2 4 0 tl1).entry.seq)), (.int .i64 ((adoptR tk3 2 4 0 tl1).entry.op.kind)), (.int .i64 ((adoptR tk3 2 4 0 tl1).entry.op.h)), (.int .i64 ((adoptR tk3 2 4 0 tl1).entry.op.i)), (.int .i64 ((adoptR tk3 2 4 0 tl1).entry.op.n)), (.int .i64 ((adoptR tk3 2 4 0 tl1).entry.op.k)), (.int .i64 ((adoptR tk3 2 4 0 tl1).entry.op.v)), (.int .i64 ((adoptR tk3 2 4 0 tl1).entry.op.t)), (.slice A97 n98 c99)]).toArray), (.bool (adoptB tk3 2 4 0 tl1))]) (v := (.agg ([(.int .i64 ((adoptR tk3 2 4 0 tl1).kind)), (.int .i64 ((adoptR tk3 2 4 0 tl1).view)), (.int .i64 ((adoptR tk3 2 4 0 tl1).from_)), (.int .i64 ((adoptR tk3 2 4 0 tl1).number)), (.string (tx (adoptR tk3 2 4 0 tl1).image)), (.int .i64 ((adoptR tk3 2 4 0 tl1).entry.num)), (.int .i64 ((adoptR tk3 2 4 0 tl1).entry.view)), (.int .i64 ((adoptR tk3 2 4 0 tl1).entry.client)), (.int .i64 ((adoptR tk3 2 4 0 tl1).entry.seq)), (.int .i64 ((adoptR tk3 2 4 0 tl1).entry.op.kind)), (.int .i64 ((adoptR tk3 2 4 0 tl1).entry.op.h)), (.int .i64 ((adoptR tk3 2 4 0 tl1).entry.op.i)), (.int .i64 ((adoptR tk3 2 4 0 tl1).entry.op.n)), (.int .i64 ((adoptR tk3 2 4 0 tl1).entry.op.k)), (.int .i64 ((adoptR tk3 2 4 0 tl1).entry.op.v)), (.int .i64 ((adoptR tk3 2 4 0 tl1).entry.op.t)), (.slice A97 n98 c99)]).toArray)) rfl rfl) ?_
  refine RL.go rfl rfl rfl (Ex.ext (vs := [(.agg ([(.int .i64 ((adoptR tk3 2 4 0 tl1).kind)), (.int .i64 ((adoptR tk3 2 4 0 tl1).view)), (.int .i64 ((adoptR tk3 2 4 0 tl1).from_)), (.int .i64 ((adoptR tk3 2 4 0 tl1).number)), (.string (tx (adoptR tk3 2 4 0 tl1).image)), (.int .i64 ((adoptR tk3 2 4 0 tl1).entry.num)), (.int .i64 ((adoptR tk3 2 4 0 tl1).entry.view)), (.int .i64 ((adoptR tk3 2 4 0 tl1).entry.client)), (.int .i64 ((adoptR tk3 2 4 0 tl1).entry.seq)), (.int .i64 ((adoptR tk3 2 4 0 tl1).entry.op.kind)), (.int .i64 ((adoptR tk3 2 4 0 tl1).entry.op.h)), (.int .i64 ((adoptR tk3 2 4 0 tl1).entry.op.i)), (.int .i64 ((adoptR tk3 2 4 0 tl1).entry.op.n)), (.int .i64 ((adoptR tk3 2 4 0 tl1).entry.op.k)), (.int .i64 ((adoptR tk3 2 4 0 tl1).entry.op.v)), (.int .i64 ((adoptR tk3 2 4 0 tl1).entry.op.t)), (.slice A97 n98 c99)]).toArray), (.bool (adoptB tk3 2 4 0 tl1))]) (v := (.bool (adoptB tk3 2 4 0 tl1))) rfl rfl) ?_
  refine RL.al (cs := [(.int .i64 0), (.int .i64 0), (.int .i64 0), (.int .i64 0), (.string (⟨#[]⟩)), (.int .i64 0), (.int .i64 0), (.int .i64 0), (.int .i64 0), (.int .i64 0), (.int .i64 0), (.int .i64 0), (.int .i64 0), (.int .i64 0), (.int .i64 0), (.int .i64 0), (.slice none 0 0)]) Tryz.zeroValue33 rfl rfl rfl ?_
  intro w105 b106 hb107 hz108 g109 o110
  have H111 := H103.newB g109 o110 (by omega)
  have z112 := g109.size
  refine RL.st (vs := [(.int .i64 ((adoptR tk3 2 4 0 tl1).kind)), (.int .i64 ((adoptR tk3 2 4 0 tl1).view)), (.int .i64 ((adoptR tk3 2 4 0 tl1).from_)), (.int .i64 ((adoptR tk3 2 4 0 tl1).number)), (.string (tx (adoptR tk3 2 4 0 tl1).image)), (.int .i64 ((adoptR tk3 2 4 0 tl1).entry.num)), (.int .i64 ((adoptR tk3 2 4 0 tl1).entry.view)), (.int .i64 ((adoptR tk3 2 4 0 tl1).entry.client)), (.int .i64 ((adoptR tk3 2 4 0 tl1).entry.seq)), (.int .i64 ((adoptR tk3 2 4 0 tl1).entry.op.kind)), (.int .i64 ((adoptR tk3 2 4 0 tl1).entry.op.h)), (.int .i64 ((adoptR tk3 2 4 0 tl1).entry.op.i)), (.int .i64 ((adoptR tk3 2 4 0 tl1).entry.op.n)), (.int .i64 ((adoptR tk3 2 4 0 tl1).entry.op.k)), (.int .i64 ((adoptR tk3 2 4 0 tl1).entry.op.v)), (.int .i64 ((adoptR tk3 2 4 0 tl1).entry.op.t)), (.slice A97 n98 c99)]) (cs' := [(.int .i64 ((adoptR tk3 2 4 0 tl1).kind)), (.int .i64 ((adoptR tk3 2 4 0 tl1).view)), (.int .i64 ((adoptR tk3 2 4 0 tl1).from_)), (.int .i64 ((adoptR tk3 2 4 0 tl1).number)), (.string (tx (adoptR tk3 2 4 0 tl1).image)), (.int .i64 ((adoptR tk3 2 4 0 tl1).entry.num)), (.int .i64 ((adoptR tk3 2 4 0 tl1).entry.view)), (.int .i64 ((adoptR tk3 2 4 0 tl1).entry.client)), (.int .i64 ((adoptR tk3 2 4 0 tl1).entry.seq)), (.int .i64 ((adoptR tk3 2 4 0 tl1).entry.op.kind)), (.int .i64 ((adoptR tk3 2 4 0 tl1).entry.op.h)), (.int .i64 ((adoptR tk3 2 4 0 tl1).entry.op.i)), (.int .i64 ((adoptR tk3 2 4 0 tl1).entry.op.n)), (.int .i64 ((adoptR tk3 2 4 0 tl1).entry.op.k)), (.int .i64 ((adoptR tk3 2 4 0 tl1).entry.op.v)), (.int .i64 ((adoptR tk3 2 4 0 tl1).entry.op.t)), (.slice A97 n98 c99)]) Tryz.sizeOf33 (H111.ob (i := 0) rfl) rfl rfl rfl rfl rfl rfl ?_
  intro w113 hz114 g115 o116
  have H117 : Sp [BlkA b106 33 [(.int .i64 ((adoptR tk3 2 4 0 tl1).kind)), (.int .i64 ((adoptR tk3 2 4 0 tl1).view)), (.int .i64 ((adoptR tk3 2 4 0 tl1).from_)), (.int .i64 ((adoptR tk3 2 4 0 tl1).number)), (.string (tx (adoptR tk3 2 4 0 tl1).image)), (.int .i64 ((adoptR tk3 2 4 0 tl1).entry.num)), (.int .i64 ((adoptR tk3 2 4 0 tl1).entry.view)), (.int .i64 ((adoptR tk3 2 4 0 tl1).entry.client)), (.int .i64 ((adoptR tk3 2 4 0 tl1).entry.seq)), (.int .i64 ((adoptR tk3 2 4 0 tl1).entry.op.kind)), (.int .i64 ((adoptR tk3 2 4 0 tl1).entry.op.h)), (.int .i64 ((adoptR tk3 2 4 0 tl1).entry.op.i)), (.int .i64 ((adoptR tk3 2 4 0 tl1).entry.op.n)), (.int .i64 ((adoptR tk3 2 4 0 tl1).entry.op.k)), (.int .i64 ((adoptR tk3 2 4 0 tl1).entry.op.v)), (.int .i64 ((adoptR tk3 2 4 0 tl1).entry.op.t)), (.slice A97 n98 c99)], RowA 31 11 A97 n98 c99 (ents ((adoptR tk3 2 4 0 tl1).ents)), RowA 31 11 A84 1 c85 (ents tl1), RowA 31 11 A77 3 c78 (ents tk3.ents), BlkA b63 33 [(.int .i64 ((adoptR tk3 2 4 3 ([])).kind)), (.int .i64 ((adoptR tk3 2 4 3 ([])).view)), (.int .i64 ((adoptR tk3 2 4 3 ([])).from_)), (.int .i64 ((adoptR tk3 2 4 3 ([])).number)), (.string (tx (adoptR tk3 2 4 3 ([])).image)), (.int .i64 ((adoptR tk3 2 4 3 ([])).entry.num)), (.int .i64 ((adoptR tk3 2 4 3 ([])).entry.view)), (.int .i64 ((adoptR tk3 2 4 3 ([])).entry.client)), (.int .i64 ((adoptR tk3 2 4 3 ([])).entry.seq)), (.int .i64 ((adoptR tk3 2 4 3 ([])).entry.op.kind)), (.int .i64 ((adoptR tk3 2 4 3 ([])).entry.op.h)), (.int .i64 ((adoptR tk3 2 4 3 ([])).entry.op.i)), (.int .i64 ((adoptR tk3 2 4 3 ([])).entry.op.n)), (.int .i64 ((adoptR tk3 2 4 3 ([])).entry.op.k)), (.int .i64 ((adoptR tk3 2 4 3 ([])).entry.op.v)), (.int .i64 ((adoptR tk3 2 4 3 ([])).entry.op.t)), (.slice A54 n55 c56)], RowA 31 11 A54 n55 c56 (ents ((adoptR tk3 2 4 3 ([])).ents)), RowA 31 11 A43 3 c44 (ents tk3.ents), BlkA b30 33 [(.int .i64 ((adoptR tk3 2 4 0 tl4).kind)), (.int .i64 ((adoptR tk3 2 4 0 tl4).view)), (.int .i64 ((adoptR tk3 2 4 0 tl4).from_)), (.int .i64 ((adoptR tk3 2 4 0 tl4).number)), (.string (tx (adoptR tk3 2 4 0 tl4).image)), (.int .i64 ((adoptR tk3 2 4 0 tl4).entry.num)), (.int .i64 ((adoptR tk3 2 4 0 tl4).entry.view)), (.int .i64 ((adoptR tk3 2 4 0 tl4).entry.client)), (.int .i64 ((adoptR tk3 2 4 0 tl4).entry.seq)), (.int .i64 ((adoptR tk3 2 4 0 tl4).entry.op.kind)), (.int .i64 ((adoptR tk3 2 4 0 tl4).entry.op.h)), (.int .i64 ((adoptR tk3 2 4 0 tl4).entry.op.i)), (.int .i64 ((adoptR tk3 2 4 0 tl4).entry.op.n)), (.int .i64 ((adoptR tk3 2 4 0 tl4).entry.op.k)), (.int .i64 ((adoptR tk3 2 4 0 tl4).entry.op.v)), (.int .i64 ((adoptR tk3 2 4 0 tl4).entry.op.t)), (.slice A21 n22 c23)], RowA 31 11 A21 n22 c23 (ents ((adoptR tk3 2 4 0 tl4).ents)), RowA 31 11 A8 4 c9 (ents tl4), RowA 31 11 A1 3 c2 (ents tk3.ents), Fix w NoB] w113 := H111.setB (i := 0) rfl g115 o116 rfl
  have z118 := g115.size
  refine RL.go rfl rfl rfl (Ex.as (v := (.bool (adoptB tk3 2 4 0 tl1))) rfl) ?_
  refine RL.nil (thn.n (CW.seq (CW.region ?_)))
  refine RL.go rfl rfl rfl (Ex.mv (v := .bool true) (by show Value.bool (adoptB tk3 2 4 0 tl4) = _; rw [ad_y])) ?_
  refine RL.go rfl rfl rfl (Ex.mv (v := (.bool true)) rfl) ?_
  refine RL.go rfl rfl rfl (fa33_0 (b := ⟨b30, 0, none⟩) rfl rfl) ?_
  refine RL.go rfl rfl rfl (Ex.ldv rfl (loadC1 lo26 (Ob.cell (v := (.int .i64 ((adoptR tk3 2 4 0 tl4).kind))) (H117.ob (i := 7) rfl) rfl))) ?_
  refine RL.go rfl rfl rfl (Ex.eqD (r := true) rfl rfl (decide_eq_true (by rw [ad_r]; rfl))) ?_
  refine RL.go rfl rfl rfl (Ex.pkT (v := (.bool true)) rfl rfl) ?_
  refine RL.go rfl rfl rfl (Ex.mv (v := (.bool true)) rfl) ?_
  refine RL.go rfl rfl rfl (fa33_1 (b := ⟨b30, 1, none⟩) rfl rfl) ?_
  refine RL.go rfl rfl rfl (Ex.ldv rfl (loadC1 lo3 (Ob.cell (v := (.int .i64 ((adoptR tk3 2 4 0 tl4).view))) (H117.ob (i := 7) rfl) rfl))) ?_
  refine RL.go rfl rfl rfl (Ex.eqD (r := true) rfl rfl (decide_eq_true (by rw [ad_r]; rfl))) ?_
  refine RL.go rfl rfl rfl (Ex.pkT (v := (.bool true)) rfl rfl) ?_
  refine RL.go rfl rfl rfl (Ex.mv (v := (.bool true)) rfl) ?_
  refine RL.go rfl rfl rfl (fa33_2 (b := ⟨b30, 2, none⟩) rfl rfl) ?_
  refine RL.go rfl rfl rfl (Ex.ldv rfl (loadC1 lo3 (Ob.cell (v := (.int .i64 ((adoptR tk3 2 4 0 tl4).from_))) (H117.ob (i := 7) rfl) rfl))) ?_
  refine RL.go rfl rfl rfl (Ex.eqD (r := true) rfl rfl (decide_eq_true (by rw [ad_r]; rfl))) ?_
  refine RL.go rfl rfl rfl (Ex.pkT (v := (.bool true)) rfl rfl) ?_
  refine RL.go rfl rfl rfl (Ex.mv (v := (.bool true)) rfl) ?_
  have hl119 := H117.len (i := 8) rfl
  rw [ents_length, ad_r] at hl119
  simp only [ad3, List.length_cons, List.length_nil] at hl119
  have hl2 : (adoptR tk3 2 4 0 tl4).ents.length = 2 := by rw [ad_r]; rfl
  refine RL.go rfl rfl rfl (fa33_6 (b := ⟨b30, 16, none⟩) rfl rfl) ?_
  refine RL.go rfl rfl rfl (Ex.ldv rfl (loadC1 lo22 (Ob.cell (v := (.slice A21 n22 c23)) (H117.ob (i := 7) rfl) rfl))) ?_
  refine RL.go rfl rfl rfl (Ex.len Tryz.underlying22 rfl) ?_
  refine RL.go rfl rfl rfl (Ex.eqD (r := true) rfl rfl (decide_eq_true (by omega))) ?_
  refine RL.go rfl rfl rfl (Ex.pkT (v := (.bool true)) rfl rfl) ?_
  refine RL.go rfl rfl rfl (Ex.mv (v := (.bool true)) rfl) ?_
  refine RL.go rfl rfl rfl (fa33_6 (b := ⟨b30, 16, none⟩) rfl rfl) ?_
  refine RL.go rfl rfl rfl (Ex.ldv rfl (loadC1 lo22 (Ob.cell (v := (.slice A21 n22 c23)) (H117.ob (i := 7) rfl) rfl))) ?_
  obtain ⟨e120, he121⟩ : ∃ e, ((adoptR tk3 2 4 0 tl4).ents)[0]? = some e := ⟨_, List.getElem?_eq_getElem (by omega)⟩
  obtain ⟨ad122, hA123⟩ := Rd.sm (H117.rowrd (i := 8) rfl) (ents_get he121)
  have hl124 := Eng.lt_len (ents_get he121)
  refine RL.go rfl rfl rfl (Ex.ix (b := (ad122.add (0 * 11))) (i := 0) Tryz.underlying22 Tryz.sizeOf31 (by rw [← hA123]; rfl) rfl (by omega) (by omega) rfl) ?_
  refine RL.go rfl rfl rfl (fa31_0 (b := ((ad122.add (0 * 11)))) rfl rfl) ?_
  refine RL.go rfl rfl rfl (Ex.ldv rfl (loadC1 lo3 (Cl.at_ (v := (.int .i64 e120.num)) (Rd.cl (H117.rowrd (i := 8) rfl) hA123 (ents_get he121)) (i := 0) rfl))) ?_
  have h3 : e120 = entR 3 := by rw [ad_r] at he121; injection he121 with h3; exact h3.symm
  refine RL.go rfl rfl rfl (Ex.eqD (r := true) rfl rfl (decide_eq_true (by rw [h3]; rfl))) ?_
  refine RL.go rfl rfl rfl (Ex.pkT (v := (.bool true)) rfl rfl) ?_
  refine RL.go rfl rfl rfl (Ex.mv (v := (.bool true)) rfl) ?_
  refine RL.go rfl rfl rfl (Ex.mv (v := .bool false) (by show Value.bool (adoptB tk3 2 4 3 ([])) = _; rw [ad_n1])) ?_
  refine RL.go rfl rfl rfl (Ex.not (b := false) rfl) ?_
  refine RL.go rfl rfl rfl (Ex.pkT (v := (.bool true)) rfl rfl) ?_
  refine RL.go rfl rfl rfl (Ex.mv (v := (.bool true)) rfl) ?_
  refine RL.go rfl rfl rfl (Ex.mv (v := .bool false) (by show Value.bool (adoptB tk3 2 4 0 tl1) = _; rw [ad_n2])) ?_
  refine RL.go rfl rfl rfl (Ex.not (b := false) rfl) ?_
  refine RL.go rfl rfl rfl (Ex.pkT (v := (.bool true)) rfl rfl) ?_
  refine RL.go rfl rfl rfl (Ex.as (v := (.bool true)) rfl) ?_
  refine RL.nil (thn.n (CW.ret ?_))
  refine finQ.r (v := (.bool true)) (res1 rfl rfl) ?_
  exact ⟨rfl, (H117.fix (i := 11) rfl)⟩
end Go.Proofs.YtfokljnhllflbaaGreat
namespace Go.Eng
theorem Out.mixIn {m m2 : Nat → Bool} {j ρ ρ0 : Env} (h : Out m ρ ρ0) (hm : ∀ t, m t = false → m2 t = false) : Out m (Eng.mix m2 j ρ) ρ0 := fun t ht => by
  unfold Eng.mix; rw [hm t ht]; exact h t ht
theorem ble_f {a b : Nat} : Nat.ble a b = false ↔ b < a := by
  rw [← Bool.not_eq_true, Nat.ble_eq]; omega
theorem beq_f {a b : Nat} : Nat.beq a b = false ↔ a ≠ b := by
  rw [← Bool.not_eq_true, Nat.beq_eq]
end Go.Eng
namespace Go.Proofs.YtfokljnhllflbaaGreat
open Go Go.Eng Go.RowKit
set_option maxHeartbeats 2000000 in
set_option maxRecDepth 20000 in
theorem changeSaved_ (w : World) (B : Nat) (k : Kept) (A : Option Addr) (n c : Nat) (hr : Rd w B 11 A (ents k.ents)) (hB : B ≤ w.heap.size) (hn : n = k.ents.length) (hc : n ≤ c) (commit view base : Int) (hcr : rng commit) (l : List Entry) (A2 : Option Addr) (n2 c2 : Nat) (hr2 : Rd w B 11 A2 (ents l)) (hn2 : n2 = l.length) (hc2 : n2 ≤ c2) (hok : ∀ e ∈ l, rng e.num) : Ret Tryz.prog 12 [(.agg ([(.int .i64 k.view), (.int .i64 k.normal), (.int .i64 k.base), (.string (tx k.image)), (.slice A n c)]).toArray), (.int .i64 commit), (.int .i64 view), (.int .i64 base), (.slice A2 n2 c2)] w (fun v w' => v = .bool true ∧ w.grownBy w' none) := by
  have H0 : Sp [Fix w NoB] w := Sp.start w
  refine Ret.body Tryz.func12 rfl rfl rfl ?_
  refine CW.seq (CW.region ?_)
  refine RL.bx (cs := [(.int .i64 k.view), (.int .i64 k.normal), (.int .i64 k.base), (.string (tx k.image)), (.slice A n c)]) rfl rfl rfl ?_
  intro w1 b2 hb3 hz4 g5 o6
  have H7 := H0.newB g5 o6 (by omega)
  have z8 := g5.size
  refine RL.go rfl rfl rfl (Ex.as (v := (.bool false)) rfl) ?_
  refine RL.nil (thn.n (CW.seq (CW.seq (CW.region ?_))))
  refine RL.go rfl rfl rfl (Ex.ldv rfl (loadCN (cs := [(.int .i64 k.view), (.int .i64 k.normal), (.int .i64 k.base), (.string (tx k.image)), (.slice A n c)]) wh24 (H7.ob (i := 0) rfl).cl)) ?_
  refine RL.go rfl rfl rfl (Ex.mv (v := (.slice A2 n2 c2)) rfl) ?_
  refine RL.go rfl rfl rfl (Ex.bd (cs := [(.int .i64 0), (.int .i64 0), (.int .i64 0), (.int .i64 0), (.string (⟨#[]⟩)), (.int .i64 0), (.int .i64 0), (.int .i64 0), (.int .i64 0), (.int .i64 0), (.int .i64 0), (.int .i64 0), (.int .i64 0), (.int .i64 0), (.int .i64 0), (.int .i64 0), (.slice A2 n2 c2)]) bd33 rfl) ?_
  refine RL.call Tryz.call23 (big15 _ k A n c (by first | assumption | rfl | omega) (⟨0, 0, 0, 0, [], (⟨0, 0, 0, 0, ⟨0, 0, 0, 0, 0, 0, 0⟩⟩ : Entry), l⟩ : Rec) A2 n2 c2 (by first | assumption | rfl | omega)) rfl rfl rfl ?_
  rintro _ w9 ⟨rfl, g10⟩
  have H11 := H7.grow g10
  have z12 := g10.size
  rcases hb13 : (bigK k (⟨0, 0, 0, 0, [], (⟨0, 0, 0, 0, ⟨0, 0, 0, 0, 0, 0, 0⟩⟩ : Entry), l⟩ : Rec)) with _ | _
  ·obtain ⟨hbg1, hbg2, hbg3, hbg4⟩ := bigK_f hb13
   refine RL.nil (thn.n (CW.condF rfl (CW.skip (thn.n (CW.seq (CW.region ?_))))))
   have hbl : l.length ≤ 300 := hbg2
   have hbl2 : l.length ≤ 1000000 := by omega
   refine RL.go rfl rfl rfl (Ex.ldv rfl (loadCN (cs := [(.int .i64 k.view), (.int .i64 k.normal), (.int .i64 k.base), (.string (tx k.image)), (.slice A n c)]) wh24 (H11.ob (i := 0) rfl).cl)) ?_
   refine RL.go rfl rfl rfl (Ex.mv (v := (.int .i64 commit)) rfl) ?_
   refine RL.go rfl rfl rfl (Ex.mv (v := (.int .i64 view)) rfl) ?_
   refine RL.go rfl rfl rfl (Ex.mv (v := (.int .i64 base)) rfl) ?_
   refine RL.go rfl rfl rfl (Ex.mv (v := (.slice A2 n2 c2)) rfl) ?_
   refine RL.call Tryz.call25 (adopt_ _ w9.heap.size k A n c ((hr.st0 (H11.fix (i := 1) rfl)).more (by omega)) (by omega) (by first | assumption | rfl | omega | decide +kernel) (by first | assumption | rfl | omega | decide +kernel) (by first | assumption | rfl | omega | decide +kernel) (by first | assumption | rfl | omega | decide +kernel) commit view base (by first | assumption | decide | (unfold rng; omega)) l A2 n2 c2 ((hr2.st0 (H11.fix (i := 1) rfl)).more (by omega)) (by first | assumption | rfl | omega | decide +kernel) (by first | assumption | rfl | omega | decide +kernel) (by first | assumption | rfl | omega | decide +kernel)) rfl rfl rfl ?_
   rintro _ w17 ⟨A14, n15, c16, rfl, g18⟩
   have g19 := g18.fix (i := 1) rfl
   have H20 : Sp [RowA 31 11 A14 n15 c16 (ents ((adoptR k commit view base l).ents)), BlkA b2 24 [(.int .i64 k.view), (.int .i64 k.normal), (.int .i64 k.base), (.string (tx k.image)), (.slice A n c)], Fix w NoB] w17 := H11.join (m := [RowA 31 11 A14 n15 c16 (ents ((adoptR k commit view base l).ents))]) g18
   have z21 := g19.size
   refine RL.go rfl rfl rfl (Ex.mv (v := (.tuple #[(.agg ([(.int .i64 ((adoptR k commit view base l).kind)), (.int .i64 ((adoptR k commit view base l).view)), (.int .i64 ((adoptR k commit view base l).from_)), (.int .i64 ((adoptR k commit view base l).number)), (.string (tx (adoptR k commit view base l).image)), (.int .i64 ((adoptR k commit view base l).entry.num)), (.int .i64 ((adoptR k commit view base l).entry.view)), (.int .i64 ((adoptR k commit view base l).entry.client)), (.int .i64 ((adoptR k commit view base l).entry.seq)), (.int .i64 ((adoptR k commit view base l).entry.op.kind)), (.int .i64 ((adoptR k commit view base l).entry.op.h)), (.int .i64 ((adoptR k commit view base l).entry.op.i)), (.int .i64 ((adoptR k commit view base l).entry.op.n)), (.int .i64 ((adoptR k commit view base l).entry.op.k)), (.int .i64 ((adoptR k commit view base l).entry.op.v)), (.int .i64 ((adoptR k commit view base l).entry.op.t)), (.slice A14 n15 c16)]).toArray), (.bool (adoptB k commit view base l))])) rfl) ?_
   refine RL.go rfl rfl rfl (Ex.ext (vs := [(.agg ([(.int .i64 ((adoptR k commit view base l).kind)), (.int .i64 ((adoptR k commit view base l).view)), (.int .i64 ((adoptR k commit view base l).from_)), (.int .i64 ((adoptR k commit view base l).number)), (.string (tx (adoptR k commit view base l).image)), (.int .i64 ((adoptR k commit view base l).entry.num)), (.int .i64 ((adoptR k commit view base l).entry.view)), (.int .i64 ((adoptR k commit view base l).entry.client)), (.int .i64 ((adoptR k commit view base l).entry.seq)), (.int .i64 ((adoptR k commit view base l).entry.op.kind)), (.int .i64 ((adoptR k commit view base l).entry.op.h)), (.int .i64 ((adoptR k commit view base l).entry.op.i)), (.int .i64 ((adoptR k commit view base l).entry.op.n)), (.int .i64 ((adoptR k commit view base l).entry.op.k)), (.int .i64 ((adoptR k commit view base l).entry.op.v)), (.int .i64 ((adoptR k commit view base l).entry.op.t)), (.slice A14 n15 c16)]).toArray), (.bool (adoptB k commit view base l))]) (v := (.agg ([(.int .i64 ((adoptR k commit view base l).kind)), (.int .i64 ((adoptR k commit view base l).view)), (.int .i64 ((adoptR k commit view base l).from_)), (.int .i64 ((adoptR k commit view base l).number)), (.string (tx (adoptR k commit view base l).image)), (.int .i64 ((adoptR k commit view base l).entry.num)), (.int .i64 ((adoptR k commit view base l).entry.view)), (.int .i64 ((adoptR k commit view base l).entry.client)), (.int .i64 ((adoptR k commit view base l).entry.seq)), (.int .i64 ((adoptR k commit view base l).entry.op.kind)), (.int .i64 ((adoptR k commit view base l).entry.op.h)), (.int .i64 ((adoptR k commit view base l).entry.op.i)), (.int .i64 ((adoptR k commit view base l).entry.op.n)), (.int .i64 ((adoptR k commit view base l).entry.op.k)), (.int .i64 ((adoptR k commit view base l).entry.op.v)), (.int .i64 ((adoptR k commit view base l).entry.op.t)), (.slice A14 n15 c16)]).toArray)) rfl rfl) ?_
   refine RL.go rfl rfl rfl (Ex.ext (vs := [(.agg ([(.int .i64 ((adoptR k commit view base l).kind)), (.int .i64 ((adoptR k commit view base l).view)), (.int .i64 ((adoptR k commit view base l).from_)), (.int .i64 ((adoptR k commit view base l).number)), (.string (tx (adoptR k commit view base l).image)), (.int .i64 ((adoptR k commit view base l).entry.num)), (.int .i64 ((adoptR k commit view base l).entry.view)), (.int .i64 ((adoptR k commit view base l).entry.client)), (.int .i64 ((adoptR k commit view base l).entry.seq)), (.int .i64 ((adoptR k commit view base l).entry.op.kind)), (.int .i64 ((adoptR k commit view base l).entry.op.h)), (.int .i64 ((adoptR k commit view base l).entry.op.i)), (.int .i64 ((adoptR k commit view base l).entry.op.n)), (.int .i64 ((adoptR k commit view base l).entry.op.k)), (.int .i64 ((adoptR k commit view base l).entry.op.v)), (.int .i64 ((adoptR k commit view base l).entry.op.t)), (.slice A14 n15 c16)]).toArray), (.bool (adoptB k commit view base l))]) (v := (.bool (adoptB k commit view base l))) rfl rfl) ?_
   refine RL.al (cs := [(.int .i64 0), (.int .i64 0), (.int .i64 0), (.int .i64 0), (.string (⟨#[]⟩)), (.int .i64 0), (.int .i64 0), (.int .i64 0), (.int .i64 0), (.int .i64 0), (.int .i64 0), (.int .i64 0), (.int .i64 0), (.int .i64 0), (.int .i64 0), (.int .i64 0), (.slice none 0 0)]) Tryz.zeroValue33 rfl rfl rfl ?_
   intro w22 b23 hb24 hz25 g26 o27
   have H28 := H20.newB g26 o27 (by omega)
   have z29 := g26.size
   refine RL.st (vs := [(.int .i64 ((adoptR k commit view base l).kind)), (.int .i64 ((adoptR k commit view base l).view)), (.int .i64 ((adoptR k commit view base l).from_)), (.int .i64 ((adoptR k commit view base l).number)), (.string (tx (adoptR k commit view base l).image)), (.int .i64 ((adoptR k commit view base l).entry.num)), (.int .i64 ((adoptR k commit view base l).entry.view)), (.int .i64 ((adoptR k commit view base l).entry.client)), (.int .i64 ((adoptR k commit view base l).entry.seq)), (.int .i64 ((adoptR k commit view base l).entry.op.kind)), (.int .i64 ((adoptR k commit view base l).entry.op.h)), (.int .i64 ((adoptR k commit view base l).entry.op.i)), (.int .i64 ((adoptR k commit view base l).entry.op.n)), (.int .i64 ((adoptR k commit view base l).entry.op.k)), (.int .i64 ((adoptR k commit view base l).entry.op.v)), (.int .i64 ((adoptR k commit view base l).entry.op.t)), (.slice A14 n15 c16)]) (cs' := [(.int .i64 ((adoptR k commit view base l).kind)), (.int .i64 ((adoptR k commit view base l).view)), (.int .i64 ((adoptR k commit view base l).from_)), (.int .i64 ((adoptR k commit view base l).number)), (.string (tx (adoptR k commit view base l).image)), (.int .i64 ((adoptR k commit view base l).entry.num)), (.int .i64 ((adoptR k commit view base l).entry.view)), (.int .i64 ((adoptR k commit view base l).entry.client)), (.int .i64 ((adoptR k commit view base l).entry.seq)), (.int .i64 ((adoptR k commit view base l).entry.op.kind)), (.int .i64 ((adoptR k commit view base l).entry.op.h)), (.int .i64 ((adoptR k commit view base l).entry.op.i)), (.int .i64 ((adoptR k commit view base l).entry.op.n)), (.int .i64 ((adoptR k commit view base l).entry.op.k)), (.int .i64 ((adoptR k commit view base l).entry.op.v)), (.int .i64 ((adoptR k commit view base l).entry.op.t)), (.slice A14 n15 c16)]) Tryz.sizeOf33 (H28.ob (i := 0) rfl) rfl rfl rfl rfl rfl rfl ?_
   intro w30 hz31 g32 o33
   have H34 : Sp [BlkA b23 33 [(.int .i64 ((adoptR k commit view base l).kind)), (.int .i64 ((adoptR k commit view base l).view)), (.int .i64 ((adoptR k commit view base l).from_)), (.int .i64 ((adoptR k commit view base l).number)), (.string (tx (adoptR k commit view base l).image)), (.int .i64 ((adoptR k commit view base l).entry.num)), (.int .i64 ((adoptR k commit view base l).entry.view)), (.int .i64 ((adoptR k commit view base l).entry.client)), (.int .i64 ((adoptR k commit view base l).entry.seq)), (.int .i64 ((adoptR k commit view base l).entry.op.kind)), (.int .i64 ((adoptR k commit view base l).entry.op.h)), (.int .i64 ((adoptR k commit view base l).entry.op.i)), (.int .i64 ((adoptR k commit view base l).entry.op.n)), (.int .i64 ((adoptR k commit view base l).entry.op.k)), (.int .i64 ((adoptR k commit view base l).entry.op.v)), (.int .i64 ((adoptR k commit view base l).entry.op.t)), (.slice A14 n15 c16)], RowA 31 11 A14 n15 c16 (ents ((adoptR k commit view base l).ents)), BlkA b2 24 [(.int .i64 k.view), (.int .i64 k.normal), (.int .i64 k.base), (.string (tx k.image)), (.slice A n c)], Fix w NoB] w30 := H28.setB (i := 0) rfl g32 o33 rfl
   have z35 := g32.size
   refine RL.go rfl rfl rfl (Ex.as (v := (.bool (adoptB k commit view base l))) rfl) ?_
   refine RL.nil (thn.n (CW.seq (CW.seq (CW.region ?_))))
   rcases hb36 : (adoptB k commit view base l) with _ | _
   ·refine RL.go rfl rfl rfl (Ex.mv (v := (.bool false)) rfl) ?_
    refine RL.go rfl rfl rfl (Ex.not (b := false) rfl) ?_
    refine RL.nil (thn.n (CW.condT rfl (CW.seq (CW.region ?_))))
    have hl37 := H34.len (i := 1) rfl
    rw [ents_length, adoptR_f hb36] at hl37; simp only [List.length_nil] at hl37
    refine RL.call Tryz.call29 (adopts17 _) rfl rfl rfl ?_
    rintro _ w38 ⟨rfl, g39⟩
    have H40 := H34.grow g39
    have z41 := g39.size
    refine RL.go rfl rfl rfl (Ex.mv (v := (.bool true)) rfl) ?_
    refine RL.go rfl rfl rfl (fa33_6 (b := ⟨b23, 16, none⟩) rfl rfl) ?_
    refine RL.go rfl rfl rfl (Ex.ldv rfl (loadC1 lo22 (Ob.cell (v := (.slice A14 n15 c16)) (H40.ob (i := 0) rfl) rfl))) ?_
    refine RL.go rfl rfl rfl (Ex.len Tryz.underlying22 rfl) ?_
    refine RL.go rfl rfl rfl (Ex.eqD (r := true) rfl rfl (decide_eq_true (by omega))) ?_
    refine RL.go rfl rfl rfl (Ex.pkT (v := (.bool true)) rfl rfl) ?_
    refine RL.go rfl rfl rfl (Ex.as (v := (.bool true)) rfl) ?_
    refine RL.nil (thn.n (CW.ret (thn.r ?_)))
    refine finQ.r (v := (.bool true)) (res1 rfl rfl) ?_
    exact ⟨rfl, (H40.fix (i := 3) rfl)⟩
   ·refine RL.go rfl rfl rfl (Ex.mv (v := (.bool true)) rfl) ?_
    refine RL.go rfl rfl rfl (Ex.not (b := true) rfl) ?_
    refine RL.nil (thn.n (CW.condF rfl (CW.skip (thn.n (CW.seq (CW.region ?_))))))
    obtain ⟨ha1, ⟨ha2, ha3⟩, ⟨ha4, ha5⟩, ⟨ha6, ha7⟩, ha8, ha9⟩ := adoptB_t hb36 hbl2 hok
    have hkt := keptB_t ha1
    have hlk : lastK k = k.base + k.ents.length := rfl
    have hl42 := H34.len (i := 1) rfl
    rw [ents_length] at hl42
    have hre : (adoptR k commit view base l).ents.length ≤ 300 := by rw [adoptR_t hb36]; show (l.drop _).length ≤ _; rw [List.length_drop]; omega
    have hri : (adoptR k commit view base l).image.length ≤ 0 := by rw [adoptR_t hb36]; exact Nat.le_refl 0
    refine RL.go rfl rfl rfl (Ex.ldv rfl (loadCN (cs := [(.int .i64 k.view), (.int .i64 k.normal), (.int .i64 k.base), (.string (tx k.image)), (.slice A n c)]) wh24 (H34.ob (i := 2) rfl).cl)) ?_
    refine RL.go rfl rfl rfl (Ex.ldv rfl (loadCN (cs := [(.int .i64 ((adoptR k commit view base l).kind)), (.int .i64 ((adoptR k commit view base l).view)), (.int .i64 ((adoptR k commit view base l).from_)), (.int .i64 ((adoptR k commit view base l).number)), (.string (tx (adoptR k commit view base l).image)), (.int .i64 ((adoptR k commit view base l).entry.num)), (.int .i64 ((adoptR k commit view base l).entry.view)), (.int .i64 ((adoptR k commit view base l).entry.client)), (.int .i64 ((adoptR k commit view base l).entry.seq)), (.int .i64 ((adoptR k commit view base l).entry.op.kind)), (.int .i64 ((adoptR k commit view base l).entry.op.h)), (.int .i64 ((adoptR k commit view base l).entry.op.i)), (.int .i64 ((adoptR k commit view base l).entry.op.n)), (.int .i64 ((adoptR k commit view base l).entry.op.k)), (.int .i64 ((adoptR k commit view base l).entry.op.v)), (.int .i64 ((adoptR k commit view base l).entry.op.t)), (.slice A14 n15 c16)]) wh33 (H34.ob (i := 0) rfl).cl)) ?_
    have hl43 := H34.len (i := 1) rfl
    rw [ents_length] at hl43
    have hc44 := H34.cap (i := 1) rfl
    refine RL.call Tryz.call40 (Fold_ _ w30.heap.size k A n c ((hr.st0 (H34.fix (i := 3) rfl)).more (by omega)) (by omega) (by first | assumption | rfl | omega | decide +kernel) (by first | assumption | rfl | omega | decide +kernel) (by first | assumption | rfl | omega | decide +kernel) (by first | assumption | rfl | omega | decide +kernel) (adoptR k commit view base l) A14 n15 c16 ((H34.rowrd (i := 1) rfl).more (by omega)) (by first | assumption | rfl | omega | decide +kernel) (by first | assumption | rfl | omega | decide +kernel) (by first | assumption | rfl | omega | decide +kernel) (by first | assumption | rfl | omega | decide +kernel)) rfl rfl rfl ?_
    rintro _ w48 ⟨A45, n46, c47, rfl, g49⟩
    have g50 := g49.fix (i := 1) rfl
    have H51 : Sp [RowA 31 11 A45 n46 c47 (ents ((foldK k (adoptR k commit view base l)).2.ents)), BlkA b23 33 [(.int .i64 ((adoptR k commit view base l).kind)), (.int .i64 ((adoptR k commit view base l).view)), (.int .i64 ((adoptR k commit view base l).from_)), (.int .i64 ((adoptR k commit view base l).number)), (.string (tx (adoptR k commit view base l).image)), (.int .i64 ((adoptR k commit view base l).entry.num)), (.int .i64 ((adoptR k commit view base l).entry.view)), (.int .i64 ((adoptR k commit view base l).entry.client)), (.int .i64 ((adoptR k commit view base l).entry.seq)), (.int .i64 ((adoptR k commit view base l).entry.op.kind)), (.int .i64 ((adoptR k commit view base l).entry.op.h)), (.int .i64 ((adoptR k commit view base l).entry.op.i)), (.int .i64 ((adoptR k commit view base l).entry.op.n)), (.int .i64 ((adoptR k commit view base l).entry.op.k)), (.int .i64 ((adoptR k commit view base l).entry.op.v)), (.int .i64 ((adoptR k commit view base l).entry.op.t)), (.slice A14 n15 c16)], RowA 31 11 A14 n15 c16 (ents ((adoptR k commit view base l).ents)), BlkA b2 24 [(.int .i64 k.view), (.int .i64 k.normal), (.int .i64 k.base), (.string (tx k.image)), (.slice A n c)], Fix w NoB] w48 := H34.join (m := [RowA 31 11 A45 n46 c47 (ents ((foldK k (adoptR k commit view base l)).2.ents))]) g49
    have z52 := g50.size
    refine RL.go rfl rfl rfl (Ex.mv (v := (.tuple #[(.agg ([(.int .i64 ((foldK k (adoptR k commit view base l)).2.view)), (.int .i64 ((foldK k (adoptR k commit view base l)).2.normal)), (.int .i64 ((foldK k (adoptR k commit view base l)).2.base)), (.string (tx (foldK k (adoptR k commit view base l)).2.image)), (.slice A45 n46 c47)]).toArray), (.int .i64 ((foldK k (adoptR k commit view base l)).1))])) rfl) ?_
    refine RL.go rfl rfl rfl (Ex.ext (vs := [(.agg ([(.int .i64 ((foldK k (adoptR k commit view base l)).2.view)), (.int .i64 ((foldK k (adoptR k commit view base l)).2.normal)), (.int .i64 ((foldK k (adoptR k commit view base l)).2.base)), (.string (tx (foldK k (adoptR k commit view base l)).2.image)), (.slice A45 n46 c47)]).toArray), (.int .i64 ((foldK k (adoptR k commit view base l)).1))]) (v := (.agg ([(.int .i64 ((foldK k (adoptR k commit view base l)).2.view)), (.int .i64 ((foldK k (adoptR k commit view base l)).2.normal)), (.int .i64 ((foldK k (adoptR k commit view base l)).2.base)), (.string (tx (foldK k (adoptR k commit view base l)).2.image)), (.slice A45 n46 c47)]).toArray)) rfl rfl) ?_
    refine RL.go rfl rfl rfl (Ex.ext (vs := [(.agg ([(.int .i64 ((foldK k (adoptR k commit view base l)).2.view)), (.int .i64 ((foldK k (adoptR k commit view base l)).2.normal)), (.int .i64 ((foldK k (adoptR k commit view base l)).2.base)), (.string (tx (foldK k (adoptR k commit view base l)).2.image)), (.slice A45 n46 c47)]).toArray), (.int .i64 ((foldK k (adoptR k commit view base l)).1))]) (v := (.int .i64 ((foldK k (adoptR k commit view base l)).1))) rfl rfl) ?_
    refine RL.al (cs := [(.int .i64 0), (.int .i64 0), (.int .i64 0), (.string (⟨#[]⟩)), (.slice none 0 0)]) Tryz.zeroValue24 rfl rfl rfl ?_
    intro w53 b54 hb55 hz56 g57 o58
    have H59 := H51.newB g57 o58 (by omega)
    have z60 := g57.size
    refine RL.st (vs := [(.int .i64 ((foldK k (adoptR k commit view base l)).2.view)), (.int .i64 ((foldK k (adoptR k commit view base l)).2.normal)), (.int .i64 ((foldK k (adoptR k commit view base l)).2.base)), (.string (tx (foldK k (adoptR k commit view base l)).2.image)), (.slice A45 n46 c47)]) (cs' := [(.int .i64 ((foldK k (adoptR k commit view base l)).2.view)), (.int .i64 ((foldK k (adoptR k commit view base l)).2.normal)), (.int .i64 ((foldK k (adoptR k commit view base l)).2.base)), (.string (tx (foldK k (adoptR k commit view base l)).2.image)), (.slice A45 n46 c47)]) Tryz.sizeOf24 (H59.ob (i := 0) rfl) rfl rfl rfl rfl rfl rfl ?_
    intro w61 hz62 g63 o65
    have H66 : Sp [BlkA b54 24 [(.int .i64 ((foldK k (adoptR k commit view base l)).2.view)), (.int .i64 ((foldK k (adoptR k commit view base l)).2.normal)), (.int .i64 ((foldK k (adoptR k commit view base l)).2.base)), (.string (tx (foldK k (adoptR k commit view base l)).2.image)), (.slice A45 n46 c47)], RowA 31 11 A45 n46 c47 (ents ((foldK k (adoptR k commit view base l)).2.ents)), BlkA b23 33 [(.int .i64 ((adoptR k commit view base l).kind)), (.int .i64 ((adoptR k commit view base l).view)), (.int .i64 ((adoptR k commit view base l).from_)), (.int .i64 ((adoptR k commit view base l).number)), (.string (tx (adoptR k commit view base l).image)), (.int .i64 ((adoptR k commit view base l).entry.num)), (.int .i64 ((adoptR k commit view base l).entry.view)), (.int .i64 ((adoptR k commit view base l).entry.client)), (.int .i64 ((adoptR k commit view base l).entry.seq)), (.int .i64 ((adoptR k commit view base l).entry.op.kind)), (.int .i64 ((adoptR k commit view base l).entry.op.h)), (.int .i64 ((adoptR k commit view base l).entry.op.i)), (.int .i64 ((adoptR k commit view base l).entry.op.n)), (.int .i64 ((adoptR k commit view base l).entry.op.k)), (.int .i64 ((adoptR k commit view base l).entry.op.v)), (.int .i64 ((adoptR k commit view base l).entry.op.t)), (.slice A14 n15 c16)], RowA 31 11 A14 n15 c16 (ents ((adoptR k commit view base l).ents)), BlkA b2 24 [(.int .i64 k.view), (.int .i64 k.normal), (.int .i64 k.base), (.string (tx k.image)), (.slice A n c)], Fix w NoB] w61 := H59.setB (i := 0) rfl g63 o65 rfl
    have z67 := g63.size
    refine RL.go rfl rfl rfl (Ex.as (v := (.int .i64 ((foldK k (adoptR k commit view base l)).1))) rfl) ?_
    refine RL.nil (thn.n (CW.seq (CW.seq (CW.region ?_))))
    refine RL.go rfl rfl rfl (Ex.mv (v := (.int .i64 ((foldK k (adoptR k commit view base l)).1))) rfl) ?_
    refine RL.br (p := ((foldK k (adoptR k commit view base l)).1 : Int) ≠ (0 : Int)) rfl rfl rfl (fun r hr => Ex.neD rfl rfl hr) (fun h68 => ?_) (fun h68 => ?_)
    ·skip
     refine RL.nil (thn.n (CW.condT rfl (CW.seq (CW.region ?_))))
     have her := adopt_err hb36 hbl2 hok h68
     refine RL.call Tryz.call29 (adopts17 _) rfl rfl rfl ?_
     rintro _ w69 ⟨rfl, g70⟩
     have H71 := H66.grow g70
     have z72 := g70.size
     refine RL.go rfl rfl rfl (Ex.mv (v := (.bool true)) rfl) ?_
     refine RL.go rfl rfl rfl (Ex.mv (v := (.int .i64 ((foldK k (adoptR k commit view base l)).1))) rfl) ?_
     refine RL.br (p := ((foldK k (adoptR k commit view base l)).1 : Int) = (141 : Int)) rfl rfl rfl (fun r hr => Ex.eqD rfl rfl hr) (fun h73 => ?_) (fun h73 => ?_)
     ·skip
      refine RL.go rfl rfl rfl (Ex.mv (v := (.bool true)) rfl) ?_
      refine RL.out rfl rfl rfl ?_
      refine RL.out rfl rfl rfl ?_
      refine RL.go rfl rfl rfl (Ex.pkT (v := (.bool true)) rfl rfl) ?_
      refine RL.go rfl rfl rfl (Ex.pkT (v := (.bool true)) rfl rfl) ?_
      refine RL.go rfl rfl rfl (Ex.as (v := (.bool true)) rfl) ?_
      refine RL.nil (thn.n (CW.ret (thn.r ?_)))
      refine finQ.r (v := (.bool true)) (res1 rfl rfl) ?_
      exact ⟨rfl, (H71.fix (i := 5) rfl)⟩
     ·skip
      refine RL.go rfl rfl rfl (Ex.mv (v := (.bool false)) rfl) ?_
      refine RL.go rfl rfl rfl (Ex.mv (v := (.int .i64 ((foldK k (adoptR k commit view base l)).1))) rfl) ?_
      refine RL.go rfl rfl rfl (Ex.eqD (r := true) rfl rfl (decide_eq_true (by omega))) ?_
      refine RL.go rfl rfl rfl (Ex.pkF (v := (.bool true)) rfl rfl) ?_
      refine RL.go rfl rfl rfl (Ex.pkT (v := (.bool true)) rfl rfl) ?_
      refine RL.go rfl rfl rfl (Ex.as (v := (.bool true)) rfl) ?_
      refine RL.nil (thn.n (CW.ret (thn.r ?_)))
      refine finQ.r (v := (.bool true)) (res1 rfl rfl) ?_
      exact ⟨rfl, (H71.fix (i := 5) rfl)⟩
    ·skip
     refine RL.nil (thn.n (CW.condF rfl (CW.skip (thn.n (CW.seq (CW.seq (CW.region ?_)))))))
     have hx0 : (foldK k (adoptR k commit view base l)).1 = 0 := by have := h68; omega
     obtain ⟨hx1, hx2⟩ := adopt_fold hb36 hbl2 hok hx0
     have hxt := keptB_t hx2
     obtain ⟨hx3, hx4⟩ := adopt_len hb36 hbl2 hok
     have hxi : (adoptX k commit view base l).image.length ≤ 100000 := hbg3
     have hxb : (adoptX k commit view base l).base = k.base := rfl
     have hxv : (adoptX k commit view base l).view = view := rfl
     have hxn : (adoptX k commit view base l).normal = view := rfl
     rw [hx1] at H66
     have hl74 := H66.len (i := 1) rfl
     rw [ents_length] at hl74
     refine RL.go rfl rfl rfl (Ex.as (v := (.int .i64 0)) rfl) ?_
     refine RL.nil (thn.n (CW.block ?_))
     refine CW.loop (fun t => Nat.beq t 10 || Nat.beq t 15 || (Nat.ble 58 t && Nat.ble t 92)) (fun nL ρ wl => ∃ (i : Nat), ρ 15 = (.int .i64 (i : Int)) ∧ nL = n - i ∧ Sp [BlkA b54 24 [(.int .i64 ((adoptX k commit view base l).view)), (.int .i64 ((adoptX k commit view base l).normal)), (.int .i64 ((adoptX k commit view base l).base)), (.string (tx (adoptX k commit view base l).image)), (.slice A45 n46 c47)], RowA 31 11 A45 n46 c47 (ents ((adoptX k commit view base l).ents)), BlkA b23 33 [(.int .i64 ((adoptR k commit view base l).kind)), (.int .i64 ((adoptR k commit view base l).view)), (.int .i64 ((adoptR k commit view base l).from_)), (.int .i64 ((adoptR k commit view base l).number)), (.string (tx (adoptR k commit view base l).image)), (.int .i64 ((adoptR k commit view base l).entry.num)), (.int .i64 ((adoptR k commit view base l).entry.view)), (.int .i64 ((adoptR k commit view base l).entry.client)), (.int .i64 ((adoptR k commit view base l).entry.seq)), (.int .i64 ((adoptR k commit view base l).entry.op.kind)), (.int .i64 ((adoptR k commit view base l).entry.op.h)), (.int .i64 ((adoptR k commit view base l).entry.op.i)), (.int .i64 ((adoptR k commit view base l).entry.op.n)), (.int .i64 ((adoptR k commit view base l).entry.op.k)), (.int .i64 ((adoptR k commit view base l).entry.op.v)), (.int .i64 ((adoptR k commit view base l).entry.op.t)), (.slice A14 n15 c16)], RowA 31 11 A14 n15 c16 (ents ((adoptR k commit view base l).ents)), BlkA b2 24 [(.int .i64 k.view), (.int .i64 k.normal), (.int .i64 k.base), (.string (tx k.image)), (.slice A n c)], Fix w NoB] wl ∧ i ≤ n) (n) ?aa0 ?bb0
     case aa0 =>
      exact ⟨0, rfl, rfl, H66, Nat.zero_le _⟩
     case bb0 =>
      rintro n76 ρ0 w75 ho77 ⟨i, hs0_15, hn0, H78, hi⟩
      obtain ⟨j0, rfl⟩ := ho77.shape1 hs0_15
      clear ho77 hs0_15
      subst hn0
      have z79 := (H78.fix (i := 5) rfl).size
      refine CW.seq (CW.seq ?_)
      refine CW.region ?_
      refine RL.go rfl rfl rfl (Ex.mv (v := (.int .i64 (i : Int))) rfl) ?_
      refine RL.go rfl rfl rfl (fa24_4 (b := ⟨b2, 4, none⟩) rfl rfl) ?_
      refine RL.go rfl rfl rfl (Ex.ldv rfl (loadC1 lo22 (Ob.cell (v := (.slice A n c)) (H78.ob (i := 4) rfl) rfl))) ?_
      refine RL.go rfl rfl rfl (Ex.len Tryz.underlying22 rfl) ?_
      refine RL.br (p := ((i : Int) : Int) < ((n : Nat) : Int)) rfl rfl rfl (fun r hr => Ex.lt rfl rfl hr) (fun h80 => ?_) (fun h80 => ?_)
      ·skip
       refine RL.go rfl rfl rfl (Ex.mv (v := (.bool true)) rfl) ?_
       refine RL.go rfl rfl rfl (fa24_4 (b := ⟨b2, 4, none⟩) rfl rfl) ?_
       refine RL.go rfl rfl rfl (Ex.ldv rfl (loadC1 lo22 (Ob.cell (v := (.slice A n c)) (H78.ob (i := 4) rfl) rfl))) ?_
       refine RL.go rfl rfl rfl (Ex.mv (v := (.int .i64 (i : Int))) rfl) ?_
       obtain ⟨e81, he82⟩ : ∃ e, (k.ents)[i]? = some e := ⟨_, List.getElem?_eq_getElem (by omega)⟩
       obtain ⟨ad83, hA84⟩ := Rd.sm (hr.st0 (H78.fix (i := 5) rfl)) (ents_get he82)
       have hl85 := Eng.lt_len (ents_get he82)
       refine RL.go rfl rfl rfl (Ex.ix (b := (ad83.add (i * 11))) (i := i) Tryz.underlying22 Tryz.sizeOf31 (by rw [← hA84]; rfl) rfl (by omega) (by omega) rfl) ?_
       refine RL.go rfl rfl rfl (fa31_0 (b := ((ad83.add (i * 11)))) rfl rfl) ?_
       refine RL.go rfl rfl rfl (Ex.ldv rfl (loadC1 lo3 (Cl.at_ (v := (.int .i64 e81.num)) (Rd.cl (hr.st0 (H78.fix (i := 5) rfl)) hA84 (ents_get he82)) (i := 0) rfl))) ?_
       refine RL.go rfl rfl rfl (Ex.mv (v := (.int .i64 commit)) rfl) ?_
       refine RL.br (p := (e81.num : Int) ≤ (commit : Int)) rfl rfl rfl (fun r hr => Ex.le rfl rfl hr) (fun h86 => ?_) (fun h86 => ?_)
       ·skip
        refine RL.go rfl rfl rfl (Ex.pkT (v := (.bool true)) rfl rfl) ?_
        refine RL.nil (thn.n (CW.condT rfl (CW.skip (thn.n (CW.seq (CW.block (CW.seq ?_)))))))
        have hke := adopt_keep hb36 hbl2 hok he82 h86
        have hlt := lt_len hke
        refine CW.quiet (fun wq => World.grownBy w75 wq none) Tryz.mixed (by kernel_rfl) ⟨rfl, rfl, rfl, Nat.le_refl _, fun _ _ _ => rfl⟩ ?_
        refine QL.go rfl rfl rfl (fun wq gq => Ex.mv (v := (.int .i64 (i : Int))) rfl) ?_
        refine QL.go rfl rfl rfl (fun wq gq => fa24_4 (b := ⟨b54, 4, none⟩) rfl rfl) ?_
        refine QL.go rfl rfl rfl (fun wq gq => Ex.ldv rfl (loadC1 lo22 (Ob.cell (v := (.slice A45 n46 c47)) ((H78.grow gq).ob (i := 0) rfl) rfl))) ?_
        refine QL.go rfl rfl rfl (fun wq gq => Ex.len Tryz.underlying22 rfl) ?_
        refine QL.go rfl rfl rfl (fun wq gq => Ex.ge (r := false) rfl rfl (decide_eq_false (by omega))) ?_
        refine QL.go rfl rfl rfl (fun wq gq => Ex.mv (v := (.bool false)) rfl) ?_
        refine QL.go rfl rfl rfl (fun wq gq => fa24_4 (b := ⟨b54, 4, none⟩) rfl rfl) ?_
        refine QL.go rfl rfl rfl (fun wq gq => Ex.ldv rfl (loadC1 lo22 (Ob.cell (v := (.slice A45 n46 c47)) ((H78.grow gq).ob (i := 0) rfl) rfl))) ?_
        refine QL.go rfl rfl rfl (fun wq gq => Ex.mv (v := (.int .i64 (i : Int))) rfl) ?_
        obtain ⟨e87, he88⟩ : ∃ e, ((adoptX k commit view base l).ents)[i]? = some e := ⟨_, List.getElem?_eq_getElem (by omega)⟩
        obtain ⟨ad89, hA90⟩ := Rd.sm (H78.rowrd (i := 1) rfl) (ents_get he88)
        have hl91 := Eng.lt_len (ents_get he88)
        refine QL.go rfl rfl rfl (fun wq gq => Ex.ix (b := (ad89.add (i * 11))) (i := i) Tryz.underlying22 Tryz.sizeOf31 (by rw [← hA90]; rfl) rfl (by omega) (by omega) rfl) ?_
        refine QL.go rfl rfl rfl (fun wq gq => Ex.ldv rfl (loadCN (cs := e87.cells) wh31 (Rd.cl ((H78.grow gq).rowrd (i := 1) rfl) hA90 (ents_get he88)))) ?_
        refine QL.go rfl rfl rfl (fun wq gq => fa24_4 (b := ⟨b2, 4, none⟩) rfl rfl) ?_
        refine QL.go rfl rfl rfl (fun wq gq => Ex.ldv rfl (loadC1 lo22 (Ob.cell (v := (.slice A n c)) ((H78.grow gq).ob (i := 4) rfl) rfl))) ?_
        refine QL.go rfl rfl rfl (fun wq gq => Ex.mv (v := (.int .i64 (i : Int))) rfl) ?_
        obtain ⟨e92, he93⟩ : ∃ e, (k.ents)[i]? = some e := ⟨_, List.getElem?_eq_getElem (by omega)⟩
        obtain ⟨ad94, hA95⟩ := Rd.sm (hr.st0 (H78.fix (i := 5) rfl)) (ents_get he93)
        have hl96 := Eng.lt_len (ents_get he93)
        refine QL.go rfl rfl rfl (fun wq gq => Ex.ix (b := (ad94.add (i * 11))) (i := i) Tryz.underlying22 Tryz.sizeOf31 (by rw [← hA95]; rfl) rfl (by omega) (by omega) rfl) ?_
        refine QL.go rfl rfl rfl (fun wq gq => Ex.ldv rfl (loadCN (cs := e92.cells) wh31 (Rd.cl (hr.st0 ((H78.grow gq).fix (i := 5) rfl)) hA95 (ents_get he93)))) ?_
        rw [hke] at he88; rw [he82] at he93
        have h12 : e87 = e92 := by injection he88 with q1; injection he93 with q2; rw [← q1, ← q2]
        refine QL.go rfl rfl rfl (fun wq gq => Ex.neS (r := false) (xs := e87.cells) (ys := e92.cells) Tryz.eqGuardType31 (eqT31 (r := true) (decide_eq_true (by subst h12; exact ⟨rfl, rfl, rfl, rfl, rfl, rfl, rfl, rfl, rfl, rfl, rfl⟩))) rfl rfl) ?_
        refine QL.go rfl rfl rfl (fun wq gq => Ex.pkF (v := (.bool false)) rfl rfl) ?_
        refine QL.nil ?_
        intro w97 g98
        have H99 := H78.grow g98
        have z100 := g98.size
        refine thn.n (CW.condF rfl ?_)
        refine CW.skip (inB.n (thn.n (CW.region ?_)))
        refine RL.go rfl rfl rfl (Ex.mv (v := (.int .i64 (i : Int))) rfl) ?_
        refine RL.go rfl rfl rfl (Ex.add (r := (i : Int) + 1) rfl rfl (w64 (by omega) (by omega))) ?_
        refine RL.go rfl rfl rfl (Ex.as (v := (.int .i64 ((i : Int) + 1))) rfl) ?_
        refine RL.nil (thn.n ?_)
        refine ⟨(by repeat (first | exact Out.mix _ _ | exact Out.refl _ _ | refine Out.up ?_ rfl _ | refine Out.mixIn ?_ (by intro t ht; simp only [Bool.or_eq_false_iff, Bool.and_eq_false_iff, ble_f, beq_f] at ht ⊢; omega))), _, ?_, i + 1, rfl, rfl, H99, by omega⟩
        omega
       ·skip
        refine RL.go rfl rfl rfl (Ex.pkT (v := (.bool false)) rfl rfl) ?_
        refine RL.nil (thn.n (CW.condF rfl (CW.exit (thn.x (thn.x (inB.hit (thn.n (CW.seq (CW.region ?_)))))))))
        refine RL.go rfl rfl rfl (Ex.ldv rfl (loadCN (cs := [(.int .i64 ((adoptX k commit view base l).view)), (.int .i64 ((adoptX k commit view base l).normal)), (.int .i64 ((adoptX k commit view base l).base)), (.string (tx (adoptX k commit view base l).image)), (.slice A45 n46 c47)]) wh24 (H78.ob (i := 0) rfl).cl)) ?_
        refine RL.go rfl rfl rfl (Ex.mv (v := (.int .i64 commit)) rfl) ?_
        have hl101 := H78.len (i := 1) rfl
        rw [ents_length] at hl101
        have hc102 := H78.cap (i := 1) rfl
        refine RL.call Tryz.call58 (above_ _ _ (adoptX k commit view base l) A45 n46 c47 (H78.rowrd (i := 1) rfl) (Nat.le_refl _) (by first | assumption | rfl | omega | decide +kernel) (by first | assumption | rfl | omega | decide +kernel) (by first | assumption | rfl | omega | decide +kernel) (by first | assumption | rfl | omega | decide +kernel) commit 4000 (by omega) (by omega) (by omega)) rfl rfl rfl ?_
        rintro _ w107 ⟨A103, n104, c105, rfl, g108⟩
        have g109 := g108.fix (i := 1) rfl
        have H110 : Sp [RowA 31 11 A103 n104 c105 (ents (aboveK (adoptX k commit view base l) commit 4000)), BlkA b54 24 [(.int .i64 ((adoptX k commit view base l).view)), (.int .i64 ((adoptX k commit view base l).normal)), (.int .i64 ((adoptX k commit view base l).base)), (.string (tx (adoptX k commit view base l).image)), (.slice A45 n46 c47)], RowA 31 11 A45 n46 c47 (ents ((adoptX k commit view base l).ents)), BlkA b23 33 [(.int .i64 ((adoptR k commit view base l).kind)), (.int .i64 ((adoptR k commit view base l).view)), (.int .i64 ((adoptR k commit view base l).from_)), (.int .i64 ((adoptR k commit view base l).number)), (.string (tx (adoptR k commit view base l).image)), (.int .i64 ((adoptR k commit view base l).entry.num)), (.int .i64 ((adoptR k commit view base l).entry.view)), (.int .i64 ((adoptR k commit view base l).entry.client)), (.int .i64 ((adoptR k commit view base l).entry.seq)), (.int .i64 ((adoptR k commit view base l).entry.op.kind)), (.int .i64 ((adoptR k commit view base l).entry.op.h)), (.int .i64 ((adoptR k commit view base l).entry.op.i)), (.int .i64 ((adoptR k commit view base l).entry.op.n)), (.int .i64 ((adoptR k commit view base l).entry.op.k)), (.int .i64 ((adoptR k commit view base l).entry.op.v)), (.int .i64 ((adoptR k commit view base l).entry.op.t)), (.slice A14 n15 c16)], RowA 31 11 A14 n15 c16 (ents ((adoptR k commit view base l).ents)), BlkA b2 24 [(.int .i64 k.view), (.int .i64 k.normal), (.int .i64 k.base), (.string (tx k.image)), (.slice A n c)], Fix w NoB] w107 := H78.join (m := [RowA 31 11 A103 n104 c105 (ents (aboveK (adoptX k commit view base l) commit 4000))]) g108
        have z111 := g109.size
        have hal106 := aboveK_len (adoptX k commit view base l) commit 4000
        refine RL.go rfl rfl rfl (Ex.as (v := (.slice A103 n104 c105)) rfl) ?_
        refine RL.nil (thn.n (CW.seq (CW.seq (CW.region ?_))))
        refine RL.go rfl rfl rfl (Ex.as (v := (.int .i64 0)) rfl) ?_
        refine RL.nil (thn.n (CW.block ?_))
        have hl112 := H110.len (i := 0) rfl
        rw [ents_length] at hl112
        refine CW.loop (fun t => Nat.beq t 10 || (Nat.ble 17 t && Nat.ble t 18) || (Nat.ble 96 t && Nat.ble t 128)) (fun nL ρ wl => ∃ (j : Nat), ρ 17 = (.int .i64 (j : Int)) ∧ nL = n2 - j ∧ Sp [RowA 31 11 A103 n104 c105 (ents (aboveK (adoptX k commit view base l) commit 4000)), BlkA b54 24 [(.int .i64 ((adoptX k commit view base l).view)), (.int .i64 ((adoptX k commit view base l).normal)), (.int .i64 ((adoptX k commit view base l).base)), (.string (tx (adoptX k commit view base l).image)), (.slice A45 n46 c47)], RowA 31 11 A45 n46 c47 (ents ((adoptX k commit view base l).ents)), BlkA b23 33 [(.int .i64 ((adoptR k commit view base l).kind)), (.int .i64 ((adoptR k commit view base l).view)), (.int .i64 ((adoptR k commit view base l).from_)), (.int .i64 ((adoptR k commit view base l).number)), (.string (tx (adoptR k commit view base l).image)), (.int .i64 ((adoptR k commit view base l).entry.num)), (.int .i64 ((adoptR k commit view base l).entry.view)), (.int .i64 ((adoptR k commit view base l).entry.client)), (.int .i64 ((adoptR k commit view base l).entry.seq)), (.int .i64 ((adoptR k commit view base l).entry.op.kind)), (.int .i64 ((adoptR k commit view base l).entry.op.h)), (.int .i64 ((adoptR k commit view base l).entry.op.i)), (.int .i64 ((adoptR k commit view base l).entry.op.n)), (.int .i64 ((adoptR k commit view base l).entry.op.k)), (.int .i64 ((adoptR k commit view base l).entry.op.v)), (.int .i64 ((adoptR k commit view base l).entry.op.t)), (.slice A14 n15 c16)], RowA 31 11 A14 n15 c16 (ents ((adoptR k commit view base l).ents)), BlkA b2 24 [(.int .i64 k.view), (.int .i64 k.normal), (.int .i64 k.base), (.string (tx k.image)), (.slice A n c)], Fix w NoB] wl ∧ j ≤ n2) (n2) ?aa1 ?bb1
        case aa1 =>
         exact ⟨0, rfl, rfl, H110, Nat.zero_le _⟩
        case bb1 =>
         rintro n114 ρ1 w113 ho115 ⟨j, hs1_17, hn1, H116, hj⟩
         obtain ⟨j1, rfl⟩ := ho115.shape1 hs1_17
         clear ho115 hs1_17
         subst hn1
         have z117 := (H116.fix (i := 6) rfl).size
         refine CW.seq (CW.seq ?_)
         refine CW.region ?_
         refine RL.go rfl rfl rfl (Ex.mv (v := (.int .i64 (j : Int))) rfl) ?_
         refine RL.go rfl rfl rfl (Ex.mv (v := (.slice A2 n2 c2)) rfl) ?_
         refine RL.go rfl rfl rfl (Ex.len Tryz.underlying22 rfl) ?_
         refine RL.br (p := ((j : Int) : Int) < ((n2 : Nat) : Int)) rfl rfl rfl (fun r hr => Ex.lt rfl rfl hr) (fun h118 => ?_) (fun h118 => ?_)
         ·skip
          refine RL.nil (thn.n (CW.condT rfl (CW.skip (thn.n (CW.seq (CW.block (CW.seq (CW.region ?_))))))))
          refine RL.go rfl rfl rfl (Ex.mv (v := (.slice A2 n2 c2)) rfl) ?_
          refine RL.go rfl rfl rfl (Ex.mv (v := (.int .i64 (j : Int))) rfl) ?_
          obtain ⟨e119, he120⟩ : ∃ e, (l)[j]? = some e := ⟨_, List.getElem?_eq_getElem (by omega)⟩
          obtain ⟨ad121, hA122⟩ := Rd.sm (hr2.st0 (H116.fix (i := 6) rfl)) (ents_get he120)
          have hl123 := Eng.lt_len (ents_get he120)
          refine RL.go rfl rfl rfl (Ex.ix (b := (ad121.add (j * 11))) (i := j) Tryz.underlying22 Tryz.sizeOf31 (by rw [← hA122]; rfl) rfl (by omega) (by omega) rfl) ?_
          refine RL.go rfl rfl rfl (fa31_0 (b := ((ad121.add (j * 11)))) rfl rfl) ?_
          refine RL.go rfl rfl rfl (Ex.ldv rfl (loadC1 lo3 (Cl.at_ (v := (.int .i64 e119.num)) (Rd.cl (hr2.st0 (H116.fix (i := 6) rfl)) hA122 (ents_get he120)) (i := 0) rfl))) ?_
          refine RL.go rfl rfl rfl (Ex.mv (v := (.int .i64 commit)) rfl) ?_
          have hnm := ha9 _ _ he120
          refine RL.go rfl rfl rfl (Ex.sub_ (r := e119.num - commit) rfl rfl (w64 (by omega) (by omega))) ?_
          rcases Int.lt_or_le (e119.num - commit - 1) 0 with hsg | hsg
          ·skip
           refine RL.go rfl rfl rfl (Ex.sub_ (r := e119.num - commit - 1) rfl rfl (w64 (by omega) (by omega))) ?_
           refine RL.go rfl rfl rfl (Ex.as (v := (.int .i64 (e119.num - commit - 1))) rfl) ?_
           refine RL.nil (thn.n (CW.seq ?_))
           refine CW.quiet (fun wq => World.grownBy w113 wq none) Tryz.mixed (by kernel_rfl) ⟨rfl, rfl, rfl, Nat.le_refl _, fun _ _ _ => rfl⟩ ?_
           refine QL.go rfl rfl rfl (fun wq gq => Ex.mv (v := (.int .i64 (e119.num - commit - 1))) rfl) ?_
           refine QL.go rfl rfl rfl (fun wq gq => Ex.ge (r := false) rfl rfl (decide_eq_false (by omega))) ?_
           refine QL.go rfl rfl rfl (fun wq gq => Ex.mv (v := (.bool false)) rfl) ?_
           refine QL.out rfl rfl rfl ?_
           refine QL.out rfl rfl rfl ?_
           refine QL.out rfl rfl rfl ?_
           refine QL.out rfl rfl rfl ?_
           refine QL.out rfl rfl rfl ?_
           refine QL.out rfl rfl rfl ?_
           refine QL.out rfl rfl rfl ?_
           refine QL.out rfl rfl rfl ?_
           refine QL.out rfl rfl rfl ?_
           refine QL.out rfl rfl rfl ?_
           refine QL.out rfl rfl rfl ?_
           refine QL.out rfl rfl rfl ?_
           refine QL.out rfl rfl rfl ?_
           refine QL.out rfl rfl rfl ?_
           refine QL.out rfl rfl rfl ?_
           refine QL.go rfl rfl rfl (fun wq gq => Ex.pkF (v := (.bool false)) rfl rfl) ?_
           refine QL.nil ?_
           intro w124 g125
           have H126 := H116.grow g125
           have z127 := g125.size
           refine thn.n (CW.condF rfl ?_)
           refine CW.skip (inB.n (thn.n (CW.region ?_)))
           refine RL.go rfl rfl rfl (Ex.mv (v := (.int .i64 (j : Int))) rfl) ?_
           refine RL.go rfl rfl rfl (Ex.add (r := (j : Int) + 1) rfl rfl (w64 (by omega) (by omega))) ?_
           refine RL.go rfl rfl rfl (Ex.as (v := (.int .i64 ((j : Int) + 1))) rfl) ?_
           refine RL.nil (thn.n ?_)
           refine ⟨(by repeat (first | exact Out.mix _ _ | exact Out.refl _ _ | refine Out.up ?_ rfl _ | refine Out.mixIn ?_ (by intro t ht; simp only [Bool.or_eq_false_iff, Bool.and_eq_false_iff, ble_f, beq_f] at ht ⊢; omega))), _, ?_, j + 1, rfl, rfl, H126, by omega⟩
           omega
          ·skip
           obtain ⟨m, hm⟩ : ∃ m : Nat, e119.num - commit - 1 = m := ⟨_, (Int.toNat_of_nonneg hsg).symm⟩
           refine RL.go rfl rfl rfl (Ex.sub_ (r := (m : Int)) rfl rfl (by rw [w64 (by omega) (by omega)]; exact hm)) ?_
           refine RL.go rfl rfl rfl (Ex.as (v := (.int .i64 (m : Int))) rfl) ?_
           refine RL.nil (thn.n (CW.seq ?_))
           have hag := adopt_get hb36 hbl2 hok hx2 he120 hsg
           rw [show (e119.num - commit - 1).toNat = m by omega] at hag
           have hlt := lt_len hag
           refine CW.quiet (fun wq => World.grownBy w113 wq none) Tryz.mixed (by kernel_rfl) ⟨rfl, rfl, rfl, Nat.le_refl _, fun _ _ _ => rfl⟩ ?_
           refine QL.go rfl rfl rfl (fun wq gq => Ex.mv (v := (.int .i64 (m : Int))) rfl) ?_
           refine QL.go rfl rfl rfl (fun wq gq => Ex.ge (r := true) rfl rfl (decide_eq_true (by omega))) ?_
           refine QL.go rfl rfl rfl (fun wq gq => Ex.mv (v := (.bool true)) rfl) ?_
           refine QL.go rfl rfl rfl (fun wq gq => Ex.mv (v := (.int .i64 (m : Int))) rfl) ?_
           refine QL.go rfl rfl rfl (fun wq gq => Ex.mv (v := (.slice A103 n104 c105)) rfl) ?_
           refine QL.go rfl rfl rfl (fun wq gq => Ex.len Tryz.underlying22 rfl) ?_
           refine QL.go rfl rfl rfl (fun wq gq => Ex.ge (r := false) rfl rfl (decide_eq_false (by omega))) ?_
           refine QL.go rfl rfl rfl (fun wq gq => Ex.mv (v := (.bool false)) rfl) ?_
           refine QL.go rfl rfl rfl (fun wq gq => Ex.mv (v := (.slice A103 n104 c105)) rfl) ?_
           refine QL.go rfl rfl rfl (fun wq gq => Ex.mv (v := (.int .i64 (m : Int))) rfl) ?_
           obtain ⟨e128, he129⟩ : ∃ e, ((aboveK (adoptX k commit view base l) commit 4000))[m]? = some e := ⟨_, List.getElem?_eq_getElem (by omega)⟩
           obtain ⟨ad130, hA131⟩ := Rd.sm (H116.rowrd (i := 0) rfl) (ents_get he129)
           have hl132 := Eng.lt_len (ents_get he129)
           refine QL.go rfl rfl rfl (fun wq gq => Ex.ix (b := (ad130.add (m * 11))) (i := m) Tryz.underlying22 Tryz.sizeOf31 (by rw [← hA131]; rfl) rfl (by omega) (by omega) rfl) ?_
           refine QL.go rfl rfl rfl (fun wq gq => Ex.ldv rfl (loadCN (cs := e128.cells) wh31 (Rd.cl ((H116.grow gq).rowrd (i := 0) rfl) hA131 (ents_get he129)))) ?_
           refine QL.go rfl rfl rfl (fun wq gq => Ex.mv (v := (.slice A2 n2 c2)) rfl) ?_
           refine QL.go rfl rfl rfl (fun wq gq => Ex.mv (v := (.int .i64 (j : Int))) rfl) ?_
           obtain ⟨e133, he134⟩ : ∃ e, (l)[j]? = some e := ⟨_, List.getElem?_eq_getElem (by omega)⟩
           obtain ⟨ad135, hA136⟩ := Rd.sm (hr2.st0 (H116.fix (i := 6) rfl)) (ents_get he134)
           have hl137 := Eng.lt_len (ents_get he134)
           refine QL.go rfl rfl rfl (fun wq gq => Ex.ix (b := (ad135.add (j * 11))) (i := j) Tryz.underlying22 Tryz.sizeOf31 (by rw [← hA136]; rfl) rfl (by omega) (by omega) rfl) ?_
           refine QL.go rfl rfl rfl (fun wq gq => Ex.ldv rfl (loadCN (cs := e133.cells) wh31 (Rd.cl (hr2.st0 ((H116.grow gq).fix (i := 6) rfl)) hA136 (ents_get he134)))) ?_
           rw [hag] at he129; rw [he120] at he134
           have h12 : e128 = e133 := by injection he129 with q1; injection he134 with q2; rw [← q1, ← q2]
           refine QL.go rfl rfl rfl (fun wq gq => Ex.neS (r := false) (xs := e128.cells) (ys := e133.cells) Tryz.eqGuardType31 (eqT31 (r := true) (decide_eq_true (by subst h12; exact ⟨rfl, rfl, rfl, rfl, rfl, rfl, rfl, rfl, rfl, rfl, rfl⟩))) rfl rfl) ?_
           refine QL.go rfl rfl rfl (fun wq gq => Ex.pkF (v := (.bool false)) rfl rfl) ?_
           refine QL.go rfl rfl rfl (fun wq gq => Ex.pkT (v := (.bool false)) rfl rfl) ?_
           refine QL.nil ?_
           intro w138 g139
           have H140 := H116.grow g139
           have z141 := g139.size
           refine thn.n (CW.condF rfl ?_)
           refine CW.skip (inB.n (thn.n (CW.region ?_)))
           refine RL.go rfl rfl rfl (Ex.mv (v := (.int .i64 (j : Int))) rfl) ?_
           refine RL.go rfl rfl rfl (Ex.add (r := (j : Int) + 1) rfl rfl (w64 (by omega) (by omega))) ?_
           refine RL.go rfl rfl rfl (Ex.as (v := (.int .i64 ((j : Int) + 1))) rfl) ?_
           refine RL.nil (thn.n ?_)
           refine ⟨(by repeat (first | exact Out.mix _ _ | exact Out.refl _ _ | refine Out.up ?_ rfl _ | refine Out.mixIn ?_ (by intro t ht; simp only [Bool.or_eq_false_iff, Bool.and_eq_false_iff, ble_f, beq_f] at ht ⊢; omega))), _, ?_, j + 1, rfl, rfl, H140, by omega⟩
           omega
         ·skip
          refine RL.nil (thn.n (CW.condF rfl (CW.exit (thn.x (thn.x (inB.hit (thn.n (CW.seq (CW.region ?_)))))))))
          refine RL.call Tryz.call29 (adopts17 _) rfl rfl rfl ?_
          rintro _ w142 ⟨rfl, g143⟩
          have H144 := H116.grow g143
          have z145 := g143.size
          refine RL.go rfl rfl rfl (Ex.mv (v := (.bool true)) rfl) ?_
          refine RL.go rfl rfl rfl (fa24_0 (b := ⟨b54, 0, none⟩) rfl rfl) ?_
          refine RL.go rfl rfl rfl (Ex.ldv rfl (loadC1 lo3 (Ob.cell (v := (.int .i64 ((adoptX k commit view base l).view))) (H144.ob (i := 1) rfl) rfl))) ?_
          refine RL.go rfl rfl rfl (Ex.mv (v := (.int .i64 view)) rfl) ?_
          refine RL.go rfl rfl rfl (Ex.eqD (r := true) rfl rfl (decide_eq_true (hxv))) ?_
          refine RL.go rfl rfl rfl (Ex.pkT (v := (.bool true)) rfl rfl) ?_
          refine RL.go rfl rfl rfl (Ex.mv (v := (.bool true)) rfl) ?_
          refine RL.go rfl rfl rfl (fa24_1 (b := ⟨b54, 1, none⟩) rfl rfl) ?_
          refine RL.go rfl rfl rfl (Ex.ldv rfl (loadC1 lo3 (Ob.cell (v := (.int .i64 ((adoptX k commit view base l).normal))) (H144.ob (i := 1) rfl) rfl))) ?_
          refine RL.go rfl rfl rfl (Ex.mv (v := (.int .i64 view)) rfl) ?_
          refine RL.go rfl rfl rfl (Ex.eqD (r := true) rfl rfl (decide_eq_true (hxn))) ?_
          refine RL.go rfl rfl rfl (Ex.pkT (v := (.bool true)) rfl rfl) ?_
          refine RL.go rfl rfl rfl (Ex.mv (v := (.bool true)) rfl) ?_
          refine RL.go rfl rfl rfl (Ex.ldv rfl (loadCN (cs := [(.int .i64 ((adoptX k commit view base l).view)), (.int .i64 ((adoptX k commit view base l).normal)), (.int .i64 ((adoptX k commit view base l).base)), (.string (tx (adoptX k commit view base l).image)), (.slice A45 n46 c47)]) wh24 (H144.ob (i := 1) rfl).cl)) ?_
          have hl146 := H144.len (i := 2) rfl
          rw [ents_length] at hl146
          have hc147 := H144.cap (i := 2) rfl
          refine RL.call Tryz.call62 (Last_ _ _ _ (adoptX k commit view base l) (KeptR.of (k := (adoptX k commit view base l)) (n := n46) (c := c47) (H144.rowrd (i := 2) rfl) (by show n46 = ((adoptX k commit view base l).ents).length; (try simp only [List.length_append, List.length_cons, List.length_nil, List.length_take, List.length_drop]); all_goals omega) (by omega) (by omega) (by first | assumption | (show List.length _ ≤ _; first | assumption | decide | omega))) (Nat.le_refl _)) rfl rfl rfl ?_
          rintro _ w148 ⟨rfl, g149⟩
          have H150 := H144.grow g149
          have z151 := g149.size
          refine RL.go rfl rfl rfl (Ex.mv (v := (.int .i64 base)) rfl) ?_
          refine RL.go rfl rfl rfl (Ex.mv (v := (.slice A2 n2 c2)) rfl) ?_
          refine RL.go rfl rfl rfl (Ex.len Tryz.underlying22 rfl) ?_
          refine RL.go rfl rfl rfl (Ex.add (r := base + (n2 : Nat)) rfl rfl (w64 (by omega) (by omega))) ?_
          refine RL.go rfl rfl rfl (Ex.eqD (r := true) rfl rfl (decide_eq_true (by rw [adopt_last ‹adoptB k commit view base l = true› hbl2 hok hx2]; omega))) ?_
          refine RL.go rfl rfl rfl (Ex.pkT (v := (.bool true)) rfl rfl) ?_
          refine RL.go rfl rfl rfl (Ex.as (v := (.bool true)) rfl) ?_
          refine RL.nil (thn.n (CW.ret ?_))
          refine finQ.r (v := (.bool true)) (res1 rfl rfl) ?_
          exact ⟨rfl, (H150.fix (i := 6) rfl)⟩
      ·skip
       refine RL.go rfl rfl rfl (Ex.mv (v := (.bool false)) rfl) ?_
       refine RL.out rfl rfl rfl ?_
       refine RL.out rfl rfl rfl ?_
       refine RL.out rfl rfl rfl ?_
       refine RL.out rfl rfl rfl ?_
       refine RL.out rfl rfl rfl ?_
       refine RL.out rfl rfl rfl ?_
       refine RL.out rfl rfl rfl ?_
       refine RL.out rfl rfl rfl ?_
       refine RL.go rfl rfl rfl (Ex.pkF (v := (.bool false)) rfl rfl) ?_
       refine RL.nil (thn.n (CW.condF rfl (CW.exit (thn.x (thn.x (inB.hit (thn.n (CW.seq (CW.region ?_)))))))))
       refine RL.go rfl rfl rfl (Ex.ldv rfl (loadCN (cs := [(.int .i64 ((adoptX k commit view base l).view)), (.int .i64 ((adoptX k commit view base l).normal)), (.int .i64 ((adoptX k commit view base l).base)), (.string (tx (adoptX k commit view base l).image)), (.slice A45 n46 c47)]) wh24 (H78.ob (i := 0) rfl).cl)) ?_
       refine RL.go rfl rfl rfl (Ex.mv (v := (.int .i64 commit)) rfl) ?_
       have hl152 := H78.len (i := 1) rfl
       rw [ents_length] at hl152
       have hc153 := H78.cap (i := 1) rfl
       refine RL.call Tryz.call58 (above_ _ _ (adoptX k commit view base l) A45 n46 c47 (H78.rowrd (i := 1) rfl) (Nat.le_refl _) (by first | assumption | rfl | omega | decide +kernel) (by first | assumption | rfl | omega | decide +kernel) (by first | assumption | rfl | omega | decide +kernel) (by first | assumption | rfl | omega | decide +kernel) commit 4000 (by omega) (by omega) (by omega)) rfl rfl rfl ?_
       rintro _ w158 ⟨A154, n155, c156, rfl, g159⟩
       have g160 := g159.fix (i := 1) rfl
       have H161 : Sp [RowA 31 11 A154 n155 c156 (ents (aboveK (adoptX k commit view base l) commit 4000)), BlkA b54 24 [(.int .i64 ((adoptX k commit view base l).view)), (.int .i64 ((adoptX k commit view base l).normal)), (.int .i64 ((adoptX k commit view base l).base)), (.string (tx (adoptX k commit view base l).image)), (.slice A45 n46 c47)], RowA 31 11 A45 n46 c47 (ents ((adoptX k commit view base l).ents)), BlkA b23 33 [(.int .i64 ((adoptR k commit view base l).kind)), (.int .i64 ((adoptR k commit view base l).view)), (.int .i64 ((adoptR k commit view base l).from_)), (.int .i64 ((adoptR k commit view base l).number)), (.string (tx (adoptR k commit view base l).image)), (.int .i64 ((adoptR k commit view base l).entry.num)), (.int .i64 ((adoptR k commit view base l).entry.view)), (.int .i64 ((adoptR k commit view base l).entry.client)), (.int .i64 ((adoptR k commit view base l).entry.seq)), (.int .i64 ((adoptR k commit view base l).entry.op.kind)), (.int .i64 ((adoptR k commit view base l).entry.op.h)), (.int .i64 ((adoptR k commit view base l).entry.op.i)), (.int .i64 ((adoptR k commit view base l).entry.op.n)), (.int .i64 ((adoptR k commit view base l).entry.op.k)), (.int .i64 ((adoptR k commit view base l).entry.op.v)), (.int .i64 ((adoptR k commit view base l).entry.op.t)), (.slice A14 n15 c16)], RowA 31 11 A14 n15 c16 (ents ((adoptR k commit view base l).ents)), BlkA b2 24 [(.int .i64 k.view), (.int .i64 k.normal), (.int .i64 k.base), (.string (tx k.image)), (.slice A n c)], Fix w NoB] w158 := H78.join (m := [RowA 31 11 A154 n155 c156 (ents (aboveK (adoptX k commit view base l) commit 4000))]) g159
       have z162 := g160.size
       have hal157 := aboveK_len (adoptX k commit view base l) commit 4000
       refine RL.go rfl rfl rfl (Ex.as (v := (.slice A154 n155 c156)) rfl) ?_
       refine RL.nil (thn.n (CW.seq (CW.seq (CW.region ?_))))
       refine RL.go rfl rfl rfl (Ex.as (v := (.int .i64 0)) rfl) ?_
       refine RL.nil (thn.n (CW.block ?_))
       have hl163 := H161.len (i := 0) rfl
       rw [ents_length] at hl163
       refine CW.loop (fun t => Nat.beq t 10 || (Nat.ble 17 t && Nat.ble t 18) || (Nat.ble 96 t && Nat.ble t 128)) (fun nL ρ wl => ∃ (j : Nat), ρ 17 = (.int .i64 (j : Int)) ∧ nL = n2 - j ∧ Sp [RowA 31 11 A154 n155 c156 (ents (aboveK (adoptX k commit view base l) commit 4000)), BlkA b54 24 [(.int .i64 ((adoptX k commit view base l).view)), (.int .i64 ((adoptX k commit view base l).normal)), (.int .i64 ((adoptX k commit view base l).base)), (.string (tx (adoptX k commit view base l).image)), (.slice A45 n46 c47)], RowA 31 11 A45 n46 c47 (ents ((adoptX k commit view base l).ents)), BlkA b23 33 [(.int .i64 ((adoptR k commit view base l).kind)), (.int .i64 ((adoptR k commit view base l).view)), (.int .i64 ((adoptR k commit view base l).from_)), (.int .i64 ((adoptR k commit view base l).number)), (.string (tx (adoptR k commit view base l).image)), (.int .i64 ((adoptR k commit view base l).entry.num)), (.int .i64 ((adoptR k commit view base l).entry.view)), (.int .i64 ((adoptR k commit view base l).entry.client)), (.int .i64 ((adoptR k commit view base l).entry.seq)), (.int .i64 ((adoptR k commit view base l).entry.op.kind)), (.int .i64 ((adoptR k commit view base l).entry.op.h)), (.int .i64 ((adoptR k commit view base l).entry.op.i)), (.int .i64 ((adoptR k commit view base l).entry.op.n)), (.int .i64 ((adoptR k commit view base l).entry.op.k)), (.int .i64 ((adoptR k commit view base l).entry.op.v)), (.int .i64 ((adoptR k commit view base l).entry.op.t)), (.slice A14 n15 c16)], RowA 31 11 A14 n15 c16 (ents ((adoptR k commit view base l).ents)), BlkA b2 24 [(.int .i64 k.view), (.int .i64 k.normal), (.int .i64 k.base), (.string (tx k.image)), (.slice A n c)], Fix w NoB] wl ∧ j ≤ n2) (n2) ?aa1 ?bb1
       case aa1 =>
        exact ⟨0, rfl, rfl, H161, Nat.zero_le _⟩
       case bb1 =>
        rintro n165 ρ1 w164 ho166 ⟨j, hs1_17, hn1, H167, hj⟩
        obtain ⟨j1, rfl⟩ := ho166.shape1 hs1_17
        clear ho166 hs1_17
        subst hn1
        have z168 := (H167.fix (i := 6) rfl).size
        refine CW.seq (CW.seq ?_)
        refine CW.region ?_
        refine RL.go rfl rfl rfl (Ex.mv (v := (.int .i64 (j : Int))) rfl) ?_
        refine RL.go rfl rfl rfl (Ex.mv (v := (.slice A2 n2 c2)) rfl) ?_
        refine RL.go rfl rfl rfl (Ex.len Tryz.underlying22 rfl) ?_
        refine RL.br (p := ((j : Int) : Int) < ((n2 : Nat) : Int)) rfl rfl rfl (fun r hr => Ex.lt rfl rfl hr) (fun h169 => ?_) (fun h169 => ?_)
        ·skip
         refine RL.nil (thn.n (CW.condT rfl (CW.skip (thn.n (CW.seq (CW.block (CW.seq (CW.region ?_))))))))
         refine RL.go rfl rfl rfl (Ex.mv (v := (.slice A2 n2 c2)) rfl) ?_
         refine RL.go rfl rfl rfl (Ex.mv (v := (.int .i64 (j : Int))) rfl) ?_
         obtain ⟨e170, he171⟩ : ∃ e, (l)[j]? = some e := ⟨_, List.getElem?_eq_getElem (by omega)⟩
         obtain ⟨ad172, hA173⟩ := Rd.sm (hr2.st0 (H167.fix (i := 6) rfl)) (ents_get he171)
         have hl174 := Eng.lt_len (ents_get he171)
         refine RL.go rfl rfl rfl (Ex.ix (b := (ad172.add (j * 11))) (i := j) Tryz.underlying22 Tryz.sizeOf31 (by rw [← hA173]; rfl) rfl (by omega) (by omega) rfl) ?_
         refine RL.go rfl rfl rfl (fa31_0 (b := ((ad172.add (j * 11)))) rfl rfl) ?_
         refine RL.go rfl rfl rfl (Ex.ldv rfl (loadC1 lo3 (Cl.at_ (v := (.int .i64 e170.num)) (Rd.cl (hr2.st0 (H167.fix (i := 6) rfl)) hA173 (ents_get he171)) (i := 0) rfl))) ?_
         refine RL.go rfl rfl rfl (Ex.mv (v := (.int .i64 commit)) rfl) ?_
         have hnm := ha9 _ _ he171
         refine RL.go rfl rfl rfl (Ex.sub_ (r := e170.num - commit) rfl rfl (w64 (by omega) (by omega))) ?_
         rcases Int.lt_or_le (e170.num - commit - 1) 0 with hsg | hsg
         ·skip
          refine RL.go rfl rfl rfl (Ex.sub_ (r := e170.num - commit - 1) rfl rfl (w64 (by omega) (by omega))) ?_
          refine RL.go rfl rfl rfl (Ex.as (v := (.int .i64 (e170.num - commit - 1))) rfl) ?_
          refine RL.nil (thn.n (CW.seq ?_))
          refine CW.quiet (fun wq => World.grownBy w164 wq none) Tryz.mixed (by kernel_rfl) ⟨rfl, rfl, rfl, Nat.le_refl _, fun _ _ _ => rfl⟩ ?_
          refine QL.go rfl rfl rfl (fun wq gq => Ex.mv (v := (.int .i64 (e170.num - commit - 1))) rfl) ?_
          refine QL.go rfl rfl rfl (fun wq gq => Ex.ge (r := false) rfl rfl (decide_eq_false (by omega))) ?_
          refine QL.go rfl rfl rfl (fun wq gq => Ex.mv (v := (.bool false)) rfl) ?_
          refine QL.out rfl rfl rfl ?_
          refine QL.out rfl rfl rfl ?_
          refine QL.out rfl rfl rfl ?_
          refine QL.out rfl rfl rfl ?_
          refine QL.out rfl rfl rfl ?_
          refine QL.out rfl rfl rfl ?_
          refine QL.out rfl rfl rfl ?_
          refine QL.out rfl rfl rfl ?_
          refine QL.out rfl rfl rfl ?_
          refine QL.out rfl rfl rfl ?_
          refine QL.out rfl rfl rfl ?_
          refine QL.out rfl rfl rfl ?_
          refine QL.out rfl rfl rfl ?_
          refine QL.out rfl rfl rfl ?_
          refine QL.out rfl rfl rfl ?_
          refine QL.go rfl rfl rfl (fun wq gq => Ex.pkF (v := (.bool false)) rfl rfl) ?_
          refine QL.nil ?_
          intro w175 g176
          have H177 := H167.grow g176
          have z178 := g176.size
          refine thn.n (CW.condF rfl ?_)
          refine CW.skip (inB.n (thn.n (CW.region ?_)))
          refine RL.go rfl rfl rfl (Ex.mv (v := (.int .i64 (j : Int))) rfl) ?_
          refine RL.go rfl rfl rfl (Ex.add (r := (j : Int) + 1) rfl rfl (w64 (by omega) (by omega))) ?_
          refine RL.go rfl rfl rfl (Ex.as (v := (.int .i64 ((j : Int) + 1))) rfl) ?_
          refine RL.nil (thn.n ?_)
          refine ⟨(by repeat (first | exact Out.mix _ _ | exact Out.refl _ _ | refine Out.up ?_ rfl _ | refine Out.mixIn ?_ (by intro t ht; simp only [Bool.or_eq_false_iff, Bool.and_eq_false_iff, ble_f, beq_f] at ht ⊢; omega))), _, ?_, j + 1, rfl, rfl, H177, by omega⟩
          omega
         ·skip
          obtain ⟨m, hm⟩ : ∃ m : Nat, e170.num - commit - 1 = m := ⟨_, (Int.toNat_of_nonneg hsg).symm⟩
          refine RL.go rfl rfl rfl (Ex.sub_ (r := (m : Int)) rfl rfl (by rw [w64 (by omega) (by omega)]; exact hm)) ?_
          refine RL.go rfl rfl rfl (Ex.as (v := (.int .i64 (m : Int))) rfl) ?_
          refine RL.nil (thn.n (CW.seq ?_))
          have hag := adopt_get hb36 hbl2 hok hx2 he171 hsg
          rw [show (e170.num - commit - 1).toNat = m by omega] at hag
          have hlt := lt_len hag
          refine CW.quiet (fun wq => World.grownBy w164 wq none) Tryz.mixed (by kernel_rfl) ⟨rfl, rfl, rfl, Nat.le_refl _, fun _ _ _ => rfl⟩ ?_
          refine QL.go rfl rfl rfl (fun wq gq => Ex.mv (v := (.int .i64 (m : Int))) rfl) ?_
          refine QL.go rfl rfl rfl (fun wq gq => Ex.ge (r := true) rfl rfl (decide_eq_true (by omega))) ?_
          refine QL.go rfl rfl rfl (fun wq gq => Ex.mv (v := (.bool true)) rfl) ?_
          refine QL.go rfl rfl rfl (fun wq gq => Ex.mv (v := (.int .i64 (m : Int))) rfl) ?_
          refine QL.go rfl rfl rfl (fun wq gq => Ex.mv (v := (.slice A154 n155 c156)) rfl) ?_
          refine QL.go rfl rfl rfl (fun wq gq => Ex.len Tryz.underlying22 rfl) ?_
          refine QL.go rfl rfl rfl (fun wq gq => Ex.ge (r := false) rfl rfl (decide_eq_false (by omega))) ?_
          refine QL.go rfl rfl rfl (fun wq gq => Ex.mv (v := (.bool false)) rfl) ?_
          refine QL.go rfl rfl rfl (fun wq gq => Ex.mv (v := (.slice A154 n155 c156)) rfl) ?_
          refine QL.go rfl rfl rfl (fun wq gq => Ex.mv (v := (.int .i64 (m : Int))) rfl) ?_
          obtain ⟨e179, he180⟩ : ∃ e, ((aboveK (adoptX k commit view base l) commit 4000))[m]? = some e := ⟨_, List.getElem?_eq_getElem (by omega)⟩
          obtain ⟨ad181, hA182⟩ := Rd.sm (H167.rowrd (i := 0) rfl) (ents_get he180)
          have hl183 := Eng.lt_len (ents_get he180)
          refine QL.go rfl rfl rfl (fun wq gq => Ex.ix (b := (ad181.add (m * 11))) (i := m) Tryz.underlying22 Tryz.sizeOf31 (by rw [← hA182]; rfl) rfl (by omega) (by omega) rfl) ?_
          refine QL.go rfl rfl rfl (fun wq gq => Ex.ldv rfl (loadCN (cs := e179.cells) wh31 (Rd.cl ((H167.grow gq).rowrd (i := 0) rfl) hA182 (ents_get he180)))) ?_
          refine QL.go rfl rfl rfl (fun wq gq => Ex.mv (v := (.slice A2 n2 c2)) rfl) ?_
          refine QL.go rfl rfl rfl (fun wq gq => Ex.mv (v := (.int .i64 (j : Int))) rfl) ?_
          obtain ⟨e184, he185⟩ : ∃ e, (l)[j]? = some e := ⟨_, List.getElem?_eq_getElem (by omega)⟩
          obtain ⟨ad186, hA187⟩ := Rd.sm (hr2.st0 (H167.fix (i := 6) rfl)) (ents_get he185)
          have hl188 := Eng.lt_len (ents_get he185)
          refine QL.go rfl rfl rfl (fun wq gq => Ex.ix (b := (ad186.add (j * 11))) (i := j) Tryz.underlying22 Tryz.sizeOf31 (by rw [← hA187]; rfl) rfl (by omega) (by omega) rfl) ?_
          refine QL.go rfl rfl rfl (fun wq gq => Ex.ldv rfl (loadCN (cs := e184.cells) wh31 (Rd.cl (hr2.st0 ((H167.grow gq).fix (i := 6) rfl)) hA187 (ents_get he185)))) ?_
          rw [hag] at he180; rw [he171] at he185
          have h12 : e179 = e184 := by injection he180 with q1; injection he185 with q2; rw [← q1, ← q2]
          refine QL.go rfl rfl rfl (fun wq gq => Ex.neS (r := false) (xs := e179.cells) (ys := e184.cells) Tryz.eqGuardType31 (eqT31 (r := true) (decide_eq_true (by subst h12; exact ⟨rfl, rfl, rfl, rfl, rfl, rfl, rfl, rfl, rfl, rfl, rfl⟩))) rfl rfl) ?_
          refine QL.go rfl rfl rfl (fun wq gq => Ex.pkF (v := (.bool false)) rfl rfl) ?_
          refine QL.go rfl rfl rfl (fun wq gq => Ex.pkT (v := (.bool false)) rfl rfl) ?_
          refine QL.nil ?_
          intro w189 g190
          have H191 := H167.grow g190
          have z192 := g190.size
          refine thn.n (CW.condF rfl ?_)
          refine CW.skip (inB.n (thn.n (CW.region ?_)))
          refine RL.go rfl rfl rfl (Ex.mv (v := (.int .i64 (j : Int))) rfl) ?_
          refine RL.go rfl rfl rfl (Ex.add (r := (j : Int) + 1) rfl rfl (w64 (by omega) (by omega))) ?_
          refine RL.go rfl rfl rfl (Ex.as (v := (.int .i64 ((j : Int) + 1))) rfl) ?_
          refine RL.nil (thn.n ?_)
          refine ⟨(by repeat (first | exact Out.mix _ _ | exact Out.refl _ _ | refine Out.up ?_ rfl _ | refine Out.mixIn ?_ (by intro t ht; simp only [Bool.or_eq_false_iff, Bool.and_eq_false_iff, ble_f, beq_f] at ht ⊢; omega))), _, ?_, j + 1, rfl, rfl, H191, by omega⟩
          omega
        ·skip
         refine RL.nil (thn.n (CW.condF rfl (CW.exit (thn.x (thn.x (inB.hit (thn.n (CW.seq (CW.region ?_)))))))))
         refine RL.call Tryz.call29 (adopts17 _) rfl rfl rfl ?_
         rintro _ w193 ⟨rfl, g194⟩
         have H195 := H167.grow g194
         have z196 := g194.size
         refine RL.go rfl rfl rfl (Ex.mv (v := (.bool true)) rfl) ?_
         refine RL.go rfl rfl rfl (fa24_0 (b := ⟨b54, 0, none⟩) rfl rfl) ?_
         refine RL.go rfl rfl rfl (Ex.ldv rfl (loadC1 lo3 (Ob.cell (v := (.int .i64 ((adoptX k commit view base l).view))) (H195.ob (i := 1) rfl) rfl))) ?_
         refine RL.go rfl rfl rfl (Ex.mv (v := (.int .i64 view)) rfl) ?_
         refine RL.go rfl rfl rfl (Ex.eqD (r := true) rfl rfl (decide_eq_true (hxv))) ?_
         refine RL.go rfl rfl rfl (Ex.pkT (v := (.bool true)) rfl rfl) ?_
         refine RL.go rfl rfl rfl (Ex.mv (v := (.bool true)) rfl) ?_
         refine RL.go rfl rfl rfl (fa24_1 (b := ⟨b54, 1, none⟩) rfl rfl) ?_
         refine RL.go rfl rfl rfl (Ex.ldv rfl (loadC1 lo3 (Ob.cell (v := (.int .i64 ((adoptX k commit view base l).normal))) (H195.ob (i := 1) rfl) rfl))) ?_
         refine RL.go rfl rfl rfl (Ex.mv (v := (.int .i64 view)) rfl) ?_
         refine RL.go rfl rfl rfl (Ex.eqD (r := true) rfl rfl (decide_eq_true (hxn))) ?_
         refine RL.go rfl rfl rfl (Ex.pkT (v := (.bool true)) rfl rfl) ?_
         refine RL.go rfl rfl rfl (Ex.mv (v := (.bool true)) rfl) ?_
         refine RL.go rfl rfl rfl (Ex.ldv rfl (loadCN (cs := [(.int .i64 ((adoptX k commit view base l).view)), (.int .i64 ((adoptX k commit view base l).normal)), (.int .i64 ((adoptX k commit view base l).base)), (.string (tx (adoptX k commit view base l).image)), (.slice A45 n46 c47)]) wh24 (H195.ob (i := 1) rfl).cl)) ?_
         have hl197 := H195.len (i := 2) rfl
         rw [ents_length] at hl197
         have hc198 := H195.cap (i := 2) rfl
         refine RL.call Tryz.call62 (Last_ _ _ _ (adoptX k commit view base l) (KeptR.of (k := (adoptX k commit view base l)) (n := n46) (c := c47) (H195.rowrd (i := 2) rfl) (by show n46 = ((adoptX k commit view base l).ents).length; (try simp only [List.length_append, List.length_cons, List.length_nil, List.length_take, List.length_drop]); all_goals omega) (by omega) (by omega) (by first | assumption | (show List.length _ ≤ _; first | assumption | decide | omega))) (Nat.le_refl _)) rfl rfl rfl ?_
         rintro _ w199 ⟨rfl, g200⟩
         have H201 := H195.grow g200
         have z202 := g200.size
         refine RL.go rfl rfl rfl (Ex.mv (v := (.int .i64 base)) rfl) ?_
         refine RL.go rfl rfl rfl (Ex.mv (v := (.slice A2 n2 c2)) rfl) ?_
         refine RL.go rfl rfl rfl (Ex.len Tryz.underlying22 rfl) ?_
         refine RL.go rfl rfl rfl (Ex.add (r := base + (n2 : Nat)) rfl rfl (w64 (by omega) (by omega))) ?_
         refine RL.go rfl rfl rfl (Ex.eqD (r := true) rfl rfl (decide_eq_true (by rw [adopt_last ‹adoptB k commit view base l = true› hbl2 hok hx2]; omega))) ?_
         refine RL.go rfl rfl rfl (Ex.pkT (v := (.bool true)) rfl rfl) ?_
         refine RL.go rfl rfl rfl (Ex.as (v := (.bool true)) rfl) ?_
         refine RL.nil (thn.n (CW.ret ?_))
         refine finQ.r (v := (.bool true)) (res1 rfl rfl) ?_
         exact ⟨rfl, (H201.fix (i := 6) rfl)⟩
  ·skip
   refine RL.nil (thn.n (CW.condT rfl (CW.seq (CW.region ?_))))
   refine RL.go rfl rfl rfl (Ex.as (v := (.bool true)) rfl) ?_
   refine RL.nil (thn.n (CW.ret (thn.r ?_)))
   refine finQ.r (v := (.bool true)) (res1 rfl rfl) ?_
   exact ⟨rfl, (H11.fix (i := 1) rfl)⟩
end Go.Proofs.YtfokljnhllflbaaGreat
namespace Go.Proofs.YtfokljnhllflbaaGreat
open Go
set_option maxRecDepth 100000
def sp : Char := Char.ofNat 32
theorem ws_app (r : List Char) : ∀ (a : List Char), (a.all fun c => c != sp) = true → wordsSigns (a ++ sp :: r) = a :: wordsSigns r
  | [], _ => rfl
  | c :: a, h => by
    simp only [List.all_cons, Bool.and_eq_true, bne_iff_ne, ne_eq] at h
    have ih := ws_app r a h.2
    rw [List.cons_append]
    conv => lhs; unfold wordsSigns
    split
    · rename_i e; cases e
    · rename_i e; injection e with e1 _; exact absurd e1 h.1
    · rename_i c' r' hne e
      injection e with e1 e2
      subst e1
      rw [← e2, ih]
theorem io_eq : Tryz.prog.initOrder.toList = "harness".toList ++ sp :: ("e992cc6d704afc89758aaf8fd9a77071690771db51468eeba60045f0eed610c9".toList ++ sp :: ("cut".toList ++ sp :: Tryz.prog.initOrder.toList.drop 77)) := by kernel_rfl
theorem io_words : behindMainWord (wordsSigns Tryz.prog.initOrder.toList) = "cut".toList :: wordsSigns (Tryz.prog.initOrder.toList.drop 77) := by
  rw [io_eq, ws_app _ _ (by decide), ws_app _ _ (by decide), ws_app _ _ (by decide)]
  rw [← io_eq]
  generalize wordsSigns (Tryz.prog.initOrder.toList.drop 77) = ws
  show (if (("harness".toList == "harness".toList || "harness".toList == "ownmain".toList) && isSumSigns "e992cc6d704afc89758aaf8fd9a77071690771db51468eeba60045f0eed610c9".toList) = true then "cut".toList :: ws else "harness".toList :: "e992cc6d704afc89758aaf8fd9a77071690771db51468eeba60045f0eed610c9".toList :: "cut".toList :: ws) = _
  rw [if_pos (by decide)]
theorem sl (ws : List (List Char)) : stripLifts liftWords ("cut".toList :: ws) = ([], "cut".toList :: ws) := by
  unfold liftWords
  simp only [stripLifts]
  rfl
theorem hl : Tryz.prog.headLifts = [] := by unfold Program.headLifts; rw [io_words, sl]; rfl
theorem jf_later : Tryz.prog.laysLater = false := by kernel_rfl
theorem jf_refl : Tryz.prog.bearsReflect = false := by kernel_rfl
theorem jf_rows : Tryz.prog.doorRows = [] := by kernel_rfl
theorem jf_door : Tryz.prog.doorFits [] = true := by unfold Program.doorFits; rw [jf_rows]; rfl
theorem jf_may : Tryz.prog.mayEnter = true := by
  unfold Program.mayEnter
  rw [io_words]
  generalize wordsSigns (Tryz.prog.initOrder.toList.drop 77) = ws
  have e := sl ws
  simp only [e, jf_later, jf_refl, jf_door]
  simp
theorem jf_lift : Tryz.prog.liftsFinal = false := by
  unfold Program.liftsFinal
  rw [io_words, hl]
  generalize wordsSigns (Tryz.prog.initOrder.toList.drop 77) = ws
  rfl
theorem jf_make : Tryz.prog.make = some .cut := by
  unfold Program.make
  rw [io_words]
  generalize wordsSigns (Tryz.prog.initOrder.toList.drop 77) = ws
  rfl
end Go.Proofs.YtfokljnhllflbaaGreat
namespace Go.Proofs.YtfokljnhllflbaaGreat
open Go
set_option maxRecDepth 100000
theorem jf_changeSaved0 : (Rows.changeSavedRow.wf (OpenSpec.ofChange Rows.changeSavedSpec)) = true := by kernel_rfl
theorem jf_changeSaved1 : (laidOutB Tryz.prog) = true := by kernel_rfl
theorem jf_changeSaved2 : (mapsRowed Tryz.prog) = true := by kernel_rfl
theorem jf_changeSaved3 : (Tryz.f12.params.all (Tryz.prog.readableRec ·)) = true := by kernel_rfl
theorem jf_changeSaved4 : (namedTie Tryz.prog Rows.changeSavedRow.named Rows.changeSavedSpec.vars) = true := by kernel_rfl
theorem jf_changeSaved5 : ((Rows.changeSavedRow.stops == [])) = true := by kernel_rfl
theorem jf_changeSaved6 : ((Tryz.prog.stops == [])) = true := by kernel_rfl
theorem jf_changeSaved7 : ((Rows.changeSavedRow.knobs == [])) = true := by kernel_rfl
theorem jf_changeSaved8 : ((Tryz.prog.stopKnobs == [])) = true := by kernel_rfl
theorem jf_changeSaved9 : ((Rows.changeSavedRow.inPlace == Tryz.prog.inPlace 12)) = true := by kernel_rfl
theorem jf_changeSaved10 : ((Rows.changeSavedRow.unfollowed == Tryz.prog.unfollowed 12)) = true := by kernel_rfl
theorem jf_changeSaved11 : ((Rows.changeSavedRow.recurses == Tryz.prog.recurses 12)) = true := by kernel_rfl
theorem jf_changeSaved12 : ((Rows.changeSavedRow.named == Tryz.prog.varsNamed 12)) = true := by kernel_rfl
theorem jf_changeSaved13 : ((Rows.changeSavedRow.maps == (Tryz.f12.params.toList ++ Rows.changeSavedSpec.plain.varTypes Tryz.prog).any (Tryz.prog.mapsRec ·))) = true := by kernel_rfl
theorem jf_changeSaved14 : ((Rows.changeSavedRow.ifaces == (Tryz.f12.params.toList ++ Rows.changeSavedSpec.plain.varTypes Tryz.prog).any (Tryz.prog.ifacesRec ·))) = true := by kernel_rfl
theorem jf_changeSaved15 : ((Rows.changeSavedRow.mapsOut == Tryz.prog.mapsAmong Tryz.f12.resultTypes.toList)) = true := by kernel_rfl
theorem jf_changeSaved16 : ((Rows.changeSavedRow.loops == (Tryz.f12.params.toList ++ Rows.changeSavedSpec.plain.varTypes Tryz.prog).any (Tryz.prog.loopsFrom ·))) = true := by kernel_rfl
theorem jf_changeSaved17 : ((Rows.changeSavedRow.wideKeys == (Tryz.f12.params.toList ++ Rows.changeSavedSpec.plain.varTypes Tryz.prog ++ Tryz.f12.resultTypes.toList).any (Tryz.prog.wideKeysFrom ·))) = true := by kernel_rfl
theorem jf_changeSaved18 : (Rows.changeSavedSpec.vars.all (Tryz.prog.varReadable ·)) = true := by kernel_rfl
theorem jf_changeSaved19 : (Tryz.f12.resultTypes.all (fun t => Tryz.prog.readableRec t && decide (t < Tryz.prog.types.size))) = true := by kernel_rfl
theorem jf_changeSaved20 : ((Rows.changeSavedRow.ifacesOut == Tryz.f12.resultTypes.toList.any (Tryz.prog.ifacesRec ·))) = true := by kernel_rfl
theorem jf_changeSaved21 : ((Rows.changeSavedRow.loopsOut == Tryz.f12.resultTypes.toList.any (Tryz.prog.loopsFrom ·))) = true := by kernel_rfl
theorem jf_changeSaved22 : ((Rows.changeSavedRow.plainKeys == Tryz.prog.plainKeys)) = true := by kernel_rfl
theorem jf_changeSaved23 : (Rows.changeSavedRow.shortTexts.isNone) = true := by kernel_rfl
theorem jf_changeSaved24 : (Tryz.prog.stopsHeard) = true := by kernel_rfl
theorem jf_changeSaved25 : (Tryz.prog.mayEnter) = true := jf_may
theorem jf_changeSaved26 : ((Rows.changeSavedRow.lifted == Tryz.prog.liftsFinal)) = true := by rw [jf_lift]; rfl
theorem jf_changeSaved27 : ((Tryz.prog.make == some Rows.changeSavedRow.make)) = true := by rw [jf_make]; rfl
theorem jf_changeSaved28 : ((Rows.changeSavedRow.kinds == (if Rows.changeSavedRow.domain.isEmpty then [] else Tryz.f12.params.toList.map fun t => match Tryz.prog.underlying t with | some (.int k) => some k | _ => none))) = true := by kernel_rfl
theorem jf_changeSaved29 : ((Rows.changeSavedRow.pinned == Rows.changeSavedRow.pinnedBy)) = true := by kernel_rfl
theorem jf_changeSaved30 : ((Rows.changeSavedRow.veiled == (Tryz.f12.params.toList ++ Rows.changeSavedSpec.plain.varTypes Tryz.prog ++ Tryz.f12.resultTypes.toList).any (Tryz.prog.veiledRec ·))) = true := by kernel_rfl
theorem jf_changeSaved31 : (Rows.changeSavedRow.veiledFits Tryz.prog Tryz.f12.params.toList (Tryz.f12.params.toList ++ Rows.changeSavedSpec.plain.varTypes Tryz.prog ++ Tryz.f12.resultTypes.toList)) = true := by kernel_rfl
theorem jf_changeSaved : joinedFacts Tryz.prog 12 Tryz.f12 Rows.changeSavedSpec Rows.changeSavedRow = true := by
  unfold joinedFacts
  simp only [Bool.and_eq_true]
  exact ⟨⟨⟨⟨⟨⟨⟨⟨⟨⟨⟨⟨⟨⟨⟨⟨⟨⟨⟨⟨⟨⟨⟨⟨⟨⟨⟨⟨⟨⟨⟨jf_changeSaved0, jf_changeSaved1⟩, jf_changeSaved2⟩, jf_changeSaved3⟩, jf_changeSaved4⟩, jf_changeSaved5⟩, jf_changeSaved6⟩, jf_changeSaved7⟩, jf_changeSaved8⟩, jf_changeSaved9⟩, jf_changeSaved10⟩, jf_changeSaved11⟩, jf_changeSaved12⟩, jf_changeSaved13⟩, jf_changeSaved14⟩, jf_changeSaved15⟩, jf_changeSaved16⟩, jf_changeSaved17⟩, jf_changeSaved18⟩, jf_changeSaved19⟩, jf_changeSaved20⟩, jf_changeSaved21⟩, jf_changeSaved22⟩, jf_changeSaved23⟩, jf_changeSaved24⟩, jf_changeSaved25⟩, jf_changeSaved26⟩, jf_changeSaved27⟩, jf_changeSaved28⟩, jf_changeSaved29⟩, jf_changeSaved30⟩, jf_changeSaved31⟩
end Go.Proofs.YtfokljnhllflbaaGreat
namespace Go.Proofs.YtfokljnhllflbaaGreat
open Go Go.Eng Go.ChangeShapes Go.WideShapes Go.ChangeAt Go.RowKit
set_option maxRecDepth 100000 in
theorem changeSaved_lifted (os : Os) (started : os.Started) (H : Type) (enc : TypeId × Value → H) :
    ReturnsInHanded {} Tryz.checked os 12 .any (Rows.changeSavedSpec.pre6 enc Tryz.prog Tryz.f12 Rows.changeSavedRow.domain false) (Rows.changeSavedSpec.post enc Tryz.prog Tryz.f12 false true false false) := by
  refine returnsInHanded_of_change (C := Tryz.checked) Tryz.own started (by kernel_rfl) Tryz.func12
    (ChangeSpec.witness6 (enc := enc) (C := Tryz.checked) false ⟨#[], #[(.agg #[(.int .i64 0), (.int .i64 0), (.int .i64 0), (.string (⟨#[]⟩)), (.slice none 0 0)]), (.int .i64 0), (.int .i64 0), (.int .i64 0), (.slice none 0 0)], []⟩ 8 (by kernel_rfl) (by kernel_rfl) (by kernel_rfl) (by kernel_rfl)) ?_
  intro W base args ds gs before hval0 hW hcnd _
  have hval : ∀ (j : Nat) t v, Tryz.f12.params[j]? = some t → args[j]? = some v → Value.okWide Tryz.prog W .any base t v := hval0
  have hW' := hW
  obtain ⟨p, q, hA0, hV, rfl, hfz, hnd⟩ := hW
  have hA : DataW.TrodAll enc Tryz.prog W 0 (fun _ => true) true Tryz.f12.params.toList args.toList ds p := hA0
  rw [Tryz.params12] at hA hval
  clear hA0 hval0
  obtain ⟨v0, vs0, d0, ds0, p0, q0, ha0, rfl, rfl, h0, hA⟩ := trodAll_cons hA
  obtain ⟨v1, vs1, d1, ds1, p1, q1, ha1, rfl, rfl, h1, hA⟩ := trodAll_cons hA
  obtain ⟨v2, vs2, d2, ds2, p2, q2, ha2, rfl, rfl, h2, hA⟩ := trodAll_cons hA
  obtain ⟨v3, vs3, d3, ds3, p3, q3, ha3, rfl, rfl, h3, hA⟩ := trodAll_cons hA
  obtain ⟨v4, vs4, d4, ds4, p4, q4, ha4, rfl, rfl, h4, hA⟩ := trodAll_cons hA
  obtain ⟨hz1, rfl, rfl⟩ := trodAll_nil hA
  obtain ⟨rfl, rfl⟩ := trodVars_none hV
  have hargs : args = #[v0, v1, v2, v3, v4] := by apply Array.ext'; rw [ha0, ha1, ha2, ha3, ha4, hz1]
  subst hargs
  obtain ⟨l0, e0, c0⟩ := tr_agg Tryz.underlying24 (hval 0 24 v0 rfl rfl)
  obtain ⟨m0, h0⟩ := h0
  rw [c0] at h0
  clear c0
  obtain ⟨k, A, n, c, q0, hr, hn, hc, hk0, hk1, hk2, hke⟩ := op_Kept h0
  subst q0
  subst e0
  obtain ⟨commit, q1, hcr⟩ := tr_pint Tryz.underlying3 (hval 1 3 v1 rfl rfl)
  subst q1
  clear h1
  obtain ⟨view, q2, hvr⟩ := tr_pint Tryz.underlying3 (hval 2 3 v2 rfl rfl)
  subst q2
  clear h2
  obtain ⟨base, q3, hbr⟩ := tr_pint Tryz.underlying3 (hval 3 3 v3 rfl rfl)
  subst q3
  clear h3
  obtain ⟨m4, h4⟩ := h4
  obtain ⟨A2, n2, c2, mm4, xs4, q4, hn2, hc2, hr2, hx4⟩ := tr_psl Tryz.underlying22 co31 (by decide) (hval 4 22 v4 rfl rfl) h4
  subst q4
  clear h4
  obtain ⟨l, q4, hle⟩ := tr_list (f := Entry.cells) (p := Entry.ok) (fun y hy => by obtain ⟨z, hz⟩ := hy; exact op_Entry hz) hx4
  subst q4
  rw [List.length_map] at hn2
  refine Calls.mono (changeSaved_ W W.heap.size k A n c hr (Nat.le_refl _) hn hc commit view base hcr l A2 n2 c2 hr2 hn2 hc2 (fun e he => (hle e he).1)) ?_
  rintro e W' ⟨v, rfl, rfl, g⟩
  exact ⟨_, rfl, law_post (t := 4) Tryz.laidOut (by kernel_rfl) rfl Tryz.underlying4 hW' rfl rfl g⟩
theorem changeSaved_holds : Rows.ChangeSavedSaid :=
  OpenClaim.holds_of_wide 12 Tryz.f12 rfl rfl rfl rfl rfl rfl rfl ⟨rfl, rfl, rfl, rfl, rfl⟩ rfl rfl rfl rfl rfl (by kernel_rfl) Tryz.func12 jf_changeSaved
    (of_decide_eq_true (by kernel_rfl)) (by unfold Func.isWrapper; first | (rw [if_pos (by decide +kernel)]; kernel_rfl) | (rw [if_neg (by decide +kernel)]; exact ⟨rfl, rfl⟩))
    (fun os started H enc _ => changeSaved_lifted os started H enc)
#print axioms changeSaved_holds
end Go.Proofs.YtfokljnhllflbaaGreat
